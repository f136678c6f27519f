/- What the calls ask of the package variables is so when the law's call begins. -/
import Derived.Test.YtnggflfjmgbncaaDoorTs
import Derived.Test.YtnggflfjmgbncaaDoorK
namespace Go.Proofs.YtnggflfjmgbncaaDoor
open Go Go.RowKit Go.Sort Go.Lib Ieee Ev.Fl
open Ev (laid_all arr_fn ItemOk allOk_get AllOk)
set_option maxRecDepth 100000

def its : List Ev.Item := [.arr 24 .u8 [0, 1, 28, 2, 29, 14, 24, 3, 30, 22, 20, 15, 25, 17, 4, 8, 31, 27, 13, 23, 21, 19, 16, 7, 26, 12, 18, 6, 11, 5, 10, 9], .arr 3 .u8 [0, 1, 56, 2, 57, 49, 28, 3, 61, 58, 42, 50, 38, 29, 17, 4, 62, 47, 59, 36, 45, 43, 51, 22, 53, 39, 33, 30, 24, 18, 12, 5, 63, 55, 48, 27, 60, 41, 37, 16, 46, 35, 44, 21, 52, 32, 23, 11, 54, 26, 40, 15, 34, 20, 31, 10, 25, 14, 19, 9, 13, 8, 7, 6], .arr 4 .u64 [1, 10, 100, 1000, 10000, 100000, 1000000, 10000000, 100000000, 1000000000, 10000000000, 100000000000, 1000000000000, 10000000000000, 100000000000000, 1000000000000000, 10000000000000000, 100000000000000000, 1000000000000000000, 10000000000000000000], .sent 7 [118, 97, 108, 117, 101, 32, 111, 117, 116, 32, 111, 102, 32, 114, 97, 110, 103, 101], .sent 6 [105, 110, 118, 97, 108, 105, 100, 32, 115, 121, 110, 116, 97, 120], .sent 8 [105, 116, 32, 101, 110, 100, 115, 32, 116, 111, 111, 32, 101, 97, 114, 108, 121], .sent 9 [110, 111, 116, 32, 97, 115, 32, 105, 116, 32, 104, 97, 115, 32, 116, 111, 32, 98, 101], .sent 10 [97, 32, 110, 117, 109, 98, 101, 114, 32, 111, 117, 116, 32, 111, 102, 32, 105, 116, 115, 32, 114, 97, 110, 103, 101], .sent 11 [116, 111, 111, 32, 109, 97, 110, 121], .sent 12 [116, 111, 111, 32, 100, 101, 101, 112], .sent 13 [97, 32, 98, 114, 97, 99, 107, 101, 116, 32, 116, 104, 97, 116, 32, 105, 115, 32, 110, 111, 116, 32, 99, 108, 111, 115, 101, 100], .sent 14 [97, 32, 98, 114, 97, 99, 107, 101, 116, 32, 116, 104, 97, 116, 32, 119, 97, 115, 32, 110, 111, 116, 32, 111, 112, 101, 110, 101, 100], .sent 1 [110, 111, 32, 115, 117, 99, 104, 32, 102, 111, 114, 109], .sent 15 [110, 111, 116, 32, 97, 32, 110, 97, 109, 101], .sent 16 [116, 104, 101, 114, 101, 32, 105, 115, 32, 111, 110, 101], .sent 17 [116, 104, 101, 114, 101, 32, 105, 115, 32, 110, 111, 110, 101], .sent 18 [110, 111, 116, 32, 97, 115, 32, 109, 97, 110, 121, 32, 97, 115, 32, 105, 116, 32, 116, 97, 107, 101, 115], .sent 19 [110, 111, 32, 109, 97, 105, 110, 32, 119, 105, 116, 104, 111, 117, 116, 32, 112, 97, 114, 97, 109, 101, 116, 101, 114, 115], .sent 20 [105, 116, 32, 104, 97, 115, 32, 110, 111, 32, 116, 121, 112, 101], .sent 21 [110, 111, 116, 32, 98, 111, 117, 110, 100, 44, 32, 111, 114, 32, 98, 111, 117, 110, 100, 32, 116, 119, 105, 99, 101], .sent 22 [110, 111, 116, 32, 111, 102, 32, 116, 104, 97, 116, 32, 116, 97, 103], .sent 23 [110, 111, 32, 115, 117, 99, 104, 32, 119, 111, 114, 100], .sent 0 [110, 111, 116, 32, 97, 32, 110, 117, 109, 98, 101, 114]]

theorem sent_cell {W : World} {g : Nat} {text : List UInt8} {m : List (Nat × Nat)} (h : ItemOk W 141 (.sent g text) m) : ∃ te pe, W.cell? ⟨g, 0, none⟩ = some (.iface te pe) := by
  obtain ⟨b, off, s, C, C2, et, et2, h1, h2, _⟩ := h
  subst h2
  exact ⟨141, .pointer (some ⟨b, off, none⟩), by unfold World.cell?; simp [h1]⟩

theorem its_ok {W : World} (hL : laidMet Tryd.prog Rows.floSaysRow.laid W) : ∃ ms, AllOk W 141 its ms ∧ ms.flatten.Nodup :=
  laid_all (tp := 141) (its := its) hL ⟨arr_fn (t0 := 144) (n := "math/bits.deBruijn32tab") (xs := [0, 1, 28, 2, 29, 14, 24, 3, 30, 22, 20, 15, 25, 17, 4, 8, 31, 27, 13, 23, 21, 19, 16, 7, 26, 12, 18, 6, 11, 5, 10, 9]) (k := .u8) Tryd.underlying144 Tryd.underlying5 (by kernel_rfl) (by kernel_rfl) (by simp) (by kernel_rfl) (by kernel_rfl),
    arr_fn (t0 := 88) (n := "math/bits.deBruijn64tab") (xs := [0, 1, 56, 2, 57, 49, 28, 3, 61, 58, 42, 50, 38, 29, 17, 4, 62, 47, 59, 36, 45, 43, 51, 22, 53, 39, 33, 30, 24, 18, 12, 5, 63, 55, 48, 27, 60, 41, 37, 16, 46, 35, 44, 21, 52, 32, 23, 11, 54, 26, 40, 15, 34, 20, 31, 10, 25, 14, 19, 9, 13, 8, 7, 6]) (k := .u8) Tryd.underlying88 Tryd.underlying5 (by kernel_rfl) (by kernel_rfl) (by simp) (by kernel_rfl) (by kernel_rfl),
    arr_fn (t0 := 126) (n := "internal/strconv.uint64pow10") (xs := [1, 10, 100, 1000, 10000, 100000, 1000000, 10000000, 100000000, 1000000000, 10000000000, 100000000000, 1000000000000, 10000000000000, 100000000000000, 1000000000000000, 10000000000000000, 100000000000000000, 1000000000000000000, 10000000000000000000]) (k := .u64) Tryd.underlying126 Tryd.underlying22 (by kernel_rfl) (by kernel_rfl) (by simp) (by kernel_rfl) (by kernel_rfl),
    sentFn (n := "strconv.ErrRange") (by kernel_rfl) (by kernel_rfl),
    sentFn (n := "strconv.ErrSyntax") (by kernel_rfl) (by kernel_rfl),
    sentFn (n := "gristmill/api.ErrEnd") (by kernel_rfl) (by kernel_rfl),
    sentFn (n := "gristmill/api.ErrShape") (by kernel_rfl) (by kernel_rfl),
    sentFn (n := "gristmill/api.ErrRange") (by kernel_rfl) (by kernel_rfl),
    sentFn (n := "gristmill/api.ErrMany") (by kernel_rfl) (by kernel_rfl),
    sentFn (n := "gristmill/api.ErrDeep") (by kernel_rfl) (by kernel_rfl),
    sentFn (n := "gristmill/api.ErrOpen") (by kernel_rfl) (by kernel_rfl),
    sentFn (n := "gristmill/api.ErrClose") (by kernel_rfl) (by kernel_rfl),
    sentFn (n := "gristmill/api.ErrForm") (by kernel_rfl) (by kernel_rfl),
    sentFn (n := "gristmill/api.ErrName") (by kernel_rfl) (by kernel_rfl),
    sentFn (n := "gristmill/api.ErrTwice") (by kernel_rfl) (by kernel_rfl),
    sentFn (n := "gristmill/api.ErrNone") (by kernel_rfl) (by kernel_rfl),
    sentFn (n := "gristmill/api.ErrArity") (by kernel_rfl) (by kernel_rfl),
    sentFn (n := "gristmill/api.ErrMain") (by kernel_rfl) (by kernel_rfl),
    sentFn (n := "gristmill/api.ErrType") (by kernel_rfl) (by kernel_rfl),
    sentFn (n := "gristmill/api.ErrBound") (by kernel_rfl) (by kernel_rfl),
    sentFn (n := "gristmill/api.ErrTag") (by kernel_rfl) (by kernel_rfl),
    sentFn (n := "gristmill/api.ErrWord") (by kernel_rfl) (by kernel_rfl),
    sentFn (n := "gristmill/api.ErrNumber") (by kernel_rfl) (by kernel_rfl), trivial⟩

theorem env_of {W : World} (hL : laidMet Tryd.prog Rows.floSaysRow.laid W) (hS : W.ShapedOpen Tryd.prog) : Env W := by
  obtain ⟨ms, hok, _⟩ := its_ok hL
  obtain ⟨_, _, h1⟩ := allOk_get hok 22 _ rfl
  obtain ⟨_, _, h5⟩ := allOk_get hok 4 _ rfl
  obtain ⟨_, _, h6⟩ := allOk_get hok 3 _ rfl
  obtain ⟨_, _, C2, e2, b2, l2, _⟩ := allOk_get hok 1 _ rfl
  obtain ⟨_, _, C3, e3, b3, l3, _⟩ := allOk_get hok 2 _ rfl
  refine ⟨sent_cell h1, Tryd.laysM145.s1_3 W hS, sent_cell h5, sent_cell h6, fun j hj => ?_, ?_, Nat.le_trans (by decide) (big_heap hS)⟩
  · have hc : C2[j]? = (C2.toList)[j]? := by simp
    have e : W.cell? ⟨3, j, none⟩ = C2[j]? := by unfold World.cell?; simp [b2]
    rw [e, hc, l2]
    have hl : ([0, 1, 56, 2, 57, 49, 28, 3, 61, 58, 42, 50, 38, 29, 17, 4, 62, 47, 59, 36, 45, 43, 51, 22, 53, 39, 33, 30, 24, 18, 12, 5, 63, 55, 48, 27, 60, 41, 37, 16, 46, 35, 44, 21, 52, 32, 23, 11, 54, 26, 40, 15, 34, 20, 31, 10, 25, 14, 19, 9, 13, 8, 7, 6] : List Int) = Lib.deBruijn64tab.map Int.ofNat := by decide
    rw [hl]
    rw [List.map_map, List.getElem?_map, List.getElem?_eq_getElem hj, List.getD_eq_getElem?_getD, List.getElem?_eq_getElem hj]
    rfl
  · unfold Lib.TabIs World.var?
    have hg : Tryd.prog.globalNamed "internal/strconv.uint64pow10" = some 4 := by kernel_rfl
    rw [hg]
    simp only [Option.bind_some, b3]
    congr 1
    apply Array.toList_inj.1
    rw [l3]
    rfl
end Go.Proofs.YtnggflfjmgbncaaDoor
