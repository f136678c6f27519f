/- What the calls ask of the package variables is so when the law's call begins; the law FloBack, at any arguments. -/
import Derived.Test.YtomjoiaahalahaaDoorTs
import Derived.Test.YtomjoiaahalahaaDoorK
namespace Go.Proofs.YtomjoiaahalahaaDoor
open Go Go.RowKit Go.Sort Go.Lib Ieee Ev.Fl
open Ev (laid_all arr_fn ItemOk)
set_option maxRecDepth 100000

def its : List Ev.Item := [.arr 7 .u8 [0, 1, 28, 2, 29, 14, 24, 3, 30, 22, 20, 15, 25, 17, 4, 8, 31, 27, 13, 23, 21, 19, 16, 7, 26, 12, 18, 6, 11, 5, 10, 9], .arr 2 .u8 [0, 1, 56, 2, 57, 49, 28, 3, 61, 58, 42, 50, 38, 29, 17, 4, 62, 47, 59, 36, 45, 43, 51, 22, 53, 39, 33, 30, 24, 18, 12, 5, 63, 55, 48, 27, 60, 41, 37, 16, 46, 35, 44, 21, 52, 32, 23, 11, 54, 26, 40, 15, 34, 20, 31, 10, 25, 14, 19, 9, 13, 8, 7, 6], .arr 3 .u64 [1, 10, 100, 1000, 10000, 100000, 1000000, 10000000, 100000000, 1000000000, 10000000000, 100000000000, 1000000000000, 10000000000000, 100000000000000, 1000000000000000, 10000000000000000, 100000000000000000, 1000000000000000000, 10000000000000000000], .sent 6 [118, 97, 108, 117, 101, 32, 111, 117, 116, 32, 111, 102, 32, 114, 97, 110, 103, 101], .sent 5 [105, 110, 118, 97, 108, 105, 100, 32, 115, 121, 110, 116, 97, 120], .sent 1 [110, 111, 116, 32, 97, 32, 110, 117, 109, 98, 101, 114]]

theorem sent_cell {W : World} {g : Nat} {text : List UInt8} {m : List (Nat × Nat)} (h : ItemOk W 103 (.sent g text) m) : ∃ te pe, W.cell? ⟨g, 0, none⟩ = some (.iface te pe) := by
  obtain ⟨b, off, s, C, C2, et, et2, h1, h2, _⟩ := h
  subst h2
  exact ⟨103, .pointer (some ⟨b, off, none⟩), by unfold World.cell?; simp [h1]⟩

theorem env_of {W : World} (hL : laidMet Tryd.prog Rows.floBackRow.laid W) (hS : W.ShapedOpen Tryd.prog) : Env W := by
  obtain ⟨ms, hok, _⟩ := laid_all (tp := 103) (its := its) hL ⟨arr_fn (t0 := 99) (n := "math/bits.deBruijn32tab") (xs := [0, 1, 28, 2, 29, 14, 24, 3, 30, 22, 20, 15, 25, 17, 4, 8, 31, 27, 13, 23, 21, 19, 16, 7, 26, 12, 18, 6, 11, 5, 10, 9]) (k := .u8) Tryd.underlying99 Tryd.underlying5 (by kernel_rfl) (by kernel_rfl) (by simp) (by kernel_rfl) (by kernel_rfl),
    arr_fn (t0 := 67) (n := "math/bits.deBruijn64tab") (xs := [0, 1, 56, 2, 57, 49, 28, 3, 61, 58, 42, 50, 38, 29, 17, 4, 62, 47, 59, 36, 45, 43, 51, 22, 53, 39, 33, 30, 24, 18, 12, 5, 63, 55, 48, 27, 60, 41, 37, 16, 46, 35, 44, 21, 52, 32, 23, 11, 54, 26, 40, 15, 34, 20, 31, 10, 25, 14, 19, 9, 13, 8, 7, 6]) (k := .u8) Tryd.underlying67 Tryd.underlying5 (by kernel_rfl) (by kernel_rfl) (by simp) (by kernel_rfl) (by kernel_rfl),
    arr_fn (t0 := 76) (n := "internal/strconv.uint64pow10") (xs := [1, 10, 100, 1000, 10000, 100000, 1000000, 10000000, 100000000, 1000000000, 10000000000, 100000000000, 1000000000000, 10000000000000, 100000000000000, 1000000000000000, 10000000000000000, 100000000000000000, 1000000000000000000, 10000000000000000000]) (k := .u64) Tryd.underlying76 Tryd.underlying22 (by kernel_rfl) (by kernel_rfl) (by simp) (by kernel_rfl) (by kernel_rfl),
    sentFn (n := "strconv.ErrRange") (by kernel_rfl) (by kernel_rfl), sentFn (n := "strconv.ErrSyntax") (by kernel_rfl) (by kernel_rfl), sentFn (n := "gristmill/api.ErrNumber") (by kernel_rfl) (by kernel_rfl), trivial⟩
  obtain _ | ⟨m0, _ | ⟨m1, _ | ⟨m2, _ | ⟨m3, _ | ⟨m4, _ | ⟨m5, ms⟩⟩⟩⟩⟩⟩ := ms
  all_goals first | exact hok.elim | skip
  all_goals try exact hok.2.elim
  all_goals try exact hok.2.2.elim
  all_goals try exact hok.2.2.2.elim
  all_goals try exact hok.2.2.2.2.elim
  all_goals try exact hok.2.2.2.2.2.elim
  obtain ⟨_, ⟨C2, e2, b2, l2, _⟩, ⟨C3, e3, b3, l3, _⟩, h6, h5, h1, _⟩ := hok
  refine ⟨sent_cell h1, Tryd.laysM145.s1_3 W hS, sent_cell h5, sent_cell h6, fun j hj => ?_, ?_, Nat.le_trans (by decide) (big_heap hS)⟩
  · have hc : C2[j]? = (C2.toList)[j]? := by simp
    have e : W.cell? ⟨2, j, none⟩ = C2[j]? := by unfold World.cell?; simp [b2]
    rw [e, hc, l2]
    have hl : ([0, 1, 56, 2, 57, 49, 28, 3, 61, 58, 42, 50, 38, 29, 17, 4, 62, 47, 59, 36, 45, 43, 51, 22, 53, 39, 33, 30, 24, 18, 12, 5, 63, 55, 48, 27, 60, 41, 37, 16, 46, 35, 44, 21, 52, 32, 23, 11, 54, 26, 40, 15, 34, 20, 31, 10, 25, 14, 19, 9, 13, 8, 7, 6] : List Int) = Lib.deBruijn64tab.map Int.ofNat := by decide
    rw [hl]
    rw [List.map_map, List.getElem?_map, List.getElem?_eq_getElem hj, List.getD_eq_getElem?_getD, List.getElem?_eq_getElem hj]
    rfl
  · unfold Lib.TabIs World.var?
    have hg : Tryd.prog.globalNamed "internal/strconv.uint64pow10" = some 3 := by kernel_rfl
    rw [hg]
    simp only [Option.bind_some, b3]
    congr 1
    apply Array.toList_inj.1
    rw [l3]
    rfl

theorem one_half : textOf 4609434218613702656 = ⟨#[51, 112, 45, 49]⟩ := by
  have hn : isn 4609434218613702656 = false := by rw [isn_eq]; decide
  have hm : mant 4609434218613702656 = 6755399441055744 := by decide
  have hc : ctz 64 6755399441055744 = 51 := by decide
  have he : expo 4609434218613702656 = -52 := by decide
  unfold textOf
  rw [isn_text, hn, infs_pos _ hn, infs_neg _ (by decide) hn, hm, hc, he]
  rw [if_neg (by decide), if_neg (by decide), if_neg (by decide), if_neg (by decide)]
  rw [show 6755399441055744 / 2 ^ 51 = 3 by decide, decDigits_one (by decide), show (-52 : Int) + ((51 : Nat) : Int) = -((1 : Nat) : Int) by decide, itoa_neg 1 (by decide), decDigits_one (by decide)]
  rfl

theorem text_size (a : Nat) (ha : a < 18446744073709551616) : (textOf a).size ≤ 1000 := by
  rw [Lib.size_eq]
  rcases text_form a ha with ⟨_, h⟩ | ⟨_, _, _, h⟩ | ⟨_, _, _, h⟩ | ⟨_, _, u, x, h, hx⟩
  · rw [h]; decide
  · rw [h]; decide
  · rw [h]; decide
  · rw [h]
    have hu : u < 18446744073709551616 ∧ -9223372036854775808 ≤ x ∧ x ≤ 9223372036854775807 := by
      rcases hx with ⟨e1, e2, _⟩ | ⟨_, e2, e3, _⟩
      · omega
      · clear h; omega
    have h1 : (decDigits u).length ≤ 20 := by rw [decDigits_length]; exact nDigits_le20 _ hu.1
    have h2 := itoa_length_le x hu.2.1 hu.2.2
    have h3 : (sgL (sgn a)).length ≤ 1 := by unfold sgL; split <;> decide
    clear hx
    simp only [numL, List.length_append, List.length_cons]
    omega

theorem first_gives : Gives 9 #[] (.bool true) := first_walk one_half

/-- A text that is its float's is read. -/
theorem parse_is {s : ByteArray} {n : Nat} (hn : n < 18446744073709551616) (hv : Gives 27 #[.string s] (.int .u64 (n : Int))) (h : textOf n = s) : Gives 20 #[.string s] (.tuple #[.int .u64 (n : Int), .nilIface]) :=
  fun w hE => parse_good_walk s (textOf n) n hv (text_call n hn) (by rw [h]; exact beq_self_eq_true _) w hE
theorem parse_not {s : ByteArray} {n : Nat} (hn : n < 18446744073709551616) (hv : Gives 27 #[.string s] (.int .u64 (n : Int))) (h : textOf n ≠ s) : Fails s :=
  fun w hE => parse_bad_walk s (textOf n) n hv (text_call n hn) (by
    rw [beq_eq_false_iff_ne, ByteArray.toList_eq, ByteArray.toList_eq]
    exact fun e => h (by rw [← bs_list (textOf n), e, bs_list])) w hE

theorem parse_text (a : Nat) (ha : a < 18446744073709551616) : Gives 20 #[.string (textOf a)] (.tuple #[.int .u64 (canon a : Int), .nilIface]) := by
  obtain ⟨n, hn, hR, hv⟩ := value_all (textOf a) (text_size a ha)
  have e := hR _ (R_text a ha)
  subst e
  exact parse_is hn hv (text_eq _ _ (canon_canon a))

theorem back (a b : Nat) (s : ByteArray) (ha : a < 18446744073709551616) (hb : b < 18446744073709551616) (w : World) (hE : Env w) :
    Calls Tryd.prog 8 #[.int .u64 (a : Int), .int .u64 (b : Int), .string s] w fun e w' => e = .returned (.bool true) ∧ Below w.heap.size w w' := by
  by_cases hs : s.size ≤ 60
  · have hS : ((canon a : Int) == (canon b : Int)) = ((textOf a).toList == (textOf b).toList) := by
      rw [ByteArray.toList_eq, ByteArray.toList_eq, Bool.eq_iff_iff, beq_iff_eq, beq_iff_eq]
      constructor
      · intro h
        rw [text_eq a b (by omega)]
      · intro h
        have : textOf a = textOf b := by rw [← bs_list (textOf a), h, bs_list]
        rw [text_inj a b ha hb this]
    obtain ⟨n, hn, hR, hv⟩ := value_all s (by omega)
    by_cases h : textOf n = s
    · have e : n = canon n := hR _ (by rw [← h]; exact R_text n hn)
      have hcn := canon_call n
      rw [← e] at hcn
      have htn := text_call n hn
      rw [h] at htn
      exact back_good a b (canon a) (canon b) n (textOf a) (textOf b) s _ first_gives hs (text_call a ha) (text_call b hb) (parse_text a ha) (canon_call a) (canon_call b) hS rfl (parse_is hn hv h) htn hcn w hE
    · exact back_bad a b (canon a) (canon b) (textOf a) (textOf b) s _ first_gives hs (text_call a ha) (text_call b hb) (parse_text a ha) (canon_call a) (canon_call b) hS rfl (parse_not hn hv h) w hE
  · exact back_long a b s first_gives (by omega) w hE
end Go.Proofs.YtomjoiaahalahaaDoor
