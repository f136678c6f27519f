/- THE LAW ObsFloats: whatever the arguments, it answers true, and leaves what was there. The package variables that it lists lie as the text of the program lays them. -/
import Derived.Test.YtnggflfjmgbncaaDoorTo8
import Derived.Carry
import Derived.Test.YtnggflfjmgbncaaDoorCards
import Derived.Test.YtnggflfjmgbncaaDoorTie
import Derived.LaidMore
import Derived.OpenShut
import Derived.Stop.Joined
import Derived.SevenTiedAt
import Derived.ChangeMaps5
namespace Go.Proofs.YtnggflfjmgbncaaDoor.obsFloats
open Go Go.RowKit Ev
set_option maxRecDepth 1000000
open Go.ChangeShapes Go.WideShapes Go.ChangeAt Go.WideMaps Go.WideElems
section
open Go.Sort Go.Lib Ieee Ev.Fl
def its : List Ev.Item := [.arr 24 .u8 [0, 1, 28, 2, 29, 14, 24, 3, 30, 22, 20, 15, 25, 17, 4, 8, 31, 27, 13, 23, 21, 19, 16, 7, 26, 12, 18, 6, 11, 5, 10, 9], .arr 3 .u8 [0, 1, 56, 2, 57, 49, 28, 3, 61, 58, 42, 50, 38, 29, 17, 4, 62, 47, 59, 36, 45, 43, 51, 22, 53, 39, 33, 30, 24, 18, 12, 5, 63, 55, 48, 27, 60, 41, 37, 16, 46, 35, 44, 21, 52, 32, 23, 11, 54, 26, 40, 15, 34, 20, 31, 10, 25, 14, 19, 9, 13, 8, 7, 6], .arr 4 .u64 [1, 10, 100, 1000, 10000, 100000, 1000000, 10000000, 100000000, 1000000000, 10000000000, 100000000000, 1000000000000, 10000000000000, 100000000000000, 1000000000000000, 10000000000000000, 100000000000000000, 1000000000000000000, 10000000000000000000], .sent 7 [118, 97, 108, 117, 101, 32, 111, 117, 116, 32, 111, 102, 32, 114, 97, 110, 103, 101], .sent 6 [105, 110, 118, 97, 108, 105, 100, 32, 115, 121, 110, 116, 97, 120], .sent 1 [110, 111, 32, 115, 117, 99, 104, 32, 102, 111, 114, 109], .sent 0 [110, 111, 116, 32, 97, 32, 110, 117, 109, 98, 101, 114]]

theorem sent_cell {W : World} {g : Nat} {text : List UInt8} {m : List (Nat × Nat)} (h : ItemOk W 141 (.sent g text) m) : ∃ te pe, W.cell? ⟨g, 0, none⟩ = some (.iface te pe) := by
  obtain ⟨b, off, s, C, C2, et, et2, h1, h2, _⟩ := h
  subst h2
  exact ⟨141, .pointer (some ⟨b, off, none⟩), by unfold World.cell?; simp [h1]⟩

theorem its_ok {W : World} (hL : laidMet Tryd.prog Rows.obsFloatsRow.laid W) : ∃ ms, AllOk W 141 its ms ∧ ms.flatten.Nodup :=
  laid_all (tp := 141) (its := its) hL ⟨arr_fn (t0 := 144) (n := "math/bits.deBruijn32tab") (xs := [0, 1, 28, 2, 29, 14, 24, 3, 30, 22, 20, 15, 25, 17, 4, 8, 31, 27, 13, 23, 21, 19, 16, 7, 26, 12, 18, 6, 11, 5, 10, 9]) (k := .u8) Tryd.underlying144 Tryd.underlying5 (by kernel_rfl) (by kernel_rfl) (by simp) (by kernel_rfl) (by kernel_rfl),
    arr_fn (t0 := 88) (n := "math/bits.deBruijn64tab") (xs := [0, 1, 56, 2, 57, 49, 28, 3, 61, 58, 42, 50, 38, 29, 17, 4, 62, 47, 59, 36, 45, 43, 51, 22, 53, 39, 33, 30, 24, 18, 12, 5, 63, 55, 48, 27, 60, 41, 37, 16, 46, 35, 44, 21, 52, 32, 23, 11, 54, 26, 40, 15, 34, 20, 31, 10, 25, 14, 19, 9, 13, 8, 7, 6]) (k := .u8) Tryd.underlying88 Tryd.underlying5 (by kernel_rfl) (by kernel_rfl) (by simp) (by kernel_rfl) (by kernel_rfl),
    arr_fn (t0 := 126) (n := "internal/strconv.uint64pow10") (xs := [1, 10, 100, 1000, 10000, 100000, 1000000, 10000000, 100000000, 1000000000, 10000000000, 100000000000, 1000000000000, 10000000000000, 100000000000000, 1000000000000000, 10000000000000000, 100000000000000000, 1000000000000000000, 10000000000000000000]) (k := .u64) Tryd.underlying126 Tryd.underlying22 (by kernel_rfl) (by kernel_rfl) (by simp) (by kernel_rfl) (by kernel_rfl),
    sentFn (n := "strconv.ErrRange") (by kernel_rfl) (by kernel_rfl),
    sentFn (n := "strconv.ErrSyntax") (by kernel_rfl) (by kernel_rfl),
    sentFn (n := "gristmill/api.ErrForm") (by kernel_rfl) (by kernel_rfl),
    sentFn (n := "gristmill/api.ErrNumber") (by kernel_rfl) (by kernel_rfl), trivial⟩

theorem env_of {W : World} (hL : laidMet Tryd.prog Rows.obsFloatsRow.laid W) (hS : W.ShapedOpen Tryd.prog) : Env W := by
  obtain ⟨ms, hok, _⟩ := its_ok hL
  obtain ⟨_, _, h1⟩ := allOk_get hok 6 _ rfl
  obtain ⟨_, _, h5⟩ := allOk_get hok 4 _ rfl
  obtain ⟨_, _, h6⟩ := allOk_get hok 3 _ rfl
  obtain ⟨_, _, C2, e2, b2, l2, _⟩ := allOk_get hok 1 _ rfl
  obtain ⟨_, _, C3, e3, b3, l3, _⟩ := allOk_get hok 2 _ rfl
  refine ⟨sent_cell h1, Tryd.laysM145.s1_3 W hS, sent_cell h5, sent_cell h6, fun j hj => ?_, ?_, Nat.le_trans (by decide) (big_heap hS)⟩
  · have hc : C2[j]? = (C2.toList)[j]? := by simp
    have e : W.cell? ⟨3, j, none⟩ = C2[j]? := by unfold World.cell?; simp [b2]
    rw [e, hc, l2]
    have hl : ([0, 1, 56, 2, 57, 49, 28, 3, 61, 58, 42, 50, 38, 29, 17, 4, 62, 47, 59, 36, 45, 43, 51, 22, 53, 39, 33, 30, 24, 18, 12, 5, 63, 55, 48, 27, 60, 41, 37, 16, 46, 35, 44, 21, 52, 32, 23, 11, 54, 26, 40, 15, 34, 20, 31, 10, 25, 14, 19, 9, 13, 8, 7, 6] : List Int) = Lib.deBruijn64tab.map Int.ofNat := by decide
    rw [hl]
    rw [List.map_map, List.getElem?_map, List.getElem?_eq_getElem hj, List.getD_eq_getElem?_getD, List.getElem?_eq_getElem hj]
    rfl
  · unfold Lib.TabIs World.var?
    have hg : Tryd.prog.globalNamed "internal/strconv.uint64pow10" = some 4 := by kernel_rfl
    rw [hg]
    simp only [Option.bind_some, b3]
    congr 1
    apply Array.toList_inj.1
    rw [l3]
    rfl
end
theorem answers {W : World} (hL : laidMetH Tryd.prog Rows.obsFloatsRow.laid W) (hS : W.ShapedOpen Tryd.prog) (a b : Int) (w0 : (Lit.int .u64 a).wf = true) (w1 : (Lit.int .u64 b).wf = true) :
    Calls Tryd.prog 4 #[.int .u64 a, .int .u64 b] W fun e W' => e = .returned (.bool true) ∧ KeptAll W W' := by
  rw [MakeChecks.laidMetH_plain _ _ _ (by kernel_rfl)] at hL
  obtain ⟨a, rfl, ha⟩ := Ev.Fl.u64_nat w0
  obtain ⟨b, rfl, hb⟩ := Ev.Fl.u64_nat w1
  exact (floats a b ha hb W (env_of hL hS) (big_heap hS)).mono fun e W' ⟨he, hk⟩ => ⟨he, hk.frame _⟩
theorem door_met (os : Os) (args : Array Value) : laidMetH Tryd.prog Rows.obsFloatsRow.laid ((World.doorLaid Tryd.prog 1000 os).forCall (fun _ _ => 0) ⟨#[], args, []⟩).memory :=
  laidMetH_of_parts3 (fuel := 8) (laidMet_of_run' 8 (by kernel_rfl) (by kernel_rfl)) (by kernel_rfl) (by kernel_rfl)
theorem lifted (os : Os) (started : os.Started) (H : Type) (enc : TypeId × Value → H) :
    ReturnsInHanded {} Tryd.checked os 4 .any (fun w args => (Rows.obsFloatsSpec.pre enc Tryd.prog Tryd.f4 [] false w args ∧ laidMetH Tryd.prog Rows.obsFloatsRow.laid w) ∧ sizedMet enc Tryd.prog Tryd.f4 (OpenSpec.ofChange Rows.obsFloatsSpec) false w args)
      (Rows.obsFloatsSpec.post enc Tryd.prog Tryd.f4 false true false false) := by
  refine lift_shaped (C := Tryd.checked) (X := fun w _ => laidMetH Tryd.prog Rows.obsFloatsRow.laid w) (fun _ _ _ hh h => h.of_heap hh) own started (by kernel_rfl) Tryd.func4
    (ChangeSpec.witness_shaped (enc := enc) (C := Tryd.checked) (os := os) (X := fun w _ => laidMetH Tryd.prog Rows.obsFloatsRow.laid w) false (World.doorLaid Tryd.prog 1000 os) #[.int .u64 0, .int .u64 0] 8 rfl (World.shaped_of_RefB (by kernel_rfl) (by kernel_rfl)) (by kernel_rfl) (by kernel_rfl) (by kernel_rfl) (door_met os _)) ?_
  intro W base args ds gs before hval0 hW _ _ hL hS
  have hval : ∀ (j : Nat) t v, Tryd.f4.params[j]? = some t → args[j]? = some v → Value.okWide Tryd.prog W .any base t v := hval0
  have hW' := hW
  obtain ⟨p, q, hA0, hV, rfl, hfz, hnd⟩ := hW
  have hA : DataW.TrodAll enc Tryd.prog W 0 (fun _ => true) true Tryd.f4.params.toList args.toList ds p := hA0
  rw [Tryd.params4] at hA hval
  obtain ⟨v0, v1, d0, d1, p0, p1, rfl, rfl, rfl, h0, h1⟩ := trodAll_two hA
  obtain ⟨rfl, rfl⟩ := trodVars_none hV
  obtain ⟨a, rfl, rfl, rfl, w0⟩ := open_int Tryd.underlying22 (hval 0 22 v0 rfl rfl) h0
  obtain ⟨b, rfl, rfl, rfl, w1⟩ := open_int Tryd.underlying22 (hval 1 22 v1 rfl rfl) h1
  clear hA0 hval0
  simp only [List.append_nil] at hW'
  refine (answers hL hS a b w0 w1).mono fun e W' ⟨he, hk⟩ => ⟨_, he, ?_⟩
  exact post_plain (args := #[.int .u64 a, .int .u64 b]) hW' (fun _ _ _ => trodAll_mk1 (shut_bool Tryd.underlying4 _)) (fun sp => trodAll_mk2 (shut_int Tryd.underlying22 w0) (shut_int Tryd.underlying22 w1)) (fun _ => rfl) hk (ok_one (by kernel_rfl) rfl (okWide_bool_mk Tryd.underlying4 _))
theorem said : Rows.ObsFloatsSaid :=
  OpenClaim.holds_of_wide 4 Tryd.f4 rfl rfl rfl rfl rfl rfl rfl ⟨rfl, rfl, rfl, rfl, rfl⟩ rfl rfl rfl rfl rfl (by kernel_rfl) Tryd.func4 (by kernel_rfl)
    (of_decide_eq_true (by kernel_rfl)) (by unfold Func.isWrapper; first | (rw [if_pos (by decide +kernel)]; kernel_rfl) | (rw [if_neg (by decide +kernel)]; exact ⟨rfl, rfl⟩))
    (fun os started H enc _ => lifted os started H enc)
theorem card_holds : Rows.ObsFloatsCardSaid :=
  Claim7.holds_tied_plain_at .later [] Rows.obsFloatsCard.laidKinds true Rows.obsFloatsCard.stood.harness true
    said (fun _ h => by cases h) (by kernel_rfl) (fun _ h => by cases h) obsFloats_row_tie rfl ⟨rfl, rfl⟩ (by kernel_rfl) rfl
    (fun f fn hf hfn => by
      obtain rfl : f = 4 := Option.some.inj ((show Tryd.prog.funcNamed "gristmill/gristmilllaw11.ObsFloats" = some 4 by kernel_rfl).symm.trans hf) |>.symm
      obtain rfl : fn = Tryd.f4 := (Option.some.inj (Tryd.func4.symm.trans hfn)).symm
      exact ⟨by kernel_rfl, fun j t ht => by
        rw [Tryd.params4] at ht
        have hm : t ∈ [22, 22] := by simpa using Array.mem_of_getElem? ht
        have hall : ([22, 22].all fun u => !Tryd.prog.wantsStandIn u) = true := by kernel_rfl
        exact (show Tryd.prog.wantsStandIn t = false by simpa using List.all_eq_true.1 hall t hm)⟩)
    (by kernel_rfl)
#print axioms card_holds
end Go.Proofs.YtnggflfjmgbncaaDoor.obsFloats
