/- THE LAW GenShows: whatever the arguments, it answers true, and leaves what was there. The package variables that it lists lie as the text of the program lays them. -/
import Derived.Test.YtcecklededfccaaGreatDoorPGenShowsb0
import Derived.Test.YtcecklededfccaaGreatDoorPGenShowsb1
import Derived.Test.YtcecklededfccaaGreatDoorPGenShowsb2
import Derived.Test.YtcecklededfccaaGreatDoorPGenShowsb3
import Derived.Test.YtcecklededfccaaGreatDoorPGenShowsb4
import Derived.Test.YtcecklededfccaaGreatDoorPGenShowsyt
import Derived.Test.YtcecklededfccaaGreatDoorPGenShowsyf
import Derived.Test.YtcecklededfccaaGreatDoorCards
import Derived.Test.YtcecklededfccaaGreatDoorTie
import Derived.LaidMore
import Derived.OpenShut
import Derived.Stop.Joined
import Derived.SevenTiedAt
namespace Go.Proofs.YtcecklededfccaaGreatDoor.genShows
open Go Go.RowKit Ev
set_option maxRecDepth 1000000
open Go.ChangeShapes Go.WideShapes Go.ChangeAt Go.WideMaps Go.WideElems
theorem all (c0 c1 : Nat) (l0 : c0 < 6) (n1 : c0 ≠ 1) (l1 : c1 < 3) : one c0 c1 = true := by
  by_cases g1 : c0 < 1
  · have h := allN_of part0 (c0 - 0) (by omega)
    rw [show Nat.add 0 (c0 - 0) = c0 from by show 0 + (c0 - 0) = c0; omega] at h
    replace h := allN_of h c1 l1
    exact h
  by_cases g3 : c0 < 3
  · have h := allN_of part1 (c0 - 2) (by omega)
    rw [show Nat.add 2 (c0 - 2) = c0 from by show 2 + (c0 - 2) = c0; omega] at h
    replace h := allN_of h c1 l1
    exact h
  by_cases g4 : c0 < 4
  · have h := allN_of part2 (c0 - 3) (by omega)
    rw [show Nat.add 3 (c0 - 3) = c0 from by show 3 + (c0 - 3) = c0; omega] at h
    replace h := allN_of h c1 l1
    exact h
  by_cases g5 : c0 < 5
  · have h := allN_of part3 (c0 - 4) (by omega)
    rw [show Nat.add 4 (c0 - 4) = c0 from by show 4 + (c0 - 4) = c0; omega] at h
    replace h := allN_of h c1 l1
    exact h
  by_cases g6 : c0 < 6
  · have h := allN_of part4 (c0 - 5) (by omega)
    rw [show Nat.add 5 (c0 - 5) = c0 from by show 5 + (c0 - 5) = c0; omega] at h
    replace h := allN_of h c1 l1
    exact h
  omega
theorem answers {W : World} (hL : laidMetH Tryz.prog Rows.genShowsRow.laid W) (hS : W.ShapedOpen Tryz.prog) (a : Int) (b : Int) :
    Calls Tryz.prog 3 #[.int .i64 a, .int .i64 b] W fun e W' => e = .returned (.bool true) ∧ KeptAll W W' := by
  rw [MakeChecks.laidMetH_plain _ _ _ (by kernel_rfl)] at hL
  obtain ⟨ms, hok, hnd⟩ := laid_all (tp := 335) (its := its) hL ⟨arr_fn (t0 := 334) (n := "math/bits.deBruijn32tab") (xs := [0, 1, 28, 2, 29, 14, 24, 3, 30, 22, 20, 15, 25, 17, 4, 8, 31, 27, 13, 23, 21, 19, 16, 7, 26, 12, 18, 6, 11, 5, 10, 9]) (k := .u8) Tryz.underlying334 Tryz.underlying5 (by kernel_rfl) (by kernel_rfl) (by simp) (by kernel_rfl) (by kernel_rfl),
    arr_fn (t0 := 333) (n := "math/bits.deBruijn64tab") (xs := [0, 1, 56, 2, 57, 49, 28, 3, 61, 58, 42, 50, 38, 29, 17, 4, 62, 47, 59, 36, 45, 43, 51, 22, 53, 39, 33, 30, 24, 18, 12, 5, 63, 55, 48, 27, 60, 41, 37, 16, 46, 35, 44, 21, 52, 32, 23, 11, 54, 26, 40, 15, 34, 20, 31, 10, 25, 14, 19, 9, 13, 8, 7, 6]) (k := .u8) Tryz.underlying333 Tryz.underlying5 (by kernel_rfl) (by kernel_rfl) (by simp) (by kernel_rfl) (by kernel_rfl),
    arr_fn (t0 := 318) (n := "internal/strconv.uint64pow10") (xs := [1, 10, 100, 1000, 10000, 100000, 1000000, 10000000, 100000000, 1000000000, 10000000000, 100000000000, 1000000000000, 10000000000000, 100000000000000, 1000000000000000, 10000000000000000, 100000000000000000, 1000000000000000000, 10000000000000000000]) (k := .u64) Tryz.underlying318 Tryz.underlying271 (by kernel_rfl) (by kernel_rfl) (by simp) (by kernel_rfl) (by kernel_rfl),
    sentFn (n := "gristmill/api.ErrShape") (by kernel_rfl) (by kernel_rfl),
    sentFn (n := "gristmill/api.ErrMany") (by kernel_rfl) (by kernel_rfl),
    sentFn (n := "gristmill/api.ErrDeep") (by kernel_rfl) (by kernel_rfl),
    sentFn (n := "gristmill/api.ErrForm") (by kernel_rfl) (by kernel_rfl),
    sentFn (n := "gristmill/api.ErrName") (by kernel_rfl) (by kernel_rfl),
    sentFn (n := "gristmill/api.ErrTwice") (by kernel_rfl) (by kernel_rfl),
    sentFn (n := "gristmill/api.ErrNone") (by kernel_rfl) (by kernel_rfl),
    sentFn (n := "gristmill/api.ErrArity") (by kernel_rfl) (by kernel_rfl),
    sentFn (n := "gristmill/api.ErrMain") (by kernel_rfl) (by kernel_rfl),
    sentFn (n := "gristmill/api.ErrBound") (by kernel_rfl) (by kernel_rfl),
    sentFn (n := "gristmill/api.ErrTag") (by kernel_rfl) (by kernel_rfl), trivial⟩
  have hrel := laid_rel (sy := syOf [a, b] (szAt W)) (n0 := 15) hok hnd (by decide) (by decide) (Nat.le_refl _) (big_heap hS) (fun _ _ => rfl)
  rw [hp_eq] at hrel
  obtain ⟨c0, l0, e0⟩ := rest_of a (6) (by omega)
  by_cases n1 : c0 = 1
  · subst n1
    have g2 : szAt W 13 = 64 := szAt_arr hok 1 rfl
    have g3 : szAt W 11 = 20 := szAt_arr hok 2 rfl
    by_cases hneg : b.tmod 1000 < 0
    · obtain ⟨n, hn, hd⟩ := den_t (av := [a, b]) (gr := szAt W) hneg
      obtain ⟨m, hm⟩ : ∃ m : Nat, n * 1099511627776 = m := ⟨_, rfl⟩
      have hml : m < 4503599627370496 := by omega
      have hk := known hd (show (n : Int) * 1099511627776 = (m : Int) by omega) hml
      have hT : den (syOf [a, b] (szAt W)) tt = (m : Int) := hk.2
      have hq := okt hml hk.1 hk.2 hneg
      have hsz := size_class n hn
      rw [hm] at hsz
      have hv : ∀ φ, VRs (syOf [a, b] (szAt W)) φ [sm 0 6 1, .x (.y (.e 0 (.v 1) qt))] [.int .i64 a, .int .i64 b] := fun _ => .cons _ _ _ _ (sm_vr (by decide) (by omega) a rfl e0) (.cons _ _ _ _ (.x _ _ (.y _ _ (.e 0 (.v 1) qt hq))) .nil)
      rcases hsz with h | h | h | h
      · exact call_true (C := CX tt 3) (av := [a, b]) (gr := szAt W) rfl mixed (fun N0 => ovx g2 g3 hT (by omega) h N0) leaft3 hrel (hv _)
      · exact call_true (C := CX tt 7) (av := [a, b]) (gr := szAt W) rfl mixed (fun N0 => ovx g2 g3 hT (by omega) h N0) leaft7 hrel (hv _)
      · exact call_true (C := CX tt 8) (av := [a, b]) (gr := szAt W) rfl mixed (fun N0 => ovx g2 g3 hT (by omega) h N0) leaft8 hrel (hv _)
      · exact call_true (C := CX tt 9) (av := [a, b]) (gr := szAt W) rfl mixed (fun N0 => ovx g2 g3 hT (by omega) h N0) leaft9 hrel (hv _)
    · obtain ⟨n, hn, hd⟩ := den_f (av := [a, b]) (gr := szAt W) hneg
      obtain ⟨m, hm⟩ : ∃ m : Nat, n * 1099511627776 = m := ⟨_, rfl⟩
      have hml : m < 4503599627370496 := by omega
      have hk := known hd (show (n : Int) * 1099511627776 = (m : Int) by omega) hml
      have hT : den (syOf [a, b] (szAt W)) tf = (m : Int) := hk.2
      have hq := okf hml hk.1 hk.2 hneg
      have hsz := size_class n hn
      rw [hm] at hsz
      have hv : ∀ φ, VRs (syOf [a, b] (szAt W)) φ [sm 0 6 1, .x (.y (.e 0 (.v 1) qf))] [.int .i64 a, .int .i64 b] := fun _ => .cons _ _ _ _ (sm_vr (by decide) (by omega) a rfl e0) (.cons _ _ _ _ (.x _ _ (.y _ _ (.e 0 (.v 1) qf hq))) .nil)
      rcases hsz with h | h | h | h
      · exact call_true (C := CX tf 3) (av := [a, b]) (gr := szAt W) rfl mixed (fun N0 => ovx g2 g3 hT (by omega) h N0) leaff3 hrel (hv _)
      · exact call_true (C := CX tf 7) (av := [a, b]) (gr := szAt W) rfl mixed (fun N0 => ovx g2 g3 hT (by omega) h N0) leaff7 hrel (hv _)
      · exact call_true (C := CX tf 8) (av := [a, b]) (gr := szAt W) rfl mixed (fun N0 => ovx g2 g3 hT (by omega) h N0) leaff8 hrel (hv _)
      · exact call_true (C := CX tf 9) (av := [a, b]) (gr := szAt W) rfl mixed (fun N0 => ovx g2 g3 hT (by omega) h N0) leaff9 hrel (hv _)
  obtain ⟨c1, l1, e1⟩ := digits_of b (1000) 3 (by omega) (by omega) (by decide)
  refine call_true (C := CC) (av := [a, b]) (gr := szAt W) rfl mixed (ov_ok _ _ (szAt_arr hok 2 rfl)) (all c0 c1 l0 n1 l1) hrel ?_
  exact .cons _ _ _ _ (sm_vr (by decide) (by omega) a rfl e0) (.cons _ _ _ _ (sd_vr (by decide) (by omega) b rfl e1) .nil)
theorem door_met (os : Os) (args : Array Value) : laidMetH Tryz.prog Rows.genShowsRow.laid ((World.doorLaid Tryz.prog 1000 os).forCall (fun _ _ => 0) ⟨#[], args, []⟩).memory :=
  laidMetH_of_parts3 (fuel := 8) (laidMet_of_run' 8 (by kernel_rfl) (by kernel_rfl)) (by kernel_rfl) (by kernel_rfl)
theorem lifted (os : Os) (started : os.Started) (H : Type) (enc : TypeId × Value → H) :
    ReturnsInHanded {} Tryz.checked os 3 .any (fun w args => (Rows.genShowsSpec.pre enc Tryz.prog Tryz.f3 [] false w args ∧ laidMetH Tryz.prog Rows.genShowsRow.laid w) ∧ sizedMet enc Tryz.prog Tryz.f3 (OpenSpec.ofChange Rows.genShowsSpec) false w args)
      (Rows.genShowsSpec.post enc Tryz.prog Tryz.f3 false true false false) := by
  refine lift_shaped (C := Tryz.checked) (X := fun w _ => laidMetH Tryz.prog Rows.genShowsRow.laid w) (fun _ _ _ hh h => h.of_heap hh) own started (by kernel_rfl) Tryz.func3
    (ChangeSpec.witness_shaped (enc := enc) (C := Tryz.checked) (os := os) (X := fun w _ => laidMetH Tryz.prog Rows.genShowsRow.laid w) false (World.doorLaid Tryz.prog 1000 os) #[.int .i64 0, .int .i64 0] 8 rfl (World.shaped_of_RefB (by kernel_rfl) (by kernel_rfl)) (by kernel_rfl) (by kernel_rfl) (by kernel_rfl) (door_met os _)) ?_
  intro W base args ds gs before hval0 hW _ _ hL hS
  have hval : ∀ (j : Nat) t v, Tryz.f3.params[j]? = some t → args[j]? = some v → Value.okWide Tryz.prog W .any base t v := hval0
  have hW' := hW
  obtain ⟨p, q, hA0, hV, rfl, hfz, hnd⟩ := hW
  have hA : DataW.TrodAll enc Tryz.prog W 0 (fun _ => true) true Tryz.f3.params.toList args.toList ds p := hA0
  rw [Tryz.params3] at hA hval
  obtain ⟨v0, v1, d0, d1, p0, p1, rfl, rfl, rfl, h0, h1⟩ := trodAll_two hA
  obtain ⟨rfl, rfl⟩ := trodVars_none hV
  obtain ⟨a, rfl, rfl, rfl, w0⟩ := open_int Tryz.underlying3 (hval 0 3 v0 rfl rfl) h0
  obtain ⟨b, rfl, rfl, rfl, w1⟩ := open_int Tryz.underlying3 (hval 1 3 v1 rfl rfl) h1
  clear hA0 hval0
  simp only [List.append_nil] at hW'
  refine (answers hL hS a b).mono fun e W' ⟨he, hk⟩ => ⟨_, he, ?_⟩
  exact post_plain (args := #[.int .i64 a, .int .i64 b]) hW' (fun _ _ _ => trodAll_mk1 (shut_bool Tryz.underlying4 _)) (fun sp => trodAll_mk2 (shut_int Tryz.underlying3 w0) (shut_int Tryz.underlying3 w1)) (fun _ => rfl) hk (ok_one (by kernel_rfl) rfl (okWide_bool_mk Tryz.underlying4 _))
theorem said : Rows.GenShowsSaid :=
  OpenClaim.holds_of_wide 3 Tryz.f3 rfl rfl rfl rfl rfl rfl rfl ⟨rfl, rfl, rfl, rfl, rfl⟩ rfl rfl rfl rfl rfl (by kernel_rfl) Tryz.func3 (by kernel_rfl)
    (of_decide_eq_true (by kernel_rfl)) (by unfold Func.isWrapper; first | (rw [if_pos (by decide +kernel)]; kernel_rfl) | (rw [if_neg (by decide +kernel)]; exact ⟨rfl, rfl⟩))
    (fun os started H enc _ => lifted os started H enc)
theorem card_holds : Rows.GenShowsCardSaid :=
  Claim7.holds_tied_plain_at .later [] Rows.genShowsCard.laidKinds true Rows.genShowsCard.stood.harness false
    said (fun _ h => by cases h) (by kernel_rfl) (fun _ h => by cases h) genShows_row_tie rfl ⟨rfl, rfl⟩ (by kernel_rfl) rfl
    (fun f fn hf hfn => by
      obtain rfl : f = 3 := Option.some.inj ((show Tryz.prog.funcNamed "gristmill/gristmilllaw16.GenShows" = some 3 by kernel_rfl).symm.trans hf) |>.symm
      obtain rfl : fn = Tryz.f3 := (Option.some.inj (Tryz.func3.symm.trans hfn)).symm
      exact ⟨by kernel_rfl, fun j t ht => by
        rw [Tryz.params3] at ht
        have hm : t ∈ [3, 3] := by simpa using Array.mem_of_getElem? ht
        have hall : ([3, 3].all fun u => !Tryz.prog.wantsStandIn u) = true := by kernel_rfl
        exact (show Tryz.prog.wantsStandIn t = false by simpa using List.all_eq_true.1 hall t hm)⟩)
    (by kernel_rfl)
#print axioms card_holds
end Go.Proofs.YtcecklededfccaaGreatDoor.genShows
