/- THE LAW FoldChains: whatever the arguments, it answers true, and leaves what was there. The package variables that it lists lie as the text of the program lays them. -/
import Derived.Test.YtokiabfhdicfoaaGreatDoorPFoldChainsb0
import Derived.Test.YtokiabfhdicfoaaGreatDoorPFoldChainsb4
import Derived.Test.YtokiabfhdicfoaaGreatDoorPFoldChainsb8
import Derived.Test.YtokiabfhdicfoaaGreatDoorPFoldChainsb12
import Derived.Test.YtokiabfhdicfoaaGreatDoorPFoldChainsb16
import Derived.Test.YtokiabfhdicfoaaGreatDoorPFoldChainsb20
import Derived.Test.YtokiabfhdicfoaaGreatDoorPFoldChainsb24
import Derived.Test.YtokiabfhdicfoaaGreatDoorPFoldChainsb28
import Derived.Test.YtokiabfhdicfoaaGreatDoorCards
import Derived.Test.YtokiabfhdicfoaaGreatDoorTie
import Derived.LaidMore
import Derived.OpenShut
import Derived.Stop.Joined
import Derived.SevenTiedAt
namespace Go.Proofs.YtokiabfhdicfoaaGreatDoor.foldChains
open Go Go.RowKit Ev
set_option maxRecDepth 1000000
open Go.ChangeShapes Go.WideShapes Go.ChangeAt Go.WideMaps Go.WideElems
theorem all (c0 c2 : Nat) (l0 : c0 < 20) (l2 : c2 < 2) : one c0 c2 = true := by
  by_cases g1 : c0 < 1
  · have h := allN_of part0 (c0 - 0) (by omega)
    rw [show Nat.add 0 (c0 - 0) = c0 from by show 0 + (c0 - 0) = c0; omega] at h
    replace h := allN_of h c2 l2
    exact h
  by_cases g2 : c0 < 2
  · have h := allN_of part1 (c0 - 1) (by omega)
    rw [show Nat.add 1 (c0 - 1) = c0 from by show 1 + (c0 - 1) = c0; omega] at h
    replace h := allN_of h c2 l2
    exact h
  by_cases g3 : c0 < 3
  · have h := allN_of part2 (c0 - 2) (by omega)
    rw [show Nat.add 2 (c0 - 2) = c0 from by show 2 + (c0 - 2) = c0; omega] at h
    replace h := allN_of h c2 l2
    exact h
  by_cases g4 : c0 < 4
  · have h := allN_of part3 (c0 - 3) (by omega)
    rw [show Nat.add 3 (c0 - 3) = c0 from by show 3 + (c0 - 3) = c0; omega] at h
    replace h := allN_of h c2 l2
    exact h
  by_cases g5 : c0 < 5
  · have h := allN_of part4 (c0 - 4) (by omega)
    rw [show Nat.add 4 (c0 - 4) = c0 from by show 4 + (c0 - 4) = c0; omega] at h
    replace h := allN_of h c2 l2
    exact h
  by_cases g6 : c0 < 6
  · have h := allN_of part5 (c0 - 5) (by omega)
    rw [show Nat.add 5 (c0 - 5) = c0 from by show 5 + (c0 - 5) = c0; omega] at h
    replace h := allN_of h c2 l2
    exact h
  by_cases g7 : c0 < 7
  · have h := allN_of part6 (c0 - 6) (by omega)
    rw [show Nat.add 6 (c0 - 6) = c0 from by show 6 + (c0 - 6) = c0; omega] at h
    replace h := allN_of h c2 l2
    exact h
  by_cases g8 : c0 < 8
  · have h := allN_of part7 (c0 - 7) (by omega)
    rw [show Nat.add 7 (c0 - 7) = c0 from by show 7 + (c0 - 7) = c0; omega] at h
    replace h := allN_of h c2 l2
    exact h
  by_cases g9 : c0 < 9
  · obtain rfl : c0 = 8 := by omega
    by_cases h8 : c2 < 1
    · have h := allN_of part8 (c2 - 0) (by omega)
      rw [show Nat.add 0 (c2 - 0) = c2 from by show 0 + (c2 - 0) = c2; omega] at h
      exact h
    by_cases h9 : c2 < 2
    · have h := allN_of part9 (c2 - 1) (by omega)
      rw [show Nat.add 1 (c2 - 1) = c2 from by show 1 + (c2 - 1) = c2; omega] at h
      exact h
    omega
  by_cases g10 : c0 < 10
  · obtain rfl : c0 = 9 := by omega
    by_cases h10 : c2 < 1
    · have h := allN_of part10 (c2 - 0) (by omega)
      rw [show Nat.add 0 (c2 - 0) = c2 from by show 0 + (c2 - 0) = c2; omega] at h
      exact h
    by_cases h11 : c2 < 2
    · have h := allN_of part11 (c2 - 1) (by omega)
      rw [show Nat.add 1 (c2 - 1) = c2 from by show 1 + (c2 - 1) = c2; omega] at h
      exact h
    omega
  by_cases g11 : c0 < 11
  · obtain rfl : c0 = 10 := by omega
    by_cases h12 : c2 < 1
    · have h := allN_of part12 (c2 - 0) (by omega)
      rw [show Nat.add 0 (c2 - 0) = c2 from by show 0 + (c2 - 0) = c2; omega] at h
      exact h
    by_cases h13 : c2 < 2
    · have h := allN_of part13 (c2 - 1) (by omega)
      rw [show Nat.add 1 (c2 - 1) = c2 from by show 1 + (c2 - 1) = c2; omega] at h
      exact h
    omega
  by_cases g12 : c0 < 12
  · obtain rfl : c0 = 11 := by omega
    by_cases h14 : c2 < 1
    · have h := allN_of part14 (c2 - 0) (by omega)
      rw [show Nat.add 0 (c2 - 0) = c2 from by show 0 + (c2 - 0) = c2; omega] at h
      exact h
    by_cases h15 : c2 < 2
    · have h := allN_of part15 (c2 - 1) (by omega)
      rw [show Nat.add 1 (c2 - 1) = c2 from by show 1 + (c2 - 1) = c2; omega] at h
      exact h
    omega
  by_cases g13 : c0 < 13
  · obtain rfl : c0 = 12 := by omega
    by_cases h16 : c2 < 1
    · have h := allN_of part16 (c2 - 0) (by omega)
      rw [show Nat.add 0 (c2 - 0) = c2 from by show 0 + (c2 - 0) = c2; omega] at h
      exact h
    by_cases h17 : c2 < 2
    · have h := allN_of part17 (c2 - 1) (by omega)
      rw [show Nat.add 1 (c2 - 1) = c2 from by show 1 + (c2 - 1) = c2; omega] at h
      exact h
    omega
  by_cases g14 : c0 < 14
  · obtain rfl : c0 = 13 := by omega
    by_cases h18 : c2 < 1
    · have h := allN_of part18 (c2 - 0) (by omega)
      rw [show Nat.add 0 (c2 - 0) = c2 from by show 0 + (c2 - 0) = c2; omega] at h
      exact h
    by_cases h19 : c2 < 2
    · have h := allN_of part19 (c2 - 1) (by omega)
      rw [show Nat.add 1 (c2 - 1) = c2 from by show 1 + (c2 - 1) = c2; omega] at h
      exact h
    omega
  by_cases g15 : c0 < 15
  · obtain rfl : c0 = 14 := by omega
    by_cases h20 : c2 < 1
    · have h := allN_of part20 (c2 - 0) (by omega)
      rw [show Nat.add 0 (c2 - 0) = c2 from by show 0 + (c2 - 0) = c2; omega] at h
      exact h
    by_cases h21 : c2 < 2
    · have h := allN_of part21 (c2 - 1) (by omega)
      rw [show Nat.add 1 (c2 - 1) = c2 from by show 1 + (c2 - 1) = c2; omega] at h
      exact h
    omega
  by_cases g16 : c0 < 16
  · obtain rfl : c0 = 15 := by omega
    by_cases h22 : c2 < 1
    · have h := allN_of part22 (c2 - 0) (by omega)
      rw [show Nat.add 0 (c2 - 0) = c2 from by show 0 + (c2 - 0) = c2; omega] at h
      exact h
    by_cases h23 : c2 < 2
    · have h := allN_of part23 (c2 - 1) (by omega)
      rw [show Nat.add 1 (c2 - 1) = c2 from by show 1 + (c2 - 1) = c2; omega] at h
      exact h
    omega
  by_cases g17 : c0 < 17
  · obtain rfl : c0 = 16 := by omega
    by_cases h24 : c2 < 1
    · have h := allN_of part24 (c2 - 0) (by omega)
      rw [show Nat.add 0 (c2 - 0) = c2 from by show 0 + (c2 - 0) = c2; omega] at h
      exact h
    by_cases h25 : c2 < 2
    · have h := allN_of part25 (c2 - 1) (by omega)
      rw [show Nat.add 1 (c2 - 1) = c2 from by show 1 + (c2 - 1) = c2; omega] at h
      exact h
    omega
  by_cases g18 : c0 < 18
  · obtain rfl : c0 = 17 := by omega
    by_cases h26 : c2 < 1
    · have h := allN_of part26 (c2 - 0) (by omega)
      rw [show Nat.add 0 (c2 - 0) = c2 from by show 0 + (c2 - 0) = c2; omega] at h
      exact h
    by_cases h27 : c2 < 2
    · have h := allN_of part27 (c2 - 1) (by omega)
      rw [show Nat.add 1 (c2 - 1) = c2 from by show 1 + (c2 - 1) = c2; omega] at h
      exact h
    omega
  by_cases g19 : c0 < 19
  · obtain rfl : c0 = 18 := by omega
    by_cases h28 : c2 < 1
    · have h := allN_of part28 (c2 - 0) (by omega)
      rw [show Nat.add 0 (c2 - 0) = c2 from by show 0 + (c2 - 0) = c2; omega] at h
      exact h
    by_cases h29 : c2 < 2
    · have h := allN_of part29 (c2 - 1) (by omega)
      rw [show Nat.add 1 (c2 - 1) = c2 from by show 1 + (c2 - 1) = c2; omega] at h
      exact h
    omega
  by_cases g20 : c0 < 20
  · obtain rfl : c0 = 19 := by omega
    by_cases h30 : c2 < 1
    · have h := allN_of part30 (c2 - 0) (by omega)
      rw [show Nat.add 0 (c2 - 0) = c2 from by show 0 + (c2 - 0) = c2; omega] at h
      exact h
    by_cases h31 : c2 < 2
    · have h := allN_of part31 (c2 - 1) (by omega)
      rw [show Nat.add 1 (c2 - 1) = c2 from by show 1 + (c2 - 1) = c2; omega] at h
      exact h
    omega
  omega
theorem answers {W : World} (hL : laidMetH Tryz.prog Rows.foldChainsRow.laid W) (hS : W.ShapedOpen Tryz.prog) (a : Int) (b : Int) (c : Bool) :
    Calls Tryz.prog 3 #[.int .i64 a, .int .i64 b, .bool c] W fun e W' => e = .returned (.bool true) ∧ KeptAll W W' := by
  rw [MakeChecks.laidMetH_plain _ _ _ (by kernel_rfl)] at hL
  obtain ⟨ms, hok, hnd⟩ := laid_all (tp := 179) (its := its) hL ⟨arr_fn (t0 := 176) (n := "math/bits.deBruijn32tab") (xs := [0, 1, 28, 2, 29, 14, 24, 3, 30, 22, 20, 15, 25, 17, 4, 8, 31, 27, 13, 23, 21, 19, 16, 7, 26, 12, 18, 6, 11, 5, 10, 9]) (k := .u8) Tryz.underlying176 Tryz.underlying5 (by kernel_rfl) (by kernel_rfl) (by simp) (by kernel_rfl) (by kernel_rfl),
    arr_fn (t0 := 177) (n := "math/bits.deBruijn64tab") (xs := [0, 1, 56, 2, 57, 49, 28, 3, 61, 58, 42, 50, 38, 29, 17, 4, 62, 47, 59, 36, 45, 43, 51, 22, 53, 39, 33, 30, 24, 18, 12, 5, 63, 55, 48, 27, 60, 41, 37, 16, 46, 35, 44, 21, 52, 32, 23, 11, 54, 26, 40, 15, 34, 20, 31, 10, 25, 14, 19, 9, 13, 8, 7, 6]) (k := .u8) Tryz.underlying177 Tryz.underlying5 (by kernel_rfl) (by kernel_rfl) (by simp) (by kernel_rfl) (by kernel_rfl),
    arr_fn (t0 := 170) (n := "internal/strconv.uint64pow10") (xs := [1, 10, 100, 1000, 10000, 100000, 1000000, 10000000, 100000000, 1000000000, 10000000000, 100000000000, 1000000000000, 10000000000000, 100000000000000, 1000000000000000, 10000000000000000, 100000000000000000, 1000000000000000000, 10000000000000000000]) (k := .u64) Tryz.underlying170 Tryz.underlying84 (by kernel_rfl) (by kernel_rfl) (by simp) (by kernel_rfl) (by kernel_rfl),
    sentFn (n := "gristmill/api.ErrShape") (by kernel_rfl) (by kernel_rfl),
    sentFn (n := "gristmill/api.ErrMany") (by kernel_rfl) (by kernel_rfl),
    sentFn (n := "gristmill/api.ErrName") (by kernel_rfl) (by kernel_rfl),
    sentFn (n := "gristmill/api.ErrTwice") (by kernel_rfl) (by kernel_rfl),
    sentFn (n := "gristmill/api.ErrNone") (by kernel_rfl) (by kernel_rfl),
    sentFn (n := "gristmill/api.ErrArity") (by kernel_rfl) (by kernel_rfl),
    sentFn (n := "gristmill/api.ErrMain") (by kernel_rfl) (by kernel_rfl),
    sentFn (n := "gristmill/api.ErrBound") (by kernel_rfl) (by kernel_rfl),
    sentFn (n := "gristmill/api.ErrTag") (by kernel_rfl) (by kernel_rfl), trivial⟩
  have hrel := laid_rel (sy := syOf [a, b, 0] (szAt W)) (n0 := 13) hok hnd (by decide) (by decide) (Nat.le_refl _) (big_heap hS) (fun _ _ => rfl)
  rw [hp_eq] at hrel
  obtain ⟨c0, l0, e0⟩ := rest_of a (20) (by omega)
  obtain ⟨c2, l2, e2⟩ := bool_of c
  subst e2
  refine call_true (C := CC) (av := [a, b, 0]) (gr := szAt W) rfl mixed (ov_ok _ _) (all c0 c2 l0 l2) hrel ?_
  exact .cons _ _ _ _ (sm_vr (by decide) (by omega) a rfl e0) (.cons _ _ _ _ (sg_vr (by decide) b rfl) (.cons _ _ _ _ (.b _) .nil))
theorem door_met (os : Os) (args : Array Value) : laidMetH Tryz.prog Rows.foldChainsRow.laid ((World.doorLaid Tryz.prog 1000 os).forCall (fun _ _ => 0) ⟨#[], args, []⟩).memory :=
  laidMetH_of_parts3 (fuel := 8) (laidMet_of_run' 8 (by kernel_rfl) (by kernel_rfl)) (by kernel_rfl) (by kernel_rfl)
theorem lifted (os : Os) (started : os.Started) (H : Type) (enc : TypeId × Value → H) :
    ReturnsInHanded {} Tryz.checked os 3 .any (fun w args => (Rows.foldChainsSpec.pre enc Tryz.prog Tryz.f3 [] false w args ∧ laidMetH Tryz.prog Rows.foldChainsRow.laid w) ∧ sizedMet enc Tryz.prog Tryz.f3 (OpenSpec.ofChange Rows.foldChainsSpec) false w args)
      (Rows.foldChainsSpec.post enc Tryz.prog Tryz.f3 false true false false) := by
  refine lift_shaped (C := Tryz.checked) (X := fun w _ => laidMetH Tryz.prog Rows.foldChainsRow.laid w) (fun _ _ _ hh h => h.of_heap hh) own started (by kernel_rfl) Tryz.func3
    (ChangeSpec.witness_shaped (enc := enc) (C := Tryz.checked) (os := os) (X := fun w _ => laidMetH Tryz.prog Rows.foldChainsRow.laid w) false (World.doorLaid Tryz.prog 1000 os) #[.int .i64 0, .int .i64 0, .bool false] 8 rfl (World.shaped_of_RefB (by kernel_rfl) (by kernel_rfl)) (by kernel_rfl) (by kernel_rfl) (by kernel_rfl) (door_met os _)) ?_
  intro W base args ds gs before hval0 hW _ _ hL hS
  have hval : ∀ (j : Nat) t v, Tryz.f3.params[j]? = some t → args[j]? = some v → Value.okWide Tryz.prog W .any base t v := hval0
  have hW' := hW
  obtain ⟨p, q, hA0, hV, rfl, hfz, hnd⟩ := hW
  have hA : DataW.TrodAll enc Tryz.prog W 0 (fun _ => true) true Tryz.f3.params.toList args.toList ds p := hA0
  rw [Tryz.params3] at hA hval
  obtain ⟨v0, v1, v2, d0, d1, d2, p0, p1, p2, rfl, rfl, rfl, h0, h1, h2⟩ := trodAll_three hA
  obtain ⟨rfl, rfl⟩ := trodVars_none hV
  obtain ⟨a, rfl, rfl, rfl, w0⟩ := open_int Tryz.underlying3 (hval 0 3 v0 rfl rfl) h0
  obtain ⟨b, rfl, rfl, rfl, w1⟩ := open_int Tryz.underlying3 (hval 1 3 v1 rfl rfl) h1
  obtain ⟨c, rfl, rfl, rfl⟩ := open_bool Tryz.underlying4 (hval 2 4 v2 rfl rfl) h2
  clear hA0 hval0
  simp only [List.append_nil] at hW'
  refine (answers hL hS a b c).mono fun e W' ⟨he, hk⟩ => ⟨_, he, ?_⟩
  exact post_plain (args := #[.int .i64 a, .int .i64 b, .bool c]) hW' (fun _ _ _ => trodAll_mk1 (shut_bool Tryz.underlying4 _)) (fun sp => trodAll_mk3 (shut_int Tryz.underlying3 w0) (shut_int Tryz.underlying3 w1) (shut_bool Tryz.underlying4 _)) (fun _ => rfl) hk (ok_one (by kernel_rfl) rfl (okWide_bool_mk Tryz.underlying4 _))
theorem said : Rows.FoldChainsSaid :=
  OpenClaim.holds_of_wide 3 Tryz.f3 rfl rfl rfl rfl rfl rfl rfl ⟨rfl, rfl, rfl, rfl, rfl⟩ rfl rfl rfl rfl rfl (by kernel_rfl) Tryz.func3 (by kernel_rfl)
    (of_decide_eq_true (by kernel_rfl)) (by unfold Func.isWrapper; first | (rw [if_pos (by decide +kernel)]; kernel_rfl) | (rw [if_neg (by decide +kernel)]; exact ⟨rfl, rfl⟩))
    (fun os started H enc _ => lifted os started H enc)
theorem card_holds : Rows.FoldChainsCardSaid :=
  Claim7.holds_tied_plain_at .later [] Rows.foldChainsCard.laidKinds true Rows.foldChainsCard.stood.harness false
    said (fun _ h => by cases h) (by kernel_rfl) (fun _ h => by cases h) foldChains_row_tie rfl ⟨rfl, rfl⟩ (by kernel_rfl) rfl
    (fun f fn hf hfn => by
      obtain rfl : f = 3 := Option.some.inj ((show Tryz.prog.funcNamed "gristmill/gristmilllaw20.FoldChains" = some 3 by kernel_rfl).symm.trans hf) |>.symm
      obtain rfl : fn = Tryz.f3 := (Option.some.inj (Tryz.func3.symm.trans hfn)).symm
      exact ⟨by kernel_rfl, fun j t ht => by
        rw [Tryz.params3] at ht
        have hm : t ∈ [3, 3, 4] := by simpa using Array.mem_of_getElem? ht
        have hall : ([3, 3, 4].all fun u => !Tryz.prog.wantsStandIn u) = true := by kernel_rfl
        exact (show Tryz.prog.wantsStandIn t = false by simpa using List.all_eq_true.1 hall t hm)⟩)
    (by kernel_rfl)
#print axioms card_holds
end Go.Proofs.YtokiabfhdicfoaaGreatDoor.foldChains
