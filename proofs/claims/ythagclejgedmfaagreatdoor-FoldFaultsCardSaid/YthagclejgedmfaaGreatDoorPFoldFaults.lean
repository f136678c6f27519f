/- THE LAW FoldFaults: whatever the arguments, it answers true, and leaves what was there. The package variables that it lists lie as the text of the program lays them. -/
import Derived.Test.YthagclejgedmfaaGreatDoorPFoldFaultsb0
import Derived.Test.YthagclejgedmfaaGreatDoorPFoldFaultsb1
import Derived.Test.YthagclejgedmfaaGreatDoorPFoldFaultsb2
import Derived.Test.YthagclejgedmfaaGreatDoorCards
import Derived.Test.YthagclejgedmfaaGreatDoorTie
import Derived.LaidMore
import Derived.OpenShut
import Derived.Stop.Joined
import Derived.SevenTiedAt
namespace Go.Proofs.YthagclejgedmfaaGreatDoor.foldFaults
open Go Go.RowKit Ev
set_option maxRecDepth 1000000
open Go.ChangeShapes Go.WideShapes Go.ChangeAt Go.WideMaps Go.WideElems
theorem all (c1 : Nat) (l1 : c1 < 6) : one c1 = true := by
  by_cases g2 : c1 < 2
  · have h := allN_of part0 (c1 - 0) (by omega)
    rw [show Nat.add 0 (c1 - 0) = c1 from by show 0 + (c1 - 0) = c1; omega] at h
    exact h
  by_cases g4 : c1 < 4
  · have h := allN_of part1 (c1 - 2) (by omega)
    rw [show Nat.add 2 (c1 - 2) = c1 from by show 2 + (c1 - 2) = c1; omega] at h
    exact h
  by_cases g6 : c1 < 6
  · have h := allN_of part2 (c1 - 4) (by omega)
    rw [show Nat.add 4 (c1 - 4) = c1 from by show 4 + (c1 - 4) = c1; omega] at h
    exact h
  omega
theorem answers {W : World} (hL : laidMetH Tryz.prog Rows.foldFaultsRow.laid W) (hS : W.ShapedOpen Tryz.prog) (a : Int) (b : Int) :
    Calls Tryz.prog 3 #[.int .i64 a, .int .i64 b] W fun e W' => e = .returned (.bool true) ∧ KeptAll W W' := by
  rw [MakeChecks.laidMetH_plain _ _ _ (by kernel_rfl)] at hL
  obtain ⟨ms, hok, hnd⟩ := laid_all (tp := 314) (its := its) hL ⟨sentFn (n := "gristmill/api.ErrShape") (by kernel_rfl) (by kernel_rfl),
    sentFn (n := "gristmill/api.ErrMany") (by kernel_rfl) (by kernel_rfl),
    sentFn (n := "gristmill/api.ErrName") (by kernel_rfl) (by kernel_rfl),
    sentFn (n := "gristmill/api.ErrTwice") (by kernel_rfl) (by kernel_rfl),
    sentFn (n := "gristmill/api.ErrNone") (by kernel_rfl) (by kernel_rfl),
    sentFn (n := "gristmill/api.ErrArity") (by kernel_rfl) (by kernel_rfl),
    sentFn (n := "gristmill/api.ErrMain") (by kernel_rfl) (by kernel_rfl),
    sentFn (n := "gristmill/api.ErrBound") (by kernel_rfl) (by kernel_rfl),
    sentFn (n := "gristmill/api.ErrTag") (by kernel_rfl) (by kernel_rfl), trivial⟩
  have hrel := laid_rel (sy := syOf [a, b] (szAt W)) (n0 := 25) hok hnd (by decide) (by decide) (Nat.le_refl _) (big_heap hS) (fun _ _ => rfl)
  rw [hp_eq] at hrel
  obtain ⟨c1, l1, e1⟩ := rest_of b (6) (by omega)
  refine call_true (C := CC) (av := [a, b]) (gr := szAt W) rfl mixed (ov_ok _ _) (all c1 l1) hrel ?_
  exact .cons _ _ _ _ (sg_vr (by decide) a rfl) (.cons _ _ _ _ (sm_vr (by decide) (by omega) b rfl e1) .nil)
theorem door_met (os : Os) (args : Array Value) : laidMetH Tryz.prog Rows.foldFaultsRow.laid ((World.doorLaid Tryz.prog 1000 os).forCall (fun _ _ => 0) ⟨#[], args, []⟩).memory :=
  laidMetH_of_parts3 (fuel := 8) (laidMet_of_run' 8 (by kernel_rfl) (by kernel_rfl)) (by kernel_rfl) (by kernel_rfl)
theorem lifted (os : Os) (started : os.Started) (H : Type) (enc : TypeId × Value → H) :
    ReturnsInHanded {} Tryz.checked os 3 .any (fun w args => (Rows.foldFaultsSpec.pre enc Tryz.prog Tryz.f3 [] false w args ∧ laidMetH Tryz.prog Rows.foldFaultsRow.laid w) ∧ sizedMet enc Tryz.prog Tryz.f3 (OpenSpec.ofChange Rows.foldFaultsSpec) false w args)
      (Rows.foldFaultsSpec.post enc Tryz.prog Tryz.f3 false true false false) := by
  refine lift_shaped (C := Tryz.checked) (X := fun w _ => laidMetH Tryz.prog Rows.foldFaultsRow.laid w) (fun _ _ _ hh h => h.of_heap hh) own started (by kernel_rfl) Tryz.func3
    (ChangeSpec.witness_shaped (enc := enc) (C := Tryz.checked) (os := os) (X := fun w _ => laidMetH Tryz.prog Rows.foldFaultsRow.laid w) false (World.doorLaid Tryz.prog 1000 os) #[.int .i64 0, .int .i64 0] 8 rfl (World.shaped_of_RefB (by kernel_rfl) (by kernel_rfl)) (by kernel_rfl) (by kernel_rfl) (by kernel_rfl) (door_met os _)) ?_
  intro W base args ds gs before hval0 hW _ _ hL hS
  have hval : ∀ (j : Nat) t v, Tryz.f3.params[j]? = some t → args[j]? = some v → Value.okWide Tryz.prog W .any base t v := hval0
  have hW' := hW
  obtain ⟨p, q, hA0, hV, rfl, hfz, hnd⟩ := hW
  have hA : DataW.TrodAll enc Tryz.prog W 0 (fun _ => true) true Tryz.f3.params.toList args.toList ds p := hA0
  rw [Tryz.params3] at hA hval
  obtain ⟨v0, v1, d0, d1, p0, p1, rfl, rfl, rfl, h0, h1⟩ := trodAll_two hA
  obtain ⟨rfl, rfl⟩ := trodVars_none hV
  obtain ⟨a, rfl, rfl, rfl, w0⟩ := open_int Tryz.underlying3 (hval 0 3 v0 rfl rfl) h0
  obtain ⟨b, rfl, rfl, rfl, w1⟩ := open_int Tryz.underlying3 (hval 1 3 v1 rfl rfl) h1
  clear hA0 hval0
  simp only [List.append_nil] at hW'
  refine (answers hL hS a b).mono fun e W' ⟨he, hk⟩ => ⟨_, he, ?_⟩
  exact post_plain (args := #[.int .i64 a, .int .i64 b]) hW' (fun _ _ _ => trodAll_mk1 (shut_bool Tryz.underlying4 _)) (fun sp => trodAll_mk2 (shut_int Tryz.underlying3 w0) (shut_int Tryz.underlying3 w1)) (fun _ => rfl) hk (ok_one (by kernel_rfl) rfl (okWide_bool_mk Tryz.underlying4 _))
theorem said : Rows.FoldFaultsSaid :=
  OpenClaim.holds_of_wide 3 Tryz.f3 rfl rfl rfl rfl rfl rfl rfl ⟨rfl, rfl, rfl, rfl, rfl⟩ rfl rfl rfl rfl rfl (by kernel_rfl) Tryz.func3 (by kernel_rfl)
    (of_decide_eq_true (by kernel_rfl)) (by unfold Func.isWrapper; first | (rw [if_pos (by decide +kernel)]; kernel_rfl) | (rw [if_neg (by decide +kernel)]; exact ⟨rfl, rfl⟩))
    (fun os started H enc _ => lifted os started H enc)
theorem card_holds : Rows.FoldFaultsCardSaid :=
  Claim7.holds_tied_plain_at .later [] Rows.foldFaultsCard.laidKinds true Rows.foldFaultsCard.stood.harness true
    said (fun _ h => by cases h) (by kernel_rfl) (fun _ h => by cases h) foldFaults_row_tie rfl ⟨rfl, rfl⟩ (by kernel_rfl) rfl
    (fun f fn hf hfn => by
      obtain rfl : f = 3 := Option.some.inj ((show Tryz.prog.funcNamed "gristmill/gristmilllaw20.FoldFaults" = some 3 by kernel_rfl).symm.trans hf) |>.symm
      obtain rfl : fn = Tryz.f3 := (Option.some.inj (Tryz.func3.symm.trans hfn)).symm
      exact ⟨by kernel_rfl, fun j t ht => by
        rw [Tryz.params3] at ht
        have hm : t ∈ [3, 3] := by simpa using Array.mem_of_getElem? ht
        have hall : ([3, 3].all fun u => !Tryz.prog.wantsStandIn u) = true := by kernel_rfl
        exact (show Tryz.prog.wantsStandIn t = false by simpa using List.all_eq_true.1 hall t hm)⟩)
    (by kernel_rfl)
#print axioms card_holds
end Go.Proofs.YthagclejgedmfaaGreatDoor.foldFaults
