/- THE LAW RunFaults: whatever the arguments, it answers true, and leaves what was there. The package variables that it lists lie as the text of the program lays them. -/
import Derived.Test.YtnbmmcopjognoaaDoorPRunFaultsb0
import Derived.Test.YtnbmmcopjognoaaDoorPRunFaultsb1
import Derived.Test.YtnbmmcopjognoaaDoorPRunFaultsb2
import Derived.Test.YtnbmmcopjognoaaDoorPRunFaultsb3
import Derived.Test.YtnbmmcopjognoaaDoorPRunFaultsb4
import Derived.Test.YtnbmmcopjognoaaDoorCards
import Derived.Test.YtnbmmcopjognoaaDoorTie
import Derived.LaidMore
import Derived.OpenShut
import Derived.Stop.Joined
import Derived.SevenTiedAt
namespace Go.Proofs.YtnbmmcopjognoaaDoor.runFaults
open Go Go.RowKit Ev
set_option maxRecDepth 1000000
open Go.ChangeShapes Go.WideShapes Go.ChangeAt Go.WideMaps Go.WideElems
theorem all (c0 : Nat) (l0 : c0 < 30) : one c0 = true := by
  by_cases h0 : c0 < 6
  · have h := allN_of part0 (c0 - 0) (by omega)
    rw [show Nat.add 0 (c0 - 0) = c0 from by show 0 + (c0 - 0) = c0; omega] at h
    exact h
  by_cases h1 : c0 < 12
  · have h := allN_of part1 (c0 - 6) (by omega)
    rw [show Nat.add 6 (c0 - 6) = c0 from by show 6 + (c0 - 6) = c0; omega] at h
    exact h
  by_cases h2 : c0 < 18
  · have h := allN_of part2 (c0 - 12) (by omega)
    rw [show Nat.add 12 (c0 - 12) = c0 from by show 12 + (c0 - 12) = c0; omega] at h
    exact h
  by_cases h3 : c0 < 24
  · have h := allN_of part3 (c0 - 18) (by omega)
    rw [show Nat.add 18 (c0 - 18) = c0 from by show 18 + (c0 - 18) = c0; omega] at h
    exact h
  by_cases h4 : c0 < 30
  · have h := allN_of part4 (c0 - 24) (by omega)
    rw [show Nat.add 24 (c0 - 24) = c0 from by show 24 + (c0 - 24) = c0; omega] at h
    exact h
  omega
theorem answers {W : World} (hL : laidMetH Tryd.prog Rows.runFaultsRow.laid W) (hS : W.ShapedOpen Tryd.prog) (a : Int) (b : Int) :
    Calls Tryd.prog 5 #[.int .i64 a, .int .i64 b] W fun e W' => e = .returned (.bool true) ∧ KeptAll W W' := by
  rw [MakeChecks.laidMetH_plain _ _ _ (by kernel_rfl)] at hL
  obtain ⟨ms, hok, hnd⟩ := laid_all (tp := 182) (its := its) hL ⟨sentFn (n := "gristmill/api.ErrShape") (by kernel_rfl) (by kernel_rfl),
    sentFn (n := "gristmill/api.ErrMany") (by kernel_rfl) (by kernel_rfl),
    sentFn (n := "gristmill/api.ErrName") (by kernel_rfl) (by kernel_rfl),
    sentFn (n := "gristmill/api.ErrTwice") (by kernel_rfl) (by kernel_rfl),
    sentFn (n := "gristmill/api.ErrNone") (by kernel_rfl) (by kernel_rfl),
    sentFn (n := "gristmill/api.ErrArity") (by kernel_rfl) (by kernel_rfl),
    sentFn (n := "gristmill/api.ErrMain") (by kernel_rfl) (by kernel_rfl),
    sentFn (n := "gristmill/api.ErrBound") (by kernel_rfl) (by kernel_rfl),
    sentFn (n := "gristmill/api.ErrTag") (by kernel_rfl) (by kernel_rfl), trivial⟩
  have hrel := laid_rel (sy := syOf [a, b]) (n0 := 22) hok hnd (by decide) (by decide) (Nat.le_refl _) (big_heap hS)
  rw [hp_eq] at hrel
  obtain ⟨c0, l0, e0⟩ := rest_of a (30) (by omega)
  refine call_true (C := CC) (av := [a, b]) rfl mixed (ov_ok _) (all c0 l0) hrel ?_
  exact .cons _ _ _ _ (sm_vr (by decide) (by omega) a rfl e0) (.cons _ _ _ _ (sg_vr (by decide) b rfl) .nil)
theorem door_met (os : Os) (args : Array Value) : laidMetH Tryd.prog Rows.runFaultsRow.laid ((World.doorLaid Tryd.prog 1000 os).forCall (fun _ _ => 0) ⟨#[], args, []⟩).memory :=
  laidMetH_of_parts3 (fuel := 8) (laidMet_of_run' 8 (by kernel_rfl) (by kernel_rfl)) (by kernel_rfl) (by kernel_rfl)
theorem lifted (os : Os) (started : os.Started) (H : Type) (enc : TypeId × Value → H) :
    ReturnsInHanded {} Tryd.checked os 5 .any (fun w args => (Rows.runFaultsSpec.pre enc Tryd.prog Tryd.f5 [] false w args ∧ laidMetH Tryd.prog Rows.runFaultsRow.laid w) ∧ sizedMet enc Tryd.prog Tryd.f5 (OpenSpec.ofChange Rows.runFaultsSpec) false w args)
      (Rows.runFaultsSpec.post enc Tryd.prog Tryd.f5 false true false false) := by
  refine lift_shaped (C := Tryd.checked) (X := fun w _ => laidMetH Tryd.prog Rows.runFaultsRow.laid w) (fun _ _ _ hh h => h.of_heap hh) own started (by kernel_rfl) Tryd.func5
    (ChangeSpec.witness_shaped (enc := enc) (C := Tryd.checked) (os := os) (X := fun w _ => laidMetH Tryd.prog Rows.runFaultsRow.laid w) false (World.doorLaid Tryd.prog 1000 os) #[.int .i64 0, .int .i64 0] 8 rfl (World.shaped_of_RefB (by kernel_rfl) (by kernel_rfl)) (by kernel_rfl) (by kernel_rfl) (by kernel_rfl) (door_met os _)) ?_
  intro W base args ds gs before hval0 hW _ _ hL hS
  have hval : ∀ (j : Nat) t v, Tryd.f5.params[j]? = some t → args[j]? = some v → Value.okWide Tryd.prog W .any base t v := hval0
  have hW' := hW
  obtain ⟨p, q, hA0, hV, rfl, hfz, hnd⟩ := hW
  have hA : DataW.TrodAll enc Tryd.prog W 0 (fun _ => true) true Tryd.f5.params.toList args.toList ds p := hA0
  rw [Tryd.params5] at hA hval
  obtain ⟨v0, v1, d0, d1, p0, p1, rfl, rfl, rfl, h0, h1⟩ := trodAll_two hA
  obtain ⟨rfl, rfl⟩ := trodVars_none hV
  obtain ⟨a, rfl, rfl, rfl, w0⟩ := open_int Tryd.underlying3 (hval 0 3 v0 rfl rfl) h0
  obtain ⟨b, rfl, rfl, rfl, w1⟩ := open_int Tryd.underlying3 (hval 1 3 v1 rfl rfl) h1
  clear hA0 hval0
  simp only [List.append_nil] at hW'
  refine (answers hL hS a b).mono fun e W' ⟨he, hk⟩ => ⟨_, he, ?_⟩
  exact post_plain (args := #[.int .i64 a, .int .i64 b]) hW' (fun _ _ _ => trodAll_mk1 (shut_bool Tryd.underlying4 _)) (fun sp => trodAll_mk2 (shut_int Tryd.underlying3 w0) (shut_int Tryd.underlying3 w1)) (fun _ => rfl) hk (ok_one (by kernel_rfl) rfl (okWide_bool_mk Tryd.underlying4 _))
theorem said : Rows.RunFaultsSaid :=
  OpenClaim.holds_of_wide 5 Tryd.f5 rfl rfl rfl rfl rfl rfl rfl ⟨rfl, rfl, rfl, rfl, rfl⟩ rfl rfl rfl rfl rfl (by kernel_rfl) Tryd.func5 (by kernel_rfl)
    (of_decide_eq_true (by kernel_rfl)) (by unfold Func.isWrapper; first | (rw [if_pos (by decide +kernel)]; kernel_rfl) | (rw [if_neg (by decide +kernel)]; exact ⟨rfl, rfl⟩))
    (fun os started H enc _ => lifted os started H enc)
theorem card_holds : Rows.RunFaultsCardSaid :=
  Claim7.holds_tied_plain_at .later [] Rows.runFaultsCard.laidKinds true Rows.runFaultsCard.stood.harness true
    said (fun _ h => by cases h) (by kernel_rfl) (fun _ h => by cases h) runFaults_row_tie rfl ⟨rfl, rfl⟩ (by kernel_rfl) rfl
    (fun f fn hf hfn => by
      obtain rfl : f = 5 := Option.some.inj ((show Tryd.prog.funcNamed "gristmill/gristmilllaw17.RunFaults" = some 5 by kernel_rfl).symm.trans hf) |>.symm
      obtain rfl : fn = Tryd.f5 := (Option.some.inj (Tryd.func5.symm.trans hfn)).symm
      exact ⟨by kernel_rfl, fun j t ht => by
        rw [Tryd.params5] at ht
        have hm : t ∈ [3, 3] := by simpa using Array.mem_of_getElem? ht
        have hall : ([3, 3].all fun u => !Tryd.prog.wantsStandIn u) = true := by kernel_rfl
        exact (show Tryd.prog.wantsStandIn t = false by simpa using List.all_eq_true.1 hall t hm)⟩)
    (by kernel_rfl)
#print axioms card_holds
end Go.Proofs.YtnbmmcopjognoaaDoor.runFaults
