/- THE LAW ObsDeep: whatever the arguments, it answers true, and leaves what was there. The package variables that it lists lie as the text of the program lays them. -/
import Derived.Test.YtnphjnlehehpfaaGreatDoorPObsDeepb0
import Derived.Test.YtnphjnlehehpfaaGreatDoorPObsDeepb3
import Derived.Test.YtnphjnlehehpfaaGreatDoorPObsDeepb6
import Derived.Test.YtnphjnlehehpfaaGreatDoorPObsDeepb9
import Derived.Test.YtnphjnlehehpfaaGreatDoorPObsDeepb12
import Derived.Test.YtnphjnlehehpfaaGreatDoorPObsDeepb15
import Derived.Test.YtnphjnlehehpfaaGreatDoorPObsDeepb18
import Derived.Test.YtnphjnlehehpfaaGreatDoorPObsDeepb21
import Derived.Test.YtnphjnlehehpfaaGreatDoorPObsDeepb24
import Derived.Test.YtnphjnlehehpfaaGreatDoorPObsDeepb27
import Derived.Test.YtnphjnlehehpfaaGreatDoorPObsDeepb30
import Derived.Test.YtnphjnlehehpfaaGreatDoorPObsDeepb33
import Derived.Test.YtnphjnlehehpfaaGreatDoorPObsDeepb36
import Derived.Test.YtnphjnlehehpfaaGreatDoorPObsDeepb39
import Derived.Test.YtnphjnlehehpfaaGreatDoorPObsDeepb42
import Derived.Test.YtnphjnlehehpfaaGreatDoorPObsDeepb45
import Derived.Test.YtnphjnlehehpfaaGreatDoorPObsDeepb48
import Derived.Test.YtnphjnlehehpfaaGreatDoorCards
import Derived.Test.YtnphjnlehehpfaaGreatDoorTie
import Derived.LaidMore
import Derived.OpenShut
import Derived.Stop.Joined
import Derived.SevenTiedAt
namespace Go.Proofs.YtnphjnlehehpfaaGreatDoor.obsDeep
open Go Go.RowKit Ev
set_option maxRecDepth 1000000
open Go.ChangeShapes Go.WideShapes Go.ChangeAt Go.WideMaps Go.WideElems
theorem all (c0 c1 : Nat) (l0 : c0 < 6) (l1 : c1 < c0 + 38) : one c0 c1 = true := by
  by_cases g1 : c0 < 1
  · obtain rfl : c0 = 0 := by omega
    by_cases h0 : c1 < 4
    · have h := allN_of part0 (c1 - 0) (by omega)
      rw [show Nat.add 0 (c1 - 0) = c1 from by show 0 + (c1 - 0) = c1; omega] at h
      exact h
    by_cases h1 : c1 < 8
    · have h := allN_of part1 (c1 - 4) (by omega)
      rw [show Nat.add 4 (c1 - 4) = c1 from by show 4 + (c1 - 4) = c1; omega] at h
      exact h
    by_cases h2 : c1 < 12
    · have h := allN_of part2 (c1 - 8) (by omega)
      rw [show Nat.add 8 (c1 - 8) = c1 from by show 8 + (c1 - 8) = c1; omega] at h
      exact h
    by_cases h3 : c1 < 16
    · have h := allN_of part3 (c1 - 12) (by omega)
      rw [show Nat.add 12 (c1 - 12) = c1 from by show 12 + (c1 - 12) = c1; omega] at h
      exact h
    by_cases h4 : c1 < 20
    · have h := allN_of part4 (c1 - 16) (by omega)
      rw [show Nat.add 16 (c1 - 16) = c1 from by show 16 + (c1 - 16) = c1; omega] at h
      exact h
    by_cases h5 : c1 < 24
    · have h := allN_of part5 (c1 - 20) (by omega)
      rw [show Nat.add 20 (c1 - 20) = c1 from by show 20 + (c1 - 20) = c1; omega] at h
      exact h
    by_cases h6 : c1 < 28
    · have h := allN_of part6 (c1 - 24) (by omega)
      rw [show Nat.add 24 (c1 - 24) = c1 from by show 24 + (c1 - 24) = c1; omega] at h
      exact h
    by_cases h7 : c1 < 32
    · have h := allN_of part7 (c1 - 28) (by omega)
      rw [show Nat.add 28 (c1 - 28) = c1 from by show 28 + (c1 - 28) = c1; omega] at h
      exact h
    by_cases h8 : c1 < 36
    · have h := allN_of part8 (c1 - 32) (by omega)
      rw [show Nat.add 32 (c1 - 32) = c1 from by show 32 + (c1 - 32) = c1; omega] at h
      exact h
    by_cases h9 : c1 < 38
    · have h := allN_of part9 (c1 - 36) (by omega)
      rw [show Nat.add 36 (c1 - 36) = c1 from by show 36 + (c1 - 36) = c1; omega] at h
      exact h
    omega
  by_cases g2 : c0 < 2
  · obtain rfl : c0 = 1 := by omega
    by_cases h10 : c1 < 4
    · have h := allN_of part10 (c1 - 0) (by omega)
      rw [show Nat.add 0 (c1 - 0) = c1 from by show 0 + (c1 - 0) = c1; omega] at h
      exact h
    by_cases h11 : c1 < 8
    · have h := allN_of part11 (c1 - 4) (by omega)
      rw [show Nat.add 4 (c1 - 4) = c1 from by show 4 + (c1 - 4) = c1; omega] at h
      exact h
    by_cases h12 : c1 < 12
    · have h := allN_of part12 (c1 - 8) (by omega)
      rw [show Nat.add 8 (c1 - 8) = c1 from by show 8 + (c1 - 8) = c1; omega] at h
      exact h
    by_cases h13 : c1 < 16
    · have h := allN_of part13 (c1 - 12) (by omega)
      rw [show Nat.add 12 (c1 - 12) = c1 from by show 12 + (c1 - 12) = c1; omega] at h
      exact h
    by_cases h14 : c1 < 20
    · have h := allN_of part14 (c1 - 16) (by omega)
      rw [show Nat.add 16 (c1 - 16) = c1 from by show 16 + (c1 - 16) = c1; omega] at h
      exact h
    by_cases h15 : c1 < 24
    · have h := allN_of part15 (c1 - 20) (by omega)
      rw [show Nat.add 20 (c1 - 20) = c1 from by show 20 + (c1 - 20) = c1; omega] at h
      exact h
    by_cases h16 : c1 < 28
    · have h := allN_of part16 (c1 - 24) (by omega)
      rw [show Nat.add 24 (c1 - 24) = c1 from by show 24 + (c1 - 24) = c1; omega] at h
      exact h
    by_cases h17 : c1 < 32
    · have h := allN_of part17 (c1 - 28) (by omega)
      rw [show Nat.add 28 (c1 - 28) = c1 from by show 28 + (c1 - 28) = c1; omega] at h
      exact h
    by_cases h18 : c1 < 36
    · have h := allN_of part18 (c1 - 32) (by omega)
      rw [show Nat.add 32 (c1 - 32) = c1 from by show 32 + (c1 - 32) = c1; omega] at h
      exact h
    by_cases h19 : c1 < 39
    · have h := allN_of part19 (c1 - 36) (by omega)
      rw [show Nat.add 36 (c1 - 36) = c1 from by show 36 + (c1 - 36) = c1; omega] at h
      exact h
    omega
  by_cases g3 : c0 < 3
  · obtain rfl : c0 = 2 := by omega
    by_cases h20 : c1 < 4
    · have h := allN_of part20 (c1 - 0) (by omega)
      rw [show Nat.add 0 (c1 - 0) = c1 from by show 0 + (c1 - 0) = c1; omega] at h
      exact h
    by_cases h21 : c1 < 8
    · have h := allN_of part21 (c1 - 4) (by omega)
      rw [show Nat.add 4 (c1 - 4) = c1 from by show 4 + (c1 - 4) = c1; omega] at h
      exact h
    by_cases h22 : c1 < 12
    · have h := allN_of part22 (c1 - 8) (by omega)
      rw [show Nat.add 8 (c1 - 8) = c1 from by show 8 + (c1 - 8) = c1; omega] at h
      exact h
    by_cases h23 : c1 < 16
    · have h := allN_of part23 (c1 - 12) (by omega)
      rw [show Nat.add 12 (c1 - 12) = c1 from by show 12 + (c1 - 12) = c1; omega] at h
      exact h
    by_cases h24 : c1 < 20
    · have h := allN_of part24 (c1 - 16) (by omega)
      rw [show Nat.add 16 (c1 - 16) = c1 from by show 16 + (c1 - 16) = c1; omega] at h
      exact h
    by_cases h25 : c1 < 24
    · have h := allN_of part25 (c1 - 20) (by omega)
      rw [show Nat.add 20 (c1 - 20) = c1 from by show 20 + (c1 - 20) = c1; omega] at h
      exact h
    by_cases h26 : c1 < 28
    · have h := allN_of part26 (c1 - 24) (by omega)
      rw [show Nat.add 24 (c1 - 24) = c1 from by show 24 + (c1 - 24) = c1; omega] at h
      exact h
    by_cases h27 : c1 < 32
    · have h := allN_of part27 (c1 - 28) (by omega)
      rw [show Nat.add 28 (c1 - 28) = c1 from by show 28 + (c1 - 28) = c1; omega] at h
      exact h
    by_cases h28 : c1 < 36
    · have h := allN_of part28 (c1 - 32) (by omega)
      rw [show Nat.add 32 (c1 - 32) = c1 from by show 32 + (c1 - 32) = c1; omega] at h
      exact h
    by_cases h29 : c1 < 40
    · have h := allN_of part29 (c1 - 36) (by omega)
      rw [show Nat.add 36 (c1 - 36) = c1 from by show 36 + (c1 - 36) = c1; omega] at h
      exact h
    omega
  by_cases g4 : c0 < 4
  · obtain rfl : c0 = 3 := by omega
    by_cases h30 : c1 < 4
    · have h := allN_of part30 (c1 - 0) (by omega)
      rw [show Nat.add 0 (c1 - 0) = c1 from by show 0 + (c1 - 0) = c1; omega] at h
      exact h
    by_cases h31 : c1 < 8
    · have h := allN_of part31 (c1 - 4) (by omega)
      rw [show Nat.add 4 (c1 - 4) = c1 from by show 4 + (c1 - 4) = c1; omega] at h
      exact h
    by_cases h32 : c1 < 12
    · have h := allN_of part32 (c1 - 8) (by omega)
      rw [show Nat.add 8 (c1 - 8) = c1 from by show 8 + (c1 - 8) = c1; omega] at h
      exact h
    by_cases h33 : c1 < 16
    · have h := allN_of part33 (c1 - 12) (by omega)
      rw [show Nat.add 12 (c1 - 12) = c1 from by show 12 + (c1 - 12) = c1; omega] at h
      exact h
    by_cases h34 : c1 < 20
    · have h := allN_of part34 (c1 - 16) (by omega)
      rw [show Nat.add 16 (c1 - 16) = c1 from by show 16 + (c1 - 16) = c1; omega] at h
      exact h
    by_cases h35 : c1 < 24
    · have h := allN_of part35 (c1 - 20) (by omega)
      rw [show Nat.add 20 (c1 - 20) = c1 from by show 20 + (c1 - 20) = c1; omega] at h
      exact h
    by_cases h36 : c1 < 28
    · have h := allN_of part36 (c1 - 24) (by omega)
      rw [show Nat.add 24 (c1 - 24) = c1 from by show 24 + (c1 - 24) = c1; omega] at h
      exact h
    by_cases h37 : c1 < 32
    · have h := allN_of part37 (c1 - 28) (by omega)
      rw [show Nat.add 28 (c1 - 28) = c1 from by show 28 + (c1 - 28) = c1; omega] at h
      exact h
    by_cases h38 : c1 < 36
    · have h := allN_of part38 (c1 - 32) (by omega)
      rw [show Nat.add 32 (c1 - 32) = c1 from by show 32 + (c1 - 32) = c1; omega] at h
      exact h
    by_cases h39 : c1 < 40
    · have h := allN_of part39 (c1 - 36) (by omega)
      rw [show Nat.add 36 (c1 - 36) = c1 from by show 36 + (c1 - 36) = c1; omega] at h
      exact h
    by_cases h40 : c1 < 41
    · have h := allN_of part40 (c1 - 40) (by omega)
      rw [show Nat.add 40 (c1 - 40) = c1 from by show 40 + (c1 - 40) = c1; omega] at h
      exact h
    omega
  by_cases g5 : c0 < 5
  · obtain rfl : c0 = 4 := by omega
    by_cases h41 : c1 < 12
    · have h := allN_of part41 (c1 - 0) (by omega)
      rw [show Nat.add 0 (c1 - 0) = c1 from by show 0 + (c1 - 0) = c1; omega] at h
      exact h
    by_cases h42 : c1 < 24
    · have h := allN_of part42 (c1 - 12) (by omega)
      rw [show Nat.add 12 (c1 - 12) = c1 from by show 12 + (c1 - 12) = c1; omega] at h
      exact h
    by_cases h43 : c1 < 36
    · have h := allN_of part43 (c1 - 24) (by omega)
      rw [show Nat.add 24 (c1 - 24) = c1 from by show 24 + (c1 - 24) = c1; omega] at h
      exact h
    by_cases h44 : c1 < 42
    · have h := allN_of part44 (c1 - 36) (by omega)
      rw [show Nat.add 36 (c1 - 36) = c1 from by show 36 + (c1 - 36) = c1; omega] at h
      exact h
    omega
  by_cases g6 : c0 < 6
  · obtain rfl : c0 = 5 := by omega
    by_cases h45 : c1 < 12
    · have h := allN_of part45 (c1 - 0) (by omega)
      rw [show Nat.add 0 (c1 - 0) = c1 from by show 0 + (c1 - 0) = c1; omega] at h
      exact h
    by_cases h46 : c1 < 24
    · have h := allN_of part46 (c1 - 12) (by omega)
      rw [show Nat.add 12 (c1 - 12) = c1 from by show 12 + (c1 - 12) = c1; omega] at h
      exact h
    by_cases h47 : c1 < 36
    · have h := allN_of part47 (c1 - 24) (by omega)
      rw [show Nat.add 24 (c1 - 24) = c1 from by show 24 + (c1 - 24) = c1; omega] at h
      exact h
    by_cases h48 : c1 < 43
    · have h := allN_of part48 (c1 - 36) (by omega)
      rw [show Nat.add 36 (c1 - 36) = c1 from by show 36 + (c1 - 36) = c1; omega] at h
      exact h
    omega
  omega
theorem answers {W : World} (hL : laidMetH Tryz.prog Rows.obsDeepRow.laid W) (hS : W.ShapedOpen Tryz.prog) (a : Int) (b : Int) :
    Calls Tryz.prog 3 #[.int .i64 a, .int .i64 b] W fun e W' => e = .returned (.bool true) ∧ KeptAll W W' := by
  rw [MakeChecks.laidMetH_plain _ _ _ (by kernel_rfl)] at hL
  obtain ⟨ms, hok, hnd⟩ := laid_all (tp := 130) (its := its) hL ⟨arr_fn (t0 := 134) (n := "math/bits.deBruijn32tab") (xs := [0, 1, 28, 2, 29, 14, 24, 3, 30, 22, 20, 15, 25, 17, 4, 8, 31, 27, 13, 23, 21, 19, 16, 7, 26, 12, 18, 6, 11, 5, 10, 9]) (k := .u8) Tryz.underlying134 Tryz.underlying5 (by kernel_rfl) (by kernel_rfl) (by simp) (by kernel_rfl) (by kernel_rfl),
    arr_fn (t0 := 97) (n := "math/bits.deBruijn64tab") (xs := [0, 1, 56, 2, 57, 49, 28, 3, 61, 58, 42, 50, 38, 29, 17, 4, 62, 47, 59, 36, 45, 43, 51, 22, 53, 39, 33, 30, 24, 18, 12, 5, 63, 55, 48, 27, 60, 41, 37, 16, 46, 35, 44, 21, 52, 32, 23, 11, 54, 26, 40, 15, 34, 20, 31, 10, 25, 14, 19, 9, 13, 8, 7, 6]) (k := .u8) Tryz.underlying97 Tryz.underlying5 (by kernel_rfl) (by kernel_rfl) (by simp) (by kernel_rfl) (by kernel_rfl),
    arr_fn (t0 := 116) (n := "internal/strconv.uint64pow10") (xs := [1, 10, 100, 1000, 10000, 100000, 1000000, 10000000, 100000000, 1000000000, 10000000000, 100000000000, 1000000000000, 10000000000000, 100000000000000, 1000000000000000, 10000000000000000, 100000000000000000, 1000000000000000000, 10000000000000000000]) (k := .u64) Tryz.underlying116 Tryz.underlying52 (by kernel_rfl) (by kernel_rfl) (by simp) (by kernel_rfl) (by kernel_rfl),
    sentFn (n := "strconv.ErrRange") (by kernel_rfl) (by kernel_rfl),
    sentFn (n := "strconv.ErrSyntax") (by kernel_rfl) (by kernel_rfl),
    sentFn (n := "gristmill/api.ErrEnd") (by kernel_rfl) (by kernel_rfl),
    sentFn (n := "gristmill/api.ErrShape") (by kernel_rfl) (by kernel_rfl),
    sentFn (n := "gristmill/api.ErrRange") (by kernel_rfl) (by kernel_rfl),
    sentFn (n := "gristmill/api.ErrMany") (by kernel_rfl) (by kernel_rfl),
    sentFn (n := "gristmill/api.ErrDeep") (by kernel_rfl) (by kernel_rfl),
    sentFn (n := "gristmill/api.ErrOpen") (by kernel_rfl) (by kernel_rfl),
    sentFn (n := "gristmill/api.ErrClose") (by kernel_rfl) (by kernel_rfl),
    sentFn (n := "gristmill/api.ErrForm") (by kernel_rfl) (by kernel_rfl),
    sentFn (n := "gristmill/api.ErrName") (by kernel_rfl) (by kernel_rfl),
    sentFn (n := "gristmill/api.ErrTwice") (by kernel_rfl) (by kernel_rfl),
    sentFn (n := "gristmill/api.ErrNone") (by kernel_rfl) (by kernel_rfl),
    sentFn (n := "gristmill/api.ErrArity") (by kernel_rfl) (by kernel_rfl),
    sentFn (n := "gristmill/api.ErrMain") (by kernel_rfl) (by kernel_rfl),
    sentFn (n := "gristmill/api.ErrType") (by kernel_rfl) (by kernel_rfl),
    sentFn (n := "gristmill/api.ErrBound") (by kernel_rfl) (by kernel_rfl),
    sentFn (n := "gristmill/api.ErrTag") (by kernel_rfl) (by kernel_rfl),
    sentFn (n := "gristmill/api.ErrWord") (by kernel_rfl) (by kernel_rfl),
    sentFn (n := "gristmill/api.ErrNumber") (by kernel_rfl) (by kernel_rfl), trivial⟩
  have hrel := laid_rel (sy := syOf [a, b] (szAt W)) (n0 := 25) hok hnd (by decide) (by decide) (Nat.le_refl _) (big_heap hS) (fun _ _ => rfl)
  rw [hp_eq] at hrel
  obtain ⟨c0, l0, e0⟩ := rest_of a (6) (by omega)
  obtain ⟨c1, l1, e1⟩ := rest_of b (c0 + 38) (by omega)
  refine call_true (C := CC) (av := [a, b]) (gr := szAt W) rfl mixed (ov_ok _ _) (all c0 c1 l0 l1) hrel ?_
  exact .cons _ _ _ _ (sm_vr (by decide) (by omega) a rfl e0) (.cons _ _ _ _ (sm_vr (by decide) (by omega) b rfl e1) .nil)
theorem door_met (os : Os) (args : Array Value) : laidMetH Tryz.prog Rows.obsDeepRow.laid ((World.doorLaid Tryz.prog 1000 os).forCall (fun _ _ => 0) ⟨#[], args, []⟩).memory :=
  laidMetH_of_parts3 (fuel := 8) (laidMet_of_run' 8 (by kernel_rfl) (by kernel_rfl)) (by kernel_rfl) (by kernel_rfl)
theorem lifted (os : Os) (started : os.Started) (H : Type) (enc : TypeId × Value → H) :
    ReturnsInHanded {} Tryz.checked os 3 .any (fun w args => (Rows.obsDeepSpec.pre enc Tryz.prog Tryz.f3 [] false w args ∧ laidMetH Tryz.prog Rows.obsDeepRow.laid w) ∧ sizedMet enc Tryz.prog Tryz.f3 (OpenSpec.ofChange Rows.obsDeepSpec) false w args)
      (Rows.obsDeepSpec.post enc Tryz.prog Tryz.f3 false true false false) := by
  refine lift_shaped (C := Tryz.checked) (X := fun w _ => laidMetH Tryz.prog Rows.obsDeepRow.laid w) (fun _ _ _ hh h => h.of_heap hh) own started (by kernel_rfl) Tryz.func3
    (ChangeSpec.witness_shaped (enc := enc) (C := Tryz.checked) (os := os) (X := fun w _ => laidMetH Tryz.prog Rows.obsDeepRow.laid w) false (World.doorLaid Tryz.prog 1000 os) #[.int .i64 0, .int .i64 0] 8 rfl (World.shaped_of_RefB (by kernel_rfl) (by kernel_rfl)) (by kernel_rfl) (by kernel_rfl) (by kernel_rfl) (door_met os _)) ?_
  intro W base args ds gs before hval0 hW _ _ hL hS
  have hval : ∀ (j : Nat) t v, Tryz.f3.params[j]? = some t → args[j]? = some v → Value.okWide Tryz.prog W .any base t v := hval0
  have hW' := hW
  obtain ⟨p, q, hA0, hV, rfl, hfz, hnd⟩ := hW
  have hA : DataW.TrodAll enc Tryz.prog W 0 (fun _ => true) true Tryz.f3.params.toList args.toList ds p := hA0
  rw [Tryz.params3] at hA hval
  obtain ⟨v0, v1, d0, d1, p0, p1, rfl, rfl, rfl, h0, h1⟩ := trodAll_two hA
  obtain ⟨rfl, rfl⟩ := trodVars_none hV
  obtain ⟨a, rfl, rfl, rfl, w0⟩ := open_int Tryz.underlying3 (hval 0 3 v0 rfl rfl) h0
  obtain ⟨b, rfl, rfl, rfl, w1⟩ := open_int Tryz.underlying3 (hval 1 3 v1 rfl rfl) h1
  clear hA0 hval0
  simp only [List.append_nil] at hW'
  refine (answers hL hS a b).mono fun e W' ⟨he, hk⟩ => ⟨_, he, ?_⟩
  exact post_plain (args := #[.int .i64 a, .int .i64 b]) hW' (fun _ _ _ => trodAll_mk1 (shut_bool Tryz.underlying4 _)) (fun sp => trodAll_mk2 (shut_int Tryz.underlying3 w0) (shut_int Tryz.underlying3 w1)) (fun _ => rfl) hk (ok_one (by kernel_rfl) rfl (okWide_bool_mk Tryz.underlying4 _))
theorem said : Rows.ObsDeepSaid :=
  OpenClaim.holds_of_wide 3 Tryz.f3 rfl rfl rfl rfl rfl rfl rfl ⟨rfl, rfl, rfl, rfl, rfl⟩ rfl rfl rfl rfl rfl (by kernel_rfl) Tryz.func3 (by kernel_rfl)
    (of_decide_eq_true (by kernel_rfl)) (by unfold Func.isWrapper; first | (rw [if_pos (by decide +kernel)]; kernel_rfl) | (rw [if_neg (by decide +kernel)]; exact ⟨rfl, rfl⟩))
    (fun os started H enc _ => lifted os started H enc)
theorem card_holds : Rows.ObsDeepCardSaid :=
  Claim7.holds_tied_plain_at .later [] Rows.obsDeepCard.laidKinds true Rows.obsDeepCard.stood.harness true
    said (fun _ h => by cases h) (by kernel_rfl) (fun _ h => by cases h) obsDeep_row_tie rfl ⟨rfl, rfl⟩ (by kernel_rfl) rfl
    (fun f fn hf hfn => by
      obtain rfl : f = 3 := Option.some.inj ((show Tryz.prog.funcNamed "gristmill/gristmilllaw11.ObsDeep" = some 3 by kernel_rfl).symm.trans hf) |>.symm
      obtain rfl : fn = Tryz.f3 := (Option.some.inj (Tryz.func3.symm.trans hfn)).symm
      exact ⟨by kernel_rfl, fun j t ht => by
        rw [Tryz.params3] at ht
        have hm : t ∈ [3, 3] := by simpa using Array.mem_of_getElem? ht
        have hall : ([3, 3].all fun u => !Tryz.prog.wantsStandIn u) = true := by kernel_rfl
        exact (show Tryz.prog.wantsStandIn t = false by simpa using List.all_eq_true.1 hall t hm)⟩)
    (by kernel_rfl)
#print axioms card_holds
end Go.Proofs.YtnphjnlehehpfaaGreatDoor.obsDeep
