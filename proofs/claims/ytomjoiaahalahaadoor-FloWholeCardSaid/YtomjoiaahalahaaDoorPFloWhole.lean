/- THE LAW FloWhole: whatever the arguments, it answers true, and leaves what was there. The package variables that it lists lie as the text of the program lays them. -/
import Derived.Test.YtomjoiaahalahaaDoorPFloWholeb0
import Derived.Test.YtomjoiaahalahaaDoorPFloWholec
import Derived.Test.YtomjoiaahalahaaDoorCards
import Derived.Test.YtomjoiaahalahaaDoorTie
import Derived.LaidMore
import Derived.OpenShut
import Derived.Stop.Joined
import Derived.SevenTiedAt
namespace Go.Proofs.YtomjoiaahalahaaDoor.floWhole
open Go Go.RowKit Ev
set_option maxRecDepth 1000000
open Go.ChangeShapes Go.WideShapes Go.ChangeAt Go.WideMaps Go.WideElems
theorem all (a : Int) (b : Nat) (ha : -9223372036854775808 ≤ a ∧ a ≤ 9223372036854775807) (hb : b < 18446744073709551616) (gr : Nat → Nat) : ∃ q, QOk (sy a b gr) q ∧ run q = true := by
  cases h1 : cd a b gr 3 (.o 320 (.o 336 (.o 128 (.v 0) (.c (.ofNat 11))) (.o 128 (.v 0) (.c (.ofNat 11)))) (.o 336 (.o 128 (.v 0) (.c (.ofNat 11))) (.o 128 (.v 0) (.c (.ofNat 11))))) (.c (.ofNat 0)) with
  | true =>
    exact (ng0 a b ha hb gr h1).elim
  | false =>
    cases h2 : cd a b gr 5 (.o 320 (.o 336 (.o 128 (.v 0) (.c (.ofNat 11))) (.o 128 (.v 0) (.c (.ofNat 11)))) (.o 336 (.o 128 (.v 0) (.c (.ofNat 11))) (.o 128 (.v 0) (.c (.ofNat 11))))) (.c (.ofNat 14114281232179134464)) with
    | true =>
      exact (ng1 a b ha hb gr h2).elim
    | false =>
      cases h3 : cd a b gr 8 (.o 320 (.o 336 (.o 128 (.v 0) (.c (.ofNat 11))) (.o 128 (.v 0) (.c (.ofNat 11)))) (.o 336 (.o 128 (.v 0) (.c (.ofNat 11))) (.o 128 (.v 0) (.c (.ofNat 11))))) (.c (.ofNat 4890909195324358656)) with
      | true =>
        exact (ng2 a b ha hb gr h3).elim
      | false =>
        cases h4 : cd a b gr 16 (.o 320 (.o 336 (.o 128 (.v 0) (.c (.ofNat 11))) (.o 128 (.v 0) (.c (.ofNat 11)))) (.o 336 (.o 128 (.v 0) (.c (.ofNat 11))) (.o 128 (.v 0) (.c (.ofNat 11))))) (.c (.ofNat 0)) with
        | true =>
          cases h5 : cd a b gr 0 (.o 352 (.o 320 (.o 336 (.o 128 (.v 0) (.c (.ofNat 11))) (.o 128 (.v 0) (.c (.ofNat 11)))) (.o 336 (.o 128 (.v 0) (.c (.ofNat 11))) (.o 128 (.v 0) (.c (.ofNat 11))))) (.o 320 (.o 336 (.o 128 (.v 0) (.c (.ofNat 11))) (.o 128 (.v 0) (.c (.ofNat 11)))) (.o 336 (.o 128 (.v 0) (.c (.ofNat 11))) (.o 128 (.v 0) (.c (.ofNat 11)))))) (.o 128 (.v 0) (.c (.ofNat 11))) with
          | true =>
            cases h6 : cd a b gr 3 (.o 320 (.v 1) (.v 1)) (.c (.ofNat 0)) with
            | true =>
              cases h7 : cd a b gr 7 (.v 1) (.c (.ofNat 14114281232179134464)) with
              | true =>
                exact (ng5 a b ha hb gr h6 h7).elim
              | false =>
                exact ⟨q0, .cons h1 (.cons h2 (.cons h3 (.cons h4 (.cons h5 (.cons h6 (.cons h7 .nil)))))), leaf0⟩
            | false =>
              cases h7 : cd a b gr 5 (.o 320 (.v 1) (.v 1)) (.c (.ofNat 14114281232179134464)) with
              | true =>
                cases h8 : cd a b gr 7 (.v 1) (.c (.ofNat 14114281232179134464)) with
                | true =>
                  exact (ng6 a b ha hb gr h7 h8).elim
                | false =>
                  exact ⟨q1, .cons h1 (.cons h2 (.cons h3 (.cons h4 (.cons h5 (.cons h6 (.cons h7 (.cons h8 .nil))))))), leaf1⟩
              | false =>
                cases h8 : cd a b gr 8 (.o 320 (.v 1) (.v 1)) (.c (.ofNat 4890909195324358656)) with
                | true =>
                  cases h9 : cd a b gr 7 (.v 1) (.c (.ofNat 14114281232179134464)) with
                  | true =>
                    cases h10 : cd a b gr 5 (.v 1) (.c (.ofNat 4890909195324358656)) with
                    | true =>
                      exact (ng7 a b ha hb gr h8 h10).elim
                    | false =>
                      exact ⟨q3, .cons h1 (.cons h2 (.cons h3 (.cons h4 (.cons h5 (.cons h6 (.cons h7 (.cons h8 (.cons h9 (.cons h10 .nil))))))))), leaf3⟩
                  | false =>
                    exact ⟨q2, .cons h1 (.cons h2 (.cons h3 (.cons h4 (.cons h5 (.cons h6 (.cons h7 (.cons h8 (.cons h9 .nil)))))))), leaf2⟩
                | false =>
                  cases h9 : cd a b gr 16 (.o 320 (.v 1) (.v 1)) (.c (.ofNat 0)) with
                  | true =>
                    cases h10 : cd a b gr 4 (.o 320 (.v 1) (.v 1)) (.o 336 (.o 352 (.o 320 (.v 1) (.v 1)) (.o 320 (.v 1) (.v 1))) (.o 352 (.o 320 (.v 1) (.v 1)) (.o 320 (.v 1) (.v 1)))) with
                    | true =>
                      exact ⟨q4, .cons h1 (.cons h2 (.cons h3 (.cons h4 (.cons h5 (.cons h6 (.cons h7 (.cons h8 (.cons h9 (.cons h10 .nil))))))))), leaf4⟩
                    | false =>
                      exact (ng9 a b ha hb gr h6 h9 h10).elim
                  | false =>
                    exact (ng8 a b ha hb gr h6 h7 h8 h9).elim
          | false =>
            exact (ng4 a b ha hb gr h5).elim
        | false =>
          exact (ng3 a b ha hb gr h4).elim
theorem answers {W : World} (hL : laidMetH Tryd.prog Rows.floWholeRow.laid W) (hS : W.ShapedOpen Tryd.prog) (a : Int) (b : Int) (w0 : (Lit.int .i64 a).wf = true) (w1 : (Lit.int .u64 b).wf = true) :
    Calls Tryd.prog 4 #[.int .i64 a, .int .u64 b] W fun e W' => e = .returned (.bool true) ∧ KeptAll W W' := by
  rw [MakeChecks.laidMetH_plain _ _ _ (by kernel_rfl)] at hL
  obtain ⟨ms, hok, hnd⟩ := laid_all (tp := 103) (its := its) hL ⟨arr_fn (t0 := 99) (n := "math/bits.deBruijn32tab") (xs := [0, 1, 28, 2, 29, 14, 24, 3, 30, 22, 20, 15, 25, 17, 4, 8, 31, 27, 13, 23, 21, 19, 16, 7, 26, 12, 18, 6, 11, 5, 10, 9]) (k := .u8) Tryd.underlying99 Tryd.underlying5 (by kernel_rfl) (by kernel_rfl) (by simp) (by kernel_rfl) (by kernel_rfl),
    arr_fn (t0 := 67) (n := "math/bits.deBruijn64tab") (xs := [0, 1, 56, 2, 57, 49, 28, 3, 61, 58, 42, 50, 38, 29, 17, 4, 62, 47, 59, 36, 45, 43, 51, 22, 53, 39, 33, 30, 24, 18, 12, 5, 63, 55, 48, 27, 60, 41, 37, 16, 46, 35, 44, 21, 52, 32, 23, 11, 54, 26, 40, 15, 34, 20, 31, 10, 25, 14, 19, 9, 13, 8, 7, 6]) (k := .u8) Tryd.underlying67 Tryd.underlying5 (by kernel_rfl) (by kernel_rfl) (by simp) (by kernel_rfl) (by kernel_rfl),
    arr_fn (t0 := 76) (n := "internal/strconv.uint64pow10") (xs := [1, 10, 100, 1000, 10000, 100000, 1000000, 10000000, 100000000, 1000000000, 10000000000, 100000000000, 1000000000000, 10000000000000, 100000000000000, 1000000000000000, 10000000000000000, 100000000000000000, 1000000000000000000, 10000000000000000000]) (k := .u64) Tryd.underlying76 Tryd.underlying22 (by kernel_rfl) (by kernel_rfl) (by simp) (by kernel_rfl) (by kernel_rfl), trivial⟩
  have ha := Ev.Fl.i64_in w0
  obtain ⟨b, rfl, hb⟩ := Ev.Fl.u64_nat w1
  have hrel := laid_rel (sy := sy a b (szAt W)) (n0 := 8) hok hnd (by decide) (by decide) (Nat.le_refl _) (big_heap hS) (fun _ _ => rfl)
  rw [hp_eq] at hrel
  obtain ⟨q, hq, hl⟩ := all a b ha hb (szAt W)
  refine call_true (C := CC) (av := [(a : Int), (b : Int)]) (gr := szAt W) rfl mixed (ov_ok _ _) hl hrel ?_
  exact .cons _ _ _ _ (.x _ _ (.y _ _ (.e 0 (.v 0) q hq))) (.cons _ _ _ _ (.x _ _ (.y _ _ (.e 2 (.v 1) q hq))) .nil)
theorem door_met (os : Os) (args : Array Value) : laidMetH Tryd.prog Rows.floWholeRow.laid ((World.doorLaid Tryd.prog 1000 os).forCall (fun _ _ => 0) ⟨#[], args, []⟩).memory :=
  laidMetH_of_parts3 (fuel := 8) (laidMet_of_run' 8 (by kernel_rfl) (by kernel_rfl)) (by kernel_rfl) (by kernel_rfl)
theorem lifted (os : Os) (started : os.Started) (H : Type) (enc : TypeId × Value → H) :
    ReturnsInHanded {} Tryd.checked os 4 .any (fun w args => (Rows.floWholeSpec.pre enc Tryd.prog Tryd.f4 [] false w args ∧ laidMetH Tryd.prog Rows.floWholeRow.laid w) ∧ sizedMet enc Tryd.prog Tryd.f4 (OpenSpec.ofChange Rows.floWholeSpec) false w args)
      (Rows.floWholeSpec.post enc Tryd.prog Tryd.f4 false true false false) := by
  refine lift_shaped (C := Tryd.checked) (X := fun w _ => laidMetH Tryd.prog Rows.floWholeRow.laid w) (fun _ _ _ hh h => h.of_heap hh) own started (by kernel_rfl) Tryd.func4
    (ChangeSpec.witness_shaped (enc := enc) (C := Tryd.checked) (os := os) (X := fun w _ => laidMetH Tryd.prog Rows.floWholeRow.laid w) false (World.doorLaid Tryd.prog 1000 os) #[.int .i64 0, .int .u64 0] 8 rfl (World.shaped_of_RefB (by kernel_rfl) (by kernel_rfl)) (by kernel_rfl) (by kernel_rfl) (by kernel_rfl) (door_met os _)) ?_
  intro W base args ds gs before hval0 hW _ _ hL hS
  have hval : ∀ (j : Nat) t v, Tryd.f4.params[j]? = some t → args[j]? = some v → Value.okWide Tryd.prog W .any base t v := hval0
  have hW' := hW
  obtain ⟨p, q, hA0, hV, rfl, hfz, hnd⟩ := hW
  have hA : DataW.TrodAll enc Tryd.prog W 0 (fun _ => true) true Tryd.f4.params.toList args.toList ds p := hA0
  rw [Tryd.params4] at hA hval
  obtain ⟨v0, v1, d0, d1, p0, p1, rfl, rfl, rfl, h0, h1⟩ := trodAll_two hA
  obtain ⟨rfl, rfl⟩ := trodVars_none hV
  obtain ⟨a, rfl, rfl, rfl, w0⟩ := open_int Tryd.underlying2 (hval 0 2 v0 rfl rfl) h0
  obtain ⟨b, rfl, rfl, rfl, w1⟩ := open_int Tryd.underlying22 (hval 1 22 v1 rfl rfl) h1
  clear hA0 hval0
  simp only [List.append_nil] at hW'
  refine (answers hL hS a b w0 w1).mono fun e W' ⟨he, hk⟩ => ⟨_, he, ?_⟩
  exact post_plain (args := #[.int .i64 a, .int .u64 b]) hW' (fun _ _ _ => trodAll_mk1 (shut_bool Tryd.underlying4 _)) (fun sp => trodAll_mk2 (shut_int Tryd.underlying2 w0) (shut_int Tryd.underlying22 w1)) (fun _ => rfl) hk (ok_one (by kernel_rfl) rfl (okWide_bool_mk Tryd.underlying4 _))
theorem said : Rows.FloWholeSaid :=
  OpenClaim.holds_of_wide 4 Tryd.f4 rfl rfl rfl rfl rfl rfl rfl ⟨rfl, rfl, rfl, rfl, rfl⟩ rfl rfl rfl rfl rfl (by kernel_rfl) Tryd.func4 (by kernel_rfl)
    (of_decide_eq_true (by kernel_rfl)) (by unfold Func.isWrapper; first | (rw [if_pos (by decide +kernel)]; kernel_rfl) | (rw [if_neg (by decide +kernel)]; exact ⟨rfl, rfl⟩))
    (fun os started H enc _ => lifted os started H enc)
theorem card_holds : Rows.FloWholeCardSaid :=
  Claim7.holds_tied_plain_at .later [] Rows.floWholeCard.laidKinds true Rows.floWholeCard.stood.harness true
    said (fun _ h => by cases h) (by kernel_rfl) (fun _ h => by cases h) floWhole_row_tie rfl ⟨rfl, rfl⟩ (by kernel_rfl) rfl
    (fun f fn hf hfn => by
      obtain rfl : f = 4 := Option.some.inj ((show Tryd.prog.funcNamed "gristmill/gristmilllaw1.FloWhole" = some 4 by kernel_rfl).symm.trans hf) |>.symm
      obtain rfl : fn = Tryd.f4 := (Option.some.inj (Tryd.func4.symm.trans hfn)).symm
      exact ⟨by kernel_rfl, fun j t ht => by
        rw [Tryd.params4] at ht
        have hm : t ∈ [2, 22] := by simpa using Array.mem_of_getElem? ht
        have hall : ([2, 22].all fun u => !Tryd.prog.wantsStandIn u) = true := by kernel_rfl
        exact (show Tryd.prog.wantsStandIn t = false by simpa using List.all_eq_true.1 hall t hm)⟩)
    (by kernel_rfl)
#print axioms card_holds
end Go.Proofs.YtomjoiaahalahaaDoor.floWhole
