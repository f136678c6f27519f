/- What all laws of this seat share: the table of temporaries, the walk of Number, what the listed errors lie as. -/
import Derived.Test.YtnbmmcopjognoaaDoorEvX
import Derived.Test.YtnbmmcopjognoaaDoorRows
import Derived.WalkKit
import Derived.WalkSpells
import Derived.WalkLawsBesides
namespace Go.Proofs.YtnbmmcopjognoaaDoor
open Go Go.RowKit Ev
set_option maxRecDepth 100000
noncomputable def kt : T Nat := (.node (.node (.node (.node (.node (.node (.node (.node .leaf none (.node .leaf (some 1) .leaf)) none (.node .leaf (some 12583879) .leaf)) none (.node .leaf (some 31) (.node .leaf (some 29) .leaf))) none (.node (.node (.node .leaf none (.node .leaf (some 0) .leaf)) none (.node .leaf (some 7) .leaf)) (some 5) (.node .leaf (some 524303) (.node .leaf (some 29) .leaf)))) none (.node (.node (.node (.node .leaf none (.node .leaf (some 0) .leaf)) none (.node .leaf (some 137438953851) .leaf)) none (.node .leaf (some 7) (.node .leaf (some 1) .leaf))) (some 8179) (.node (.node (.node .leaf none (.node .leaf (some 0) .leaf)) none (.node .leaf (some 5) .leaf)) (some 39) (.node .leaf (some 246290604622715) (.node .leaf (some 1) .leaf))))) none (.node (.node (.node (.node (.node .leaf none (.node .leaf (some 1) .leaf)) none (.node .leaf (some 13) .leaf)) none (.node .leaf (some 1) (.node .leaf (some 5) .leaf))) none (.node (.node (.node .leaf none (.node .leaf (some 0) .leaf)) none (.node .leaf (some 5) .leaf)) (some 19) (.node .leaf (some 755) (.node .leaf (some 19) .leaf)))) (some 274877915123) (.node (.node (.node (.node .leaf none (.node .leaf (some 0) .leaf)) none (.node .leaf (some 5) .leaf)) none (.node .leaf (some 5) (.node .leaf (some 455) .leaf))) (some 5) (.node (.node (.node .leaf none (.node .leaf (some 0) .leaf)) none (.node .leaf (some 5) .leaf)) (some 63) (.node .leaf (some 1) (.node .leaf (some 1) .leaf)))))) none (.node (.node (.node (.node (.node (.node .leaf none (.node .leaf (some 1) .leaf)) none (.node .leaf (some 16924961474604817036753607) .leaf)) none (.node .leaf (some 234882989) (.node .leaf (some 455) .leaf))) none (.node (.node (.node .leaf none (.node .leaf (some 0) .leaf)) none (.node .leaf (some 5) .leaf)) (some 516508834064102358783) (.node .leaf (some 27) (.node .leaf (some 435) .leaf)))) none (.node (.node (.node (.node .leaf none (.node .leaf (some 0) .leaf)) none (.node .leaf (some 7) .leaf)) none (.node .leaf (some 55) (.node .leaf (some 5) .leaf))) (some 51) (.node (.node (.node .leaf none (.node .leaf (some 0) .leaf)) none (.node .leaf (some 5) .leaf)) (some 79) (.node .leaf (some 27) (.node .leaf (some 1) .leaf))))) (some 0) (.node (.node (.node (.node (.node .leaf none (.node .leaf (some 1) .leaf)) none (.node .leaf (some 523295) .leaf)) none (.node .leaf (some 1836963) (.node .leaf (some 13) .leaf))) none (.node (.node (.node .leaf none (.node .leaf (some 0) .leaf)) none (.node .leaf (some 3135) .leaf)) (some 15) (.node .leaf (some 19) (.node .leaf (some 1) .leaf)))) (some 8179) (.node (.node (.node (.node .leaf none (.node .leaf (some 0) .leaf)) none (.node .leaf (some 461527) .leaf)) none (.node .leaf (some 1837) (.node .leaf (some 1) .leaf))) (some 29) (.node (.node (.node .leaf none (.node .leaf (some 0) .leaf)) none (.node .leaf (some 29) .leaf)) (some 5) (.node .leaf (some 91) (.node .leaf (some 1) .leaf))))))) (some 0) (.node (.node (.node (.node (.node (.node (.node .leaf none (.node .leaf (some 1) .leaf)) none (.node .leaf (some 119) .leaf)) none (.node .leaf (some 29) (.node .leaf (some 17351) .leaf))) none (.node (.node (.node .leaf none (.node .leaf (some 0) .leaf)) none (.node .leaf (some 5) .leaf)) (some 27) (.node .leaf (some 2115620184325601055737303) (.node .leaf (some 3) .leaf)))) none (.node (.node (.node (.node .leaf none (.node .leaf (some 0) .leaf)) none (.node .leaf (some 8796093026311) .leaf)) none (.node .leaf (some 98423) (.node .leaf (some 1) .leaf))) (some 1) (.node (.node (.node .leaf none (.node .leaf (some 0) .leaf)) none (.node .leaf (some 274877907195) .leaf)) (some 19) (.node .leaf (some 1) (.node .leaf (some 1) .leaf))))) none (.node (.node (.node (.node (.node .leaf none (.node .leaf (some 1) .leaf)) none (.node .leaf (some 131059) .leaf)) none (.node .leaf (some 7) (.node .leaf (some 5) .leaf))) none (.node (.node (.node .leaf none (.node .leaf (some 0) .leaf)) none (.node .leaf (some 5) .leaf)) (some 14527) (.node .leaf (some 1) (.node .leaf (some 1) .leaf)))) (some 32755) (.node (.node (.node (.node .leaf none (.node .leaf (some 0) .leaf)) none (.node .leaf (some 5) .leaf)) none (.node .leaf (some 29) (.node .leaf (some 19) .leaf))) (some 1055) (.node (.node (.node .leaf none (.node .leaf (some 0) .leaf)) none (.node .leaf (some 5) .leaf)) (some 19) (.node .leaf (some 143) (.node .leaf (some 1) .leaf)))))) (some 0) (.node (.node (.node (.node (.node (.node .leaf none (.node .leaf (some 1) .leaf)) none (.node .leaf (some 5) .leaf)) none (.node .leaf (some 30064771415) (.node .leaf (some 137438954439) .leaf))) none (.node (.node (.node .leaf none (.node .leaf (some 0) .leaf)) none (.node .leaf (some 5) .leaf)) (some 19) (.node .leaf (some 18889465931482338967495) (.node .leaf (some 5) .leaf)))) none (.node (.node (.node (.node .leaf none (.node .leaf (some 0) .leaf)) none (.node .leaf (some 2007) .leaf)) none (.node .leaf (some 5) (.node .leaf (some 5) .leaf))) (some 19) (.node (.node (.node .leaf none (.node .leaf (some 0) .leaf)) none (.node .leaf (some 87) .leaf)) (some 19) (.node .leaf (some 251) (.node .leaf (some 1) .leaf))))) (some 2105331) (.node (.node (.node (.node (.node .leaf none (.node .leaf (some 5) .leaf)) none (.node .leaf (some 28763) .leaf)) none (.node .leaf (some 7) (.node .leaf (some 262231) .leaf))) none (.node (.node (.node .leaf none (.node .leaf (some 0) .leaf)) none (.node .leaf (some 7) .leaf)) (some 3) (.node .leaf (some 5) (.node .leaf (some 1) .leaf)))) (some 262131) (.node (.node (.node (.node .leaf none (.node .leaf (some 0) .leaf)) none (.node .leaf (some 35184401973171) .leaf)) none (.node .leaf (some 4035225266124079859) (.node .leaf (some 1) .leaf))) (some 5) (.node (.node (.node .leaf none (.node .leaf (some 0) .leaf)) none (.node .leaf (some 5) .leaf)) (some 5) (.node .leaf (some 1) (.node .leaf (some 1) .leaf))))))))
noncomputable def CC : Cx := ⟨Tryd.prog, kt, T.leaf.set 10 numOv⟩
theorem mixed : Tryd.prog.follows .mixedOrders = true := by kernel_rfl
theorem own : ownKnob Tryd.prog.godebug = none := by kernel_rfl
theorem number_fn : FnOk Tryd.prog 10 := ⟨_, _, Tryd.func10, rfl, by kernel_rfl⟩
set_option maxHeartbeats 400000 in
theorem number_any (n m : Int) (w : World) (hm : 0 < m) (hm2 : m < 1000000) :
    Calls Tryd.prog 10 #[.int .i64 n, .int .i64 m] w fun e w' => e = .returned (.int .i64 (n % m)) ∧ w' = w := by
  go_enter Tryd.func10, Tryd.ntmps10
  go_wp2
  · go_ret
    have hn : n.tmod m < 0 := by assumption
    have h1 : (-n).tmod m < m := Int.tmod_lt_of_pos _ hm
    rw [Int.neg_tmod] at h1
    have h2 : wrap64 (n.tmod m + m) = n.tmod m + m := by unfold wrap64; omega
    have h3 := tmod_emod n m hm
    rw [if_pos hn] at h3
    refine ⟨?_, rfl⟩
    show Ending.returned (.int .i64 (wrap64 (n.tmod m + m))) = _
    rw [h2, h3]
  · go_ret
    have hn : 0 ≤ n.tmod m := by assumption
    have h3 := tmod_emod n m hm
    rw [if_neg (by omega)] at h3
    refine ⟨?_, rfl⟩
    show Ending.returned (.int .i64 (n.tmod m)) = _
    rw [h3]
theorem ov_ok (av : List Int) (N0 : Nat → Prop) : OvOk (syOf av) N0 Tryd.prog CC.ov := numOv_ok number_fn fun n m w h1 h2 => number_any n m w h1 h2
theorem big_heap {W : World} (h : W.ShapedOpen Tryd.prog) : 22 ≤ W.heap.size := size_of_shaped h 21 (Nat.le_of_ble_eq_true (by kernel_rfl)) (by kernel_rfl)
theorem star : "*" ++ "errors.errorString" = "*errors.errorString" := by decide
theorem rowSent (u : TypeId) (h : Tryd.prog.typeName? 3 u = some "*errors.errorString") : u = 182 :=
  typeName_ptr_named (nm := "errors.errorString") (by rw [star]; kernel_rfl) (by kernel_rfl) (by decide) u (by rw [star]; exact h)
theorem sentFn {W : World} {text : List UInt8} {n : String} {g0 : Nat} (hg0 : Tryd.prog.globalNamed n = some g0) (ht0 : (Tryd.prog.globals[g0]?).map (·.type) = some 45) :
    ItemFn Tryd.prog W 182 (n, .iface "*errors.errorString" (.ptr (.agg [.lit (.string text)]))) (.sent g0 text) :=
  sent_fn Tryd.underlying45 rowSent Tryd.underlying182 Tryd.underlying199 rfl rfl Tryd.underlying9 (by kernel_rfl) (by kernel_rfl) hg0 ht0
end Go.Proofs.YtnbmmcopjognoaaDoor
