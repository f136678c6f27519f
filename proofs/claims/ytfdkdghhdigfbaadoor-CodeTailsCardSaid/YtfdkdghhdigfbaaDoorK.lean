/- What all laws of this seat share: the table of temporaries, the walk of Number, what the listed errors lie as. -/
import Derived.Test.YtfdkdghhdigfbaaDoorEvX
import Derived.Test.YtfdkdghhdigfbaaDoorRows
import Derived.WalkKit
import Derived.WalkSpells
import Derived.WalkLawsBesides
namespace Go.Proofs.YtfdkdghhdigfbaaDoor
open Go Go.RowKit Ev
set_option maxRecDepth 100000
noncomputable def kt : T Nat := (.node (.node (.node (.node (.node (.node .leaf none (.node .leaf (some 1) .leaf)) none (.node .leaf (some 19) (.node .leaf (some 1) .leaf))) none (.node (.node .leaf none (.node .leaf (some 1) .leaf)) (some 29) (.node .leaf (some 2115620184571891660379231) .leaf))) none (.node (.node (.node .leaf none (.node .leaf (some 1) .leaf)) none (.node .leaf (some 29) (.node .leaf (some 0) .leaf))) (some 253) (.node (.node .leaf none (.node .leaf (some 1) .leaf)) (some 509) (.node .leaf (some 67108955) .leaf)))) none (.node (.node (.node (.node .leaf none (.node .leaf (some 1) .leaf)) none (.node .leaf (some 51) (.node .leaf (some 0) .leaf))) none (.node (.node .leaf none (.node .leaf (some 1) .leaf)) (some 9756578350506142414419724084167811488819885) (.node .leaf (some 140737488355515) .leaf))) (some 0) (.node (.node (.node .leaf none (.node .leaf (some 1) .leaf)) none (.node .leaf (some 91) (.node .leaf (some 0) .leaf))) (some 61) (.node (.node .leaf none (.node .leaf (some 1) .leaf)) (some 19) (.node .leaf (some 19) .leaf))))) (some 0) (.node (.node (.node (.node (.node .leaf none (.node .leaf (some 1) .leaf)) none (.node .leaf (some 51) (.node .leaf (some 5) .leaf))) none (.node (.node .leaf none (.node .leaf (some 1) .leaf)) (some 115) (.node .leaf (some 61) .leaf))) none (.node (.node (.node .leaf none (.node .leaf (some 1) .leaf)) none (.node .leaf (some 253) (.node .leaf (some 0) .leaf))) (some 7) (.node (.node .leaf none (.node .leaf (some 1) .leaf)) (some 1278813932664540053428224229659828360721459053301) (.node .leaf (some 5) .leaf)))) (some 0) (.node (.node (.node (.node .leaf none (.node .leaf (some 1) .leaf)) none (.node .leaf (some 199) (.node .leaf (some 0) .leaf))) none (.node (.node .leaf none (.node .leaf (some 1) .leaf)) (some 5) (.node .leaf (some 27) .leaf))) (some 11207) (.node (.node (.node .leaf none (.node .leaf (some 1) .leaf)) none (.node .leaf (some 5) (.node .leaf (some 0) .leaf))) (some 51) (.node (.node .leaf none (.node .leaf (some 1) .leaf)) (some 979) (.node .leaf (some 435) .leaf))))))
noncomputable def CC : Cx := ⟨Tryd.prog, kt, T.leaf.set 7 numOv⟩
theorem mixed : Tryd.prog.follows .mixedOrders = true := by kernel_rfl
theorem own : ownKnob Tryd.prog.godebug = none := by kernel_rfl
theorem number_fn : FnOk Tryd.prog 7 := ⟨_, _, Tryd.func7, rfl, by kernel_rfl⟩
set_option maxHeartbeats 400000 in
theorem number_any (n m : Int) (w : World) (hm : 0 < m) (hm2 : m < 1000000) :
    Calls Tryd.prog 7 #[.int .i64 n, .int .i64 m] w fun e w' => e = .returned (.int .i64 (n % m)) ∧ w' = w := by
  go_enter Tryd.func7, Tryd.ntmps7
  go_wp2
  · go_ret
    have hn : n.tmod m < 0 := by assumption
    have h1 : (-n).tmod m < m := Int.tmod_lt_of_pos _ hm
    rw [Int.neg_tmod] at h1
    have h2 : wrap64 (n.tmod m + m) = n.tmod m + m := by unfold wrap64; omega
    have h3 := tmod_emod n m hm
    rw [if_pos hn] at h3
    refine ⟨?_, rfl⟩
    show Ending.returned (.int .i64 (wrap64 (n.tmod m + m))) = _
    rw [h2, h3]
  · go_ret
    have hn : 0 ≤ n.tmod m := by assumption
    have h3 := tmod_emod n m hm
    rw [if_neg (by omega)] at h3
    refine ⟨?_, rfl⟩
    show Ending.returned (.int .i64 (n.tmod m)) = _
    rw [h3]
theorem num_ok (av : List Int) (gr : Nat → Nat) (N0 : Nat → Prop) : OvOk (syOf av gr) N0 Tryd.prog (T.leaf.set 7 numOv) := numOv_ok number_fn fun n m w h1 h2 => number_any n m w h1 h2
theorem ov_ok (av : List Int) (gr : Nat → Nat) (N0 : Nat → Prop) : OvOk (syOf av gr) N0 Tryd.prog CC.ov := num_ok av gr N0
theorem big_heap {W : World} (h : W.ShapedOpen Tryd.prog) : 3 ≤ W.heap.size := size_of_shaped h 2 (Nat.le_of_ble_eq_true (by kernel_rfl)) (by kernel_rfl)
theorem star : "*" ++ "errors.errorString" = "*errors.errorString" := by decide
theorem rowSent (u : TypeId) (h : Tryd.prog.typeName? 3 u = some "*errors.errorString") : u = 77 :=
  typeName_ptr_named (nm := "errors.errorString") (by rw [star]; kernel_rfl) (by kernel_rfl) (by decide) u (by rw [star]; exact h)
theorem sentFn {W : World} {text : List UInt8} {n : String} {g0 : Nat} (hg0 : Tryd.prog.globalNamed n = some g0) (ht0 : (Tryd.prog.globals[g0]?).map (·.type) = some 26) :
    ItemFn Tryd.prog W 77 (n, .iface "*errors.errorString" (.ptr (.agg [.lit (.string text)]))) (.sent g0 text) :=
  sent_fn Tryd.underlying26 rowSent Tryd.underlying77 Tryd.underlying94 rfl rfl Tryd.underlying9 (by kernel_rfl) (by kernel_rfl) hg0 ht0
end Go.Proofs.YtfdkdghhdigfbaaDoor
