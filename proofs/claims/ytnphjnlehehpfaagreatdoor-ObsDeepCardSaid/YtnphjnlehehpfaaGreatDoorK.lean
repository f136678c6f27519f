/- What all laws of this seat share: the table of temporaries, the walk of Number, what the listed errors lie as. -/
import Derived.Test.YtnphjnlehehpfaaGreatDoorEvX
import Derived.Test.YtnphjnlehehpfaaGreatDoorRows
import Derived.WalkKit
import Derived.WalkSpells
import Derived.WalkLawsBesides
namespace Go.Proofs.YtnphjnlehehpfaaGreatDoor
open Go Go.RowKit Ev
set_option maxRecDepth 100000
noncomputable def kt : T Nat := (.node (.node (.node (.node (.node (.node (.node (.node .leaf none (.node .leaf (some 0) .leaf)) none (.node .leaf (some 371) .leaf)) none (.node .leaf (some 5) (.node .leaf (some 5) .leaf))) none (.node (.node (.node .leaf none (.node .leaf (some 0) .leaf)) none (.node .leaf (some 19) .leaf)) (some 252201579132747947) (.node .leaf (some 5) (.node .leaf (some 1) .leaf)))) none (.node (.node (.node (.node .leaf none (.node .leaf (some 0) .leaf)) none (.node .leaf (some 19) .leaf)) none (.node .leaf (some 51) (.node .leaf (some 3) .leaf))) (some 19) (.node (.node (.node .leaf none (.node .leaf (some 0) .leaf)) none (.node .leaf (some 5) .leaf)) (some 31) (.node .leaf (some 16381) (.node .leaf (some 1) .leaf))))) none (.node (.node (.node (.node (.node .leaf none (.node .leaf (some 0) .leaf)) none (.node .leaf (some 13) .leaf)) none (.node .leaf (some 221) (.node .leaf (some 19) .leaf))) none (.node (.node (.node .leaf none (.node .leaf (some 0) .leaf)) none (.node .leaf (some 243) .leaf)) (some 17181966391) (.node .leaf (some 1) (.node .leaf (some 1) .leaf)))) (some 1) (.node (.node (.node (.node .leaf none (.node .leaf (some 0) .leaf)) none (.node .leaf (some 13) .leaf)) none (.node .leaf (some 1) (.node .leaf (some 1) .leaf))) (some 147591966988320112895) (.node (.node .leaf none (.node .leaf (some 5) .leaf)) (some 51) (.node .leaf (some 1) (.node .leaf (some 1) .leaf)))))) none (.node (.node (.node (.node (.node (.node .leaf none (.node .leaf (some 0) .leaf)) none (.node .leaf (some 69575) .leaf)) none (.node .leaf (some 5) (.node .leaf (some 13) .leaf))) none (.node (.node (.node .leaf none (.node .leaf (some 0) .leaf)) none (.node .leaf (some 71) .leaf)) (some 31) (.node .leaf (some 5) (.node .leaf (some 1) .leaf)))) none (.node (.node (.node (.node .leaf none (.node .leaf (some 0) .leaf)) none (.node .leaf (some 19) .leaf)) none (.node .leaf (some 29) (.node .leaf (some 1) .leaf))) (some 469762231) (.node (.node .leaf none (.node .leaf (some 5) .leaf)) (some 31) (.node .leaf (some 1) (.node .leaf (some 1) .leaf))))) (some 0) (.node (.node (.node (.node (.node .leaf none (.node .leaf (some 0) .leaf)) none (.node .leaf (some 967) .leaf)) none (.node .leaf (some 61) (.node .leaf (some 5) .leaf))) none (.node (.node (.node .leaf none (.node .leaf (some 0) .leaf)) none (.node .leaf (some 19) .leaf)) (some 5) (.node .leaf (some 5) (.node .leaf (some 1) .leaf)))) (some 15) (.node (.node (.node (.node .leaf none (.node .leaf (some 0) .leaf)) none (.node .leaf (some 523295) .leaf)) none (.node .leaf (some 19) (.node .leaf (some 1) .leaf))) (some 27) (.node (.node .leaf none (.node .leaf (some 61) .leaf)) (some 253) (.node .leaf (some 5) (.node .leaf (some 1) .leaf))))))) (some 0) (.node (.node (.node (.node (.node (.node (.node .leaf none (.node .leaf (some 0) .leaf)) none (.node .leaf (some 5) .leaf)) none (.node .leaf (some 5) (.node .leaf (some 16371) .leaf))) none (.node (.node (.node .leaf none (.node .leaf (some 0) .leaf)) none (.node .leaf (some 19) .leaf)) (some 5) (.node .leaf (some 19) (.node .leaf (some 1) .leaf)))) none (.node (.node (.node (.node .leaf none (.node .leaf (some 0) .leaf)) none (.node .leaf (some 19) .leaf)) none (.node .leaf (some 1) (.node .leaf (some 509) .leaf))) (some 15) (.node (.node .leaf none (.node .leaf (some 5) .leaf)) (some 2045) (.node .leaf (some 51) (.node .leaf (some 1) .leaf))))) none (.node (.node (.node (.node (.node .leaf none (.node .leaf (some 0) .leaf)) none (.node .leaf (some 115) .leaf)) none (.node .leaf (some 435) (.node .leaf (some 3) .leaf))) none (.node (.node (.node .leaf none (.node .leaf (some 0) .leaf)) none (.node .leaf (some 985162418489213) .leaf)) (some 5) (.node .leaf (some 5) (.node .leaf (some 1) .leaf)))) (some 51) (.node (.node (.node (.node .leaf none (.node .leaf (some 0) .leaf)) none (.node .leaf (some 131059) .leaf)) none (.node .leaf (some 19) (.node .leaf (some 1) .leaf))) (some 8135) (.node (.node .leaf none (.node .leaf (some 5) .leaf)) (some 5) (.node .leaf (some 755) (.node .leaf (some 1) .leaf)))))) (some 0) (.node (.node (.node (.node (.node (.node .leaf none (.node .leaf (some 0) .leaf)) none (.node .leaf (some 3103) .leaf)) none (.node .leaf (some 5) (.node .leaf (some 5) .leaf))) none (.node (.node (.node .leaf none (.node .leaf (some 0) .leaf)) none (.node .leaf (some 71) .leaf)) (some 31) (.node .leaf (some 29) (.node .leaf (some 1) .leaf)))) none (.node (.node (.node (.node .leaf none (.node .leaf (some 0) .leaf)) none (.node .leaf (some 5) .leaf)) none (.node .leaf (some 19) (.node .leaf (some 1) .leaf))) (some 7) (.node (.node .leaf none (.node .leaf (some 5) .leaf)) (some 29) (.node .leaf (some 19) (.node .leaf (some 1) .leaf))))) (some 32243) (.node (.node (.node (.node (.node .leaf none (.node .leaf (some 0) .leaf)) none (.node .leaf (some 61) .leaf)) none (.node .leaf (some 29) (.node .leaf (some 2035) .leaf))) none (.node (.node (.node .leaf none (.node .leaf (some 0) .leaf)) none (.node .leaf (some 243) .leaf)) (some 19) (.node .leaf (some 455) (.node .leaf (some 1) .leaf)))) (some 61) (.node (.node (.node (.node .leaf none (.node .leaf (some 0) .leaf)) none (.node .leaf (some 4436815786425030573372052062151) .leaf)) none (.node .leaf (some 5) (.node .leaf (some 1) .leaf))) (some 5) (.node (.node .leaf none (.node .leaf (some 13) .leaf)) (some 5) (.node .leaf (some 1) (.node .leaf (some 0) .leaf))))))))
noncomputable def CC : Cx := ⟨Tryz.prog, kt, T.leaf.set 5 numOv⟩
theorem mixed : Tryz.prog.follows .mixedOrders = true := by kernel_rfl
theorem own : ownKnob Tryz.prog.godebug = none := by kernel_rfl
theorem number_fn : FnOk Tryz.prog 5 := ⟨_, _, Tryz.func5, rfl, by kernel_rfl⟩
set_option maxHeartbeats 400000 in
theorem number_any (n m : Int) (w : World) (hm : 0 < m) (hm2 : m < 1000000) :
    Calls Tryz.prog 5 #[.int .i64 n, .int .i64 m] w fun e w' => e = .returned (.int .i64 (n % m)) ∧ w' = w := by
  go_enter Tryz.func5, Tryz.ntmps5
  go_wp2
  · go_ret
    have hn : n.tmod m < 0 := by assumption
    have h1 : (-n).tmod m < m := Int.tmod_lt_of_pos _ hm
    rw [Int.neg_tmod] at h1
    have h2 : wrap64 (n.tmod m + m) = n.tmod m + m := by unfold wrap64; omega
    have h3 := tmod_emod n m hm
    rw [if_pos hn] at h3
    refine ⟨?_, rfl⟩
    show Ending.returned (.int .i64 (wrap64 (n.tmod m + m))) = _
    rw [h2, h3]
  · go_ret
    have hn : 0 ≤ n.tmod m := by assumption
    have h3 := tmod_emod n m hm
    rw [if_neg (by omega)] at h3
    refine ⟨?_, rfl⟩
    show Ending.returned (.int .i64 (n.tmod m)) = _
    rw [h3]
theorem num_ok (av : List Int) (gr : Nat → Nat) (N0 : Nat → Prop) : OvOk (syOf av gr) N0 Tryz.prog (T.leaf.set 5 numOv) := numOv_ok number_fn fun n m w h1 h2 => number_any n m w h1 h2
theorem ov_ok (av : List Int) (gr : Nat → Nat) (N0 : Nat → Prop) : OvOk (syOf av gr) N0 Tryz.prog CC.ov := num_ok av gr N0
theorem big_heap {W : World} (h : W.ShapedOpen Tryz.prog) : 25 ≤ W.heap.size := size_of_shaped h 24 (Nat.le_of_ble_eq_true (by kernel_rfl)) (by kernel_rfl)
theorem star : "*" ++ "errors.errorString" = "*errors.errorString" := by decide
theorem rowSent (u : TypeId) (h : Tryz.prog.typeName? 3 u = some "*errors.errorString") : u = 130 :=
  typeName_ptr_named (nm := "errors.errorString") (by rw [star]; kernel_rfl) (by kernel_rfl) (by decide) u (by rw [star]; exact h)
theorem sentFn {W : World} {text : List UInt8} {n : String} {g0 : Nat} (hg0 : Tryz.prog.globalNamed n = some g0) (ht0 : (Tryz.prog.globals[g0]?).map (·.type) = some 29) :
    ItemFn Tryz.prog W 130 (n, .iface "*errors.errorString" (.ptr (.agg [.lit (.string text)]))) (.sent g0 text) :=
  sent_fn Tryz.underlying29 rowSent Tryz.underlying130 Tryz.underlying132 rfl rfl Tryz.underlying9 (by kernel_rfl) (by kernel_rfl) hg0 ht0
end Go.Proofs.YtnphjnlehehpfaaGreatDoor
