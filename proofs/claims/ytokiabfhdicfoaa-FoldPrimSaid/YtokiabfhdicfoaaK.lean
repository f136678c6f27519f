/- What all laws of this seat share: the table of temporaries, the walk of Number, what the listed errors lie as. -/
import Derived.Test.YtokiabfhdicfoaaEvX
import Derived.Test.YtokiabfhdicfoaaRows
import Derived.WalkKit
import Derived.WalkSpells
import Derived.WalkLawsBesides
namespace Go.Proofs.Ytokiabfhdicfoaa
open Go Go.RowKit Ev
set_option maxRecDepth 100000
noncomputable def kt : T Nat := (.node (.node (.node (.node (.node (.node (.node .leaf none (.node .leaf (some 1) .leaf)) none (.node .leaf (some 5) .leaf)) none (.node .leaf (some 13) (.node .leaf (some 19) .leaf))) none (.node (.node .leaf none (.node .leaf (some 1) .leaf)) (some 5) (.node .leaf (some 17351) (.node .leaf (some 1) .leaf)))) none (.node (.node (.node .leaf none (.node .leaf (some 5) .leaf)) none (.node .leaf (some 5) (.node .leaf (some 1) .leaf))) (some 7) (.node (.node .leaf none (.node .leaf (some 29) .leaf)) (some 15) (.node .leaf (some 19) (.node .leaf (some 1) .leaf))))) none (.node (.node (.node (.node .leaf none (.node .leaf (some 5) .leaf)) none (.node .leaf (some 455) (.node .leaf (some 1) .leaf))) none (.node (.node .leaf none (.node .leaf (some 435) .leaf)) (some 5) (.node .leaf (some 17351) (.node .leaf (some 1) .leaf)))) (some 0) (.node (.node (.node .leaf none (.node .leaf (some 19) .leaf)) none (.node .leaf (some 5) (.node .leaf (some 1) .leaf))) (some 221171) (.node (.node .leaf none (.node .leaf (some 51) .leaf)) (some 5) (.node .leaf (some 435) (.node .leaf (some 1) .leaf)))))) (some 0) (.node (.node (.node (.node (.node .leaf none (.node .leaf (some 5) .leaf)) none (.node .leaf (some 17351) (.node .leaf (some 1) .leaf))) none (.node (.node .leaf none (.node .leaf (some 5) .leaf)) (some 13) (.node .leaf (some 5) (.node .leaf (some 1) .leaf)))) none (.node (.node (.node .leaf none (.node .leaf (some 455) .leaf)) none (.node .leaf (some 5) (.node .leaf (some 1) .leaf))) (some 18014398510006259) (.node (.node .leaf none (.node .leaf (some 3) .leaf)) (some 13) (.node .leaf (some 1) (.node .leaf (some 1) .leaf))))) (some 0) (.node (.node (.node (.node .leaf none (.node .leaf (some 5) .leaf)) none (.node .leaf (some 137438954439) (.node .leaf (some 1) .leaf))) none (.node (.node .leaf none (.node .leaf (some 1) .leaf)) (some 19) (.node .leaf (some 967) (.node .leaf (some 1) .leaf)))) (some 1011) (.node (.node (.node .leaf none (.node .leaf (some 1) .leaf)) none (.node .leaf (some 509) (.node .leaf (some 1) .leaf))) (some 31) (.node (.node .leaf none (.node .leaf (some 5) .leaf)) (some 29) (.node .leaf (some 1) (.node .leaf (some 1) .leaf)))))))
noncomputable def CC : Cx := ⟨Try.prog, kt, T.leaf⟩
theorem mixed : Try.prog.follows .mixedOrders = true := by kernel_rfl
theorem own : ownKnob Try.prog.godebug = none := by kernel_rfl
theorem ov_ok (av : List Int) (gr : Nat → Nat) (N0 : Nat → Prop) : OvOk (syOf av gr) N0 Try.prog CC.ov := .nil
theorem big_heap {W : World} (h : W.ShapedOpen Try.prog) : 1 ≤ W.heap.size := size_of_shaped h 0 (Nat.le_of_ble_eq_true (by kernel_rfl)) (by kernel_rfl)
end Go.Proofs.Ytokiabfhdicfoaa
