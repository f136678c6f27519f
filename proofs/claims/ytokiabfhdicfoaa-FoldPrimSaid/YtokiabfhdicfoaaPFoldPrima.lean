/- The law FoldPrim: the memory at the beginning; its calls. -/
import Derived.Test.YtokiabfhdicfoaaK
import Derived.Test.YtokiabfhdicfoaaAr
namespace Go.Proofs.Ytokiabfhdicfoaa.foldPrim
open Go Go.RowKit Ev
set_option maxRecDepth 1000000
noncomputable def el (i : Nat) (q : Orc) : List V := [.x (.y (.e 0 (.v (2 * i)) q)), .x (.y (.us (i + 1) 0 9223372036854775807 [])), .x (.y (.e 0 (.v (2 * i + 1)) q))]
noncomputable def tr (m : Nat) (q : Orc) : T (List V) := Nat.rec (motive := fun _ => T (List V)) (.node .leaf (some (el 0 q)) .leaf) (fun _ _ => .node .leaf (some (el 0 q)) (.node .leaf (some (el 1 q)) .leaf)) (Nat.sub m 1)
noncomputable def sA (m : Nat) (q : Orc) : S := ⟨(T.leaf : T O).set 1 (.cells 3 m (tr m q) true 1), 2, 2⟩
noncomputable def s0 : S := ⟨.leaf, 1, 1⟩
def ne : List (Nat × Nat) := [(1, 43), (1, 45), (1, 42), (3, 6580598), (3, 7171940), (1, 60), (1, 61), (2, 26155), (2, 26157), (2, 26154), (2, 26159), (2, 26172), (2, 26173), (5, 439905902964), (5, 512853240933), (3, 7562609)]
noncomputable def runU (lo hi : Nat) (l : List (Nat × Nat)) (a b : Nat) : Bool := isT ((ev CC 100).call 3 [.x (.y (.us 0 lo hi l)), .x (.y (.ul 9 a b))] s0)
noncomputable def runD (n c a b : Nat) : Bool := isT ((ev CC 100).call 3 [.s n c, .x (.y (.ul 9 a b))] s0)
noncomputable def runE (n c m : Nat) (q : Orc) : Bool := isT ((ev CC 100).call 3 [.s n c, .sl 1 0 m m 3 false] (sA m q))
noncomputable abbrev sy (a b c d : Int) (gr : Nat → Nat) (tx : Nat → ByteArray) : Sy := syOf [a, b, c, d] gr tx
noncomputable abbrev cd (a b c d : Int) (gr : Nat → Nat) (tx : Nat → ByteArray) (op : Nat) (x y : Tm) : Bool := cdDen op (den (sy a b c d gr tx) x) (den (sy a b c d gr tx) y)
end Go.Proofs.Ytokiabfhdicfoaa.foldPrim
