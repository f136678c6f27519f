/- flo.value's callees, walked: Inf, Copysign. -/
import Derived.Test.YtnggflfjmgbncaaDoorTy
namespace Go.Proofs.YtnggflfjmgbncaaDoor
open Go Go.RowKit Go.Sort Go.Lib Ieee
set_option maxRecDepth 100000

theorem from64' (n : Int) (w : World) : (callFunc 28 #[.int .u64 n]).run Tryd.prog w = .ok (.value (.float .f64 n.toNat)) w := by
  rw [run_callFunc_extern (e := Extern.MathFloatBits.float64frombits) Tryd.func28 (by kernel_rfl) (by kernel_rfl) (by kernel_rfl) (by kernel_rfl)]
  rfl

theorem inf1 (w : World) : Calls Tryd.prog 47 #[.int .i64 1] w fun e w' => e = .returned (.float .f64 9218868437227405312) ∧ w' = w := by
  have hb := from64'
  go_enter Tryd.func47, Tryd.ntmps47
  go_wp2
  go_ret
  exact ⟨rfl, rfl⟩

theorem inf2 (w : World) : Calls Tryd.prog 47 #[.int .i64 (-1)] w fun e w' => e = .returned (.float .f64 18442240474082181120) ∧ w' = w := by
  have hb := from64'
  go_enter Tryd.func47, Tryd.ntmps47
  go_wp2
  go_ret
  exact ⟨rfl, rfl⟩

def signed (n s : Nat) : Nat := (bits .or .u64 (bits .andNot .u64 (n : Int) 9223372036854775808) (bits .and .u64 (s : Int) 9223372036854775808)).toNat
theorem copysign (n s : Nat) (w : World) : Calls Tryd.prog 53 #[.float .f64 n, .float .f64 s] w fun e w' => e = .returned (.float .f64 (signed n s)) ∧ w' = w := by
  have hb := bits64
  have hc := from64'
  go_enter Tryd.func53, Tryd.ntmps53
  go_wp2
  go_ret
  exact ⟨rfl, rfl⟩

theorem abs (n : Nat) (w : World) : Calls Tryd.prog 56 #[.float .f64 n] w fun e w' => e = .returned (.float .f64 (bits .andNot .u64 (n : Int) 9223372036854775808).toNat) ∧ w' = w := by
  have hb := bits64
  have hc := from64'
  go_enter Tryd.func56, Tryd.ntmps56
  go_wp2
  go_ret
  exact ⟨rfl, rfl⟩
end Go.Proofs.YtnggflfjmgbncaaDoor
