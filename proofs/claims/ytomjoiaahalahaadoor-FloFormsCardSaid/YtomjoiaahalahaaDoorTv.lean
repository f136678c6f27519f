/- flo.value's callees, walked: Inf, Copysign. -/
import Derived.Test.YtomjoiaahalahaaDoorTy
namespace Go.Proofs.YtomjoiaahalahaaDoor
open Go Go.RowKit Go.Sort Go.Lib Ieee
set_option maxRecDepth 100000

theorem from64' (n : Int) (w : World) : (callFunc 14 #[.int .u64 n]).run Tryd.prog w = .ok (.value (.float .f64 n.toNat)) w := by
  rw [run_callFunc_extern (e := Extern.MathFloatBits.float64frombits) Tryd.func14 (by kernel_rfl) (by kernel_rfl) (by kernel_rfl) (by kernel_rfl)]
  rfl

theorem inf1 (w : World) : Calls Tryd.prog 18 #[.int .i64 1] w fun e w' => e = .returned (.float .f64 9218868437227405312) ∧ w' = w := by
  have hb := from64'
  go_enter Tryd.func18, Tryd.ntmps18
  go_wp2
  go_ret
  exact ⟨rfl, rfl⟩

theorem inf2 (w : World) : Calls Tryd.prog 18 #[.int .i64 (-1)] w fun e w' => e = .returned (.float .f64 18442240474082181120) ∧ w' = w := by
  have hb := from64'
  go_enter Tryd.func18, Tryd.ntmps18
  go_wp2
  go_ret
  exact ⟨rfl, rfl⟩

def signed (n s : Nat) : Nat := (bits .or .u64 (bits .andNot .u64 (n : Int) 9223372036854775808) (bits .and .u64 (s : Int) 9223372036854775808)).toNat
theorem copysign (n s : Nat) (w : World) : Calls Tryd.prog 34 #[.float .f64 n, .float .f64 s] w fun e w' => e = .returned (.float .f64 (signed n s)) ∧ w' = w := by
  have hb := bits64
  have hc := from64'
  go_enter Tryd.func34, Tryd.ntmps34
  go_wp2
  go_ret
  exact ⟨rfl, rfl⟩

theorem abs (n : Nat) (w : World) : Calls Tryd.prog 33 #[.float .f64 n] w fun e w' => e = .returned (.float .f64 (bits .andNot .u64 (n : Int) 9223372036854775808).toNat) ∧ w' = w := by
  have hb := bits64
  have hc := from64'
  go_enter Tryd.func33, Tryd.ntmps33
  go_wp2
  go_ret
  exact ⟨rfl, rfl⟩
end Go.Proofs.YtomjoiaahalahaaDoor
