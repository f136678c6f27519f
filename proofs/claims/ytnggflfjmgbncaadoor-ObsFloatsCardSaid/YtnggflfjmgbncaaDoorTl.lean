/- math.Ldexp, walked at a float that is a number, greater than 0, no lesser than the least normal one. -/
import Derived.Test.YtnggflfjmgbncaaDoorProg
import Derived.Laws.Cover2
import Derived.Laws.Cover3
import Derived.Laws.Externs
import Derived.Laws.FloatArith
import Derived.WalkKit
import Derived.BigCall
import Derived.BigGuard
namespace Go.Proofs.YtnggflfjmgbncaaDoor
open Go Go.RowKit Ieee
set_option maxRecDepth 100000
namespace L
theorem bits64 (n : Nat) (w : World) : (callFunc 26 #[.float .f64 n]).run Tryd.prog w = .ok (.value (.int .u64 (n : Int))) w := by
  rw [run_callFunc_extern (e := Extern.MathFloatBits.float64bits) Tryd.func26 (by kernel_rfl) (by kernel_rfl) (by kernel_rfl) (by kernel_rfl)]
  rfl
theorem from64' (n : Int) (w : World) : (callFunc 28 #[.int .u64 n]).run Tryd.prog w = .ok (.value (.float .f64 n.toNat)) w := by
  rw [run_callFunc_extern (e := Extern.MathFloatBits.float64frombits) Tryd.func28 (by kernel_rfl) (by kernel_rfl) (by kernel_rfl) (by kernel_rfl)]
  rfl

theorem isNaN (n : Nat) (w : World) : Calls Tryd.prog 30 #[.float .f64 n] w fun e w' => e = .returned (.bool (double.order n n != some .eq)) ∧ w' = w := by
  go_enter Tryd.func30, Tryd.ntmps30
  go_wp2
  go_ret
  exact ⟨rfl, rfl⟩

theorem abs (n : Nat) (w : World) : Calls Tryd.prog 56 #[.float .f64 n] w fun e w' => e = .returned (.float .f64 (bits .andNot .u64 (n : Int) 9223372036854775808).toNat) ∧ w' = w := by
  have hb := bits64
  have hc := from64'
  go_enter Tryd.func56, Tryd.ntmps56
  go_wp2
  go_ret
  exact ⟨rfl, rfl⟩

theorem isInf0 (n : Nat) (ha : (bits .andNot .u64 (n : Int) 9223372036854775808).toNat = n) (h1 : (double.order n 9218868437227405311 == some .gt) = false) (w : World) : Calls Tryd.prog 35 #[.float .f64 n, .int .i64 0] w fun e w' => e = .returned (.bool false) ∧ w' = w := by
  have hA := abs n
  rw [ha] at hA
  go_enter Tryd.func35, Tryd.ntmps35
  go_wp2_with (go_at_call 56; refine (hA _).mono ?_; rintro e w' ⟨rfl, rfl⟩)
  go_ret
  exact ⟨congrArg (fun b => Ending.returned (.bool b)) h1, rfl⟩

theorem normalize (n : Nat) (ha : (bits .andNot .u64 (n : Int) 9223372036854775808).toNat = n) (h1 : (double.order n 4503599627370496 == some .lt) = false) (w : World) : Calls Tryd.prog 95 #[.float .f64 n] w fun e w' => e = .returned (.tuple #[.float .f64 n, .int .i64 0]) ∧ w' = w := by
  have hA := abs n
  rw [ha] at hA
  go_enter Tryd.func95, Tryd.ntmps95
  have h1' : (FloatKind.f64.format.order n 4503599627370496 == some .lt) = false := h1
  have h1' : (FloatKind.f64.format.order n 4503599627370496 == some .lt) = false := h1
  go_wp2_with (go_at_call 56; refine (hA _).mono ?_; rintro e w' ⟨rfl, rfl⟩)
  go_ret2
  exact ⟨rfl, rfl⟩

theorem copysign (n s r : Nat) (F S : Int) (h1 : bits .andNot .u64 (n : Int) 9223372036854775808 = F) (h2 : bits .and .u64 (s : Int) 9223372036854775808 = S) (h3 : bits .or .u64 F S = (r : Int)) (w : World) : Calls Tryd.prog 53 #[.float .f64 n, .float .f64 s] w fun e w' => e = .returned (.float .f64 r) ∧ w' = w := by
  have hb := bits64
  have hc := from64'
  go_enter Tryd.func53, Tryd.ntmps53
  go_wp2
  go_ret
  exact ⟨rfl, rfl⟩

theorem inf1 (w : World) : Calls Tryd.prog 47 #[.int .i64 1] w fun e w' => e = .returned (.float .f64 9218868437227405312) ∧ w' = w := by
  have hb := from64'
  go_enter Tryd.func47, Tryd.ntmps47
  go_wp2
  go_ret
  exact ⟨rfl, rfl⟩

theorem ldexp_zero (e : Int) (w : World) : Calls Tryd.prog 71 #[.float .f64 0, .int .i64 e] w fun e w' => e = .returned (.float .f64 0) ∧ w' = w := by
  go_enter Tryd.func71, Tryd.ntmps71
  go_wp2
  go_ret
  exact ⟨rfl, rfl⟩

theorem ldexp_mid (n r x : Nat) (e k E F : Int) (ha : (bits .andNot .u64 (n : Int) 9223372036854775808).toNat = n) (h1 : (double.order n 9218868437227405311 == some .gt) = false) (h2 : (double.order n 4503599627370496 == some .lt) = false) (h3 : (double.order n n != some .eq) = false) (h4 : (double.order n 0 == some .eq) = false)
    (hk : bits .and .i64 (wrap64 ((n : Int) / 4503599627370496)) 2047 = k) (hE : wrap64 (wrap64 e + wrap64 (k - 1023)) = E)
    (hC : bits .andNot .u64 (n : Int) 9218868437227405312 = F) (hX : bits .or .u64 F ((E + 1023) * 4503599627370496) = (x : Int)) (hr : -1022 ≤ E ∧ E ≤ 1023)
    (hm : ∀ w, (binOp .mul 50 (.float .f64 4607182418800017408) (.float .f64 x)).run Tryd.prog w = .ok (.float .f64 r) w) (w : World) : Calls Tryd.prog 71 #[.float .f64 n, .int .i64 e] w fun e w' => e = .returned (.float .f64 r) ∧ w' = w := by
  have hI := isInf0 n ha h1
  have hN := isNaN n
  rw [h3] at hN
  have hZ := normalize n ha h2
  have h4' : (FloatKind.f64.format.order n 0 == some .eq) = false := h4
  have hb := bits64
  have hc := from64'
  clear ha h1 h2 h3 h4
  go_enter Tryd.func71, Tryd.ntmps71
  go_wp2_with (first
    | (go_at_call 35; refine (hI _).mono ?_; rintro e w' ⟨rfl, rfl⟩)
    | (go_at_call 30; refine (hN _).mono ?_; rintro e w' ⟨rfl, rfl⟩)
    | (go_at_call 95; refine (hZ _).mono ?_; rintro e w' ⟨rfl, rfl⟩))
  all_goals first | (exfalso; omega) | skip
  go_ret
  exact ⟨rfl, rfl⟩

theorem ldexp_den (n r x : Nat) (e k E F : Int) (ha : (bits .andNot .u64 (n : Int) 9223372036854775808).toNat = n) (h1 : (double.order n 9218868437227405311 == some .gt) = false) (h2 : (double.order n 4503599627370496 == some .lt) = false) (h3 : (double.order n n != some .eq) = false) (h4 : (double.order n 0 == some .eq) = false)
    (hk : bits .and .i64 (wrap64 ((n : Int) / 4503599627370496)) 2047 = k) (hE : wrap64 (wrap64 e + wrap64 (k - 1023)) = E)
    (hC : bits .andNot .u64 (n : Int) 9218868437227405312 = F) (hX : bits .or .u64 F ((E + 53 + 1023) * 4503599627370496) = (x : Int)) (hr : -1075 ≤ E ∧ E < -1022)
    (hm : ∀ w, (binOp .mul 50 (.float .f64 4368491638549381120) (.float .f64 x)).run Tryd.prog w = .ok (.float .f64 r) w) (w : World) : Calls Tryd.prog 71 #[.float .f64 n, .int .i64 e] w fun e w' => e = .returned (.float .f64 r) ∧ w' = w := by
  have hI := isInf0 n ha h1
  have hN := isNaN n
  rw [h3] at hN
  have hZ := normalize n ha h2
  have h4' : (FloatKind.f64.format.order n 0 == some .eq) = false := h4
  have hb := bits64
  have hc := from64'
  clear ha h1 h2 h3 h4
  go_enter Tryd.func71, Tryd.ntmps71
  go_wp2_with (first
    | (go_at_call 35; refine (hI _).mono ?_; rintro e w' ⟨rfl, rfl⟩)
    | (go_at_call 30; refine (hN _).mono ?_; rintro e w' ⟨rfl, rfl⟩)
    | (go_at_call 95; refine (hZ _).mono ?_; rintro e w' ⟨rfl, rfl⟩))
  all_goals first | (exfalso; omega) | skip
  go_ret
  exact ⟨rfl, rfl⟩

theorem ldexp_lo (n r : Nat) (e k E : Int) (ha : (bits .andNot .u64 (n : Int) 9223372036854775808).toNat = n) (h1 : (double.order n 9218868437227405311 == some .gt) = false) (h2 : (double.order n 4503599627370496 == some .lt) = false) (h3 : (double.order n n != some .eq) = false) (h4 : (double.order n 0 == some .eq) = false)
    (hk : bits .and .i64 (wrap64 ((n : Int) / 4503599627370496)) 2047 = k) (hE : wrap64 (wrap64 e + wrap64 (k - 1023)) = E)
    (hr : E < -1075) (hC : ∀ w, Calls Tryd.prog 53 #[.float .f64 0, .float .f64 n] w fun e w' => e = .returned (.float .f64 r) ∧ w' = w) (w : World) : Calls Tryd.prog 71 #[.float .f64 n, .int .i64 e] w fun e w' => e = .returned (.float .f64 r) ∧ w' = w := by
  have hI := isInf0 n ha h1
  have hN := isNaN n
  rw [h3] at hN
  have hZ := normalize n ha h2
  have h4' : (FloatKind.f64.format.order n 0 == some .eq) = false := h4
  have hb := bits64
  have hc := from64'
  clear ha h1 h2 h3 h4
  go_enter Tryd.func71, Tryd.ntmps71
  go_wp2_with (first
    | (go_at_call 35; refine (hI _).mono ?_; rintro e w' ⟨rfl, rfl⟩)
    | (go_at_call 30; refine (hN _).mono ?_; rintro e w' ⟨rfl, rfl⟩)
    | (go_at_call 95; refine (hZ _).mono ?_; rintro e w' ⟨rfl, rfl⟩)
    | (go_at_call 53; refine (hC _).mono ?_; rintro e w' ⟨rfl, rfl⟩))
  all_goals first | (exfalso; omega) | skip
  go_ret
  exact ⟨rfl, rfl⟩

theorem ldexp_hi (n : Nat) (e k E : Int) (ha : (bits .andNot .u64 (n : Int) 9223372036854775808).toNat = n) (h1 : (double.order n 9218868437227405311 == some .gt) = false) (h2 : (double.order n 4503599627370496 == some .lt) = false) (h3 : (double.order n n != some .eq) = false) (h4 : (double.order n 0 == some .eq) = false)
    (hk : bits .and .i64 (wrap64 ((n : Int) / 4503599627370496)) 2047 = k) (hE : wrap64 (wrap64 e + wrap64 (k - 1023)) = E)
    (hr : 1023 < E) (h5 : (double.order n 0 == some .lt) = false) (w : World) : Calls Tryd.prog 71 #[.float .f64 n, .int .i64 e] w fun e w' => e = .returned (.float .f64 9218868437227405312) ∧ w' = w := by
  have h5' : (FloatKind.f64.format.order n 0 == some .lt) = false := h5
  have hC := inf1
  have hI := isInf0 n ha h1
  have hN := isNaN n
  rw [h3] at hN
  have hZ := normalize n ha h2
  have h4' : (FloatKind.f64.format.order n 0 == some .eq) = false := h4
  have hb := bits64
  have hc := from64'
  clear ha h1 h2 h3 h4
  go_enter Tryd.func71, Tryd.ntmps71
  go_wp2_with (first
    | (go_at_call 35; refine (hI _).mono ?_; rintro e w' ⟨rfl, rfl⟩)
    | (go_at_call 30; refine (hN _).mono ?_; rintro e w' ⟨rfl, rfl⟩)
    | (go_at_call 95; refine (hZ _).mono ?_; rintro e w' ⟨rfl, rfl⟩)
    | (go_at_call 47; refine (hC _).mono ?_; rintro e w' ⟨rfl, rfl⟩))
  all_goals first | (exfalso; omega) | skip
  go_ret
  exact ⟨rfl, rfl⟩

theorem Ldexp {n : Nat} {e : Int} {r : Nat} (h : ∀ w, Calls Tryd.prog 71 #[.float .f64 n, .int .i64 e] w fun e w' => e = .returned (.float .f64 r) ∧ w' = w) (w : World) : Calls Tryd.prog 52 #[.float .f64 n, .int .i64 e] w fun e w' => e = .returned (.float .f64 r) ∧ w' = w := by
  go_enter Tryd.func52, Tryd.ntmps52
  go_wp2_with (go_at_call 71; refine (h _).mono ?_; rintro e w' ⟨rfl, rfl⟩)
  go_ret
  exact ⟨rfl, rfl⟩
end L
end Go.Proofs.YtnggflfjmgbncaaDoor
