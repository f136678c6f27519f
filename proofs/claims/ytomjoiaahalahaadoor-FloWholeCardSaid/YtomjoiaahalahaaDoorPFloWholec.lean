/- The law FloWhole: what never holds together. -/
import Derived.Test.YtomjoiaahalahaaDoorPFloWholea
import Derived.Test.YtomjoiaahalahaaDoorFlo
namespace Go.Proofs.YtomjoiaahalahaaDoor.floWhole
open Go Go.RowKit Ev
set_option maxRecDepth 1000000
open Ieee Ev.Fl
theorem ng0 (a : Int) (b : Nat) (ha : -9223372036854775808 ≤ a ∧ a ≤ 9223372036854775807) (_hb : b < 18446744073709551616) (gr : Nat → Nat)
    (h1 : cd a b gr 3 (.o 320 (.o 336 (.o 128 (.v 0) (.c (.ofNat 11))) (.o 128 (.v 0) (.c (.ofNat 11)))) (.o 336 (.o 128 (.v 0) (.c (.ofNat 11))) (.o 128 (.v 0) (.c (.ofNat 11))))) (.c (.ofNat 0)) = true) : False := by
  change isn (truncF (FloatKind.f64.nearest (opDen 128 a (Int.ofNat 11)))) = true at h1
  rw [whole_isn _ (fdiv_2048 a ha.1 ha.2)] at h1
  cases h1
theorem ng1 (a : Int) (b : Nat) (ha : -9223372036854775808 ≤ a ∧ a ≤ 9223372036854775807) (_hb : b < 18446744073709551616) (gr : Nat → Nat)
    (h1 : cd a b gr 5 (.o 320 (.o 336 (.o 128 (.v 0) (.c (.ofNat 11))) (.o 128 (.v 0) (.c (.ofNat 11)))) (.o 336 (.o 128 (.v 0) (.c (.ofNat 11))) (.o 128 (.v 0) (.c (.ofNat 11))))) (.c (.ofNat 14114281232179134464)) = true) : False := by
  change (double.order (truncF (FloatKind.f64.nearest (opDen 128 a (Int.ofNat 11)))) mi == some .lt) = true at h1
  have hk := (fdiv_2048 a ha.1 ha.2)
  generalize opDen 128 a (Int.ofNat 11) = K at hk h1
  rw [lt_eq, whole_isn _ hk, isn_mi] at h1
  simp at h1
  rw [lt_sv, whole_sv _ hk, sv_mi] at h1
  have h2 : K.natAbs * U ≤ 9223372036854775808 * U := Nat.mul_le_mul_right U (by omega)
  unfold sgz at h1
  generalize K.natAbs * U = z at h1 h2
  generalize 9223372036854775808 * U = y at h1 h2
  split at h1 <;> omega
theorem ng2 (a : Int) (b : Nat) (ha : -9223372036854775808 ≤ a ∧ a ≤ 9223372036854775807) (_hb : b < 18446744073709551616) (gr : Nat → Nat)
    (h1 : cd a b gr 8 (.o 320 (.o 336 (.o 128 (.v 0) (.c (.ofNat 11))) (.o 128 (.v 0) (.c (.ofNat 11)))) (.o 336 (.o 128 (.v 0) (.c (.ofNat 11))) (.o 128 (.v 0) (.c (.ofNat 11))))) (.c (.ofNat 4890909195324358656)) = true) : False := by
  change (double.order (truncF (FloatKind.f64.nearest (opDen 128 a (Int.ofNat 11)))) tp == some .gt || double.order (truncF (FloatKind.f64.nearest (opDen 128 a (Int.ofNat 11)))) tp == some .eq) = true at h1
  have hk := (fdiv_2048 a ha.1 ha.2)
  generalize opDen 128 a (Int.ofNat 11) = K at hk h1
  rw [geq_eq, whole_isn _ hk, isn_tp] at h1
  simp at h1
  have h1 : ¬ sr (truncF (FloatKind.f64.nearest K)) < sr tp := by omega
  rw [lt_sv, whole_sv _ hk, sv_tp] at h1
  have h2 : K.natAbs * U < 9223372036854775808 * U := Nat.mul_lt_mul_of_pos_right (by omega) U_pos
  unfold sgz at h1
  generalize K.natAbs * U = z at h1 h2
  generalize 9223372036854775808 * U = y at h1 h2
  split at h1 <;> omega
theorem ng3 (a : Int) (b : Nat) (ha : -9223372036854775808 ≤ a ∧ a ≤ 9223372036854775807) (_hb : b < 18446744073709551616) (gr : Nat → Nat)
    (h1 : cd a b gr 16 (.o 320 (.o 336 (.o 128 (.v 0) (.c (.ofNat 11))) (.o 128 (.v 0) (.c (.ofNat 11)))) (.o 336 (.o 128 (.v 0) (.c (.ofNat 11))) (.o 128 (.v 0) (.c (.ofNat 11))))) (.c (.ofNat 0)) = false) : False := by
  change (ftoi .i64 (truncF (FloatKind.f64.nearest (opDen 128 a (Int.ofNat 11))))).isSome = false at h1
  rw [whole_ftoi _ (fdiv_2048 a ha.1 ha.2)] at h1
  cases h1
theorem ng4 (a : Int) (b : Nat) (ha : -9223372036854775808 ≤ a ∧ a ≤ 9223372036854775807) (_hb : b < 18446744073709551616) (gr : Nat → Nat)
    (h1 : cd a b gr 0 (.o 352 (.o 320 (.o 336 (.o 128 (.v 0) (.c (.ofNat 11))) (.o 128 (.v 0) (.c (.ofNat 11)))) (.o 336 (.o 128 (.v 0) (.c (.ofNat 11))) (.o 128 (.v 0) (.c (.ofNat 11))))) (.o 320 (.o 336 (.o 128 (.v 0) (.c (.ofNat 11))) (.o 128 (.v 0) (.c (.ofNat 11)))) (.o 336 (.o 128 (.v 0) (.c (.ofNat 11))) (.o 128 (.v 0) (.c (.ofNat 11)))))) (.o 128 (.v 0) (.c (.ofNat 11))) = false) : False := by
  change ((ftoi .i64 (truncF (FloatKind.f64.nearest (opDen 128 a (Int.ofNat 11))))).getD 0 == opDen 128 a (Int.ofNat 11)) = false at h1
  rw [whole_ftoi _ (fdiv_2048 a ha.1 ha.2)] at h1
  simp at h1
theorem ng5 (a : Int) (b : Nat) (_ha : -9223372036854775808 ≤ a ∧ a ≤ 9223372036854775807) (_hb : b < 18446744073709551616) (gr : Nat → Nat)
    (h1 : cd a b gr 3 (.o 320 (.v 1) (.v 1)) (.c (.ofNat 0)) = true)
    (h2 : cd a b gr 7 (.v 1) (.c (.ofNat 14114281232179134464)) = true) : False := by
  change isn (truncF b) = true at h1
  change (double.order b mi == some .gt) = true at h2
  rw [trunc_isn] at h1
  rw [gt_eq, h1] at h2
  simp at h2
theorem ng6 (a : Int) (b : Nat) (_ha : -9223372036854775808 ≤ a ∧ a ≤ 9223372036854775807) (_hb : b < 18446744073709551616) (gr : Nat → Nat)
    (h1 : cd a b gr 5 (.o 320 (.v 1) (.v 1)) (.c (.ofNat 14114281232179134464)) = true)
    (h2 : cd a b gr 7 (.v 1) (.c (.ofNat 14114281232179134464)) = true) : False := by
  change (double.order (truncF b) mi == some .lt) = true at h1
  change (double.order b mi == some .gt) = true at h2
  rw [lt_eq] at h1
  rw [gt_eq] at h2
  simp at h1 h2
  exact trunc_lt b h2.1.1 h1.2 h2.2
theorem ng7 (a : Int) (b : Nat) (_ha : -9223372036854775808 ≤ a ∧ a ≤ 9223372036854775807) (_hb : b < 18446744073709551616) (gr : Nat → Nat)
    (h1 : cd a b gr 8 (.o 320 (.v 1) (.v 1)) (.c (.ofNat 4890909195324358656)) = true)
    (h2 : cd a b gr 5 (.v 1) (.c (.ofNat 4890909195324358656)) = true) : False := by
  change (double.order (truncF b) tp == some .gt || double.order (truncF b) tp == some .eq) = true at h1
  change (double.order b tp == some .lt) = true at h2
  rw [geq_eq] at h1
  rw [lt_eq] at h2
  simp at h1 h2
  exact trunc_gt b h2.1.1 h1.2 h2.2
theorem ng8 (a : Int) (b : Nat) (_ha : -9223372036854775808 ≤ a ∧ a ≤ 9223372036854775807) (_hb : b < 18446744073709551616) (gr : Nat → Nat)
    (h1 : cd a b gr 3 (.o 320 (.v 1) (.v 1)) (.c (.ofNat 0)) = false)
    (h2 : cd a b gr 5 (.o 320 (.v 1) (.v 1)) (.c (.ofNat 14114281232179134464)) = false)
    (h3 : cd a b gr 8 (.o 320 (.v 1) (.v 1)) (.c (.ofNat 4890909195324358656)) = false)
    (h4 : cd a b gr 16 (.o 320 (.v 1) (.v 1)) (.c (.ofNat 0)) = false) : False := by
  change isn (truncF b) = false at h1
  change (double.order (truncF b) mi == some .lt) = false at h2
  change (double.order (truncF b) tp == some .gt || double.order (truncF b) tp == some .eq) = false at h3
  change (ftoi .i64 (truncF b)).isSome = false at h4
  rw [lt_eq, h1, isn_mi] at h2
  rw [geq_eq, h1, isn_tp] at h3
  simp at h2 h3
  rw [trunc_isn] at h1
  rw [trunc_fits b h1 h2 h3] at h4
  cases h4
theorem ng9 (a : Int) (b : Nat) (_ha : -9223372036854775808 ≤ a ∧ a ≤ 9223372036854775807) (_hb : b < 18446744073709551616) (gr : Nat → Nat)
    (h1 : cd a b gr 3 (.o 320 (.v 1) (.v 1)) (.c (.ofNat 0)) = false)
    (h2 : cd a b gr 16 (.o 320 (.v 1) (.v 1)) (.c (.ofNat 0)) = true)
    (h3 : cd a b gr 4 (.o 320 (.v 1) (.v 1)) (.o 336 (.o 352 (.o 320 (.v 1) (.v 1)) (.o 320 (.v 1) (.v 1))) (.o 352 (.o 320 (.v 1) (.v 1)) (.o 320 (.v 1) (.v 1)))) = false) : False := by
  change isn (truncF b) = false at h1
  change (ftoi .i64 (truncF b)).isSome = true at h2
  change (double.order (truncF b) (FloatKind.f64.nearest ((ftoi .i64 (truncF b)).getD 0)) == some .eq) = false at h3
  rw [trunc_isn] at h1
  rw [trunc_same b h1 h2] at h3
  cases h3
end Go.Proofs.YtomjoiaahalahaaDoor.floWhole
