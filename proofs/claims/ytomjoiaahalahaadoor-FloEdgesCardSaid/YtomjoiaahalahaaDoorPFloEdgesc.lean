/- The law FloEdges: what never holds together. -/
import Derived.Test.YtomjoiaahalahaaDoorPFloEdgesa
import Derived.Test.YtomjoiaahalahaaDoorFlo
namespace Go.Proofs.YtomjoiaahalahaaDoor.floEdges
open Go Go.RowKit Ev
set_option maxRecDepth 1000000
open Ieee Ev.Fl
theorem ng0 (a : Nat) (b : Nat) (_ha : a < 18446744073709551616) (_hb : b < 18446744073709551616) (gr : Nat → Nat)
    (h1 : cd a b gr 3 (.v 0) (.c (.ofNat 0)) = true)
    (h2 : cd a b gr 5 (.v 0) (.v 1) = true) : False := by
  change isn a = true at h1
  change (double.order a b == some .lt) = true at h2
  rw [lt_eq, h1] at h2
  simp at h2
theorem ng1 (a : Nat) (b : Nat) (_ha : a < 18446744073709551616) (_hb : b < 18446744073709551616) (gr : Nat → Nat)
    (h1 : cd a b gr 3 (.v 1) (.c (.ofNat 0)) = true)
    (h2 : cd a b gr 5 (.v 0) (.v 1) = true) : False := by
  change isn b = true at h1
  change (double.order a b == some .lt) = true at h2
  rw [lt_eq, h1] at h2
  simp at h2
theorem ng2 (a : Nat) (b : Nat) (_ha : a < 18446744073709551616) (_hb : b < 18446744073709551616) (gr : Nat → Nat)
    (h1 : cd a b gr 3 (.v 0) (.c (.ofNat 0)) = true)
    (h2 : cd a b gr 5 (.v 1) (.v 0) = true) : False := by
  change isn a = true at h1
  change (double.order b a == some .lt) = true at h2
  rw [lt_eq, h1] at h2
  simp at h2
theorem ng3 (a : Nat) (b : Nat) (_ha : a < 18446744073709551616) (_hb : b < 18446744073709551616) (gr : Nat → Nat)
    (h1 : cd a b gr 3 (.v 1) (.c (.ofNat 0)) = true)
    (h2 : cd a b gr 5 (.v 1) (.v 0) = true) : False := by
  change isn b = true at h1
  change (double.order b a == some .lt) = true at h2
  rw [lt_eq, h1] at h2
  simp at h2
theorem ng4 (a : Nat) (b : Nat) (_ha : a < 18446744073709551616) (_hb : b < 18446744073709551616) (gr : Nat → Nat)
    (h1 : cd a b gr 3 (.v 0) (.c (.ofNat 0)) = true)
    (h2 : cd a b gr 4 (.v 0) (.v 1) = true) : False := by
  change isn a = true at h1
  change (double.order a b == some .eq) = true at h2
  rw [eq_eq, h1] at h2
  simp at h2
theorem ng5 (a : Nat) (b : Nat) (_ha : a < 18446744073709551616) (_hb : b < 18446744073709551616) (gr : Nat → Nat)
    (h1 : cd a b gr 3 (.v 1) (.c (.ofNat 0)) = true)
    (h2 : cd a b gr 4 (.v 0) (.v 1) = true) : False := by
  change isn b = true at h1
  change (double.order a b == some .eq) = true at h2
  rw [eq_eq, h1] at h2
  simp at h2
theorem ng6 (a : Nat) (b : Nat) (_ha : a < 18446744073709551616) (_hb : b < 18446744073709551616) (gr : Nat → Nat)
    (h1 : cd a b gr 3 (.v 0) (.c (.ofNat 0)) = true)
    (h2 : cd a b gr 3 (.o 256 (.v 0) (.v 1)) (.c (.ofNat 0)) = false) : False := by
  change isn a = true at h1
  change isn ((double.add a b).getD qnan) = false at h2
  rw [show double.add a b = none from fbits_nan (op := .add) (.inl h1)] at h2
  exact absurd (h2.symm.trans qnan_nan) (by decide)
theorem ng7 (a : Nat) (b : Nat) (_ha : a < 18446744073709551616) (_hb : b < 18446744073709551616) (gr : Nat → Nat)
    (h1 : cd a b gr 3 (.v 1) (.c (.ofNat 0)) = true)
    (h2 : cd a b gr 3 (.o 256 (.v 0) (.v 1)) (.c (.ofNat 0)) = false) : False := by
  change isn b = true at h1
  change isn ((double.add a b).getD qnan) = false at h2
  rw [show double.add a b = none from fbits_nan (op := .add) (.inr h1)] at h2
  exact absurd (h2.symm.trans qnan_nan) (by decide)
theorem ng8 (a : Nat) (b : Nat) (_ha : a < 18446744073709551616) (_hb : b < 18446744073709551616) (gr : Nat → Nat)
    (h1 : cd a b gr 3 (.v 0) (.c (.ofNat 0)) = true)
    (h2 : cd a b gr 3 (.o 288 (.v 0) (.v 1)) (.c (.ofNat 0)) = false) : False := by
  change isn a = true at h1
  change isn ((double.mul a b).getD qnan) = false at h2
  rw [show double.mul a b = none from fbits_nan (op := .mul) (.inl h1)] at h2
  exact absurd (h2.symm.trans qnan_nan) (by decide)
theorem ng9 (a : Nat) (b : Nat) (_ha : a < 18446744073709551616) (_hb : b < 18446744073709551616) (gr : Nat → Nat)
    (h1 : cd a b gr 3 (.v 1) (.c (.ofNat 0)) = true)
    (h2 : cd a b gr 3 (.o 288 (.v 0) (.v 1)) (.c (.ofNat 0)) = false) : False := by
  change isn b = true at h1
  change isn ((double.mul a b).getD qnan) = false at h2
  rw [show double.mul a b = none from fbits_nan (op := .mul) (.inr h1)] at h2
  exact absurd (h2.symm.trans qnan_nan) (by decide)
theorem ng10 (a : Nat) (b : Nat) (_ha : a < 18446744073709551616) (_hb : b < 18446744073709551616) (gr : Nat → Nat)
    (h1 : cd a b gr 3 (.o 256 (.v 0) (.v 1)) (.c (.ofNat 0)) = true)
    (h2 : cd a b gr 3 (.o 256 (.v 1) (.v 0)) (.c (.ofNat 0)) = false) : False := by
  change isn ((double.add a b).getD qnan) = true at h1
  change isn ((double.add b a).getD qnan) = false at h2
  rw [add_comm', h2] at h1
  cases h1
theorem ng11 (a : Nat) (b : Nat) (_ha : a < 18446744073709551616) (_hb : b < 18446744073709551616) (gr : Nat → Nat)
    (h1 : cd a b gr 3 (.o 256 (.v 0) (.v 1)) (.c (.ofNat 0)) = false)
    (h2 : cd a b gr 3 (.o 256 (.v 1) (.v 0)) (.c (.ofNat 0)) = true) : False := by
  change isn ((double.add a b).getD qnan) = false at h1
  change isn ((double.add b a).getD qnan) = true at h2
  rw [add_comm', h2] at h1
  cases h1
theorem ng12 (a : Nat) (b : Nat) (_ha : a < 18446744073709551616) (_hb : b < 18446744073709551616) (gr : Nat → Nat)
    (h1 : cd a b gr 0 (.o 370 (.o 256 (.v 0) (.v 1)) (.o 256 (.v 0) (.v 1))) (.o 370 (.o 256 (.v 1) (.v 0)) (.o 256 (.v 1) (.v 0))) = false) : False := by
  change ((((double.add a b).getD qnan : Nat) : Int) == (((double.add b a).getD qnan : Nat) : Int)) = false at h1
  rw [add_comm'] at h1
  simp at h1
theorem ng13 (a : Nat) (b : Nat) (_ha : a < 18446744073709551616) (_hb : b < 18446744073709551616) (gr : Nat → Nat)
    (h1 : cd a b gr 3 (.o 288 (.v 0) (.v 1)) (.c (.ofNat 0)) = true)
    (h2 : cd a b gr 3 (.o 288 (.v 1) (.v 0)) (.c (.ofNat 0)) = false) : False := by
  change isn ((double.mul a b).getD qnan) = true at h1
  change isn ((double.mul b a).getD qnan) = false at h2
  rw [mul_comm', h2] at h1
  cases h1
theorem ng14 (a : Nat) (b : Nat) (_ha : a < 18446744073709551616) (_hb : b < 18446744073709551616) (gr : Nat → Nat)
    (h1 : cd a b gr 3 (.o 288 (.v 0) (.v 1)) (.c (.ofNat 0)) = false)
    (h2 : cd a b gr 3 (.o 288 (.v 1) (.v 0)) (.c (.ofNat 0)) = true) : False := by
  change isn ((double.mul a b).getD qnan) = false at h1
  change isn ((double.mul b a).getD qnan) = true at h2
  rw [mul_comm', h2] at h1
  cases h1
theorem ng15 (a : Nat) (b : Nat) (_ha : a < 18446744073709551616) (_hb : b < 18446744073709551616) (gr : Nat → Nat)
    (h1 : cd a b gr 0 (.o 370 (.o 288 (.v 0) (.v 1)) (.o 288 (.v 0) (.v 1))) (.o 370 (.o 288 (.v 1) (.v 0)) (.o 288 (.v 1) (.v 0))) = false) : False := by
  change ((((double.mul a b).getD qnan : Nat) : Int) == (((double.mul b a).getD qnan : Nat) : Int)) = false at h1
  rw [mul_comm'] at h1
  simp at h1
theorem ng16 (a : Nat) (b : Nat) (_ha : a < 18446744073709551616) (_hb : b < 18446744073709551616) (gr : Nat → Nat)
    (h1 : cd a b gr 0 (.v 0) (.c (.ofNat 9221120237041090560)) = true)
    (h2 : cd a b gr 3 (.v 0) (.c (.ofNat 0)) = false) : False := by
  change ((a : Int) == ((qnan : Nat) : Int)) = true at h1
  change isn a = false at h2
  have h1 : a = qnan := by have := eq_of_beq h1; omega
  rw [h1] at h2
  exact absurd (h2.symm.trans qnan_nan) (by decide)
theorem ng17 (a : Nat) (b : Nat) (_ha : a < 18446744073709551616) (_hb : b < 18446744073709551616) (gr : Nat → Nat)
    (h1 : cd a b gr 0 (.v 1) (.c (.ofNat 9221120237041090560)) = true)
    (h2 : cd a b gr 3 (.v 1) (.c (.ofNat 0)) = false) : False := by
  change ((b : Int) == ((qnan : Nat) : Int)) = true at h1
  change isn b = false at h2
  have h1 : b = qnan := by have := eq_of_beq h1; omega
  rw [h1] at h2
  exact absurd (h2.symm.trans qnan_nan) (by decide)
theorem ng18 (a : Nat) (b : Nat) (_ha : a < 18446744073709551616) (_hb : b < 18446744073709551616) (gr : Nat → Nat)
    (h1 : cd a b gr 5 (.v 0) (.v 1) = true)
    (h2 : cd a b gr 5 (.v 1) (.v 0) = true) : False := by
  change (double.order a b == some .lt) = true at h1
  change (double.order b a == some .lt) = true at h2
  rw [lt_eq] at h1 h2
  simp at h1 h2
  omega
theorem ng19 (a : Nat) (b : Nat) (_ha : a < 18446744073709551616) (_hb : b < 18446744073709551616) (gr : Nat → Nat)
    (h1 : cd a b gr 5 (.v 0) (.v 1) = true)
    (h2 : cd a b gr 4 (.v 0) (.v 1) = true) : False := by
  change (double.order a b == some .lt) = true at h1
  change (double.order a b == some .eq) = true at h2
  rw [lt_eq] at h1
  rw [eq_eq] at h2
  simp at h1 h2
  omega
theorem ng20 (a : Nat) (b : Nat) (_ha : a < 18446744073709551616) (_hb : b < 18446744073709551616) (gr : Nat → Nat)
    (h1 : cd a b gr 5 (.v 1) (.v 0) = true)
    (h2 : cd a b gr 4 (.v 0) (.v 1) = true) : False := by
  change (double.order b a == some .lt) = true at h1
  change (double.order a b == some .eq) = true at h2
  rw [lt_eq] at h1
  rw [eq_eq] at h2
  simp at h1 h2
  omega
theorem ng21 (a : Nat) (b : Nat) (_ha : a < 18446744073709551616) (_hb : b < 18446744073709551616) (gr : Nat → Nat)
    (h1 : cd a b gr 3 (.v 0) (.c (.ofNat 0)) = false)
    (h2 : cd a b gr 3 (.v 1) (.c (.ofNat 0)) = false)
    (h3 : cd a b gr 5 (.v 0) (.v 1) = false)
    (h4 : cd a b gr 5 (.v 1) (.v 0) = false)
    (h5 : cd a b gr 4 (.v 0) (.v 1) = false) : False := by
  change isn a = false at h1
  change isn b = false at h2
  change (double.order a b == some .lt) = false at h3
  change (double.order b a == some .lt) = false at h4
  change (double.order a b == some .eq) = false at h5
  rw [lt_eq, h1, h2] at h3
  rw [lt_eq, h1, h2] at h4
  rw [eq_eq, h1, h2] at h5
  simp at h3 h4 h5
  omega
end Go.Proofs.YtomjoiaahalahaaDoor.floEdges
