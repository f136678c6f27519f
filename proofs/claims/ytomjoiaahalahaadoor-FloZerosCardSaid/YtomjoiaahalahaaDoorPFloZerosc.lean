/- The law FloZeros: what never holds together. -/
import Derived.Test.YtomjoiaahalahaaDoorPFloZerosa
import Derived.Test.YtomjoiaahalahaaDoorFlo
namespace Go.Proofs.YtomjoiaahalahaaDoor.floZeros
open Go Go.RowKit Ev
set_option maxRecDepth 1000000
open Ieee Ev.Fl
theorem ng0 (a : Nat) (_ha : a < 18446744073709551616) (gr : Nat → Nat)
    (h1 : cd a gr 3 (.v 0) (.c (.ofNat 0)) = true)
    (h2 : cd a gr 3 (.o 272 (.v 0) (.v 0)) (.c (.ofNat 0)) = false) : False := by
  change isn a = true at h1
  change isn ((double.sub a a).getD qnan) = false at h2
  rw [show double.sub a a = none from fbits_nan (op := .sub) (.inl h1)] at h2
  exact absurd (h2.symm.trans qnan_nan) (by decide)
theorem ng1 (a : Nat) (_ha : a < 18446744073709551616) (gr : Nat → Nat)
    (h1 : cd a gr 3 (.v 0) (.c (.ofNat 0)) = true)
    (h2 : cd a gr 3 (.o 288 (.v 0) (.c (.ofNat 4607182418800017408))) (.c (.ofNat 0)) = false) : False := by
  change isn a = true at h1
  change isn ((double.mul a one).getD qnan) = false at h2
  rw [show double.mul a one = none from fbits_nan (op := .mul) (.inl h1)] at h2
  exact absurd (h2.symm.trans qnan_nan) (by decide)
theorem ng2 (a : Nat) (_ha : a < 18446744073709551616) (gr : Nat → Nat)
    (h1 : cd a gr 3 (.v 0) (.c (.ofNat 0)) = true)
    (h2 : cd a gr 3 (.o 272 (.v 0) (.c (.ofNat 0))) (.c (.ofNat 0)) = false) : False := by
  change isn a = true at h1
  change isn ((double.sub a 0).getD qnan) = false at h2
  rw [show double.sub a 0 = none from fbits_nan (op := .sub) (.inl h1)] at h2
  exact absurd (h2.symm.trans qnan_nan) (by decide)
theorem ng3 (a : Nat) (ha : a < 18446744073709551616) (gr : Nat → Nat)
    (h1 : cd a gr 3 (.v 0) (.c (.ofNat 0)) = false)
    (h2 : cd a gr 3 (.o 288 (.v 0) (.c (.ofNat 4607182418800017408))) (.c (.ofNat 0)) = true) : False := by
  change isn a = false at h1
  change isn ((double.mul a one).getD qnan) = true at h2
  rw [mul_one' a ha h1] at h2
  exact absurd (h1.symm.trans h2) (by decide)
theorem ng4 (a : Nat) (ha : a < 18446744073709551616) (gr : Nat → Nat)
    (h1 : cd a gr 3 (.v 0) (.c (.ofNat 0)) = false)
    (h2 : cd a gr 3 (.o 272 (.v 0) (.c (.ofNat 0))) (.c (.ofNat 0)) = true) : False := by
  change isn a = false at h1
  change isn ((double.sub a 0).getD qnan) = true at h2
  rw [sub_zero' a ha h1] at h2
  exact absurd (h1.symm.trans h2) (by decide)
theorem ng5 (a : Nat) (ha : a < 18446744073709551616) (gr : Nat → Nat)
    (h1 : cd a gr 3 (.v 0) (.c (.ofNat 0)) = false)
    (h2 : cd a gr 3 (.o 272 (.v 0) (.v 0)) (.c (.ofNat 0)) = true)
    (h3 : cd a gr 0 (.o 50 (.o 130 (.v 0) (.c (.ofNat 52))) (.c (.ofNat 2047))) (.c (.ofNat 2047)) = false) : False := by
  change isn a = false at h1
  change isn ((double.sub a a).getD qnan) = true at h2
  have h3 := cd_exp ha h3
  rw [sub_self' a h1] at h2
  by_cases hr : rung a = inf
  · rw [hr] at h3; revert h3; decide
  · rw [if_neg hr] at h2; revert h2; decide
theorem ng6 (a : Nat) (ha : a < 18446744073709551616) (gr : Nat → Nat)
    (h1 : cd a gr 3 (.v 0) (.c (.ofNat 0)) = false)
    (h2 : cd a gr 3 (.o 272 (.v 0) (.v 0)) (.c (.ofNat 0)) = false)
    (h3 : cd a gr 0 (.o 50 (.o 130 (.v 0) (.c (.ofNat 52))) (.c (.ofNat 2047))) (.c (.ofNat 2047)) = true) : False := by
  change isn a = false at h1
  change isn ((double.sub a a).getD qnan) = false at h2
  have h3 := cd_exp ha h3
  rw [sub_self' a h1] at h2
  by_cases hr : rung a = inf
  · rw [if_pos hr] at h2; exact absurd (h2.symm.trans qnan_nan) (by decide)
  · have h4 := of_decide_eq_true h3.symm
    rw [isn_eq, decide_eq_false_iff_not] at h1
    omega
theorem ng7 (a : Nat) (ha : a < 18446744073709551616) (gr : Nat → Nat)
    (h1 : cd a gr 3 (.v 0) (.c (.ofNat 0)) = false)
    (h2 : cd a gr 0 (.o 370 (.o 288 (.v 0) (.c (.ofNat 4607182418800017408))) (.o 288 (.v 0) (.c (.ofNat 4607182418800017408)))) (.v 0) = false) : False := by
  change isn a = false at h1
  change ((((double.mul a one).getD qnan : Nat) : Int) == (a : Int)) = false at h2
  rw [mul_one' a ha h1] at h2
  simp at h2
theorem ng8 (a : Nat) (ha : a < 18446744073709551616) (gr : Nat → Nat)
    (h1 : cd a gr 3 (.v 0) (.c (.ofNat 0)) = false)
    (h2 : cd a gr 0 (.o 370 (.o 272 (.v 0) (.c (.ofNat 0))) (.o 272 (.v 0) (.c (.ofNat 0)))) (.v 0) = false) : False := by
  change isn a = false at h1
  change ((((double.sub a 0).getD qnan : Nat) : Int) == (a : Int)) = false at h2
  rw [sub_zero' a ha h1] at h2
  simp at h2
theorem ng9 (a : Nat) (_ha : a < 18446744073709551616) (gr : Nat → Nat)
    (h1 : cd a gr 3 (.v 0) (.c (.ofNat 0)) = false)
    (h2 : cd a gr 3 (.o 272 (.v 0) (.v 0)) (.c (.ofNat 0)) = false)
    (h3 : cd a gr 0 (.o 370 (.o 272 (.v 0) (.v 0)) (.o 272 (.v 0) (.v 0))) (.c (.ofNat 0)) = false) : False := by
  change isn a = false at h1
  change isn ((double.sub a a).getD qnan) = false at h2
  change ((((double.sub a a).getD qnan : Nat) : Int) == ((0 : Nat) : Int)) = false at h3
  rw [sub_self' a h1] at h2 h3
  by_cases hr : rung a = inf
  · rw [if_pos hr] at h2; exact absurd (h2.symm.trans qnan_nan) (by decide)
  · rw [if_neg hr] at h3; revert h3; decide
end Go.Proofs.YtomjoiaahalahaaDoor.floZeros
