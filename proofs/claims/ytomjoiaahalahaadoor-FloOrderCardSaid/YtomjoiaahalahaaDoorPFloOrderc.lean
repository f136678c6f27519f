/- The law FloOrder: what never holds together. -/
import Derived.Test.YtomjoiaahalahaaDoorPFloOrdera
import Derived.Test.YtomjoiaahalahaaDoorFlo
namespace Go.Proofs.YtomjoiaahalahaaDoor.floOrder
open Go Go.RowKit Ev
set_option maxRecDepth 1000000
open Ieee Ev.Fl
theorem ng0 (a : Nat) (b : Nat) (c : Nat) (_ha : a < 18446744073709551616) (_hb : b < 18446744073709551616) (_hc : c < 18446744073709551616) (gr : Nat → Nat)
    (h1 : cd a b c gr 5 (.v 0) (.v 1) = true)
    (h2 : cd a b c gr 5 (.v 1) (.v 2) = true)
    (h3 : cd a b c gr 5 (.v 0) (.v 2) = false) : False := by
  change (double.order a b == some .lt) = true at h1
  change (double.order b c == some .lt) = true at h2
  change (double.order a c == some .lt) = false at h3
  rw [lt_eq] at h1 h2 h3
  simp at h1 h2 h3
  have := h3 h1.1.1 h2.1.2
  omega
theorem ng1 (a : Nat) (b : Nat) (c : Nat) (ha : a < 18446744073709551616) (hb : b < 18446744073709551616) (_hc : c < 18446744073709551616) (gr : Nat → Nat)
    (h1 : cd a b c gr 5 (.v 0) (.v 1) = true)
    (h2 : cd a b c gr 5 (.o 82 (.v 1) (.c (.ofNat 9223372036854775808))) (.o 82 (.v 0) (.c (.ofNat 9223372036854775808))) = false) : False := by
  change (double.order a b == some .lt) = true at h1
  replace h2 := cd_xor (a := b) (b := a) hb ha h2
  rw [lt_eq] at h1 h2
  rw [isn_xor _ ha, isn_xor _ hb, sr_xor _ ha, sr_xor _ hb] at h2
  simp at h1 h2
  have := h2 h1.1.2 h1.1.1
  omega
theorem ng2 (a : Nat) (b : Nat) (c : Nat) (ha : a < 18446744073709551616) (hb : b < 18446744073709551616) (_hc : c < 18446744073709551616) (gr : Nat → Nat)
    (h1 : cd a b c gr 5 (.v 0) (.v 1) = false)
    (h2 : cd a b c gr 5 (.o 82 (.v 1) (.c (.ofNat 9223372036854775808))) (.o 82 (.v 0) (.c (.ofNat 9223372036854775808))) = true) : False := by
  change (double.order a b == some .lt) = false at h1
  replace h2 := cd_xor (a := b) (b := a) hb ha h2
  rw [lt_eq] at h1 h2
  rw [isn_xor _ ha, isn_xor _ hb, sr_xor _ ha, sr_xor _ hb] at h2
  simp at h1 h2
  have := h1 h2.1.2 h2.1.1
  omega
theorem ng3 (a : Nat) (b : Nat) (c : Nat) (_ha : a < 18446744073709551616) (_hb : b < 18446744073709551616) (_hc : c < 18446744073709551616) (gr : Nat → Nat)
    (h1 : cd a b c gr 5 (.v 0) (.v 1) = true)
    (h2 : cd a b c gr 3 (.o 256 (.v 0) (.v 2)) (.c (.ofNat 0)) = false)
    (h3 : cd a b c gr 3 (.o 256 (.v 1) (.v 2)) (.c (.ofNat 0)) = false)
    (h4 : cd a b c gr 5 (.o 256 (.v 1) (.v 2)) (.o 256 (.v 0) (.v 2)) = true) : False := by
  change (double.order a b == some .lt) = true at h1
  change isn ((double.add a c).getD qnan) = false at h2
  change isn ((double.add b c).getD qnan) = false at h3
  change (double.order ((double.add b c).getD qnan) ((double.add a c).getD qnan) == some .lt) = true at h4
  obtain ⟨p, hp⟩ := isn_some (fun _ => add_num) h2
  obtain ⟨q, hq⟩ := isn_some (fun _ => add_num) h3
  rw [hp, hq, lt_eq] at h4
  rw [lt_eq] at h1
  simp at h1 h4
  have hcn : isn c = false := by
    cases hcn : isn c with
    | false => rfl
    | true => rw [show double.add a c = none from fbits_nan (op := .add) (.inr hcn)] at hp; cases hp
  exact add_mono a b c p q h1.1.1 h1.1.2 hcn h1.2 hp hq h4.2
theorem ng4 (a : Nat) (b : Nat) (c : Nat) (_ha : a < 18446744073709551616) (_hb : b < 18446744073709551616) (_hc : c < 18446744073709551616) (gr : Nat → Nat)
    (h1 : cd a b c gr 5 (.o 256 (.v 1) (.v 2)) (.c (.ofNat 9221120237041090560)) = true) : False := by
  change (double.order ((double.add b c).getD qnan) qnan == some .lt) = true at h1
  rw [lt_eq, show isn qnan = true from qnan_nan] at h1
  simp at h1
theorem ng5 (a : Nat) (b : Nat) (c : Nat) (_ha : a < 18446744073709551616) (_hb : b < 18446744073709551616) (_hc : c < 18446744073709551616) (gr : Nat → Nat)
    (h1 : cd a b c gr 5 (.c (.ofNat 9221120237041090560)) (.o 256 (.v 0) (.v 2)) = true) : False := by
  change (double.order qnan ((double.add a c).getD qnan) == some .lt) = true at h1
  rw [lt_eq, show isn qnan = true from qnan_nan] at h1
  simp at h1
end Go.Proofs.YtomjoiaahalahaaDoor.floOrder
