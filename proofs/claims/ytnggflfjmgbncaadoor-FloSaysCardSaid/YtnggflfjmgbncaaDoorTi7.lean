/- The reference's FloParse: it is fpL. -/
import Derived.Test.YtnggflfjmgbncaaDoorTi6
namespace Go.Proofs.YtnggflfjmgbncaaDoor
open Go Go.RowKit Go.Sort Go.Lib Ieee Ev.Fl
set_option maxRecDepth 100000

theorem bl_log {u : Nat} (h : u ≠ 0) : bl u = u.log2 + 1 := if_neg h

theorem wrapu (n : Nat) (h : n < 18446744073709551616) : IntKind.u64.wrap (n : Int) = (n : Int) := by
  rw [IntKind.wrap_u64]
  omega

theorem or_sign (sg : Bool) (r : Nat) (h : r < 9223372036854775808) : bits .or .u64 (if sg then 9223372036854775808 else 0) (r : Int) = ((double.word sg r : Nat) : Int) := by
  rw [word_eq]
  cases sg
  · have := bits_or_u64_nat 0 r (by decide) (by omega)
    rw [Nat.zero_or] at this
    exact this
  · have := bits_or_u64_nat 9223372036854775808 r (by decide) (by omega)
    have e : 9223372036854775808 ||| r = 9223372036854775808 + r := by
      have := Nat.two_pow_add_eq_or_of_lt (i := 63) (show r < 2 ^ 63 from h) 1
      rw [show (9223372036854775808 : Nat) = 2 ^ 63 * 1 from rfl, ← this]
    rw [e] at this
    exact this
theorem or_mant (K f : Nat) (hK : K < 4096) (hf : f < 4503599627370496) : bits .or .u64 (((K * 4503599627370496 : Nat)) : Int) (f : Int) = ((K * 4503599627370496 + f : Nat) : Int) := by
  have h := bits_or_u64_nat (K * 4503599627370496) f (by omega) (by omega)
  have e : K * 4503599627370496 ||| f = K * 4503599627370496 + f := by
    have := Nat.two_pow_add_eq_or_of_lt (i := 52) (show f < 2 ^ 52 from hf) K
    rw [Nat.mul_comm K, show (4503599627370496 : Nat) = 2 ^ 52 from rfl, ← this]
  rw [e] at h
  exact h
theorem or_three (sg : Bool) (K f : Nat) (hK : K < 2048) (hf : f < 4503599627370496) :
    bits .or .u64 (bits .or .u64 (if sg then 9223372036854775808 else 0) (((K * 4503599627370496 : Nat)) : Int)) (f : Int) = ((double.word sg (K * 4503599627370496 + f) : Nat) : Int) := by
  rw [or_sign sg _ (by omega), word_eq, word_eq]
  cases sg
  · exact or_mant K f (by omega) hf
  · have := or_mant (2048 + K) f (by omega) hf
    rw [show (2048 + K) * 4503599627370496 = 9223372036854775808 + K * 4503599627370496 by omega, Nat.add_assoc] at this
    exact this

/-- The walk's answer is the plain one. -/
theorem fpW_eq (sg : Bool) (u : Nat) (x : Int) (h0 : u ≠ 0) (h : u < 9007199254740992) (hx : -10000 < x ∧ x < 10000) :
    fpW (if sg then 9223372036854775808 else 0) (u : Int) x (bl u) = (dN (fpV sg u x), (fpV sg u x).isSome) := by
  obtain ⟨hL, g1, g2⟩ := lead h0 h
  have hb := bl_log h0
  have ht : wrap64 (wrap64 (x + ((bl u : Nat) : Int)) - 1) = x + (u.log2 : Int) := by
    rw [w64_in (x + ((bl u : Nat) : Int)) (by omega), w64_in _ (by omega)]
    omega
  unfold fpV
  by_cases c1 : 1023 < x + (u.log2 : Int) ∨ x < -1074
  · rw [if_pos c1, fpW_out _ (by rw [ht]; exact c1)]
    rfl
  rw [if_neg c1]
  unfold yOf
  by_cases c2 : -1022 ≤ x + (u.log2 : Int)
  · rw [if_pos c2, fpW_up _ (by rw [ht]; exact c1) (by rw [ht]; exact c2), ht]
    have e1 : (IntKind.u64.wrap (53 - ((bl u : Nat) : Int))).toNat = 52 - u.log2 := by
      rw [IntKind.wrap_u64]
      omega
    have e2 : min (52 - u.log2) 64 = 52 - u.log2 := by omega
    have e3 : (u : Int) * 2 ^ (52 - u.log2) = ((u * 2 ^ (52 - u.log2) : Nat) : Int) := pow_cast _ _
    rw [e1, e2, e3]
    generalize u * 2 ^ (52 - u.log2) = q at g1 g2 ⊢
    rw [wrapu q (by omega), hM_of q (by omega)]
    have e4 : (x + (u.log2 : Int) + 1023) * 4503599627370496 = (((x + (u.log2 : Int) + 1023).toNat * 4503599627370496 : Nat) : Int) := by
      omega
    rw [e4, or_three sg _ _ (by omega) (Nat.mod_lt _ (by decide))]
    rfl
  · rw [if_neg c2, fpW_low _ (by rw [ht]; exact c1) (by rw [ht]; exact c2)]
    have e1 : (IntKind.u64.wrap (wrap64 (x + 1074))).toNat = (x + 1074).toNat := by
      rw [w64_in _ (by omega), IntKind.wrap_u64]
      omega
    have e2 : min (x + 1074).toNat 64 = (x + 1074).toNat := by omega
    have e3 : (u : Int) * 2 ^ (x + 1074).toNat = ((u * 2 ^ (x + 1074).toNat : Nat) : Int) := pow_cast _ _
    have hs : u * 2 ^ (x + 1074).toNat < 4503599627370496 := by
      have h2 : u < 2 ^ (u.log2 + 1) := Nat.lt_log2_self
      have h3 := Nat.mul_lt_mul_of_pos_right h2 (Nat.pow_pos (n := (x + 1074).toNat) (show 0 < 2 by decide))
      rw [← Nat.pow_add] at h3
      have h4 : 2 ^ (u.log2 + 1 + (x + 1074).toNat) ≤ 2 ^ 52 := Nat.pow_le_pow_right (by decide) (by omega)
      exact Nat.lt_of_lt_of_le h3 h4
    rw [e1, e2, e3]
    generalize u * 2 ^ (x + 1074).toNat = q at hs ⊢
    rw [wrapu q (by omega), or_sign sg q (by omega)]
    rfl
end Go.Proofs.YtnggflfjmgbncaaDoor
