/- How long the texts of some small floats are. -/
import Derived.Test.YtcecklededfccaaGreatDoorTq
import Derived.Test.YtcecklededfccaaGreatDoorGs
namespace Go.Proofs.YtcecklededfccaaGreatDoor
open Go Go.RowKit Go.Sort Go.Lib Ieee Ev.Fl
set_option maxRecDepth 100000

theorem odd_pow : ∀ (a b u m : Nat), u % 2 = 1 → m % 2 = 1 → u * 2 ^ a = m * 2 ^ b → u = m ∧ a = b
  | 0, 0, u, m, _, _, h => ⟨by simpa using h, rfl⟩
  | 0, b + 1, u, m, hu, _, h => by
    rw [Nat.pow_succ, ← Nat.mul_assoc] at h
    have : u = m * 2 ^ b * 2 := by simpa using h
    omega
  | a + 1, 0, u, m, _, hm, h => by
    rw [Nat.pow_succ, ← Nat.mul_assoc] at h
    have : u * 2 ^ a * 2 = m := by simpa using h
    omega
  | a + 1, b + 1, u, m, hu, hm, h => by
    rw [Nat.pow_succ, Nat.pow_succ, ← Nat.mul_assoc, ← Nat.mul_assoc] at h
    obtain ⟨e1, e2⟩ := odd_pow a b u m hu hm (Nat.eq_of_mul_eq_mul_right (by decide) h)
    exact ⟨e1, by rw [e2]⟩

theorem small_rung {a : Nat} (h : a < 4503599627370496) : rung a = a ∧ sgn a = false ∧ val (rung a) = a := by
  have e1 : rung a = a := Nat.mod_eq_of_lt (by omega)
  refine ⟨e1, ?_, ?_⟩
  · unfold sgn; rw [show a / 9223372036854775808 = 0 by omega]; rfl
  · rw [e1]; unfold val; rw [if_pos h]

theorem small_isn {a : Nat} (h : a < 4503599627370496) : isn a = false := by
  rw [isn_eq, (small_rung h).1, decide_eq_false_iff_not]; unfold inf; omega

theorem size_class (N : Nat) (h : N < 1000) : (textOf (N * 1099511627776)).data.toList.length = 3 ∨ (textOf (N * 1099511627776)).data.toList.length = 7 ∨ (textOf (N * 1099511627776)).data.toList.length = 8 ∨ (textOf (N * 1099511627776)).data.toList.length = 9 := by
  have ha : N * 1099511627776 < 4503599627370496 := by omega
  obtain ⟨e1, e2, e3⟩ := small_rung ha
  rcases text_form (N * 1099511627776) (by omega) with ⟨e, _⟩ | ⟨_, e, _⟩ | ⟨_, e, _⟩ | ⟨_, _, u, x, ht, hx⟩
  · rw [small_isn ha] at e; cases e
  · rw [e1] at e; unfold inf at e; omega
  · rw [e1] at e; unfold inf at e; omega
  · rw [ht, e2]
    rcases hx with ⟨rfl, rfl, _⟩ | ⟨ho, _, hb, hv⟩
    · left
      rw [decDigits_one (by decide), show (0 : Int) = ((0 : Nat) : Int) from rfl, itoa_nonneg, decDigits_one (by decide)]
      rfl
    · right
      rw [e3] at hv
      have hN : 0 < N := by
        apply Nat.pos_of_ne_zero
        rintro rfl
        have hp : 0 < u * 2 ^ (x + 1074).toNat := Nat.mul_pos (by clear hv; omega) (Nat.pow_pos (by decide))
        rw [← hv] at hp
        exact absurd hp (by decide)
      obtain ⟨m, hm, hk⟩ := ctzFrom_spec 64 N hN (by omega)
      generalize ctzFrom 64 N = k at hm hk
      have h40 : (1099511627776 : Nat) = 2 ^ 40 := by decide
      rw [h40] at hv
      have hv' : (2 * m + 1) * 2 ^ (k + 40) = u * 2 ^ (x + 1074).toNat := by
        rw [← hv, Nat.pow_add, ← Nat.mul_assoc, Nat.mul_comm (2 * m + 1), ← hm]
      obtain ⟨q1, q2⟩ := odd_pow _ _ _ _ (by omega) ho hv'
      have hk9 : k < 10 := by
        apply Classical.byContradiction
        intro hc
        have : 2 ^ 10 ≤ 2 ^ k := Nat.pow_le_pow_right (by decide) (by omega)
        have h10 : (2 : Nat) ^ 10 = 1024 := by decide
        rw [h10] at this
        have h3 : 2 ^ k * 1 ≤ 2 ^ k * (2 * m + 1) := Nat.mul_le_mul_left _ (by omega)
        rw [← hm] at h3
        omega
      have hu : u < 1000 := by
        have h3 : 1 * (2 * m + 1) ≤ 2 ^ k * (2 * m + 1) := Nat.mul_le_mul_right _ (Nat.pow_pos (by decide))
        rw [← hm] at h3
        omega
      clear hv hv' hm
      obtain ⟨y, hy, hy1, hy2⟩ : ∃ y : Nat, x = -(y : Int) ∧ 1000 ≤ y ∧ y < 10000 := ⟨(-x).toNat, by omega, by omega, by omega⟩
      have l1 : (itoa x).length = 5 := by
        rw [hy, itoa_neg y (by omega)]
        show (decDigits y).length + 1 = 5
        rw [decDigits_length, nDigits_unique 3 y (by omega) (by omega)]
      have l2 : (decDigits u).length = 1 ∨ (decDigits u).length = 2 ∨ (decDigits u).length = 3 := by
        rw [decDigits_length]
        by_cases c1 : u < 10
        · exact .inl (nDigits_small c1)
        by_cases c2 : u < 100
        · exact .inr (.inl (nDigits_unique 1 u (by omega) (by omega)))
        · exact .inr (.inr (nDigits_unique 2 u (by omega) (by omega)))
      have l3 : (numL false (decDigits u) (itoa x)).length = (decDigits u).length + 6 := by
        simp [numL, sgL, l1]
      rw [l3]
      omega
end Go.Proofs.YtcecklededfccaaGreatDoor
