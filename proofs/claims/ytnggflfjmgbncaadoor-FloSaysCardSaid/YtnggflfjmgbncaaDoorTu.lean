/- A float as a whole number, by its bits: plain law. -/
import Derived.Test.YtnggflfjmgbncaaDoorTk
namespace Go.Proofs.YtnggflfjmgbncaaDoor
open Go Go.RowKit Go.Sort Go.Lib Ieee Ev.Fl
set_option maxRecDepth 100000

/-- What is ahead of the point. -/
def wOf (a : Nat) : Nat := val (rung a) / U
def mOf (a : Nat) : Nat := 4503599627370496 + rung a % 4503599627370496

theorem mOf_lt (a : Nat) : 4503599627370496 ≤ mOf a ∧ mOf a < 9007199254740992 := by unfold mOf; omega

theorem val_m (a : Nat) (h : ex a ≠ 0) : val (rung a) = mOf a * 2 ^ (ex a - 1) := by
  obtain ⟨h1, _⟩ := ex_rung a
  unfold val mOf
  rw [if_neg (by omega), h1]

theorem wOf_big (a : Nat) (h : 1075 ≤ ex a) : wOf a = mOf a * 2 ^ (ex a - 1075) := by
  unfold wOf
  rw [val_m a (by omega), U_more (ex a - 1) (by omega), ← Nat.mul_assoc, Nat.mul_div_cancel _ U_pos, show ex a - 1 - 1074 = ex a - 1075 by omega]

theorem wOf_mid (a : Nat) (h0 : ex a ≠ 0) (h : ex a < 1075) : wOf a = mOf a / 2 ^ (1075 - ex a) := by
  unfold wOf
  rw [val_m a h0, U_two (ex a - 1) (by omega), Nat.mul_div_mul_right _ _ (Nat.pow_pos (by decide)), show 1074 - (ex a - 1) = 1075 - ex a by omega]

theorem wOf_low (a : Nat) (h : ex a < 1023) : wOf a = 0 := by
  by_cases h0 : ex a = 0
  · obtain ⟨h1, _⟩ := ex_rung a
    unfold wOf val
    rw [if_pos (by omega)]
    refine Nat.div_eq_of_lt ?_
    have h2 : rung a < 2 ^ 52 := by
      have : (2 : Nat) ^ 52 = 4503599627370496 := by decide
      omega
    refine Nat.lt_of_lt_of_le h2 ?_
    have e := U_two 52 (by decide)
    generalize 1074 - 52 = k at e
    rw [e]
    exact Nat.le_mul_of_pos_left _ (Nat.pow_pos (by decide))
  · rw [wOf_mid a h0 (by omega)]
    refine Nat.div_eq_of_lt ?_
    have h1 := (mOf_lt a).2
    have h2 : 2 ^ 53 ≤ 2 ^ (1075 - ex a) := Nat.pow_le_pow_right (by decide) (by omega)
    exact Nat.lt_of_lt_of_le h1 h2

/-- flo.ToInt's answer. -/
def toIntOf (a : Nat) : Int × Bool :=
  if inf ≤ rung a then (0, false)
  else if -9223372036854775808 ≤ sgz (sgn a) (wOf a) ∧ sgz (sgn a) (wOf a) ≤ 9223372036854775807 then (sgz (sgn a) (wOf a), true) else (0, false)

/-- The reference's answer. -/
def refInt (a : Nat) : Int × Bool :=
  if ex a < 1023 then (0, true)
  else if 1086 ≤ ex a then (if a = 14114281232179134464 then (-9223372036854775808, true) else (0, false))
  else (sgz (sgn a) (if 1075 ≤ ex a then mOf a * 2 ^ (ex a - 1075) else mOf a / 2 ^ (1075 - ex a)), true)

theorem sgz_in (s : Bool) {n : Nat} (h : n < 9223372036854775808) : -9223372036854775808 ≤ sgz s n ∧ sgz s n ≤ 9223372036854775807 := by
  unfold sgz; split <;> omega

theorem refInt_eq (a : Nat) (ha : a < 18446744073709551616) : refInt a = toIntOf a := by
  obtain ⟨h1, h2⟩ := ex_rung a
  obtain ⟨m1, m2⟩ := mOf_lt a
  have hr : rung a < 9223372036854775808 := Nat.mod_lt _ (by decide)
  unfold refInt toIntOf
  by_cases c1 : ex a < 1023
  · have hlt : ¬ inf ≤ rung a := by unfold inf; omega
    rw [if_pos c1, if_neg hlt, wOf_low a c1, if_pos (sgz_in _ (by decide))]
    unfold sgz
    split <;> rfl
  rw [if_neg c1]
  by_cases c2 : 1086 ≤ ex a
  · rw [if_pos c2]
    by_cases c3 : inf ≤ rung a
    · rw [if_pos c3, if_neg]
      rintro rfl
      exact absurd c3 (by decide)
    · rw [if_neg c3]
      have hw := wOf_big a (by omega)
      have hp : 2 ^ 11 ≤ 2 ^ (ex a - 1075) := Nat.pow_le_pow_right (by decide) (by omega)
      have hp' : (2 : Nat) ^ 11 = 2048 := by decide
      rw [hp'] at hp
      have hge : 9223372036854775808 ≤ wOf a := by
        rw [hw]
        have := Nat.mul_le_mul m1 hp
        omega
      by_cases c4 : a = 14114281232179134464
      · rw [if_pos c4]
        have e1 : ex a = 1086 := by rw [c4]; decide
        have e2 : mOf a = 4503599627370496 := by rw [c4]; decide
        have e3 : sgn a = true := by rw [c4]; decide
        have e4 : wOf a = 9223372036854775808 := by rw [hw, e1, e2]
        rw [e3, e4]
        decide
      · rw [if_neg c4, if_neg]
        intro ⟨g1, g2⟩
        cases hs : sgn a with
        | false =>
          rw [hs] at g2
          have g2 : ((wOf a : Nat) : Int) ≤ 9223372036854775807 := g2
          omega
        | true =>
          rw [hs] at g1
          have g1 : -9223372036854775808 ≤ -((wOf a : Nat) : Int) := g1
          have hw2 : wOf a = 9223372036854775808 := by omega
          rw [hw2] at hw
          have hex : ex a = 1086 := by
            apply Classical.byContradiction
            intro hne
            have hq : 2 ^ 12 ≤ 2 ^ (ex a - 1075) := Nat.pow_le_pow_right (by decide) (by omega)
            have hq' : (2 : Nat) ^ 12 = 4096 := by decide
            rw [hq'] at hq
            have := Nat.mul_le_mul m1 hq
            rw [← hw] at this
            exact absurd this (by decide)
          rw [hex] at hw
          have hm : mOf a = 4503599627370496 := by
            have e : (2 : Nat) ^ (1086 - 1075) = 2048 := by decide
            rw [e] at hw
            omega
          refine c4 ?_
          have := word_self a ha
          rw [hs, word_eq] at this
          have hf : rung a % 4503599627370496 = 0 := by unfold mOf at hm; omega
          rw [h1] at hex
          have : 9223372036854775808 + rung a = a := this
          clear hw hp hge g1 hw2
          omega
  · rw [if_neg c2]
    have c3 : ¬ inf ≤ rung a := by unfold inf; omega
    rw [if_neg c3]
    by_cases c4 : 1075 ≤ ex a
    · rw [if_pos c4, wOf_big a c4]
      have hb : mOf a * 2 ^ (ex a - 1075) < 9223372036854775808 := by
        have hq : 2 ^ (ex a - 1075) ≤ 2 ^ 10 := Nat.pow_le_pow_right (by decide) (by omega)
        have hq' : (2 : Nat) ^ 10 = 1024 := by decide
        rw [hq'] at hq
        have := Nat.mul_le_mul (Nat.le_of_lt_succ (show mOf a < 9007199254740991 + 1 from m2)) hq
        omega
      rw [if_pos (sgz_in _ hb)]
    · rw [if_neg c4, wOf_mid a (by omega) (by omega)]
      have hb : mOf a / 2 ^ (1075 - ex a) < 9223372036854775808 := Nat.lt_of_le_of_lt (Nat.div_le_self _ _) (by omega)
      rw [if_pos (sgz_in _ hb)]
end Go.Proofs.YtnggflfjmgbncaaDoor
