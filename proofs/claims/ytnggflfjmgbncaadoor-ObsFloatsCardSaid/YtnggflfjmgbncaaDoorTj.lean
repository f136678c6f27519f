/- The reference's reading of a float's text, in plain words: it takes just the floats' texts. -/
import Derived.Test.YtnggflfjmgbncaaDoorTg
namespace Go.Proofs.YtnggflfjmgbncaaDoor
open Go Go.RowKit Go.Sort Go.Lib Ieee Ev.Fl
set_option maxRecDepth 100000

theorem decFrom_append : ∀ (l r : List UInt8) (acc v : Nat), decFrom acc l = some v → decFrom acc (l ++ r) = decFrom v r
  | [], r, acc, v, h => by simp only [decFrom, Option.some.injEq] at h; rw [h]; rfl
  | c :: l, r, acc, v, h => by
    simp only [decFrom, List.cons_append] at h ⊢
    cases hd : digitVal c with
    | none => rw [hd] at h; simp at h
    | some d =>
      rw [hd] at h
      simp at h ⊢
      exact decFrom_append l r _ v h

theorem decFrom_none_append : ∀ (l r : List UInt8) (acc : Nat), decFrom acc l = none → decFrom acc (l ++ r) = none
  | [], r, acc, h => by simp [decFrom] at h
  | c :: l, r, acc, h => by
    simp only [decFrom, List.cons_append] at h ⊢
    cases hd : digitVal c with
    | none => simp
    | some d =>
      rw [hd] at h
      simp at h ⊢
      exact decFrom_none_append l r _ h

theorem digit_back {c : UInt8} {d : Nat} (h : digitVal c = some d) : d < 10 ∧ c = UInt8.ofNat (48 + d) := by
  obtain ⟨h1, h2, h3⟩ := digitVal_eq h
  refine ⟨by omega, ?_⟩
  apply UInt8.toNat_inj.1
  rw [dig_toNat d (by omega)]
  omega

theorem digitVal_of (d : Nat) (h : d < 10) : digitVal (UInt8.ofNat (48 + d)) = some d := by
  revert d
  decide

theorem decFrom_one (acc d : Nat) (h : d < 10) : decFrom acc [UInt8.ofNat (48 + d)] = some (acc * 10 + d) := by
  unfold decFrom
  rw [digitVal_of d h]
  rfl

theorem decFrom_dec : ∀ (u : Nat), decFrom 0 (decDigits u) = some u := by
  intro u
  induction u using Nat.strongRecOn with
  | ind u ih =>
    rw [decDigits]
    by_cases h : u < 10
    · rw [dif_pos h]
      rw [decFrom_one 0 u h, Nat.zero_mul, Nat.zero_add]
    · rw [dif_neg h, decFrom_append _ _ 0 (u / 10) (ih (u / 10) (by omega))]
      rw [decFrom_one (u / 10) (u % 10) (by omega)]
      congr 1
      omega

/-- A row of digits that does not begin with a 0 is the decimal numeral of what it says. -/
theorem dec_of : ∀ (k : Nat) (l : List UInt8) (n : Nat), l.length = k → decFrom 0 l = some n → l ≠ [] → (∀ r, l = 48 :: r → r = []) → l = decDigits n := by
  intro k
  induction k with
  | zero => intro l n hl _ hne; exact (hne (List.length_eq_zero_iff.1 hl)).elim
  | succ k ih =>
    intro l n hl h hne hz
    obtain ⟨l', c, rfl⟩ : ∃ l' c, l = l' ++ [c] := by
      rcases List.eq_nil_or_concat l with h0 | ⟨l', c, h0⟩
      · exact (hne h0).elim
      · exact ⟨l', c, by rw [h0, List.concat_eq_append]⟩
    have hl' : l'.length = k := by simp at hl; exact hl
    cases hv : decFrom 0 l' with
    | none => rw [decFrom_none_append _ _ _ hv] at h; cases h
    | some v =>
      rw [decFrom_append _ _ _ _ hv] at h
      cases hd : digitVal c with
      | none => simp [decFrom, hd] at h
      | some d =>
        simp [decFrom, hd] at h
        obtain ⟨hd1, hc⟩ := digit_back hd
        by_cases hn : l' = []
        · subst hn
          simp [decFrom] at hv
          subst hv
          have : n = d := by omega
          rw [this, decDigits_one hd1, hc]
          rfl
        · have e := ih l' v hl' hv hn fun r hr => by
            have := hz (r ++ [c]) (by rw [hr]; rfl)
            simp at this
          have hv0 : v ≠ 0 := by
            intro h0
            rw [h0, decDigits_one (by decide)] at e
            have := hz [c] (by rw [e]; rfl)
            simp at this
          rw [decDigits, dif_neg (by omega), show n / 10 = v by omega, show n % 10 = d by omega, ← e, hc]

def digitsL (l : List UInt8) (most : Nat) : Option Nat := if l = [] ∨ most < l.length ∨ (l.head? = some 48 ∧ 1 < l.length) then none else decFrom 0 l

theorem digitsL_iff (l : List UInt8) (most n : Nat) : digitsL l most = some n ↔ l = decDigits n ∧ l.length ≤ most := by
  unfold digitsL
  constructor
  · intro h
    split at h
    · cases h
    · rename_i hc
      refine ⟨dec_of _ l n rfl h (fun e => hc (.inl e)) fun r hr => ?_, by omega⟩
      apply Classical.byContradiction
      intro hne
      exact hc (.inr (.inr ⟨by rw [hr]; rfl, by rw [hr]; have := List.length_pos_iff.2 hne; simp; omega⟩))
  · rintro ⟨h, hl⟩
    rw [if_neg, h]
    · exact decFrom_dec n
    · rintro (h1 | h1 | ⟨h1, h2⟩)
      · rw [h] at h1; exact dec_ne n h1
      · omega
      · cases hl2 : l with
        | nil => rw [hl2] at h2; simp at h2
        | cons c r =>
          rw [hl2] at h1
          simp at h1
          subst h1
          have := dec_zero (u := n) (r := r) (by rw [← h, hl2])
          rw [hl2, this.2] at h2
          simp at h2
end Go.Proofs.YtnggflfjmgbncaaDoor
