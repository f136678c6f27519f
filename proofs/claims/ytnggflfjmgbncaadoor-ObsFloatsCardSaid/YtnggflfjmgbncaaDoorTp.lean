/- A float's text: plain laws of its parts. -/
import Derived.Test.YtnggflfjmgbncaaDoorTo
import Derived.Lib.ParseIntBCases
import Derived.Lib.Index
import Derived.Lib.IndexMore
namespace Go.Proofs.YtnggflfjmgbncaaDoor
open Go Go.RowKit Go.Sort Go.Lib Ieee Ev.Fl
set_option maxRecDepth 100000

/-! ### Digits -/

theorem dig_toNat (d : Nat) (h : d < 10) : (UInt8.ofNat (48 + d)).toNat = 48 + d := by
  rw [UInt8.toNat_ofNat']
  omega

theorem pum_append (M : Nat) : ∀ (l r : List UInt8) (acc v : Nat), parseUintM M acc l = .ok v → parseUintM M acc (l ++ r) = parseUintM M v r
  | [], r, acc, v, h => by
    simp only [parseUintM] at h
    injection h with h
    rw [h]
    rfl
  | c :: l, r, acc, v, h => by
    simp only [parseUintM, List.cons_append] at h ⊢
    split at h
    · rename_i h1
      rw [if_pos h1]
      split at h
      · cases h
      · rename_i h2
        rw [if_neg h2]
        split at h
        · cases h
        · rename_i h3
          rw [if_neg h3]
          exact pum_append M l r _ v h
    · cases h

theorem pum_dec (M : Nat) (hM : M ≤ 18446744073709551615) : ∀ (u : Nat), u ≤ M → parseUintM M 0 (decDigits u) = .ok u := by
  intro u
  induction u using Nat.strongRecOn with
  | ind u ih =>
    intro hu
    rw [decDigits]
    by_cases h : u < 10
    · rw [dif_pos h]
      simp only [parseUintM, dig_toNat u h]
      rw [if_pos (by omega), if_neg (by omega), if_neg (by omega)]
      congr 1
      omega
    · rw [dif_neg h, pum_append M _ _ 0 (u / 10) (ih (u / 10) (by omega) (by omega))]
      simp only [parseUintM, dig_toNat (u % 10) (by omega)]
      rw [if_pos (by omega), if_neg (by omega), if_neg (by omega)]
      congr 1
      omega

theorem pu10_eq : ∀ (l : List UInt8) (acc : Nat), parseUint10 acc l = parseUintM 18446744073709551615 acc l
  | [], _ => rfl
  | c :: l, acc => by
    simp only [parseUint10, parseUintM]
    split
    · split
      · rfl
      · by_cases h : 18446744073709551616 ≤ acc * 10 + (c.toNat - 48)
        · rw [if_pos h, if_pos (by omega)]
        · rw [if_neg h, if_neg (by omega)]
          exact pu10_eq l _
    · rfl

theorem dec_ne (u : Nat) : decDigits u ≠ [] := by
  intro h
  have := decDigits_length u
  rw [h] at this
  have := nDigits_pos u
  simp at *
  omega

theorem dec_dig : ∀ (u : Nat), ∀ b ∈ decDigits u, 48 ≤ b.toNat ∧ b.toNat ≤ 57 := by
  intro u
  induction u using Nat.strongRecOn with
  | ind u ih =>
    intro b hb
    rw [decDigits] at hb
    by_cases h : u < 10
    · rw [dif_pos h] at hb
      simp only [List.mem_singleton] at hb
      rw [hb, dig_toNat u h]
      omega
    · rw [dif_neg h] at hb
      rcases List.mem_append.1 hb with hb | hb
      · exact ih (u / 10) (by omega) b hb
      · simp only [List.mem_singleton] at hb
        rw [hb, dig_toNat (u % 10) (by omega)]
        omega

theorem dec_head : ∀ (u : Nat), 0 < u → ∃ c r, decDigits u = c :: r ∧ 49 ≤ c.toNat ∧ c.toNat ≤ 57 := by
  intro u
  induction u using Nat.strongRecOn with
  | ind u ih =>
    intro hu
    rw [decDigits]
    by_cases h : u < 10
    · rw [dif_pos h]
      exact ⟨_, _, rfl, by rw [dig_toNat u h]; omega, by rw [dig_toNat u h]; omega⟩
    · rw [dif_neg h]
      obtain ⟨c, r, e, h1, h2⟩ := ih (u / 10) (by omega) (by omega)
      exact ⟨c, r ++ _, by rw [e]; rfl, h1, h2⟩

theorem dec_cons (u : Nat) : ∃ c r, decDigits u = c :: r ∧ 48 ≤ c.toNat ∧ c.toNat ≤ 57 := by
  cases h : decDigits u with
  | nil => exact (dec_ne u h).elim
  | cons c r => exact ⟨c, r, rfl, dec_dig u c (by rw [h]; exact List.mem_cons_self)⟩

theorem pub_dec (u : Nat) (hu : u < 18446744073709551616) : parseUintB 64 (decDigits u) = .ok u := by
  unfold parseUintB
  rw [if_neg (dec_ne u)]
  exact pum_dec _ (by decide) u (by show u ≤ 18446744073709551615; omega)

theorem mag_dec (u : Nat) (hu : u < 18446744073709551616) : parseMag (decDigits u) = .ok u := by
  unfold parseMag
  rw [if_neg (dec_ne u), pu10_eq]
  exact pum_dec _ (by decide) u (by omega)

theorem atoi_itoa (x : Int) (h : -9223372036854775808 ≤ x ∧ x ≤ 9223372036854775807) : atoiAll (itoa x) = .ok x := by
  unfold itoa
  by_cases hx : x < 0
  · rw [if_pos hx, atoiAll_minus, mag_dec _ (by omega)]
    simp only [Lib.signed]
    first
      | (rw [if_neg (by omega)]; congr 1; omega)
      | (split <;> first | omega | (congr 1; omega))
  · rw [if_neg hx]
    obtain ⟨c, r, e, h1, h2⟩ := dec_cons x.toNat
    rw [e, atoiAll_plain c r (by omega) (by omega), ← e, mag_dec _ (by omega)]
    simp only [Lib.signless]
    first
      | (rw [if_neg (by omega)]; congr 1; omega)
      | (split <;> first | omega | (congr 1; omega))

/-! ### What is around them -/

theorem cut_at (D I : List UInt8) (h : ∀ b ∈ D, b ≠ 112) : cut (D ++ 112 :: I) [112] = (D, I, true) := by
  have hi : index (D ++ 112 :: I) [112] = (D.length : Int) := by
    refine index_first (by simp) ?_ ?_
    · unfold occAt
      rw [List.drop_left]
      rfl
    · intro j hj
      unfold occAt
      rw [List.drop_append_of_le_length (by omega), List.drop_eq_getElem_cons hj]
      have := h _ (List.getElem_mem hj)
      show ((112 : UInt8) == D[j] && List.isPrefixOf [] _) = false
      rw [beq_eq_false_iff_ne.2 fun e => this e.symm]
      rfl
  unfold cut
  rw [if_pos (by omega), hi]
  simp [List.drop_append]

theorem cut_none (l : List UInt8) (h : ∀ b ∈ l, b ≠ 112) : cut l [112] = (l, [], false) := by
  have hi : index l [112] = -1 := by
    induction l with
    | nil => rfl
    | cons b l ih =>
      unfold index
      rw [ih (fun b hb => h b (List.mem_cons_of_mem _ hb))]
      have := h b List.mem_cons_self
      simp [List.isPrefixOf]
      exact fun e => this e.symm
  unfold cut
  rw [hi]
  rfl
end Go.Proofs.YtnggflfjmgbncaaDoor
