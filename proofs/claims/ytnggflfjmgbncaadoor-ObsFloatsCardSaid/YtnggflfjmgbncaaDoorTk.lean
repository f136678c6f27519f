/- The reference's reading of a float's text, in plain words: it takes just the floats' texts. -/
import Derived.Test.YtnggflfjmgbncaaDoorTj
namespace Go.Proofs.YtnggflfjmgbncaaDoor
open Go Go.RowKit Go.Sort Go.Lib Ieee Ev.Fl
set_option maxRecDepth 100000

/-- The rung of an odd number and a power, as it is put together. -/
def yOf (u : Nat) (x : Int) : Nat :=
  if -1022 ≤ x + (u.log2 : Int) then (x + (u.log2 : Int) + 1023).toNat * 4503599627370496 + u * 2 ^ (52 - u.log2) % 4503599627370496 else u * 2 ^ (x + 1074).toNat

theorem lead {u : Nat} (h0 : u ≠ 0) (h : u < 9007199254740992) : u.log2 ≤ 52 ∧ 4503599627370496 ≤ u * 2 ^ (52 - u.log2) ∧ u * 2 ^ (52 - u.log2) < 9007199254740992 := by
  have hl : u.log2 ≤ 52 := by have := log2_lt (k := 53) h0 h; omega
  have h1 : 2 ^ u.log2 ≤ u := Nat.log2_self_le h0
  have h2 : u < 2 ^ (u.log2 + 1) := Nat.lt_log2_self
  refine ⟨hl, ?_, ?_⟩
  · have := Nat.mul_le_mul_right (2 ^ (52 - u.log2)) h1
    rw [← Nat.pow_add, show u.log2 + (52 - u.log2) = 52 by omega] at this
    exact this
  · have := Nat.mul_lt_mul_of_pos_right h2 (Nat.pow_pos (n := 52 - u.log2) (show 0 < 2 by decide))
    rw [← Nat.pow_add, show u.log2 + 1 + (52 - u.log2) = 53 by omega] at this
    exact this

theorem ar5 {L : Nat} {x : Int} (hL : L ≤ 52) (h1 : -1074 ≤ x) (h2 : -1022 ≤ x + (L : Int)) : 52 - L + ((x + (L : Int) + 1023).toNat - 1) = (x + 1074).toNat := by omega
theorem ar6 {L : Nat} {x : Int} (h2 : -1022 ≤ x + (L : Int)) : 1 ≤ (x + (L : Int) + 1023).toNat := by omega

theorem val_y {u : Nat} {x : Int} (h0 : u ≠ 0) (h : u < 9007199254740992) (hx : -1074 ≤ x) : val (yOf u x) = u * 2 ^ (x + 1074).toNat := by
  obtain ⟨hL, g1, g2⟩ := lead h0 h
  unfold yOf
  by_cases ht : -1022 ≤ x + (u.log2 : Int)
  · rw [if_pos ht, val_of _ _ (ar6 ht) (Nat.mod_lt _ (by decide))]
    have e : 4503599627370496 + u * 2 ^ (52 - u.log2) % 4503599627370496 = u * 2 ^ (52 - u.log2) := by
      generalize u * 2 ^ (52 - u.log2) = q at g1 g2
      omega
    rw [e, Nat.mul_assoc, ← Nat.pow_add, ar5 hL hx ht]
  · rw [if_neg ht]
    have hs : u * 2 ^ (x + 1074).toNat < 4503599627370496 := by
      have h2 : u < 2 ^ (u.log2 + 1) := Nat.lt_log2_self
      have h3 := Nat.mul_lt_mul_of_pos_right h2 (Nat.pow_pos (n := (x + 1074).toNat) (show 0 < 2 by decide))
      rw [← Nat.pow_add] at h3
      have h4 : 2 ^ (u.log2 + 1 + (x + 1074).toNat) ≤ 2 ^ 52 := Nat.pow_le_pow_right (by decide) (by omega)
      exact Nat.lt_of_lt_of_le h3 h4
    unfold val
    rw [if_pos hs]

theorem y_lt {u : Nat} {x : Int} (hx : -1074 ≤ x) : yOf u x < inf ↔ ¬ 1023 < x + (u.log2 : Int) := by
  unfold yOf
  by_cases ht : -1022 ≤ x + (u.log2 : Int)
  · rw [if_pos ht]
    have : u * 2 ^ (52 - u.log2) % 4503599627370496 < 4503599627370496 := Nat.mod_lt _ (by decide)
    generalize u * 2 ^ (52 - u.log2) % 4503599627370496 = f at this
    unfold inf
    omega
  · rw [if_neg ht]
    constructor
    · intro _; omega
    · intro _
      have hs : u * 2 ^ (x + 1074).toNat < 4503599627370496 := by
        have h2 : u < 2 ^ (u.log2 + 1) := Nat.lt_log2_self
        have h3 := Nat.mul_lt_mul_of_pos_right h2 (Nat.pow_pos (n := (x + 1074).toNat) (show 0 < 2 by decide))
        rw [← Nat.pow_add] at h3
        have h4 : 2 ^ (u.log2 + 1 + (x + 1074).toNat) ≤ 2 ^ 52 := Nat.pow_le_pow_right (by decide) (by omega)
        exact Nat.lt_of_lt_of_le h3 h4
      exact Nat.lt_trans hs (by decide)

/-- What the reference makes of the parts. -/
def fpV (s : Bool) (u : Nat) (x : Int) : Option Nat := if 1023 < x + (u.log2 : Int) ∨ x < -1074 then none else some (double.word s (yOf u x))

theorem fpV_iff {s : Bool} {u v : Nat} {x : Int} (h0 : u ≠ 0) (h : u < 9007199254740992) : fpV s u x = some v ↔ (-1074 ≤ x ∧ ∃ r, r < inf ∧ val r = u * 2 ^ (x + 1074).toNat ∧ v = double.word s r) := by
  unfold fpV
  constructor
  · intro hv
    split at hv
    · cases hv
    · rename_i hc
      have hx : -1074 ≤ x := by omega
      injection hv with hv
      exact ⟨hx, _, (y_lt hx).2 (by omega), val_y h0 h hx, hv.symm⟩
  · rintro ⟨hx, r, hr, hv, rfl⟩
    have e : yOf u x = r := val_inj ((val_y h0 h hx).trans hv.symm)
    have h1 := (y_lt hx).1 (by rw [e]; exact hr)
    rw [if_neg (by omega), e]

def fpP (s : Bool) (D rest : List UInt8) : Option Nat :=
  match digitsL D 16, digitsL (trimPrefix rest [45]) 4 with
  | some m, some e => if m % 2 = 0 ∨ 9007199254740992 ≤ m ∨ (hasPrefix rest [45] = true ∧ e = 0) then none else fpV s m (if hasPrefix rest [45] = true then -(e : Int) else (e : Int))
  | _, _ => none

/-- The reference's Parse. -/
def fpL (l : List UInt8) : Option Nat :=
  if l = nanL then some NaNb
  else if trimPrefix l [45] = infL then some (double.word (hasPrefix l [45]) inf)
  else if trimPrefix l [45] = [48, 112, 48] then some (double.word (hasPrefix l [45]) 0)
  else if (cut (trimPrefix l [45]) [112]).2.2 = true then fpP (hasPrefix l [45]) (cut (trimPrefix l [45]) [112]).1 (cut (trimPrefix l [45]) [112]).2.1
  else none

theorem dec_short {u k : Nat} (h : u < 10 ^ k) (hk : 0 < k) : (decDigits u).length ≤ k := by
  rw [decDigits_length]
  induction k generalizing u with
  | zero => omega
  | succ k ih =>
    by_cases h10 : u < 10
    · rw [nDigits_small h10]; omega
    · rw [nDigits_big h10]
      have hk' : 0 < k := by
        apply Nat.pos_of_ne_zero
        rintro rfl
        simp at h
        omega
      have := ih (u := u / 10) (by rw [Nat.pow_succ] at h; omega) hk'
      omega

theorem itoa_parts (x : Int) : hasPrefix (itoa x) [45] = decide (x < 0) ∧ trimPrefix (itoa x) [45] = decDigits x.natAbs := by
  unfold itoa
  by_cases hx : x < 0
  · rw [if_pos hx, decide_eq_true hx]
    exact ⟨rfl, by unfold trimPrefix; rw [if_pos (show hasPrefix (45 :: decDigits x.natAbs) [45] = true from rfl)]; rfl⟩
  · rw [if_neg hx, decide_eq_false hx]
    obtain ⟨c, r, e, h1, _⟩ := dec_cons x.toNat
    have hp : hasPrefix (decDigits x.toNat) [45] = false := by
      rw [e]
      show ((45 : UInt8) == c && List.isPrefixOf [] _) = false
      rw [beq_eq_false_iff_ne.2 fun e => by rw [← e] at h1; exact absurd h1 (by decide)]
      rfl
    refine ⟨hp, ?_⟩
    unfold trimPrefix
    rw [if_neg (by rw [hp]; simp), show x.toNat = x.natAbs by omega]

theorem num_parts (s : Bool) (u : Nat) (I : List UInt8) : hasPrefix (numL s (decDigits u) I) [45] = s ∧ trimPrefix (numL s (decDigits u) I) [45] = decDigits u ++ 112 :: I := by
  have h := (reads_dec s u I).1
  refine ⟨h, ?_⟩
  unfold trimPrefix
  rw [h]
  cases s <;> rfl

/-- A float's text is read. -/
theorem fpL_text (a : Nat) (ha : a < 18446744073709551616) : fpL (textOf a).data.toList = some (canon a) := by
  rcases text_form a ha with ⟨h1, h2⟩ | ⟨h1, h2, h3, h4⟩ | ⟨h1, h2, h3, h4⟩ | ⟨h1, h2, u, x, h3, h4⟩
  · unfold canon fpL
    rw [h1, h2]
    rfl
  · have hc : canon a = a := by unfold canon; rw [h1]; rfl
    rw [h4, hc, word_of a ha h2 h3]
    rfl
  · have hc : canon a = a := by unfold canon; rw [h1]; rfl
    rw [h4, hc, word_of a ha h2 h3]
    rfl
  · have hc : canon a = a := by unfold canon; rw [h1]; rfl
    obtain ⟨p1, p2⟩ := num_parts (sgn a) u (itoa x)
    have hw := not_words (reads_dec (sgn a) u (itoa x))
    rw [h3, hc]
    unfold fpL
    rw [if_neg hw.1, p1, p2]
    have hninf : decDigits u ++ 112 :: itoa x ≠ infL := by
      intro e
      have := cut_at (decDigits u) (itoa x) (dec_no_p u)
      rw [e] at this
      have e1 : (cut infL [112]).2.2 = false := by decide
      rw [this] at e1
      cases e1
    rw [if_neg hninf]
    rcases h4 with ⟨rfl, rfl, h0⟩ | ⟨ho, hl, hx, hv⟩
    · rw [if_pos (by rw [decDigits_one (by decide), show (0 : Int) = ((0 : Nat) : Int) from rfl, itoa_nonneg, decDigits_one (by decide)]; rfl)]
      exact congrArg some (word_of a ha h0 rfl).symm
    · have hu0 : u ≠ 0 := by clear hv h3; omega
      have hz : decDigits u ++ 112 :: itoa x ≠ [48, 112, 48] := by
        intro e
        obtain ⟨c, r, ec, hc1, _⟩ := dec_head u (by clear hv h3; omega)
        rw [ec] at e
        injection e with e _
        rw [e] at hc1
        exact absurd hc1 (by decide)
      rw [if_neg hz, cut_at _ _ (dec_no_p u), if_pos rfl]
      obtain ⟨i1, i2⟩ := itoa_parts x
      have d1 : digitsL (decDigits u) 16 = some u := (digitsL_iff _ _ _).2 ⟨rfl, dec_short (by clear hv h3; omega) (by decide)⟩
      have d2 : digitsL (trimPrefix (itoa x) [45]) 4 = some x.natAbs := (digitsL_iff _ _ _).2 ⟨i2, by rw [i2]; exact dec_short (by clear hv h3; omega) (by decide)⟩
      unfold fpP
      simp only [d1, d2, i1]
      have hneg : ¬ (u % 2 = 0 ∨ 9007199254740992 ≤ u ∨ decide (x < 0) = true ∧ x.natAbs = 0) := by
        clear hv h3
        rw [decide_eq_true_eq]
        omega
      rw [if_neg hneg]
      have hxx : (if decide (x < 0) = true then -((x.natAbs : Nat) : Int) else ((x.natAbs : Nat) : Int)) = x := by
        clear hv h3
        by_cases hn : x < 0
        · rw [if_pos (decide_eq_true hn)]; omega
        · rw [if_neg (by simp [hn])]; omega
      rw [hxx]
      exact (fpV_iff hu0 hl).2 ⟨hx.1, rung a, h2, hv, (word_self a ha).symm⟩

theorem cut_back {t : List UInt8} (h : (cut t [112]).2.2 = true) : t = (cut t [112]).1 ++ 112 :: (cut t [112]).2.1 := by
  unfold cut at h ⊢
  rcases index_spec t [112] with ⟨h1, _⟩ | ⟨i, h1, h2, h3, _⟩
  · rw [if_neg (by rw [h1]; decide)] at h
    cases h
  · rw [h1, if_pos (by omega)]
    have h4 := occAt_head (s := t) rfl h3
    obtain ⟨hi, h5⟩ := List.getElem?_eq_some_iff.1 h4
    have e : t.drop i = 112 :: t.drop (i + 1) := by rw [List.drop_eq_getElem_cons hi, h5]
    show t = t.take (i : Int).toNat ++ 112 :: t.drop ((i : Int).toNat + 1)
    rw [Int.toNat_natCast, ← e, List.take_append_drop]

theorem trim_back (l : List UInt8) : l = sgL (hasPrefix l [45]) ++ trimPrefix l [45] := by
  unfold trimPrefix sgL
  cases h : hasPrefix l [45] with
  | false => rfl
  | true =>
    cases l with
    | nil => cases h
    | cons c r =>
      have : ((45 : UInt8) == c) = true := by
        have h' : ((45 : UInt8) == c && List.isPrefixOf [] r) = true := h
        exact (Bool.and_eq_true_iff.1 h').1
      rw [beq_iff_eq] at this
      subst this
      rfl

theorem word_facts (s : Bool) {r : Nat} (h : r < 9223372036854775808) : rung (double.word s r) = r ∧ sgn (double.word s r) = s ∧ double.word s r < 18446744073709551616 := by
  rw [word_eq]
  unfold rung sgn
  cases s
  · refine ⟨Nat.mod_eq_of_lt h, ?_, ?_⟩
    · show (r / 9223372036854775808 % 2 == 1) = false
      rw [show r / 9223372036854775808 = 0 by omega]; rfl
    · show r < 18446744073709551616; omega
  · refine ⟨?_, ?_, ?_⟩
    · show (9223372036854775808 + r) % 9223372036854775808 = r; omega
    · show ((9223372036854775808 + r) / 9223372036854775808 % 2 == 1) = true
      rw [show (9223372036854775808 + r) / 9223372036854775808 = 1 by omega]; rfl
    · show 9223372036854775808 + r < 18446744073709551616; omega

theorem not_isn {a r : Nat} (h : rung a = r) (hr : r ≤ inf) : isn a = false := by
  rw [isn_eq, h, decide_eq_false_iff_not]; omega

theorem canon_of {a : Nat} (h : isn a = false) : canon a = a := by unfold canon; rw [h]; rfl

/-- A text that is read is a float's, and which float's. -/
theorem fpL_back {l : List UInt8} {v : Nat} (h : fpL l = some v) : v < 18446744073709551616 ∧ (textOf v).data.toList = l ∧ canon v = v := by
  unfold fpL at h
  by_cases c1 : l = nanL
  · rw [if_pos c1] at h
    injection h with h
    subst h c1
    refine ⟨by decide, ?_, by unfold canon; rw [isn_NaNb]; rfl⟩
    unfold textOf
    rw [isn_text, isn_NaNb]
    rfl
  rw [if_neg c1] at h
  have hl := trim_back l
  by_cases c2 : trimPrefix l [45] = infL
  · rw [if_pos c2] at h
    injection h with h
    obtain ⟨f1, f2, f3⟩ := word_facts (hasPrefix l [45]) inf_lt
    rw [h] at f1 f2 f3
    have hn := not_isn f1 (Nat.le_refl _)
    refine ⟨f3, ?_, canon_of hn⟩
    rw [c2] at hl
    rcases text_form v f3 with ⟨e, _⟩ | ⟨_, _, e3, e4⟩ | ⟨_, _, e3, e4⟩ | ⟨_, e2, _⟩
    · rw [hn] at e; cases e
    · rw [e4, hl, ← f2, e3]; rfl
    · rw [e4, hl, ← f2, e3]; rfl
    · rw [f1] at e2; omega
  rw [if_neg c2] at h
  by_cases c3 : trimPrefix l [45] = [48, 112, 48]
  · rw [if_pos c3] at h
    injection h with h
    obtain ⟨f1, f2, f3⟩ := word_facts (hasPrefix l [45]) (show (0 : Nat) < 9223372036854775808 by decide)
    rw [h] at f1 f2 f3
    have hn := not_isn f1 (by decide)
    refine ⟨f3, ?_, canon_of hn⟩
    rw [c3] at hl
    rcases text_form v f3 with ⟨e, _⟩ | ⟨_, e2, _⟩ | ⟨_, e2, _⟩ | ⟨_, _, u, x, e3, e4⟩
    · rw [hn] at e; cases e
    · rw [f1] at e2; exact absurd e2 (by decide)
    · rw [f1] at e2; exact absurd e2 (by decide)
    · rcases e4 with ⟨rfl, rfl, _⟩ | ⟨o1, _, _, o4⟩
      · rw [e3, hl, f2, decDigits_one (by decide), show (0 : Int) = ((0 : Nat) : Int) from rfl, itoa_nonneg, decDigits_one (by decide)]
        rfl
      · rw [f1] at o4
        have hp : 0 < u * 2 ^ (x + 1074).toNat := Nat.mul_pos (by clear o4; omega) (Nat.pow_pos (by decide))
        rw [← o4] at hp
        exact absurd hp (by decide)
  rw [if_neg c3] at h
  by_cases c4 : (cut (trimPrefix l [45]) [112]).2.2 = true
  · rw [if_pos c4] at h
    have ht := cut_back c4
    generalize (cut (trimPrefix l [45]) [112]).1 = D at ht h
    generalize (cut (trimPrefix l [45]) [112]).2.1 = rest at ht h
    rw [ht] at hl
    unfold fpP at h
    cases hD : digitsL D 16 with
    | none => rw [hD] at h; cases h
    | some m =>
      cases hI : digitsL (trimPrefix rest [45]) 4 with
      | none => rw [hD, hI] at h; cases h
      | some e =>
        rw [hD, hI] at h
        simp only at h
        by_cases hc : m % 2 = 0 ∨ 9007199254740992 ≤ m ∨ (hasPrefix rest [45] = true ∧ e = 0)
        · rw [if_pos hc] at h; cases h
        · rw [if_neg hc] at h
          have hm : m ≠ 0 ∧ m % 2 = 1 ∧ m < 9007199254740992 ∧ ¬ (hasPrefix rest [45] = true ∧ e = 0) := by
            refine ⟨?_, ?_, ?_, fun hh => hc (.inr (.inr hh))⟩
            · rintro rfl; exact hc (.inl rfl)
            · have : ¬ m % 2 = 0 := fun hh => hc (.inl hh)
              omega
            · have : ¬ 9007199254740992 ≤ m := fun hh => hc (.inr (.inl hh))
              omega
          obtain ⟨hm0, hm1, hm2, hm3⟩ := hm
          obtain ⟨dD, _⟩ := (digitsL_iff _ _ _).1 hD
          obtain ⟨dI, _⟩ := (digitsL_iff _ _ _).1 hI
          have hr := trim_back rest
          rw [dI] at hr
          have hx : rest = itoa (if hasPrefix rest [45] = true then -(e : Int) else (e : Int)) := by
            cases hb : hasPrefix rest [45] with
            | true =>
              have he : 1 ≤ e := by
                apply Nat.pos_of_ne_zero
                intro h0
                exact hm3 ⟨hb, h0⟩
              rw [if_pos rfl, itoa_neg e he]
              rw [hb] at hr
              exact hr
            | false =>
              rw [if_neg (by decide), itoa_nonneg]
              rw [hb] at hr
              exact hr
          obtain ⟨hx1, r, hri, hrv, hv⟩ := (fpV_iff hm0 hm2).1 h
          generalize (if hasPrefix rest [45] = true then -(e : Int) else (e : Int)) = x at hx hx1 hrv
          have hr63 : r < 9223372036854775808 := Nat.lt_trans hri inf_lt
          obtain ⟨f1, f2, f3⟩ := word_facts (hasPrefix l [45]) hr63
          rw [← hv] at f1 f2 f3
          have hn := not_isn f1 (Nat.le_of_lt hri)
          refine ⟨f3, ?_, canon_of hn⟩
          rcases text_form v f3 with ⟨e, _⟩ | ⟨_, e2, _⟩ | ⟨_, e2, _⟩ | ⟨_, _, u, y, e3, e4⟩
          · rw [hn] at e; cases e
          · rw [f1] at e2; rw [e2] at hri; exact absurd hri (by decide)
          · rw [f1] at e2; rw [e2] at hri; exact absurd hri (by decide)
          · rcases e4 with ⟨_, _, h0⟩ | ⟨o1, _, o3, o4⟩
            · rw [f1] at h0
              rw [h0] at hrv
              have hp : 0 < m * 2 ^ (x + 1074).toNat := Nat.mul_pos (Nat.pos_of_ne_zero hm0) (Nat.pow_pos (by decide))
              rw [← hrv] at hp
              exact absurd hp (by decide)
            · rw [f1, hrv] at o4
              obtain ⟨q1, q2⟩ := odd_pow _ _ _ _ hm1 o1 o4
              have q3 : x = y := by clear o4 hrv; omega
              rw [e3, f2, ← q1, ← q3, ← hx, ← dD]
              exact hl.symm
  · rw [if_neg c4] at h
    cases h
end Go.Proofs.YtnggflfjmgbncaaDoor
