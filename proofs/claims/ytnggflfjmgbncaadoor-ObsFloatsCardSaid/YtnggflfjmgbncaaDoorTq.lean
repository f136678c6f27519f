/- A float's text: its form; which float a text is. -/
import Derived.Test.YtnggflfjmgbncaaDoorTp
namespace Go.Proofs.YtnggflfjmgbncaaDoor
open Go Go.RowKit Go.Sort Go.Lib Ieee Ev.Fl
set_option maxRecDepth 100000

def nanL : List UInt8 := [110, 97, 110]
def infL : List UInt8 := [105, 110, 102]
def ninfL : List UInt8 := [45, 105, 110, 102]
def sgL (s : Bool) : List UInt8 := if s then [45] else []
def numL (s : Bool) (D I : List UInt8) : List UInt8 := sgL s ++ (D ++ 112 :: I)

/-- The parts of a text: its sign, what stands ahead of the p, and behind it. -/
def Reads (l : List UInt8) (s : Bool) (D I : List UInt8) : Prop := hasPrefix l [45] = s ∧ cut (trimPrefix l [45]) [112] = (D, I, true)

theorem reads_num (s : Bool) (D I : List UInt8) (hD : ∀ b ∈ D, b ≠ 112) (hs : s = false → ∀ r, D ≠ 45 :: r) : Reads (numL s D I) s D I := by
  cases s with
  | true =>
    refine ⟨rfl, ?_⟩
    show cut (trimPrefix (45 :: (D ++ 112 :: I)) [45]) [112] = _
    unfold trimPrefix
    rw [if_pos (show hasPrefix (45 :: (D ++ 112 :: I)) [45] = true from rfl)]
    exact cut_at D I hD
  | false =>
    have h : hasPrefix (numL false D I) [45] = false := by
      show hasPrefix (D ++ 112 :: I) [45] = false
      cases D with
      | nil => rfl
      | cons c r =>
        have hc : c ≠ 45 := fun e => hs rfl r (by rw [e])
        show ((45 : UInt8) == c && List.isPrefixOf [] _) = false
        rw [beq_eq_false_iff_ne.2 fun e => hc e.symm]
        rfl
    refine ⟨h, ?_⟩
    unfold trimPrefix
    rw [if_neg (by rw [h]; simp)]
    exact cut_at D I hD

theorem reads_unique {l : List UInt8} {s s' : Bool} {D I D' I' : List UInt8} (h : Reads l s D I) (h' : Reads l s' D' I') : s = s' ∧ D = D' ∧ I = I' := by
  obtain ⟨h1, h2⟩ := h
  obtain ⟨h1', h2'⟩ := h'
  rw [h2] at h2'
  injection h2' with e1 e2
  injection e2 with e2 e3
  exact ⟨h1.symm.trans h1', e1, e2⟩

theorem dec_no_p (u : Nat) : ∀ b ∈ decDigits u, b ≠ 112 := fun b hb e => by
  have := dec_dig u b hb
  rw [e] at this
  exact absurd this.2 (by decide)
theorem dec_no_sign (u : Nat) (r : List UInt8) : decDigits u ≠ 45 :: r := fun e => by
  have := dec_dig u 45 (by rw [e]; exact List.mem_cons_self)
  exact absurd this.1 (by decide)

theorem reads_dec (s : Bool) (u : Nat) (I : List UInt8) : Reads (numL s (decDigits u) I) s (decDigits u) I :=
  reads_num s _ I (dec_no_p u) fun _ r => dec_no_sign u r

/-- A number's text is neither of the three words. -/
theorem not_words {l : List UInt8} {s : Bool} {D I : List UInt8} (h : Reads l s D I) : l ≠ nanL ∧ l ≠ infL ∧ l ≠ ninfL := by
  have e1 : (cut (trimPrefix nanL [45]) [112]).2.2 = false := by decide
  have e2 : (cut (trimPrefix infL [45]) [112]).2.2 = false := by decide
  have e3 : (cut (trimPrefix ninfL [45]) [112]).2.2 = false := by decide
  refine ⟨?_, ?_, ?_⟩ <;> rintro rfl
  · rw [h.2] at e1; cases e1
  · rw [h.2] at e2; cases e2
  · rw [h.2] at e3; cases e3

def V (s : Bool) (u : Nat) (x : Int) (v : Nat) : Prop :=
  (u = 0 ∧ v = double.word s 0) ∨ (0 < u ∧ u < 9007199254740992 ∧ (-1074 ≤ x ∧ x ≤ 1000000) ∧ ∃ r, r < inf ∧ val r = u * 2 ^ (x + 1074).toNat ∧ v = double.word s r)

theorem V_unique {s : Bool} {u : Nat} {x : Int} {v v' : Nat} (h : V s u x v) (h' : V s u x v') : v = v' := by
  rcases h with ⟨h1, h2⟩ | ⟨h1, _, _, r, _, h2, h3⟩ <;> rcases h' with ⟨h1', h2'⟩ | ⟨h1', _, _, r', _, h2', h3'⟩
  · rw [h2, h2']
  · omega
  · omega
  · rw [h3, h3', val_inj (h2.trans h2'.symm)]

def NaNb : Nat := 9221120237041090560
def NInf : Nat := 18442240474082181120

/-- Which float a text is. -/
def R (l : List UInt8) (v : Nat) : Prop :=
  (l = nanL ∧ v = NaNb) ∨ (l = infL ∧ v = inf) ∨ (l = ninfL ∧ v = NInf) ∨
  ∃ s D I u x, Reads l s D I ∧ parseUintB 64 D = .ok u ∧ atoiAll I = .ok x ∧ V s u x v

theorem R_unique {l : List UInt8} {v v' : Nat} (h : R l v) (h' : R l v') : v = v' := by
  rcases h with ⟨h1, h2⟩ | ⟨h1, h2⟩ | ⟨h1, h2⟩ | ⟨s, D, I, u, x, hr, hu, hx, hv⟩ <;> rcases h' with ⟨h1', h2'⟩ | ⟨h1', h2'⟩ | ⟨h1', h2'⟩ | ⟨s', D', I', u', x', hr', hu', hx', hv'⟩
  · rw [h2, h2']
  · rw [h1] at h1'; exact absurd h1' (by decide)
  · rw [h1] at h1'; exact absurd h1' (by decide)
  · exact ((not_words hr').1 h1).elim
  · rw [h1] at h1'; exact absurd h1' (by decide)
  · rw [h2, h2']
  · rw [h1] at h1'; exact absurd h1' (by decide)
  · exact ((not_words hr').2.1 h1).elim
  · rw [h1] at h1'; exact absurd h1' (by decide)
  · rw [h1] at h1'; exact absurd h1' (by decide)
  · rw [h2, h2']
  · exact ((not_words hr').2.2 h1).elim
  · exact ((not_words hr).1 h1').elim
  · exact ((not_words hr).2.1 h1').elim
  · exact ((not_words hr).2.2 h1').elim
  · obtain ⟨rfl, rfl, rfl⟩ := reads_unique hr hr'
    rw [hu] at hu'
    rw [hx] at hx'
    injection hu' with hu'
    injection hx' with hx'
    subst hu' hx'
    exact V_unique hv hv'

/-! ### The text of a float -/

theorem isn_text (a : Nat) : (double.order a a != some .eq) = isn a := by
  rw [bne, eq_eq]
  cases isn a <;> simp

theorem isn_max : isn 9218868437227405311 = false := by rw [isn_eq]; decide
theorem sr_max : sr 9218868437227405311 = 9218868437227405311 := by decide

theorem sr_cases (a : Nat) (hn : isn a = false) : (rung a = inf ∧ sgn a = false ∧ sr a = 9218868437227405312) ∨ (rung a = inf ∧ sgn a = true ∧ sr a = -9218868437227405312) ∨ (rung a < inf ∧ -9218868437227405312 < sr a ∧ sr a < 9218868437227405312) := by
  rw [isn_eq, decide_eq_false_iff_not] at hn
  unfold sr sgz
  by_cases h : rung a = inf
  · rw [h]
    cases hs : sgn a
    · exact .inl ⟨rfl, rfl, rfl⟩
    · exact .inr (.inl ⟨rfl, rfl, rfl⟩)
  · refine .inr (.inr ⟨by omega, ?_⟩)
    unfold inf at h hn
    cases sgn a <;> simp <;> omega

theorem infs_pos (a : Nat) (hn : isn a = false) : infs a 1 = decide (rung a = inf ∧ sgn a = false) := by
  show (double.order a 9218868437227405311 == some .gt) = _
  rw [gt_eq, hn, isn_max, sr_max]
  rcases sr_cases a hn with ⟨h1, h2, h3⟩ | ⟨h1, h2, h3⟩ | ⟨h1, h2, h3⟩
  · rw [h1, h2, h3]; decide
  · rw [h1, h2, h3]; decide
  · rw [show decide ((9218868437227405311 : Int) < sr a) = false from decide_eq_false (by omega), show decide (rung a = inf ∧ sgn a = false) = false from decide_eq_false fun h => by omega]
    rfl

theorem infs_neg (a : Nat) (ha : a < 18446744073709551616) (hn : isn a = false) : infs a (-1) = decide (rung a = inf ∧ sgn a = true) := by
  have e : Op.negFloat .f64 a = a ^^^ 9223372036854775808 := rfl
  show (double.order (Op.negFloat .f64 a) 9218868437227405311 == some .gt) = _
  rw [e, gt_eq, isn_xor a ha, hn, isn_max, sr_max, sr_xor a ha]
  rcases sr_cases a hn with ⟨h1, h2, h3⟩ | ⟨h1, h2, h3⟩ | ⟨h1, h2, h3⟩
  · rw [h1, h2, h3]; decide
  · rw [h1, h2, h3]; decide
  · rw [show decide ((9218868437227405311 : Int) < - sr a) = false from decide_eq_false (by omega), show decide (rung a = inf ∧ sgn a = true) = false from decide_eq_false fun h => by omega]
    rfl

theorem sgB_list (a : Nat) (ha : a < 18446744073709551616) : (sgB a).data.toList = sgL (sgn a) := by
  unfold sgB sgL sgn
  by_cases h : 9223372036854775808 ≤ a
  · rw [if_pos h, show a / 9223372036854775808 % 2 = 1 by omega]; rfl
  · rw [if_neg h, show a / 9223372036854775808 % 2 = 0 by omega]; rfl

theorem ex_rung (a : Nat) : ex a = rung a / 4503599627370496 ∧ a % 4503599627370496 = rung a % 4503599627370496 := by
  unfold ex rung
  omega

theorem ar3 (e : Nat) : ((e : Int) - 1075 + 1074).toNat = e - 1 := by omega

theorem val_mant (a : Nat) : val (rung a) = mant a * 2 ^ (expo a + 1074).toNat := by
  obtain ⟨h1, h2⟩ := ex_rung a
  unfold val mant expo
  by_cases h : rung a < 4503599627370496
  · have h0 : ex a = 0 := by rw [h1]; omega
    rw [if_pos h, if_pos h0, if_pos h0, h2, Nat.mod_eq_of_lt h]
    exact (Nat.mul_one _).symm
  · have h0 : ex a ≠ 0 := by rw [h1]; omega
    rw [if_neg h, if_neg h0, if_neg h0, h2, ar3, h1, Nat.add_comm]

theorem mant_zero (a : Nat) (h : mant a = 0) : rung a = 0 := by
  obtain ⟨h1, h2⟩ := ex_rung a
  unfold mant at h
  split at h <;> omega

theorem expo_bounds (a : Nat) (h : rung a < inf) : -1074 ≤ expo a ∧ expo a ≤ 971 := by
  obtain ⟨h1, _⟩ := ex_rung a
  unfold inf at h
  unfold expo
  split <;> omega

theorem ar4 {x : Int} (k : Nat) (h : -1074 ≤ x) : (x + 1074).toNat + k = (x + k + 1074).toNat := by omega

theorem odd_part (a : Nat) (hm : mant a ≠ 0) (hf : rung a < inf) :
    ∃ u, mant a / 2 ^ ctz 64 (mant a) = u ∧ u % 2 = 1 ∧ u < 9007199254740992 ∧ val (rung a) = u * 2 ^ (expo a + (ctz 64 (mant a) : Int) + 1074).toNat := by
  have hl := mant_lt a
  obtain ⟨q, hq, _⟩ := ctzFrom_spec 64 (mant a) (by omega) (by omega)
  have e : ctz 64 (mant a) = ctzFrom 64 (mant a) := by unfold ctz; rw [if_neg hm]
  rw [e]
  generalize ctzFrom 64 (mant a) = k at hq
  have hd : mant a / 2 ^ k = 2 * q + 1 := by
    rw [hq, Nat.mul_div_cancel_left _ (Nat.pow_pos (by decide))]
  have hle : 2 * q + 1 ≤ mant a := by rw [← hd]; exact Nat.div_le_self _ _
  have hv := val_mant a
  refine ⟨2 * q + 1, hd, by omega, by clear hv hq hd; omega, ?_⟩
  rw [hv, ← ar4 k (expo_bounds a hf).1, Nat.pow_add]
  conv => lhs; rw [hq]
  rw [Nat.mul_comm (2 ^ k), Nat.mul_assoc, Nat.mul_comm (2 ^ k)]

theorem text_form (a : Nat) (ha : a < 18446744073709551616) :
    (isn a = true ∧ (textOf a).data.toList = nanL) ∨ (isn a = false ∧ rung a = inf ∧ sgn a = false ∧ (textOf a).data.toList = infL) ∨ (isn a = false ∧ rung a = inf ∧ sgn a = true ∧ (textOf a).data.toList = ninfL) ∨
    (isn a = false ∧ rung a < inf ∧ ∃ u x, (textOf a).data.toList = numL (sgn a) (decDigits u) (itoa x) ∧ ((u = 0 ∧ x = 0 ∧ rung a = 0) ∨ (u % 2 = 1 ∧ u < 9007199254740992 ∧ (-1074 ≤ x ∧ x ≤ 1100) ∧ val (rung a) = u * 2 ^ (x + 1074).toNat))) := by
  unfold textOf
  rw [isn_text]
  cases hn : isn a with
  | true => exact .inl ⟨rfl, rfl⟩
  | false =>
    rw [if_neg (by simp), infs_pos a hn]
    by_cases h1 : rung a = inf ∧ sgn a = false
    · rw [if_pos (decide_eq_true h1)]
      exact .inr (.inl ⟨rfl, h1.1, h1.2, rfl⟩)
    rw [if_neg (by rw [decide_eq_true_eq]; exact h1), infs_neg a ha hn]
    by_cases h2 : rung a = inf ∧ sgn a = true
    · rw [if_pos (decide_eq_true h2)]
      exact .inr (.inr (.inl ⟨rfl, h2.1, h2.2, rfl⟩))
    rw [if_neg (by rw [decide_eq_true_eq]; exact h2)]
    have hf : rung a < inf := by
      rcases sr_cases a hn with ⟨e1, e2, _⟩ | ⟨e1, e2, _⟩ | ⟨e1, _, _⟩
      · exact (h1 ⟨e1, e2⟩).elim
      · exact (h2 ⟨e1, e2⟩).elim
      · exact e1
    refine .inr (.inr (.inr ⟨rfl, hf, ?_⟩))
    by_cases hm : mant a = 0
    · rw [if_pos hm]
      refine ⟨0, 0, ?_, .inl ⟨rfl, rfl, mant_zero a hm⟩⟩
      rw [ByteArray.toList_data_append, sgB_list a ha, decDigits_one (by decide)]
      show _ = sgL (sgn a) ++ _
      congr 1
      show [48, 112, 48] = [UInt8.ofNat (48 + 0)] ++ 112 :: itoa ((0 : Nat) : Int)
      rw [itoa_nonneg, decDigits_one (by decide)]
      rfl
    · rw [if_neg hm]
      obtain ⟨u, hu, ho, hl, hv⟩ := odd_part a hm hf
      rw [hu]
      refine ⟨u, _, ?_, .inr ⟨ho, hl, ?_, hv⟩⟩
      · simp only [ByteArray.toList_data_append, sgB_list a ha, numL, List.append_assoc]
        rfl
      · have := expo_bounds a hf
        have := ctz_lt _ hm (mant_lt a)
        clear hv
        omega

def canon (a : Nat) : Nat := if isn a then NaNb else a

theorem canon_lt (a : Nat) (ha : a < 18446744073709551616) : canon a < 18446744073709551616 := by
  unfold canon NaNb; split <;> omega

theorem word_of (a : Nat) (ha : a < 18446744073709551616) {r : Nat} {s : Bool} (h1 : rung a = r) (h2 : sgn a = s) : a = double.word s r := by
  rw [← h1, ← h2, word_self a ha]

/-- A float's text is that float's. -/
theorem R_text (a : Nat) (ha : a < 18446744073709551616) : R (textOf a).data.toList (canon a) := by
  unfold canon
  rcases text_form a ha with ⟨h1, h2⟩ | ⟨h1, h2, h3, h4⟩ | ⟨h1, h2, h3, h4⟩ | ⟨h1, h2, u, x, h3, h4⟩
  · rw [h1]
    exact .inl ⟨h2, rfl⟩
  · rw [h1]
    refine .inr (.inl ⟨h4, ?_⟩)
    have := word_of a ha h2 h3
    rw [word_eq] at this
    exact this
  · rw [h1]
    refine .inr (.inr (.inl ⟨h4, ?_⟩))
    have := word_of a ha h2 h3
    rw [word_eq] at this
    exact this
  · rw [h1]
    have hux : u < 18446744073709551616 ∧ -9223372036854775808 ≤ x ∧ x ≤ 9223372036854775807 := by
      rcases h4 with ⟨e1, e2, _⟩ | ⟨_, e2, e3, _⟩
      · omega
      · clear h3; omega
    refine .inr (.inr (.inr ⟨sgn a, decDigits u, itoa x, u, x, by rw [h3]; exact reads_dec _ _ _, pub_dec u hux.1, atoi_itoa x hux.2, ?_⟩))
    rcases h4 with ⟨e1, e2, e3⟩ | ⟨e1, e2, e3, e4⟩
    · exact .inl ⟨e1, word_of a ha e3 rfl⟩
    · exact .inr ⟨by clear e4 h3; omega, e2, ⟨e3.1, by clear e4 h3; omega⟩, rung a, h2, e4, (word_self a ha).symm⟩

theorem text_inj (a b : Nat) (ha : a < 18446744073709551616) (hb : b < 18446744073709551616) (h : textOf a = textOf b) : canon a = canon b := by
  have h1 := R_text a ha
  rw [h] at h1
  exact R_unique h1 (R_text b hb)

theorem isn_NaNb : isn NaNb = true := by rw [isn_eq]; decide

theorem text_eq (a b : Nat) (h : canon a = canon b) : textOf a = textOf b := by
  unfold canon at h
  cases h1 : isn a with
  | true =>
    have ea : textOf a = ⟨#[110, 97, 110]⟩ := by unfold textOf; rw [isn_text, h1]; rfl
    rw [h1] at h
    have h2 : isn b = true := by
      cases h2 : isn b with
      | true => rfl
      | false =>
        rw [h2] at h
        have h' : NaNb = b := h
        rw [← h', isn_NaNb] at h2
        cases h2
    have eb : textOf b = ⟨#[110, 97, 110]⟩ := by unfold textOf; rw [isn_text, h2]; rfl
    rw [ea, eb]
  | false =>
    rw [h1] at h
    cases h2 : isn b with
    | true =>
      rw [h2] at h
      have h' : a = NaNb := h
      rw [h', isn_NaNb] at h1
      cases h1
    | false =>
      rw [h2] at h
      have h' : a = b := h
      rw [h']

theorem canon_canon (a : Nat) : canon (canon a) = canon a := by
  unfold canon
  cases h : isn a with
  | true => show (if isn NaNb = true then NaNb else NaNb) = _; split <;> rfl
  | false => show (if isn a = true then NaNb else a) = a; rw [h]; rfl
end Go.Proofs.YtnggflfjmgbncaaDoor
