/- Floats, plainly: rounding, order, sums. -/
import Derived.Test.YtnggflfjmgbncaaDoorEvX
namespace Ev.Fl
open Go Ieee

theorem cut_zero (neg : Bool) (n : Nat) : Toward.even.cut neg n 0 = n := by
  simp [Toward.cut, Nat.mod_one]

theorem log2_mul {x : Nat} (d : Nat) (hx : x ≠ 0) : (x * 2 ^ d).log2 = x.log2 + d := by
  have hp : 0 < 2 ^ d := Nat.pow_pos (by decide)
  have h1 := Nat.log2_self_le hx
  have h2 : x < 2 ^ (x.log2 + 1) := Nat.lt_log2_self
  have hm : x * 2 ^ d ≠ 0 := Nat.mul_ne_zero hx (by omega)
  have h3 : 2 ^ (x.log2 + d) ≤ x * 2 ^ d := by rw [Nat.pow_add]; exact Nat.mul_le_mul_right _ h1
  have h4 : x * 2 ^ d < 2 ^ (x.log2 + d + 1) := by
    rw [show x.log2 + d + 1 = (x.log2 + 1) + d by omega, Nat.pow_add]
    exact Nat.mul_lt_mul_of_pos_right h2 hp
  have h5 := (Nat.le_log2 hm).2 h3
  have h6 := (Nat.log2_lt hm).2 h4
  omega

/-- A power that is common to both is dropped. -/
theorem cut_scale (neg : Bool) (x d e : Nat) (hx : x ≠ 0) : Toward.even.cut neg (x * 2 ^ d) (d + e) = Toward.even.cut neg x e := by
  have hl := log2_mul d hx
  have hm : min (d + e) (x.log2 + d + 2) = d + min e (x.log2 + 2) := by omega
  have hg : 1 <<< (d + min e (x.log2 + 2)) = 2 ^ d * (1 <<< min e (x.log2 + 2)) := by
    rw [Nat.shiftLeft_eq, Nat.shiftLeft_eq, Nat.one_mul, Nat.one_mul, Nat.pow_add]
  have hp : 0 < 2 ^ d := Nat.pow_pos (by decide)
  have h1 : x * 2 ^ d / (2 ^ d * 1 <<< min e (x.log2 + 2)) = x / 1 <<< min e (x.log2 + 2) := by
    rw [Nat.mul_comm x, Nat.mul_div_mul_left _ _ hp]
  have h2 : x * 2 ^ d % (2 ^ d * 1 <<< min e (x.log2 + 2)) = 2 ^ d * (x % 1 <<< min e (x.log2 + 2)) := by
    rw [Nat.mul_comm x, Nat.mul_mod_mul_left]
  unfold Toward.cut
  simp only [hl, hm, hg, h1, h2]
  generalize 1 <<< min e (x.log2 + 2) = g
  generalize x / g = q
  generalize x % g = r
  generalize 2 ^ d = p at hp
  have e1 : decide (p * g < 2 * (p * r)) = decide (g < 2 * r) := by
    rw [decide_eq_decide, show 2 * (p * r) = p * (2 * r) by rw [Nat.mul_left_comm]]
    exact Nat.mul_lt_mul_left hp
  have e2 : (p * g == 2 * (p * r)) = (g == 2 * r) := by
    rw [Bool.eq_iff_iff, beq_iff_eq, beq_iff_eq, show 2 * (p * r) = p * (2 * r) by rw [Nat.mul_left_comm]]
    exact Nat.mul_left_cancel_iff hp
  rw [e1, e2]

/-- The nearest word hangs on the number alone. -/
theorem nearest_scale (neg : Bool) (m k : Nat) (p : Int) : double.nearest neg (m * 2 ^ k) (p - k) = double.nearest neg m p := by
  by_cases hm : m = 0
  · subst hm; rw [Nat.zero_mul]; simp [Format.nearest]
  have hp : 0 < 2 ^ k := Nat.pow_pos (by decide)
  have hm2 : m * 2 ^ k ≠ 0 := Nat.mul_ne_zero hm (by omega)
  have hl := log2_mul k hm
  unfold Format.nearest
  rw [if_neg hm, if_neg hm2]
  have e1 : p - (k : Int) + ((m * 2 ^ k).log2 : Nat) - (double.fractionBits : Nat) = p + (m.log2 : Nat) - (double.fractionBits : Nat) := by
    rw [hl]; omega
  dsimp only
  rw [e1]
  generalize max (p + (m.log2 : Int) - (double.fractionBits : Int)) double.leastPlace = last
  have key : Toward.even.cut neg ((m * 2 ^ k) <<< (p - k - last).toNat) (last - (p - k)).toNat = Toward.even.cut neg (m <<< (p - last).toNat) (last - p).toNat := by
    rw [Nat.shiftLeft_eq, Nat.shiftLeft_eq]
    by_cases h1 : last ≤ p - k
    · have : (last - (p - k)).toNat = 0 := by omega
      have h2 : (last - p).toNat = 0 := by omega
      rw [this, h2, cut_zero, cut_zero, Nat.mul_assoc, ← Nat.pow_add]
      congr 2; omega
    · have h3 : (p - k - last).toNat = 0 := by omega
      rw [h3, Nat.pow_zero, Nat.mul_one]
      by_cases h4 : last ≤ p
      · have h5 : (last - p).toNat = 0 := by omega
        rw [h5, cut_zero]
        obtain ⟨d, hd⟩ : ∃ d : Nat, d = (last - (p - k)).toNat := ⟨_, rfl⟩
        have h6 : k = (p - last).toNat + d := by omega
        rw [← hd]
        conv => lhs; rw [h6]
        rw [Nat.pow_add, ← Nat.mul_assoc]
        have := cut_scale neg (m * 2 ^ (p - last).toNat) d 0 (Nat.mul_ne_zero hm (by have : 0 < 2 ^ (p - last).toNat := Nat.pow_pos (by decide); omega))
        rw [Nat.add_zero] at this
        rw [this, cut_zero]
      · have h5 : (p - last).toNat = 0 := by omega
        rw [h5, Nat.pow_zero, Nat.mul_one]
        have h6 : (last - (p - k)).toNat = k + (last - p).toNat := by omega
        rw [h6]
        exact cut_scale neg m k _ hm
  rw [key]

theorem dLeast : double.leastPlace = -1074 := by decide

/-- What a float that is a number is: its sign, its rung. -/
def sgn (a : Nat) : Bool := a / 9223372036854775808 % 2 == 1
def rung (a : Nat) : Nat := a % 9223372036854775808
/-- A rung's number, in units of the least one. -/
def val (r : Nat) : Nat := if r < 4503599627370496 then r else (4503599627370496 + r % 4503599627370496) * 2 ^ (r / 4503599627370496 - 1)
def inf : Nat := 9218868437227405312

theorem read_eq (a : Nat) : double.read a = if rung a < 4503599627370496 then .number (sgn a) (rung a) (-1074) else if rung a < inf then .number (sgn a) (4503599627370496 + rung a % 4503599627370496) (-1074 + (rung a / 4503599627370496 - 1 : Nat)) else if rung a = inf then .infinity (sgn a) else .nan (sgn a) (rung a - inf) := by
  unfold Format.read
  rw [dSign, dInf, dBin, dLeast]
  rfl

theorem word_eq (s : Bool) (r : Nat) : double.word s r = if s then 9223372036854775808 + r else r := by
  unfold Format.word
  rw [dSign]

theorem word_self (a : Nat) (h : a < 18446744073709551616) : double.word (sgn a) (rung a) = a := by
  rw [word_eq]
  unfold sgn rung
  by_cases h1 : a < 9223372036854775808
  · have : a / 9223372036854775808 % 2 = 0 := by omega
    rw [this]; simp; omega
  · have : a / 9223372036854775808 % 2 = 1 := by omega
    rw [this]; simp; omega

theorem log2_lt {m k : Nat} (hm : m ≠ 0) (h : m < 2 ^ k) : m.log2 < k := (Nat.log2_lt hm).2 h
theorem log2_eq {m k : Nat} (h1 : 2 ^ k ≤ m) (h2 : m < 2 ^ (k + 1)) : m.log2 = k := by
  have hm : m ≠ 0 := by have : 0 < 2 ^ k := Nat.pow_pos (by decide); omega
  have := (Nat.log2_lt hm).2 h2
  have := (Nat.le_log2 hm).2 h1
  omega

/-- A float that is a number is written as it was read. -/
theorem write_read (a : Nat) (h : a < 18446744073709551616) (hn : (double.read a).isNaN = false) : double.write (double.read a) = a := by
  conv => rhs; rw [← word_self a h]
  rw [isNaN_read, decide_eq_false_iff_not] at hn
  change ¬ inf < rung a at hn
  rw [read_eq]
  have hr : rung a < 9223372036854775808 := Nat.mod_lt _ (by decide)
  split
  · rename_i h1
    show double.nearest _ _ _ = _
    unfold Format.nearest
    by_cases h0 : rung a = 0
    · rw [if_pos h0, h0]
    · rw [if_neg h0]
      have hl : (rung a).log2 < 52 := log2_lt h0 (by omega)
      have hlast : max (-1074 + ((rung a).log2 : Int) - (double.fractionBits : Nat)) double.leastPlace = -1074 := by
        rw [dLeast, show double.fractionBits = 52 from rfl]; omega
      dsimp only
      rw [hlast, dLeast, dBin, dInf]
      simp only [Int.sub_self, Int.toNat_zero, Nat.shiftLeft_zero, cut_zero, Nat.zero_mul, Nat.zero_add]
      rw [Nat.min_eq_left (by omega)]
  · rename_i h1
    split
    · rename_i h2
      show double.nearest _ _ _ = _
      unfold Format.nearest
      have hl : (4503599627370496 + rung a % 4503599627370496).log2 = 52 := log2_eq (by omega) (by omega)
      rw [if_neg (by omega)]
      dsimp only
      rw [hl]
      have hlast : max (-1074 + ((rung a / 4503599627370496 - 1 : Nat) : Int) + ((52 : Nat) : Int) - (double.fractionBits : Nat)) double.leastPlace = -1074 + ((rung a / 4503599627370496 - 1 : Nat) : Int) := by
        rw [dLeast, show double.fractionBits = 52 from rfl]; omega
      rw [hlast, dLeast, dBin, dInf]
      simp only [Int.sub_self, Int.toNat_zero, Nat.shiftLeft_zero, cut_zero]
      have e1 : (-1074 + ((rung a / 4503599627370496 - 1 : Nat) : Int) - -1074).toNat = rung a / 4503599627370496 - 1 := by omega
      rw [e1]
      have e2 : (rung a / 4503599627370496 - 1) * 4503599627370496 + (4503599627370496 + rung a % 4503599627370496) = rung a := by omega
      rw [e2, Nat.min_eq_left (by unfold inf at h2; omega)]
    · rename_i h2
      have h3 : rung a = inf := by omega
      rw [if_pos h3, h3]
      show double.word _ double.infRung = _
      rw [dInf]; rfl

/-! ### Rungs and what they are worth -/
theorem val_mono {r r' : Nat} (h : r < r') : val r < val r' := by
  unfold val
  by_cases h1 : r' < 4503599627370496
  · rw [if_pos h1, if_pos (by omega)]; exact h
  · rw [if_neg h1]
    have hp : 0 < 2 ^ (r' / 4503599627370496 - 1) := Nat.pow_pos (by decide)
    have hle : 4503599627370496 * 1 ≤ (4503599627370496 + r' % 4503599627370496) * 2 ^ (r' / 4503599627370496 - 1) := Nat.mul_le_mul (by omega) hp
    by_cases h2 : r < 4503599627370496
    · rw [if_pos h2]; omega
    · rw [if_neg h2]
      by_cases h3 : r / 4503599627370496 = r' / 4503599627370496
      · rw [h3]
        exact Nat.mul_lt_mul_of_pos_right (by omega) hp
      · have h4 : r / 4503599627370496 < r' / 4503599627370496 := by
          have : r / 4503599627370496 ≤ r' / 4503599627370496 := Nat.div_le_div_right (by omega)
          omega
        obtain ⟨d, hd⟩ : ∃ d, r' / 4503599627370496 - 1 = (r / 4503599627370496 - 1) + 1 + d := ⟨r' / 4503599627370496 - 1 - (r / 4503599627370496 - 1) - 1, by omega⟩
        rw [hd]
        have h5 : (4503599627370496 + r % 4503599627370496) * 2 ^ (r / 4503599627370496 - 1) < (4503599627370496 * 2) * 2 ^ (r / 4503599627370496 - 1) :=
          Nat.mul_lt_mul_of_pos_right (by omega) (Nat.pow_pos (by decide))
        have h6 : (4503599627370496 * 2) * 2 ^ (r / 4503599627370496 - 1) = 4503599627370496 * 2 ^ (r / 4503599627370496 - 1 + 1) := by
          rw [Nat.pow_succ, Nat.mul_assoc, Nat.mul_comm 2]
        have h7 : 4503599627370496 * 2 ^ (r / 4503599627370496 - 1 + 1) ≤ (4503599627370496 + r' % 4503599627370496) * 2 ^ (r / 4503599627370496 - 1 + 1 + d) := by
          refine Nat.mul_le_mul (by omega) (Nat.pow_le_pow_right (by decide) (by omega))
        omega

theorem val_zero : val 0 = 0 := rfl
theorem val_inj {r r' : Nat} (h : val r = val r') : r = r' := by
  rcases Nat.lt_trichotomy r r' with h1 | h1 | h1
  · have := val_mono h1; omega
  · exact h1
  · have := val_mono h1; omega

theorem read_num (a : Nat) (h : rung a < inf) : ∃ m i : Nat, double.read a = .number (sgn a) m (-1074 + (i : Int)) ∧ m * 2 ^ i = val (rung a) := by
  rw [read_eq]
  by_cases h1 : rung a < 4503599627370496
  · rw [if_pos h1]
    exact ⟨rung a, 0, by simp, by unfold val; rw [if_pos h1]; simp⟩
  · rw [if_neg h1, if_pos h]
    exact ⟨_, _, rfl, by unfold val; rw [if_neg h1]⟩
theorem read_inf (a : Nat) (h : rung a = inf) : double.read a = .infinity (sgn a) := by
  rw [read_eq, h]; rfl

def isn (a : Nat) : Bool := (double.read a).isNaN
theorem isn_eq (a : Nat) : isn a = decide (inf < rung a) := isNaN_read a

/-- Signed: the rung, what it is worth. -/
def sgz (s : Bool) (n : Nat) : Int := if s then -(n : Int) else n
def sr (a : Nat) : Int := sgz (sgn a) (rung a)
def sv (a : Nat) : Int := sgz (sgn a) (val (rung a))

theorem signed_eq (s : Bool) (m k : Nat) : signed s m k = sgz s (m * 2 ^ k) := by
  unfold signed sgz
  rw [Nat.shiftLeft_eq]
theorem sgz_mul (s : Bool) (m k : Nat) : sgz s (m * k) = sgz s m * (k : Int) := by
  unfold sgz
  cases s
  · simp
  · simp [Int.neg_mul]

theorem cmp_eq (x y : Int) : compare x y = if x < y then .lt else if x = y then .eq else .gt := rfl
theorem cmp_mono {g : Int → Int} (hg : ∀ x y, x < y → g x < g y) (x y : Int) : compare (g x) (g y) = compare x y := by
  rw [cmp_eq, cmp_eq]
  rcases Int.lt_trichotomy x y with h | h | h
  · rw [if_pos h, if_pos (hg _ _ h)]
  · subst h; simp
  · have := hg _ _ h
    rw [if_neg (by omega), if_neg (by omega), if_neg (by omega), if_neg (by omega)]

theorem gval_mono : ∀ x y : Int, x < y → (if x < 0 then -(val (-x).toNat : Int) else (val x.toNat : Int)) < (if y < 0 then -(val (-y).toNat : Int) else (val y.toNat : Int)) := by
  intro x y h
  by_cases hx : x < 0
  · rw [if_pos hx]
    have h0 : val 0 < val (-x).toNat := val_mono (by omega)
    rw [val_zero] at h0
    by_cases hy : y < 0
    · rw [if_pos hy]
      have : val (-y).toNat < val (-x).toNat := val_mono (by omega)
      omega
    · rw [if_neg hy]; omega
  · rw [if_neg hx, if_neg (by omega)]
    have : val x.toNat < val y.toNat := val_mono (by omega)
    omega

theorem sv_sr (a : Nat) : sv a = if sr a < 0 then -(val (-(sr a)).toNat : Int) else (val (sr a).toNat : Int) := by
  unfold sv sr sgz
  cases h : sgn a with
  | false =>
    simp only [Bool.false_eq_true, if_false]
    rw [if_neg (by omega), Int.toNat_natCast]
  | true =>
    simp only [if_true]
    by_cases h0 : rung a = 0
    · rw [h0]; rfl
    · rw [if_pos (by omega), Int.neg_neg, Int.toNat_natCast]

theorem cmp_sv (a b : Nat) : compare (sv a) (sv b) = compare (sr a) (sr b) := by
  rw [sv_sr a, sv_sr b]
  exact cmp_mono (g := fun x => if x < 0 then -(val (-x).toNat : Int) else (val x.toNat : Int)) gval_mono _ _

theorem cmp_mul (x y : Int) {k : Nat} (hk : 0 < k) : compare (x * (k : Int)) (y * (k : Int)) = compare x y :=
  cmp_mono (g := fun x => x * (k : Int)) (fun _ _ h => Int.mul_lt_mul_of_pos_right h (by omega)) x y

theorem scale_pair (s : Bool) {m i k v : Nat} (h : m * 2 ^ i = v) (hk : k ≤ i) : sgz s (m * 2 ^ (i - k)) * ((2 ^ k : Nat) : Int) = sgz s v := by
  rw [← sgz_mul, Nat.mul_assoc, ← Nat.pow_add, Nat.sub_add_cancel hk, h]

theorem order_num (a b : Nat) (ha : rung a < inf) (hb : rung b < inf) : double.order a b = some (compare (sv a) (sv b)) := by
  obtain ⟨m, i, e1, h1⟩ := read_num a ha
  obtain ⟨n, j, e2, h2⟩ := read_num b hb
  unfold Format.order
  rw [e1, e2]
  show some (compare (signed (sgn a) m (-1074 + (i : Int) - min (-1074 + (i : Int)) (-1074 + (j : Int))).toNat) (signed (sgn b) n (-1074 + (j : Int) - min (-1074 + (i : Int)) (-1074 + (j : Int))).toNat)) = _
  have g1 : (-1074 + (i : Int) - min (-1074 + (i : Int)) (-1074 + (j : Int))).toNat = i - min i j := by omega
  have g2 : (-1074 + (j : Int) - min (-1074 + (i : Int)) (-1074 + (j : Int))).toNat = j - min i j := by omega
  rw [g1, g2, signed_eq, signed_eq]
  have hk : 0 < 2 ^ min i j := Nat.pow_pos (by decide)
  rw [← cmp_mul _ _ hk, scale_pair _ h1 (Nat.min_le_left _ _), scale_pair _ h2 (Nat.min_le_right _ _)]
  rfl

theorem order_eq (a b : Nat) (ha : isn a = false) (hb : isn b = false) : double.order a b = some (compare (sr a) (sr b)) := by
  rw [isn_eq, decide_eq_false_iff_not] at ha hb
  by_cases h1 : rung a = inf
  · by_cases h2 : rung b = inf
    · unfold Format.order
      rw [read_inf a h1, read_inf b h2]
      show some (compare (sgn b).toNat (sgn a).toNat) = _
      unfold sr sgz
      rw [h1, h2]
      cases sgn a <;> cases sgn b <;> rfl
    · obtain ⟨n, j, e2, _⟩ := read_num b (by omega)
      unfold Format.order
      rw [read_inf a h1, e2]
      show some (if sgn a then Ordering.lt else Ordering.gt) = _
      unfold sr sgz
      rw [h1]
      have : rung b < inf := by omega
      rw [cmp_eq]
      unfold inf at *
      cases sgn a <;> cases sgn b <;> simp only [Bool.false_eq_true, if_false, if_true]
      · rw [if_neg (by omega), if_neg (by omega)]
      · rw [if_neg (by omega), if_neg (by omega)]
      · rw [if_pos (by omega)]
      · rw [if_pos (by omega)]
  · by_cases h2 : rung b = inf
    · obtain ⟨n, j, e2, _⟩ := read_num a (by omega)
      unfold Format.order
      rw [read_inf b h2, e2]
      show some (if sgn b then Ordering.gt else Ordering.lt) = _
      unfold sr sgz
      rw [h2]
      have : rung a < inf := by omega
      rw [cmp_eq]
      unfold inf at *
      cases sgn a <;> cases sgn b <;> simp only [Bool.false_eq_true, if_false, if_true]
      · rw [if_pos (by omega)]
      · rw [if_neg (by omega), if_neg (by omega)]
      · rw [if_pos (by omega)]
      · rw [if_neg (by omega), if_neg (by omega)]
    · rw [order_num a b (by omega) (by omega), cmp_sv]

theorem lt_eq (a b : Nat) : (double.order a b == some .lt) = (!isn a && !isn b && decide (sr a < sr b)) := by
  cases ha : isn a with
  | true => rw [order_nan' (.inl ha)]; rfl
  | false =>
    cases hb : isn b with
    | true => rw [order_nan' (.inr hb)]; rfl
    | false =>
      rw [order_eq a b ha hb, cmp_eq]
      by_cases h : sr a < sr b
      · rw [if_pos h, decide_eq_true h]; rfl
      · rw [if_neg h, decide_eq_false h]
        split <;> rfl
theorem gt_eq (a b : Nat) : (double.order a b == some .gt) = (!isn a && !isn b && decide (sr b < sr a)) := by
  cases ha : isn a with
  | true => rw [order_nan' (.inl ha)]; rfl
  | false =>
    cases hb : isn b with
    | true => rw [order_nan' (.inr hb)]; rfl
    | false =>
      rw [order_eq a b ha hb, cmp_eq]
      by_cases h : sr a < sr b
      · rw [if_pos h, decide_eq_false (by omega)]; rfl
      · rw [if_neg h]
        by_cases h' : sr a = sr b
        · rw [if_pos h', decide_eq_false (by omega)]; rfl
        · rw [if_neg h', decide_eq_true (by omega)]; rfl
theorem eq_eq (a b : Nat) : (double.order a b == some .eq) = (!isn a && !isn b && decide (sr a = sr b)) := by
  cases ha : isn a with
  | true => rw [order_nan' (.inl ha)]; rfl
  | false =>
    cases hb : isn b with
    | true => rw [order_nan' (.inr hb)]; rfl
    | false =>
      rw [order_eq a b ha hb, cmp_eq]
      by_cases h : sr a < sr b
      · rw [if_pos h, decide_eq_false (by omega)]; rfl
      · rw [if_neg h]
        by_cases h' : sr a = sr b
        · rw [if_pos h', decide_eq_true h']; rfl
        · rw [if_neg h', decide_eq_false h']; rfl

/-! ### Rounding, in units of the least number -/
def rnd (m : Nat) : Nat := if m = 0 then 0 else min ((m.log2 - 52) * 4503599627370496 + Toward.even.cut false m (m.log2 - 52)) inf

theorem cut_neg (s : Bool) (n d : Nat) : Toward.even.cut s n d = Toward.even.cut false n d := rfl

theorem nearest_R (s : Bool) (m : Nat) : double.nearest s m (-1074) = double.word s (rnd m) := by
  unfold Format.nearest rnd
  by_cases h0 : m = 0
  · rw [if_pos h0, if_pos h0]
  · rw [if_neg h0, if_neg h0]
    dsimp only
    rw [show double.fractionBits = 52 from rfl, dLeast, dBin, dInf]
    have h1 : max (-1074 + (m.log2 : Int) - ((52 : Nat) : Int)) (-1074) = -1074 + ((m.log2 - 52 : Nat) : Int) := by omega
    rw [h1]
    have h2 : (-1074 - (-1074 + ((m.log2 - 52 : Nat) : Int))).toNat = 0 := by omega
    have h3 : (-1074 + ((m.log2 - 52 : Nat) : Int) - -1074).toNat = m.log2 - 52 := by omega
    rw [h2, h3, Nat.shiftLeft_zero, cut_neg]
    rfl

theorem cut_plain (n d : Nat) (h : d ≤ n.log2 + 2) : Toward.even.cut false n d = n / 2 ^ d + (2 ^ d < 2 * (n % 2 ^ d) || (2 ^ d == 2 * (n % 2 ^ d) && n / 2 ^ d % 2 == 1)).toNat := by
  unfold Toward.cut
  rw [Nat.min_eq_left h, Nat.shiftLeft_eq, Nat.one_mul]

theorem toNat_le (b : Bool) : b.toNat ≤ 1 := by cases b <;> decide

theorem half_mono (g q r r' : Nat) (h : r ≤ r') : (decide (g < 2 * r) || (g == 2 * r && q % 2 == 1)).toNat ≤ (decide (g < 2 * r') || (g == 2 * r' && q % 2 == 1)).toNat := by
  by_cases h1 : g < 2 * r'
  · rw [decide_eq_true h1]; simp only [Bool.true_or]; exact toNat_le _
  · rw [decide_eq_false (show ¬ g < 2 * r by omega), decide_eq_false h1, Bool.false_or, Bool.false_or]
    by_cases h2 : r = r'
    · rw [h2]; exact Nat.le_refl _
    · have : (g == 2 * r) = false := by rw [beq_eq_false_iff_ne]; omega
      rw [this]; simp

theorem cut_mono {n n' d : Nat} (h : n ≤ n') (h1 : d ≤ n.log2 + 2) (h2 : d ≤ n'.log2 + 2) : Toward.even.cut false n d ≤ Toward.even.cut false n' d := by
  rw [cut_plain n d h1, cut_plain n' d h2]
  have hq : n / 2 ^ d ≤ n' / 2 ^ d := Nat.div_le_div_right h
  by_cases he : n / 2 ^ d = n' / 2 ^ d
  · rw [he]
    have a1 := Nat.div_add_mod n (2 ^ d)
    have a2 := Nat.div_add_mod n' (2 ^ d)
    rw [he] at a1
    have hr : n % 2 ^ d ≤ n' % 2 ^ d := by omega
    have := half_mono (2 ^ d) (n' / 2 ^ d) _ _ hr
    omega
  · have := toNat_le (decide (2 ^ d < 2 * (n % 2 ^ d)) || (2 ^ d == 2 * (n % 2 ^ d) && n / 2 ^ d % 2 == 1))
    omega

theorem cut_top (n : Nat) : Toward.even.cut false n (n.log2 - 52) ≤ 9007199254740992 := by
  rw [cut_plain n _ (by omega)]
  have h2 : n < 2 ^ (n.log2 + 1) := Nat.lt_log2_self
  have h3 : n / 2 ^ (n.log2 - 52) < 9007199254740992 := by
    rw [Nat.div_lt_iff_lt_mul (Nat.pow_pos (by decide))]
    refine Nat.lt_of_lt_of_le h2 ?_
    rw [show (9007199254740992 : Nat) = 2 ^ 53 from by decide, ← Nat.pow_add]
    exact Nat.pow_le_pow_right (by decide) (by omega)
  have := toNat_le (decide (2 ^ (n.log2 - 52) < 2 * (n % 2 ^ (n.log2 - 52))) || (2 ^ (n.log2 - 52) == 2 * (n % 2 ^ (n.log2 - 52)) && n / 2 ^ (n.log2 - 52) % 2 == 1))
  omega
theorem cut_low {n : Nat} (h0 : n ≠ 0) (h : 52 ≤ n.log2) : 4503599627370496 ≤ Toward.even.cut false n (n.log2 - 52) := by
  rw [cut_plain n _ (by omega)]
  have h2 : 2 ^ n.log2 ≤ n := Nat.log2_self_le h0
  have h3 : 4503599627370496 ≤ n / 2 ^ (n.log2 - 52) := by
    rw [Nat.le_div_iff_mul_le (Nat.pow_pos (by decide))]
    refine Nat.le_trans ?_ h2
    rw [show (4503599627370496 : Nat) = 2 ^ 52 from by decide, ← Nat.pow_add]
    exact Nat.pow_le_pow_right (by decide) (by omega)
  omega

theorem R_mono {m m' : Nat} (h : m ≤ m') : rnd m ≤ rnd m' := by
  unfold rnd
  by_cases h0 : m = 0
  · rw [if_pos h0]; exact Nat.zero_le _
  have h0' : m' ≠ 0 := by omega
  rw [if_neg h0, if_neg h0']
  have hl : m.log2 ≤ m'.log2 := (Nat.le_log2 h0').2 (Nat.le_trans (Nat.log2_self_le h0) h)
  have key : (m.log2 - 52) * 4503599627370496 + Toward.even.cut false m (m.log2 - 52) ≤ (m'.log2 - 52) * 4503599627370496 + Toward.even.cut false m' (m'.log2 - 52) := by
    by_cases he : m.log2 - 52 = m'.log2 - 52
    · have := cut_mono (d := m'.log2 - 52) h (by omega) (by omega)
      rw [he]; omega
    · have h1 := cut_top m
      have h2 := cut_low h0' (by omega)
      have h3 : (m.log2 - 52) + 1 ≤ m'.log2 - 52 := by omega
      omega
  omega

theorem R_le (m : Nat) : rnd m ≤ inf := by
  unfold rnd
  split
  · exact Nat.zero_le _
  · exact Nat.min_le_right _ _

theorem sgn_word (s : Bool) {r : Nat} (h : r < 9223372036854775808) : sgn (double.word s r) = s := by
  rw [word_eq]
  unfold sgn
  cases s
  · have : r / 9223372036854775808 % 2 = 0 := by omega
    simp [this]
  · have : (9223372036854775808 + r) / 9223372036854775808 % 2 = 1 := by omega
    simp only [if_true]; rw [this]; rfl
theorem rung_word (s : Bool) {r : Nat} (h : r < 9223372036854775808) : rung (double.word s r) = r := by
  rw [word_eq]
  unfold rung
  cases s
  · simp; omega
  · simp only [if_true]; omega
theorem inf_lt : inf < 9223372036854775808 := by decide
theorem word_lt' (s : Bool) {r : Nat} (h : r < 9223372036854775808) : double.word s r < 18446744073709551616 := by
  rw [word_eq]; split <;> omega

/-- A rung's number is written as that rung. -/
theorem R_val {r : Nat} (h : r < inf) : rnd (val r) = r := by
  have hi := inf_lt
  have hr : rung (double.word false r) = r := rung_word false (by omega)
  have hs : sgn (double.word false r) = false := sgn_word false (by omega)
  obtain ⟨m, i, e, hm⟩ := read_num (double.word false r) (by rw [hr]; exact h)
  have hw := write_read (double.word false r) (word_lt' false (by omega)) (by rw [e]; rfl)
  rw [e, hs] at hw
  change double.nearest false m (-1074 + (i : Int)) = _ at hw
  rw [← nearest_scale false m i, hm, hr, show (-1074 + (i : Int) - i) = -1074 by omega, nearest_R] at hw
  have := congrArg rung hw
  rw [rung_word _ (by have := R_le (val r); omega), rung_word _ (by omega)] at this
  exact this

/-! ### Sums -/
/-- What a sum of numbers is written as. -/
def sumW (s t : Bool) (z : Int) : Nat := double.word (if z = 0 then s && t else decide (z < 0)) (rnd z.natAbs)

theorem natAbs_mul (x : Int) (k : Nat) : (x * (k : Int)).natAbs = x.natAbs * k := by rw [Int.natAbs_mul, Int.natAbs_natCast]

theorem sum_num' (s t : Bool) (m n i j : Nat) : ((Datum.number s m (-1074 + (i : Int))).sum (.number t n (-1074 + (j : Int)))).map double.write = some (sumW s t (sgz s (m * 2 ^ i) + sgz t (n * 2 ^ j))) := by
  show some (double.nearest _ _ _) = _
  have g1 : (-1074 + (i : Int) - min (-1074 + (i : Int)) (-1074 + (j : Int))).toNat = i - min i j := by omega
  have g2 : (-1074 + (j : Int) - min (-1074 + (i : Int)) (-1074 + (j : Int))).toNat = j - min i j := by omega
  rw [g1, g2, signed_eq, signed_eq]
  have hk : 0 < 2 ^ min i j := Nat.pow_pos (by decide)
  have h1 := scale_pair s (m := m) (i := i) rfl (Nat.min_le_left i j)
  have h2 := scale_pair t (m := n) (i := j) rfl (Nat.min_le_right i j)
  rw [← h1, ← h2, ← Int.add_mul]
  generalize sgz s (m * 2 ^ (i - min i j)) + sgz t (n * 2 ^ (j - min i j)) = z
  have hb : min (-1074 + (i : Int)) (-1074 + (j : Int)) = -1074 + ((min i j : Nat) : Int) := by omega
  rw [hb, ← nearest_scale _ z.natAbs (min i j), show (-1074 + ((min i j : Nat) : Int) - ((min i j : Nat) : Int)) = -1074 by omega, nearest_R, ← natAbs_mul]
  unfold sumW
  have e1 : (z * ((2 ^ min i j : Nat) : Int) = 0) ↔ z = 0 := by
    constructor
    · intro h
      rcases Int.mul_eq_zero.1 h with h | h
      · exact h
      · omega
    · intro h; rw [h, Int.zero_mul]
  have e2 : (z * ((2 ^ min i j : Nat) : Int) < 0) ↔ z < 0 := by
    constructor
    · intro h
      refine Int.not_le.1 fun h' => ?_
      have := Int.mul_nonneg h' (show (0 : Int) ≤ ((2 ^ min i j : Nat) : Int) by omega)
      omega
    · intro h; exact Int.mul_neg_of_neg_of_pos h (by omega)
  congr 2
  by_cases hz : z = 0
  · rw [if_pos hz, if_pos (e1.2 hz)]
  · rw [if_neg hz, if_neg (fun h => hz (e1.1 h))]
    exact (decide_eq_decide.2 e2).symm

theorem add_num' (a b : Nat) (ha : rung a < inf) (hb : rung b < inf) : double.add a b = some (sumW (sgn a) (sgn b) (sv a + sv b)) := by
  obtain ⟨m, i, e1, h1⟩ := read_num a ha
  obtain ⟨n, j, e2, h2⟩ := read_num b hb
  unfold Format.add
  rw [e1, e2, sum_num', h1, h2]
  rfl
theorem sgz_not (s : Bool) (n : Nat) : sgz (!s) n = - sgz s n := by cases s <;> simp [sgz]
theorem sub_num' (a b : Nat) (ha : rung a < inf) (hb : rung b < inf) : double.sub a b = some (sumW (sgn a) (!sgn b) (sv a - sv b)) := by
  obtain ⟨m, i, e1, h1⟩ := read_num a ha
  obtain ⟨n, j, e2, h2⟩ := read_num b hb
  unfold Format.sub
  rw [e1, e2]
  show ((Datum.number _ _ _).sum (.number _ _ _)).map double.write = _
  rw [sum_num', h1, h2, sgz_not]
  rfl

theorem sr_sumW (s t : Bool) (z : Int) : sr (sumW s t z) = if z < 0 then -(rnd z.natAbs : Int) else (rnd z.natAbs : Int) := by
  have h1 := R_le z.natAbs
  have h2 := inf_lt
  unfold sumW sr
  rw [sgn_word _ (by omega), rung_word _ (by omega)]
  unfold sgz
  by_cases hz : z = 0
  · subst hz
    have : rnd (0 : Int).natAbs = 0 := rfl
    rw [this]
    simp
  · rw [if_neg hz]
    by_cases h : z < 0
    · rw [if_pos h, decide_eq_true h]; rfl
    · rw [if_neg h, decide_eq_false h]; rfl
theorem isn_sumW (s t : Bool) (z : Int) : isn (sumW s t z) = false := by
  rw [isn_eq, decide_eq_false_iff_not]
  unfold sumW
  have h1 := R_le z.natAbs
  have h2 := inf_lt
  rw [rung_word _ (by omega)]
  omega
theorem sr_sumW_mono {s t s' t' : Bool} {z z' : Int} (h : z ≤ z') : sr (sumW s t z) ≤ sr (sumW s' t' z') := by
  rw [sr_sumW, sr_sumW]
  by_cases h1 : z < 0
  · rw [if_pos h1]
    by_cases h2 : z' < 0
    · rw [if_pos h2]
      have := R_mono (show z'.natAbs ≤ z.natAbs by omega)
      omega
    · rw [if_neg h2]; omega
  · rw [if_neg h1, if_neg (by omega)]
    have := R_mono (show z.natAbs ≤ z'.natAbs by omega)
    omega

theorem sr_le (a : Nat) (h : isn a = false) : -(inf : Int) ≤ sr a ∧ sr a ≤ inf := by
  rw [isn_eq, decide_eq_false_iff_not] at h
  unfold sr sgz
  split <;> omega
theorem sr_inf_p (a : Nat) (h : rung a = inf) (hs : sgn a = false) : sr a = inf := by unfold sr sgz; rw [hs, h]; rfl
theorem sr_inf_n (a : Nat) (h : rung a = inf) (hs : sgn a = true) : sr a = -(inf : Int) := by unfold sr sgz; rw [hs, h]; rfl

/-- What stands beside an infinite one. -/
theorem add_inf (a b r : Nat) (ha : rung a = inf) (hb : isn b = false) (h : double.add a b = some r) : sr r = sr a := by
  rw [isn_eq, decide_eq_false_iff_not] at hb
  have hw : sr (double.word (sgn a) inf) = sr a := by
    unfold sr
    rw [sgn_word _ inf_lt, rung_word _ inf_lt, ha]
  by_cases h2 : rung b = inf
  · unfold Format.add at h
    rw [read_inf a ha, read_inf b h2] at h
    change Option.map _ (if sgn a = sgn b then some (Datum.infinity (sgn a)) else none) = _ at h
    split at h
    · obtain rfl := Option.some.inj h
      show sr (double.word (sgn a) double.infRung) = _
      rw [dInf]; exact hw
    · cases h
  · obtain ⟨n, j, e2, _⟩ := read_num b (by omega)
    unfold Format.add at h
    rw [read_inf a ha, e2] at h
    obtain rfl := Option.some.inj h
    show sr (double.word (sgn a) double.infRung) = _
    rw [dInf]; exact hw

theorem sum_comm (x y : Datum) : x.sum y = y.sum x := by
  cases x <;> cases y <;> try rfl
  · rename_i s m i t n j
    show some _ = some _
    rw [Int.min_comm, Int.add_comm, Bool.and_comm]
  · rename_i s t
    show (if s = t then _ else _) = (if t = s then _ else _)
    by_cases h : s = t
    · rw [if_pos h, if_pos h.symm, h]
    · rw [if_neg h, if_neg (Ne.symm h)]
theorem product_comm (x y : Datum) : x.product y = y.product x := by
  cases x <;> cases y <;> try rfl
  · rename_i s m i t n j
    show some _ = some _
    rw [Nat.mul_comm, Int.add_comm, Bool.xor_comm]
  · rename_i s t
    show some _ = some _
    rw [Bool.xor_comm]
theorem add_comm' (a b : Nat) : double.add a b = double.add b a := by unfold Format.add; rw [sum_comm]
theorem mul_comm' (a b : Nat) : double.mul a b = double.mul b a := by unfold Format.mul; rw [product_comm]

/-- A sum with more is no less. -/
theorem add_mono (a b c p q : Nat) (ha : isn a = false) (hb : isn b = false) (hc : isn c = false) (h : sr a < sr b) (hp : double.add a c = some p) (hq : double.add b c = some q) : ¬ sr q < sr p := by
  have ha' := ha; have hb' := hb; have hc' := hc
  rw [isn_eq, decide_eq_false_iff_not] at ha' hb' hc'
  have hpn : isn p = false := add_num hp
  have hqn : isn q = false := add_num hq
  have lp := sr_le p hpn
  have lq := sr_le q hqn
  by_cases h1 : rung c = inf
  · have e1 := add_inf c a p h1 ha (by rw [add_comm']; exact hp)
    have e2 := add_inf c b q h1 hb (by rw [add_comm']; exact hq)
    omega
  · by_cases h2 : rung a = inf
    · have e1 := add_inf a c p h2 hc hp
      have := sr_le b hb
      cases hs : sgn a with
      | false => have := sr_inf_p a h2 hs; omega
      | true => have := sr_inf_n a h2 hs; omega
    · by_cases h3 : rung b = inf
      · have e1 := add_inf b c q h3 hc hq
        have := sr_le a ha
        cases hs : sgn b with
        | false => have := sr_inf_p b h3 hs; omega
        | true => have := sr_inf_n b h3 hs; omega
      · rw [add_num' a c (by omega) (by omega)] at hp
        rw [add_num' b c (by omega) (by omega)] at hq
        obtain rfl := Option.some.inj hp
        obtain rfl := Option.some.inj hq
        have hv : sv a < sv b := by
          have := cmp_sv a b
          rw [cmp_eq, cmp_eq, if_pos h] at this
          by_cases hh : sv a < sv b
          · exact hh
          · rw [if_neg hh] at this
            split at this <;> cases this
        have := sr_sumW_mono (s := sgn a) (t := sgn c) (s' := sgn b) (t' := sgn c) (show sv a + sv c ≤ sv b + sv c by omega)
        omega

/-- Minus. -/
theorem xor_top (a : Nat) (h : a < 18446744073709551616) : rung (a ^^^ 9223372036854775808) = rung a ∧ sgn (a ^^^ 9223372036854775808) = !sgn a ∧ a ^^^ 9223372036854775808 < 18446744073709551616 := by
  have e : a ^^^ 9223372036854775808 = if a < 9223372036854775808 then a + 9223372036854775808 else a - 9223372036854775808 := by
    have hb : a ^^^ 2 ^ 63 = if a.testBit 63 then a - 2 ^ 63 else a + 2 ^ 63 := by
      split
      · rename_i hbit
        have hge : 2 ^ 63 ≤ a := Nat.ge_two_pow_of_testBit hbit
        have h2 : (a - 2 ^ 63) < 2 ^ 63 := by omega
        have h3 : a = 2 ^ 63 + (a - 2 ^ 63) := by omega
        have h4 : 2 ^ 63 + (a - 2 ^ 63) = 2 ^ 63 ^^^ (a - 2 ^ 63) := by
          have := Nat.two_pow_add_eq_or_of_lt (i := 63) h2 1
          rw [Nat.mul_one] at this
          rw [this]
          apply Nat.eq_of_testBit_eq
          intro i
          rw [Nat.testBit_or, Nat.testBit_xor, Nat.testBit_two_pow]
          by_cases hi : 63 = i
          · subst hi
            rw [Nat.testBit_lt_two_pow h2]; simp
          · simp [hi]
        conv => lhs; rw [h3, h4]
        rw [Nat.xor_comm (2 ^ 63), Nat.xor_assoc, Nat.xor_self, Nat.xor_zero]
      · rename_i hbit
        have hlt : a < 2 ^ 63 := by
          refine Nat.lt_of_not_le fun hge => hbit ?_
          rw [Nat.testBit_eq_decide_div_mod_eq]
          have : a / 2 ^ 63 = 1 := by omega
          rw [this]; rfl
        have := Nat.two_pow_add_eq_or_of_lt (i := 63) hlt 1
        rw [Nat.mul_one] at this
        rw [Nat.add_comm, this]
        apply Nat.eq_of_testBit_eq
        intro i
        rw [Nat.testBit_or, Nat.testBit_xor, Nat.testBit_two_pow]
        by_cases hi : 63 = i
        · subst hi
          rw [Nat.testBit_lt_two_pow hlt]; simp
        · simp [hi]
    rw [show (9223372036854775808 : Nat) = 2 ^ 63 from by decide, hb]
    have ht : a.testBit 63 = decide (2 ^ 63 ≤ a) := by
      rw [Nat.testBit_eq_decide_div_mod_eq, decide_eq_decide]
      omega
    rw [ht]
    by_cases hh : 2 ^ 63 ≤ a
    · rw [if_pos (decide_eq_true hh), if_neg (by omega)]
    · rw [if_neg (by simpa using hh), if_pos (by omega)]
  rw [e]
  unfold rung sgn
  by_cases hh : a < 9223372036854775808
  · rw [if_pos hh]
    have h1 : (a + 9223372036854775808) / 9223372036854775808 % 2 = 1 := by omega
    have h2 : a / 9223372036854775808 % 2 = 0 := by omega
    rw [h1, h2]
    exact ⟨by omega, rfl, by omega⟩
  · rw [if_neg hh]
    have h1 : (a - 9223372036854775808) / 9223372036854775808 % 2 = 0 := by omega
    have h2 : a / 9223372036854775808 % 2 = 1 := by omega
    rw [h1, h2]
    exact ⟨by omega, rfl, by omega⟩

theorem isn_xor (a : Nat) (h : a < 18446744073709551616) : isn (a ^^^ 9223372036854775808) = isn a := by
  rw [isn_eq, isn_eq, (xor_top a h).1]
theorem sr_xor (a : Nat) (h : a < 18446744073709551616) : sr (a ^^^ 9223372036854775808) = - sr a := by
  unfold sr
  rw [(xor_top a h).1, (xor_top a h).2.1, sgz_not]

theorem isn_some {o : Option Nat} (hn : ∀ r, o = some r → (double.read r).isNaN = false) (h : isn (o.getD qnan) = false) : ∃ r, o = some r := by
  cases o with
  | none => exact absurd (h.symm.trans qnan_nan) (by decide)
  | some r => exact ⟨r, rfl⟩

def one : Nat := 0x3ff0000000000000
theorem read_one : double.read one = .number false 4503599627370496 (-52) := by decide

theorem mul_one' (a : Nat) (h : a < 18446744073709551616) (hn : isn a = false) : double.mul a one = some a := by
  have hw := write_read a h hn
  unfold Format.mul
  rw [read_one]
  rw [isn_eq, decide_eq_false_iff_not] at hn
  by_cases h1 : rung a = inf
  · rw [read_inf a h1] at hw ⊢
    show some (double.write (.infinity (sgn a ^^ false))) = _
    rw [Bool.xor_false, hw]
  · obtain ⟨m, i, e, _⟩ := read_num a (by omega)
    rw [e] at hw ⊢
    show some (double.nearest (sgn a ^^ false) (m * 4503599627370496) (-1074 + (i : Int) + -52)) = _
    rw [Bool.xor_false, show (4503599627370496 : Nat) = 2 ^ 52 from by decide, show (-1074 + (i : Int) + -52) = -1074 + (i : Int) - ((52 : Nat) : Int) by omega, nearest_scale]
    exact congrArg some hw

theorem sub_zero' (a : Nat) (h : a < 18446744073709551616) (hn : isn a = false) : double.sub a 0 = some a := by
  rw [isn_eq, decide_eq_false_iff_not] at hn
  by_cases h1 : rung a = inf
  · have hw := write_read a h (by rw [read_inf a h1]; rfl)
    unfold Format.sub
    rw [read_inf a h1] at hw ⊢
    exact congrArg some hw
  · rw [sub_num' a 0 (by omega) (by decide)]
    have hz : sv 0 = 0 := rfl
    rw [hz, Int.sub_zero]
    have hr := R_val (r := rung a) (by omega)
    have hs : (sv a).natAbs = val (rung a) := by
      unfold sv sgz
      split <;> omega
    unfold sumW
    rw [hs, hr]
    congr 1
    conv => rhs; rw [← word_self a h]
    congr 1
    have hv0 : rung a ≠ 0 → 0 < val (rung a) := fun h0 => by have := val_mono (r := 0) (r' := rung a) (by omega); rw [val_zero] at this; exact this
    by_cases h0 : sv a = 0
    · rw [if_pos h0, show sgn 0 = false from rfl]; simp
    · rw [if_neg h0]
      unfold sv sgz at h0 ⊢
      cases hsg : sgn a
      · simp only [Bool.false_eq_true, if_false]; rw [decide_eq_false_iff_not]; omega
      · simp only [hsg, if_true] at h0 ⊢; rw [decide_eq_true_iff]; omega

theorem sub_self' (a : Nat) (hn : isn a = false) : double.sub a a = if rung a = inf then none else some 0 := by
  rw [isn_eq, decide_eq_false_iff_not] at hn
  by_cases h1 : rung a = inf
  · rw [if_pos h1]
    unfold Format.sub
    rw [read_inf a h1]
    show Option.map _ (if sgn a = !sgn a then _ else _) = _
    rw [if_neg (by cases sgn a <;> decide)]; rfl
  · rw [if_neg h1, sub_num' a a (by omega) (by omega), Int.sub_self]
    unfold sumW
    rw [if_pos rfl]
    cases sgn a <;> rfl

/-! ### What is asked of terms, plainly -/
theorem wrap_u64 (n : Nat) (h : n < 18446744073709551616) : (kd 2).wrap (n : Int) = (n : Int) := limT_wrap 2 n h
theorem ofInt64 (n : Nat) (h : n < 18446744073709551616) : (BitVec.ofInt 64 (n : Int)).toNat = n := by
  rw [BitVec.ofInt_natCast, BitVec.toNat_ofNat]
  exact Nat.mod_eq_of_lt h

theorem den_xor (a : Nat) (ha : a < 18446744073709551616) : opDen 82 (a : Int) (Int.ofNat 9223372036854775808) = ((a ^^^ 9223372036854775808 : Nat) : Int) := by
  show (kd 2).wrap ((BitVec.ofInt 64 (a : Int) ^^^ BitVec.ofInt 64 ((9223372036854775808 : Nat) : Int)).toNat : Int) = _
  rw [BitVec.toNat_xor, ofInt64 a ha, ofInt64 _ (by decide)]
  exact wrap_u64 _ (xor_top a ha).2.2

theorem cd_xor {a b : Nat} (ha : a < 18446744073709551616) (hb : b < 18446744073709551616) {r : Bool} (h : cdDen 5 (opDen 82 (a : Int) (Int.ofNat 9223372036854775808)) (opDen 82 (b : Int) (Int.ofNat 9223372036854775808)) = r) :
    (double.order (a ^^^ 9223372036854775808) (b ^^^ 9223372036854775808) == some .lt) = r := by
  rw [den_xor a ha, den_xor b hb] at h
  exact h

theorem cd_exp {a : Nat} (ha : a < 18446744073709551616) {r : Bool} (h : cdDen 0 (opDen 50 (opDen 130 (a : Int) (Int.ofNat 52)) (Int.ofNat 2047)) (Int.ofNat 2047) = r) : r = decide (inf ≤ rung a) := by
  have h1 : opDen 130 (a : Int) (Int.ofNat 52) = ((a / 4503599627370496 : Nat) : Int) := by
    show (a : Int).fdiv (2 ^ 52) = _
    rw [show (2 : Int) ^ 52 = ((4503599627370496 : Nat) : Int) from by decide]
    exact (Int.ofNat_fdiv ..).symm
  have h2 : opDen 50 ((a / 4503599627370496 : Nat) : Int) (Int.ofNat 2047) = ((a / 4503599627370496 % 2048 : Nat) : Int) := by
    show (kd 2).wrap ((BitVec.ofInt 64 ((a / 4503599627370496 : Nat) : Int) &&& BitVec.ofInt 64 ((2047 : Nat) : Int)).toNat : Int) = _
    rw [BitVec.toNat_and, ofInt64 _ (by omega), ofInt64 _ (by decide)]
    rw [show (2047 : Nat) = 2 ^ 11 - 1 from by decide, Nat.and_two_pow_sub_one_eq_mod]
    exact wrap_u64 _ (by omega)
  rw [h1, h2] at h
  rw [← h]
  show (((a / 4503599627370496 % 2048 : Nat) : Int) == ((2047 : Nat) : Int)) = _
  rw [Bool.eq_iff_iff, beq_iff_eq, decide_eq_true_iff]
  unfold inf rung
  omega
theorem u64_nat {n : Int} (h : (Lit.int .u64 n).wf = true) : ∃ m : Nat, n = (m : Int) ∧ m < 18446744073709551616 := by
  have h1 : IntKind.min .u64 ≤ n ∧ n ≤ IntKind.max .u64 := by simpa [Lit.wf] using h
  simp [IntKind.min, IntKind.max, IntKind.bits, IntKind.signed] at h1
  exact ⟨n.toNat, by omega, by omega⟩
theorem i64_in {n : Int} (h : (Lit.int .i64 n).wf = true) : -9223372036854775808 ≤ n ∧ n ≤ 9223372036854775807 := by
  have h1 : IntKind.min .i64 ≤ n ∧ n ≤ IntKind.max .i64 := by simpa [Lit.wf] using h
  simp [IntKind.min, IntKind.max, IntKind.bits, IntKind.signed] at h1
  exact h1

/-! ### Whole numbers -/
/-- So many units are 1. -/
def UE : Nat := 1074
theorem UE_eq : UE = 1074 := rfl
def U : Nat := 2 ^ UE
theorem U_pos : 0 < U := Nat.pow_pos (by decide)
theorem U_two (k : Nat) (h : k ≤ 1074) : U = 2 ^ (1074 - k) * 2 ^ k := by
  have := UE_eq
  unfold U; rw [← Nat.pow_add]; congr 1; omega
theorem U_more (i : Nat) (h : 1074 ≤ i) : 2 ^ i = 2 ^ (i - 1074) * U := by
  have := UE_eq
  unfold U; rw [← Nat.pow_add]; congr 1; omega

theorem lt_sv (a b : Nat) : sr a < sr b ↔ sv a < sv b := by
  have h := cmp_sv a b
  rw [cmp_eq, cmp_eq] at h
  constructor
  · intro h1
    rw [if_pos h1] at h
    by_cases h2 : sv a < sv b
    · exact h2
    · rw [if_neg h2] at h; split at h <;> cases h
  · intro h1
    rw [if_pos h1] at h
    by_cases h2 : sr a < sr b
    · exact h2
    · rw [if_neg h2] at h; split at h <;> cases h
theorem geq_eq (a b : Nat) : (double.order a b == some .gt || double.order a b == some .eq) = (!isn a && !isn b && decide (sr b ≤ sr a)) := by
  rw [gt_eq, eq_eq]
  cases isn a <;> cases isn b <;> simp
  rw [Bool.eq_iff_iff]; simp; omega

theorem read_num2 (a : Nat) (h : rung a < inf) : ∃ m i : Nat, double.read a = .number (sgn a) m (-1074 + (i : Int)) ∧ m * 2 ^ i = val (rung a) ∧ m < 9007199254740992 := by
  rw [read_eq]
  by_cases h1 : rung a < 4503599627370496
  · rw [if_pos h1]
    exact ⟨rung a, 0, by simp, by unfold val; rw [if_pos h1]; simp, by omega⟩
  · rw [if_neg h1, if_pos h]
    exact ⟨_, _, rfl, by unfold val; rw [if_neg h1], by omega⟩

theorem cut_down (s : Bool) (n d : Nat) : Toward.zero.cut s n d = n / 2 ^ d := by
  unfold Toward.cut
  show n / 1 <<< min d (n.log2 + 2) + false.toNat = _
  rw [Nat.shiftLeft_eq, Nat.one_mul]
  by_cases h : d ≤ n.log2 + 2
  · rw [Nat.min_eq_left h]; rfl
  · rw [Nat.min_eq_right (by omega)]
    have h1 : n < 2 ^ (n.log2 + 1) := Nat.lt_log2_self
    have h2 : n < 2 ^ (n.log2 + 2) := Nat.lt_of_lt_of_le h1 (Nat.pow_le_pow_right (by decide) (by omega))
    have h3 : n < 2 ^ d := Nat.lt_of_lt_of_le h1 (Nat.pow_le_pow_right (by decide) (by omega))
    rw [Nat.div_eq_of_lt h2, Nat.div_eq_of_lt h3]; rfl

theorem cut_val (s : Bool) (m i : Nat) : Toward.zero.cut s (m <<< (-1074 + (i : Int)).toNat) (-(-1074 + (i : Int))).toNat = m * 2 ^ i / U := by
  rw [cut_down, Nat.shiftLeft_eq]
  by_cases h : 1074 ≤ i
  · have h1 : (-(-1074 + (i : Int))).toNat = 0 := by omega
    have h2 : (-1074 + (i : Int)).toNat = i - 1074 := by omega
    rw [h1, h2, Nat.pow_zero, Nat.div_one]
    rw [U_more i h, ← Nat.mul_assoc, Nat.mul_div_cancel _ U_pos]
  · have h1 : (-(-1074 + (i : Int))).toNat = 1074 - i := by omega
    have h2 : (-1074 + (i : Int)).toNat = 0 := by omega
    rw [h1, h2, Nat.pow_zero, Nat.mul_one]
    rw [U_two i (by omega), Nat.mul_div_mul_right _ _ (Nat.pow_pos (by decide))]

/-- A whole number that is not great is a float. -/
theorem rep (n : Nat) (h : n < 9007199254740992) : ∃ r, r < inf ∧ val r = n * U := by
  by_cases h0 : n = 0
  · exact ⟨0, by decide, by rw [h0, Nat.zero_mul]; rfl⟩
  have hl : n.log2 ≤ 52 := by have := log2_lt (k := 53) h0 h; omega
  have h1 : 2 ^ n.log2 ≤ n := Nat.log2_self_le h0
  have h2 : n < 2 ^ (n.log2 + 1) := Nat.lt_log2_self
  have g1 : 4503599627370496 ≤ n * 2 ^ (52 - n.log2) := by
    have : 2 ^ n.log2 * 2 ^ (52 - n.log2) ≤ n * 2 ^ (52 - n.log2) := Nat.mul_le_mul_right _ h1
    rw [← Nat.pow_add, show n.log2 + (52 - n.log2) = 52 by omega] at this
    exact this
  have g2 : n * 2 ^ (52 - n.log2) < 9007199254740992 := by
    have : n * 2 ^ (52 - n.log2) < 2 ^ (n.log2 + 1) * 2 ^ (52 - n.log2) := Nat.mul_lt_mul_of_pos_right h2 (Nat.pow_pos (by decide))
    rw [← Nat.pow_add, show n.log2 + 1 + (52 - n.log2) = 53 by omega] at this
    exact this
  have g3 : n * U = n * 2 ^ (52 - n.log2) * 2 ^ (1022 + n.log2) := by
    rw [Nat.mul_assoc, U_two (1022 + n.log2) (by omega)]; congr 3; omega
  generalize n * 2 ^ (52 - n.log2) = m at *
  refine ⟨(1023 + n.log2) * 4503599627370496 + (m - 4503599627370496), by unfold inf; omega, ?_⟩
  rw [g3]
  unfold val
  rw [if_neg (by omega)]
  have e1 : ((1023 + n.log2) * 4503599627370496 + (m - 4503599627370496)) % 4503599627370496 = m - 4503599627370496 := by omega
  have e2 : ((1023 + n.log2) * 4503599627370496 + (m - 4503599627370496)) / 4503599627370496 - 1 = 1022 + n.log2 := by omega
  rw [e1, e2, show 4503599627370496 + (m - 4503599627370496) = m by omega]

theorem nearest0 (s : Bool) (n : Nat) : double.nearest s n 0 = double.word s (rnd (n * U)) := by
  rw [← nearest_R, show U = 2 ^ UE from rfl, ← nearest_scale s n UE]; rfl
theorem ofInt_eq (z : Int) : FloatKind.f64.nearest z = double.word (decide (z < 0)) (rnd (z.natAbs * U)) := nearest0 _ _

/-- A float made whole: which float that is. -/
theorem trunc_num (x : Nat) (h : rung x < inf) : ∃ r, r < inf ∧ val r = val (rung x) / U * U ∧ truncF x = double.word (sgn x) r := by
  obtain ⟨m, i, e, hv, hm⟩ := read_num2 x h
  have ht : truncF x = double.nearest (sgn x) (m * 2 ^ i / U) 0 := by
    unfold truncF
    have hd : FloatKind.f64.decode x = double.read x := rfl
    rw [hd, e]
    show double.nearest (sgn x) (Toward.zero.cut (sgn x) (m <<< (-1074 + (i : Int)).toNat) (-(-1074 + (i : Int))).toNat) 0 = _
    rw [cut_val]
  rw [ht, nearest0, hv]
  have hr : ∃ r, r < inf ∧ val r = val (rung x) / U * U := by
    by_cases hi : 1074 ≤ i
    · refine ⟨rung x, h, ?_⟩
      rw [← hv, U_more i hi, ← Nat.mul_assoc, Nat.mul_div_cancel _ U_pos]
    · refine rep _ (Nat.lt_of_le_of_lt ?_ hm)
      rw [← hv]
      have hle : 2 ^ i ≤ U := Nat.pow_le_pow_right (by decide) (by have := UE_eq; omega)
      refine Nat.le_trans (Nat.div_le_div_left hle (Nat.pow_pos (by decide))) ?_
      rw [Nat.mul_div_cancel _ (Nat.pow_pos (by decide))]
      exact Nat.le_refl _
  obtain ⟨r, h1, h2⟩ := hr
  exact ⟨r, h1, h2, by rw [← h2, R_val h1]⟩
theorem trunc_inf (x : Nat) (h : rung x = inf) : truncF x = double.word (sgn x) inf := by
  unfold truncF
  have hd : FloatKind.f64.decode x = double.read x := rfl
  rw [hd, read_inf x h]
  show double.word (sgn x) double.infRung = _
  rw [dInf]; rfl

/-- A float as a whole number. -/
theorem ftoi_num (y : Nat) (h : rung y < inf) : ftoi .i64 y = if -9223372036854775808 ≤ sgz (sgn y) (val (rung y) / U) ∧ sgz (sgn y) (val (rung y) / U) ≤ 9223372036854775807 then some (sgz (sgn y) (val (rung y) / U)) else none := by
  obtain ⟨m, i, e, hv, _⟩ := read_num2 y h
  have hi : (FloatKind.f64.decode y).toInt .zero = some (sgz (sgn y) (val (rung y) / U)) := by
    have hd : FloatKind.f64.decode y = double.read y := rfl
    rw [hd, e]
    show some (signed (sgn y) (Toward.zero.cut (sgn y) (m <<< (-1074 + (i : Int)).toNat) (-(-1074 + (i : Int))).toNat) 0) = _
    rw [cut_val, hv, signed_eq, Nat.pow_zero, Nat.mul_one]
  unfold ftoi
  rw [hi]
  rfl

def mi : Nat := 14114281232179134464
def tp : Nat := 4890909195324358656
theorem sr_mi : sr mi = -4890909195324358656 := by decide
theorem sr_tp : sr tp = 4890909195324358656 := by decide
theorem isn_mi : isn mi = false := by rw [isn_eq]; decide
theorem isn_tp : isn tp = false := by rw [isn_eq]; decide
theorem sv_mi : sv mi = -((9223372036854775808 * U : Nat) : Int) := by
  unfold sv sgz
  rw [show sgn mi = true by decide, show rung mi = 4890909195324358656 by decide]
  unfold val
  rw [if_pos rfl, if_neg (by decide), show 4503599627370496 + 4890909195324358656 % 4503599627370496 = 2 ^ 52 by decide, show 4890909195324358656 / 4503599627370496 - 1 = 11 + UE by decide, show 9223372036854775808 = 2 ^ 63 by decide]
  unfold U
  rw [← Nat.pow_add, ← Nat.pow_add, show 52 + (11 + UE) = 63 + UE by omega]
theorem sv_tp : sv tp = ((9223372036854775808 * U : Nat) : Int) := by
  unfold sv sgz
  rw [show sgn tp = false by decide, show rung tp = 4890909195324358656 by decide]
  unfold val
  rw [if_neg (by decide), if_neg (by decide), show 4503599627370496 + 4890909195324358656 % 4503599627370496 = 2 ^ 52 by decide, show 4890909195324358656 / 4503599627370496 - 1 = 11 + UE by decide, show 9223372036854775808 = 2 ^ 63 by decide]
  unfold U
  rw [← Nat.pow_add, ← Nat.pow_add, show 52 + (11 + UE) = 63 + UE by omega]

theorem sgz_lt {s t : Bool} {m n k : Nat} (hk : 0 < k) : sgz s (m * k) < sgz t (n * k) ↔ sgz s m < sgz t n := by
  rw [sgz_mul, sgz_mul]
  constructor
  · intro h; exact Int.lt_of_mul_lt_mul_right h (by omega)
  · intro h; exact Int.mul_lt_mul_of_pos_right h (by omega)

/-- A whole number's float. -/
theorem ofInt_whole (z : Int) (r : Nat) (hr : r < inf) (hv : val r = z.natAbs * U) : FloatKind.f64.nearest z = double.word (decide (z < 0)) r := by
  rw [ofInt_eq, ← hv, R_val hr]
theorem num_word (s : Bool) {r : Nat} (h : r < inf) : rung (double.word s r) = r ∧ sgn (double.word s r) = s ∧ isn (double.word s r) = false ∧ sv (double.word s r) = sgz s (val r) := by
  have hi := inf_lt
  have h1 := rung_word s (r := r) (by omega)
  have h2 := sgn_word s (r := r) (by omega)
  refine ⟨h1, h2, ?_, ?_⟩
  · rw [isn_eq, h1, decide_eq_false_iff_not]; omega
  · unfold sv; rw [h1, h2]

/-- There and back. -/
theorem whole_back (z : Int) (h : z.natAbs < 9007199254740992) : ∃ r, r < inf ∧ val r = z.natAbs * U ∧ truncF (FloatKind.f64.nearest z) = double.word (decide (z < 0)) r := by
  obtain ⟨r, hr, hv⟩ := rep z.natAbs h
  rw [ofInt_whole z r hr hv]
  obtain ⟨h1, h2, _, _⟩ := num_word (decide (z < 0)) hr
  obtain ⟨r', hr', hv', he⟩ := trunc_num (double.word (decide (z < 0)) r) (by rw [h1]; exact hr)
  rw [h1, hv, Nat.mul_div_cancel _ U_pos, ← hv] at hv'
  obtain rfl := val_inj hv'
  exact ⟨r', hr, hv, by rw [he, h2]⟩
theorem sgz_abs (z : Int) : sgz (decide (z < 0)) z.natAbs = z := by
  unfold sgz
  by_cases h : z < 0
  · rw [decide_eq_true h, if_pos rfl]; omega
  · rw [decide_eq_false h, if_neg (by decide)]; omega
theorem whole_ftoi (z : Int) (h : z.natAbs < 9007199254740992) : ftoi .i64 (truncF (FloatKind.f64.nearest z)) = some z := by
  obtain ⟨r, hr, hv, e⟩ := whole_back z h
  obtain ⟨h1, h2, _, _⟩ := num_word (decide (z < 0)) hr
  rw [e, ftoi_num _ (by rw [h1]; exact hr), h1, h2, hv, Nat.mul_div_cancel _ U_pos, sgz_abs, if_pos (by omega)]
theorem whole_isn (z : Int) (h : z.natAbs < 9007199254740992) : isn (truncF (FloatKind.f64.nearest z)) = false := by
  obtain ⟨r, hr, _, e⟩ := whole_back z h
  rw [e]; exact (num_word _ hr).2.2.1
theorem whole_sv (z : Int) (h : z.natAbs < 9007199254740992) : sv (truncF (FloatKind.f64.nearest z)) = sgz (decide (z < 0)) (z.natAbs * U) := by
  obtain ⟨r, hr, hv, e⟩ := whole_back z h
  rw [e, ← hv]; exact (num_word _ hr).2.2.2

/-- What a float that is made whole is. -/
theorem trunc_sv (x : Nat) (h : rung x < inf) : ∃ r, r < inf ∧ val r = val (rung x) / U * U ∧ rung (truncF x) = r ∧ sgn (truncF x) = sgn x ∧ isn (truncF x) = false ∧ sv (truncF x) = sgz (sgn x) (val (rung x) / U * U) := by
  obtain ⟨r, hr, hv, e⟩ := trunc_num x h
  obtain ⟨h1, h2, h3, h4⟩ := num_word (sgn x) hr
  exact ⟨r, hr, hv, by rw [e, h1], by rw [e, h2], by rw [e, h3], by rw [e, h4, hv]⟩
theorem trunc_isn (x : Nat) : isn (truncF x) = isn x := truncF_nan x
theorem trunc_sr_inf (x : Nat) (h : rung x = inf) : sr (truncF x) = sr x := by
  rw [trunc_inf x h]
  unfold sr
  rw [rung_word _ inf_lt, sgn_word _ inf_lt, h]

theorem fdiv_2048 (a : Int) (h1 : -9223372036854775808 ≤ a) (h2 : a ≤ 9223372036854775807) : (opDen 128 a (Int.ofNat 11)).natAbs < 9007199254740992 := by
  show (a.fdiv (2 ^ 11)).natAbs < _
  rw [show (2 : Int) ^ 11 = 2048 from by decide, Int.fdiv_eq_ediv_of_nonneg _ (by decide)]
  omega

theorem trunc_bet (x : Nat) (h : rung x < inf) : (sgn x = true → sv x ≤ sv (truncF x) ∧ sv (truncF x) ≤ 0) ∧ (sgn x = false → 0 ≤ sv (truncF x) ∧ sv (truncF x) ≤ sv x) := by
  obtain ⟨r, _, _, _, _, _, e⟩ := trunc_sv x h
  have hle : val (rung x) / U * U ≤ val (rung x) := Nat.div_mul_le_self _ _
  rw [e]
  unfold sv sgz
  constructor
  · intro hs
    rw [hs, if_pos rfl, if_pos rfl]; omega
  · intro hs
    rw [hs, if_neg (by decide), if_neg (by decide)]; omega

theorem fin_of {b : Nat} (hn : isn b = false) (h : rung b ≠ inf) : rung b < inf := by
  rw [isn_eq, decide_eq_false_iff_not] at hn
  omega

theorem trunc_lt (b : Nat) (hn : isn b = false) (h1 : sr (truncF b) < sr mi) (h2 : sr mi < sr b) : False := by
  by_cases hi : rung b = inf
  · rw [trunc_sr_inf b hi] at h1; omega
  · obtain ⟨g1, g2⟩ := trunc_bet b (fin_of hn hi)
    rw [lt_sv, sv_mi] at h1 h2
    cases hs : sgn b with
    | true => have := g1 hs; omega
    | false => have := g2 hs; omega
theorem trunc_gt (b : Nat) (hn : isn b = false) (h1 : sr tp ≤ sr (truncF b)) (h2 : sr b < sr tp) : False := by
  by_cases hi : rung b = inf
  · rw [trunc_sr_inf b hi] at h1; omega
  · obtain ⟨g1, g2⟩ := trunc_bet b (fin_of hn hi)
    have h1 : ¬ sr (truncF b) < sr tp := by omega
    rw [lt_sv, sv_tp] at h1 h2
    have := U_pos
    cases hs : sgn b with
    | true => have := g1 hs; omega
    | false => have := g2 hs; omega

theorem trunc_whole (b : Nat) (h : rung b < inf) : ∃ r n : Nat, r < inf ∧ val r = n * U ∧ rung (truncF b) = r ∧ sgn (truncF b) = sgn b ∧ isn (truncF b) = false ∧ sv (truncF b) = sgz (sgn b) (n * U) ∧
    ftoi .i64 (truncF b) = if -9223372036854775808 ≤ sgz (sgn b) n ∧ sgz (sgn b) n ≤ 9223372036854775807 then some (sgz (sgn b) n) else none := by
  obtain ⟨r, hr, hv, h1, h2, h3, h4⟩ := trunc_sv b h
  refine ⟨r, _, hr, hv, h1, h2, h3, h4, ?_⟩
  rw [ftoi_num _ (by rw [h1]; exact hr), h1, h2, hv, Nat.mul_div_cancel _ U_pos]

theorem trunc_fits (b : Nat) (hn : isn b = false) (h1 : sr mi ≤ sr (truncF b)) (h2 : sr (truncF b) < sr tp) : (ftoi .i64 (truncF b)).isSome = true := by
  by_cases hi : rung b = inf
  · rw [trunc_sr_inf b hi] at h1 h2
    rw [sr_mi] at h1
    rw [sr_tp] at h2
    unfold sr sgz at h1 h2
    rw [hi] at h1 h2
    unfold inf at h1 h2
    cases hs : sgn b with
    | true => rw [hs, if_pos rfl] at h1; omega
    | false => rw [hs, if_neg (by decide)] at h2; omega
  · obtain ⟨r, n, _, _, _, _, _, g6, g7⟩ := trunc_whole b (fin_of hn hi)
    have h1 : ¬ sr (truncF b) < sr mi := by omega
    rw [lt_sv, sv_mi, g6] at h1
    rw [lt_sv, sv_tp, g6] at h2
    rw [g7]
    unfold sgz at *
    cases hs : sgn b with
    | true =>
      rw [hs, if_pos rfl] at h1
      have : n * U ≤ 9223372036854775808 * U := by omega
      have := Nat.le_of_mul_le_mul_right this U_pos
      rw [if_pos rfl, if_pos (by omega)]; rfl
    | false =>
      rw [hs, if_neg (by decide)] at h2
      have : n * U < 9223372036854775808 * U := by omega
      have := Nat.lt_of_mul_lt_mul_right this
      simp only [Bool.false_eq_true, if_false]
      rw [if_pos (by omega)]; rfl

theorem trunc_same (b : Nat) (hn : isn b = false) (h : (ftoi .i64 (truncF b)).isSome = true) : (double.order (truncF b) (FloatKind.f64.nearest ((ftoi .i64 (truncF b)).getD 0)) == some .eq) = true := by
  by_cases hi : rung b = inf
  · exfalso
    have hx : rung (truncF b) = inf := by rw [trunc_inf b hi]; exact rung_word _ inf_lt
    have hd : FloatKind.f64.decode (truncF b) = double.read (truncF b) := rfl
    unfold ftoi at h
    rw [hd, read_inf _ hx] at h
    cases h
  · obtain ⟨r, n, g1, g2, g3, g4, g5, g6, g7⟩ := trunc_whole b (fin_of hn hi)
    rw [g7] at h ⊢
    by_cases hb : -9223372036854775808 ≤ sgz (sgn b) n ∧ sgz (sgn b) n ≤ 9223372036854775807
    · rw [if_pos hb]
      have ha : (sgz (sgn b) n).natAbs = n := by unfold sgz; split <;> omega
      have ho := ofInt_whole (sgz (sgn b) n) r g1 (by rw [ha]; exact g2)
      obtain ⟨k1, k2, k3, k4⟩ := num_word (decide (sgz (sgn b) n < 0)) g1
      show (double.order (truncF b) (FloatKind.f64.nearest (sgz (sgn b) n)) == some .eq) = true
      rw [ho, eq_eq, g5, k3]
      have hsv : sv (truncF b) = sv (double.word (decide (sgz (sgn b) n < 0)) r) := by
        rw [g6, k4, g2]
        by_cases h0 : n = 0
        · rw [h0, Nat.zero_mul]; unfold sgz; cases sgn b <;> simp
        · have : decide (sgz (sgn b) n < 0) = sgn b := by
            unfold sgz
            cases sgn b
            · rw [if_neg (by decide), decide_eq_false_iff_not]; omega
            · rw [if_pos rfl, decide_eq_true_iff]; omega
          rw [this]
      have l1 := lt_sv (truncF b) (double.word (decide (sgz (sgn b) n < 0)) r)
      have l2 := lt_sv (double.word (decide (sgz (sgn b) n < 0)) r) (truncF b)
      have : sr (truncF b) = sr (double.word (decide (sgz (sgn b) n < 0)) r) := by omega
      rw [this]; simp
    · rw [if_neg hb] at h; cases h
end Ev.Fl
