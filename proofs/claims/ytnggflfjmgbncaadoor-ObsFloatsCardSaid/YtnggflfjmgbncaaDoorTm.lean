/- Plain facts of floats for math.Ldexp: which float comes out. -/
import Derived.Test.YtnggflfjmgbncaaDoorFlo
import Derived.Laws.Bits64b
namespace Ev.Fl
open Go Go.RowKit Ieee
set_option maxRecDepth 100000

theorem bits_andNot_u64 (a b : Nat) (ha : a < 18446744073709551616) (hb : b < 18446744073709551616) :
    bits .andNot .u64 (a : Int) (b : Int) = ((a &&& (18446744073709551615 - b) : Nat) : Int) := by
  have hx : a &&& (18446744073709551615 - b) < 2 ^ 64 := Nat.and_lt_two_pow _ (by omega)
  have h1 : (BitVec.ofInt 64 (a : Int)).toNat = a := by
    rw [BitVec.ofInt_natCast, BitVec.toNat_ofNat]; exact Nat.mod_eq_of_lt (by omega)
  have h2 : (BitVec.ofInt 64 (b : Int)).toNat = b := by
    rw [BitVec.ofInt_natCast, BitVec.toNat_ofNat]; exact Nat.mod_eq_of_lt (by omega)
  show IntKind.u64.wrap ((BitVec.ofInt 64 (a : Int) &&& ~~~ BitVec.ofInt 64 (b : Int)).toNat : Int) = _
  rw [BitVec.toNat_and, BitVec.toNat_not, h1, h2, IntKind.wrap_u64]
  have e : 2 ^ 64 - 1 - b = 18446744073709551615 - b := rfl
  rw [e]
  omega

theorem strip (a : Nat) (ha : a < 9223372036854775808) : bits .andNot .u64 (a : Int) 9223372036854775808 = (a : Int) := by
  have h := bits_andNot_u64 a 9223372036854775808 (by omega) (by omega)
  rw [show 18446744073709551615 - 9223372036854775808 = 2 ^ 63 - 1 from rfl, Nat.and_two_pow_sub_one_eq_mod, Nat.mod_eq_of_lt ha] at h
  exact h

theorem frac_of (a : Nat) (ha : a < 9223372036854775808) : bits .andNot .u64 (a : Int) 9218868437227405312 = ((a % 4503599627370496 : Nat) : Int) := by
  have h := bits_andNot_u64 a 9218868437227405312 (by omega) (by omega)
  have e : a &&& (18446744073709551615 - 9218868437227405312) = a % 4503599627370496 := by
    have e1 : a = a &&& (2 ^ 63 - 1) := by rw [Nat.and_two_pow_sub_one_eq_mod]; exact (Nat.mod_eq_of_lt ha).symm
    conv => lhs; rw [e1, Nat.and_assoc]
    rw [show (2 ^ 63 - 1) &&& (18446744073709551615 - 9218868437227405312) = 2 ^ 52 - 1 from by decide, Nat.and_two_pow_sub_one_eq_mod]
  rw [e] at h
  exact h

theorem or_exp (f k : Nat) (hf : f < 4503599627370496) (hk : k < 2048) : bits .or .u64 (f : Int) ((k : Int) * 4503599627370496) = ((k * 4503599627370496 + f : Nat) : Int) := by
  have h := bits_or_u64_nat f (k * 4503599627370496) (by omega) (by omega)
  have e : f ||| k * 4503599627370496 = k * 4503599627370496 + f := by
    have := Nat.two_pow_add_eq_or_of_lt (i := 52) (show f < 2 ^ 52 from hf) k
    rw [Nat.or_comm, Nat.mul_comm, show (4503599627370496 : Nat) = 2 ^ 52 from rfl, ← this]
  rw [e] at h
  rw [Int.natCast_mul] at h
  exact h

/-- 2^-53. -/
def half53 : Nat := 4368491638549381120
theorem read_half : double.read half53 = .number false 4503599627370496 (-105) := by decide

theorem mul_half (y V : Nat) (h : rung y < inf) (hv : val (rung y) = V * 2 ^ 53) : double.mul half53 y = some (double.word (sgn y) (rnd V)) := by
  unfold Format.mul
  rw [read_half]
  obtain ⟨m, i, e, hm⟩ := read_num y h
  rw [e]
  show some (double.nearest (false ^^ sgn y) (4503599627370496 * m) (-105 + (-1074 + (i : Int)))) = _
  rw [Bool.false_xor, Nat.mul_comm, show (4503599627370496 : Nat) = 2 ^ 52 from by decide, show (-105 + (-1074 + (i : Int))) = -1127 + (i : Int) - ((52 : Nat) : Int) by omega, nearest_scale]
  congr 1
  rw [← nearest_R, ← nearest_scale (sgn y) m i (-1127 + (i : Int)), hm, hv, show (-1127 + (i : Int) - ((i : Nat) : Int)) = -1074 - ((53 : Nat) : Int) by omega, nearest_scale]

theorem one_mul' (a : Nat) (h : a < 18446744073709551616) (hn : isn a = false) : double.mul one a = some a := by rw [mul_comm']; exact mul_one' a h hn

/-- The floats from 1 up to 2^64. -/
def Mid (n : Nat) : Prop := 4607182418800017408 ≤ n ∧ n ≤ 4895412794951729152

theorem mid_of {m : Nat} (h0 : 0 < m) (h : m < 18446744073709551616) : Mid (rnd (m * U)) := by
  have e1 : val 4607182418800017408 = U := by
    unfold val
    rw [if_neg (by decide), show 4503599627370496 + 4607182418800017408 % 4503599627370496 = 2 ^ 52 by decide, show 4607182418800017408 / 4503599627370496 - 1 = UE - 52 by decide, ← Nat.pow_add]
    exact congrArg (2 ^ ·) (show 52 + (UE - 52) = UE by decide)
  have e2 : val 4895412794951729152 = 18446744073709551616 * U := by
    have h : (2 ^ 52) * 2 ^ (UE + 12) = (2 ^ 64) * U := by
      unfold U
      rw [← Nat.pow_add, ← Nat.pow_add]
      exact congrArg (2 ^ ·) (show 52 + (UE + 12) = 64 + UE by decide)
    unfold val
    rw [if_neg (by decide), show 4503599627370496 + 4895412794951729152 % 4503599627370496 = 2 ^ 52 by decide, show 4895412794951729152 / 4503599627370496 - 1 = UE + 12 by decide,
      show (18446744073709551616 : Nat) = 2 ^ 64 by decide]
    exact h
  have r1 := R_val (r := 4607182418800017408) (by decide)
  have r2 := R_val (r := 4895412794951729152) (by decide)
  rw [e1] at r1; rw [e2] at r2
  constructor
  · rw [← r1]
    exact R_mono (Nat.le_mul_of_pos_left _ h0)
  · rw [← r2]
    exact R_mono (Nat.mul_le_mul_right _ (Nat.le_of_lt h))

theorem mid_facts {n : Nat} (h : Mid n) : rung n = n ∧ sgn n = false ∧ isn n = false ∧ sr n = n := by
  obtain ⟨h1, h2⟩ := h
  have e1 : rung n = n := Nat.mod_eq_of_lt (by omega)
  have e2 : sgn n = false := by unfold sgn; rw [show n / 9223372036854775808 = 0 by omega]; rfl
  refine ⟨e1, e2, ?_, ?_⟩
  · rw [isn_eq, e1, decide_eq_false_iff_not]; unfold inf; omega
  · unfold sr; rw [e1, e2]; rfl

theorem mid_gt {n : Nat} (h : Mid n) : (double.order n 9218868437227405311 == some .gt) = false := by
  obtain ⟨_, _, e3, e4⟩ := mid_facts h
  rw [gt_eq, e3, e4, show sr 9218868437227405311 = 9218868437227405311 by decide, show isn 9218868437227405311 = false by rw [isn_eq]; decide]
  obtain ⟨h1, h2⟩ := h
  simp
  omega
theorem mid_lt {n : Nat} (h : Mid n) : (double.order n 4503599627370496 == some .lt) = false := by
  obtain ⟨_, _, e3, e4⟩ := mid_facts h
  rw [lt_eq, e3, e4, show sr 4503599627370496 = 4503599627370496 by decide, show isn 4503599627370496 = false by rw [isn_eq]; decide]
  obtain ⟨h1, h2⟩ := h
  simp
  omega
theorem mid_nan {n : Nat} (h : Mid n) : (double.order n n != some .eq) = false := by
  obtain ⟨_, _, e3, e4⟩ := mid_facts h
  rw [bne, eq_eq, e3]
  simp
theorem mid_zero {n : Nat} (h : Mid n) : (double.order n 0 == some .eq) = false := by
  obtain ⟨_, _, e3, e4⟩ := mid_facts h
  rw [eq_eq, e3, e4, show sr 0 = 0 by decide, show isn 0 = false by rw [isn_eq]; decide]
  obtain ⟨h1, h2⟩ := h
  simp
  omega
theorem mid_pos {n : Nat} (h : Mid n) : (double.order n 0 == some .lt) = false := by
  obtain ⟨_, _, e3, e4⟩ := mid_facts h
  rw [lt_eq, e3, e4, show sr 0 = 0 by decide, show isn 0 = false by rw [isn_eq]; decide]
  obtain ⟨h1, h2⟩ := h
  simp
end Ev.Fl
