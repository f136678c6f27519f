/- flo.Text: what it says, of any bits. -/
import Derived.Test.YtnggflfjmgbncaaDoorTx
import Derived.Laws.Bits64b
import Derived.Lib.ItoaLen
import Derived.IntWalk
namespace Go.Proofs.YtnggflfjmgbncaaDoor
open Go Go.RowKit Go.Sort Go.Lib Ieee
set_option maxRecDepth 100000

def ex (a : Nat) : Nat := a / 4503599627370496 % 2048
def mant (a : Nat) : Nat := if ex a = 0 then a % 4503599627370496 else a % 4503599627370496 + 4503599627370496
def expo (a : Nat) : Int := if ex a = 0 then -1074 else (ex a : Int) - 1075
def sgB (a : Nat) : ByteArray := if 9223372036854775808 ≤ a then ⟨#[45]⟩ else ⟨#[]⟩
def textOf (a : Nat) : ByteArray :=
  if (double.order a a != some .eq) = true then ⟨#[110, 97, 110]⟩
  else if infs a 1 = true then ⟨#[105, 110, 102]⟩
  else if infs a (-1) = true then ⟨#[45, 105, 110, 102]⟩
  else if mant a = 0 then sgB a ++ ⟨#[48, 112, 48]⟩
  else sgB a ++ ⟨(Lib.decDigits (mant a / 2 ^ Lib.ctz 64 (mant a))).toArray⟩ ++ ⟨#[112]⟩ ++ ⟨(Lib.itoa (expo a + (Lib.ctz 64 (mant a) : Int))).toArray⟩

theorem w64_in (n : Int) (h : -9223372036854775808 ≤ n ∧ n ≤ 9223372036854775807) : wrap64 n = n := by unfold wrap64; omega
theorem hM_of (a : Nat) (ha : a < 18446744073709551616) : bits .and .u64 (a : Int) 4503599627370495 = ((a % 4503599627370496 : Nat) : Int) := by
  have h := bits_and_u64_nat a 4503599627370495 ha (by omega)
  rw [show (4503599627370495 : Nat) = 2 ^ 52 - 1 from rfl, Nat.and_two_pow_sub_one_eq_mod] at h
  exact h
theorem hO_of (M : Nat) (hM : M < 4503599627370496) : bits .or .u64 (M : Int) 4503599627370496 = ((M + 4503599627370496 : Nat) : Int) := by
  have h := bits_or_u64_nat M 4503599627370496 (by omega) (by omega)
  have e : M ||| 4503599627370496 = M + 4503599627370496 := by
    have := Nat.two_pow_add_eq_or_of_lt (i := 52) (show M < 2 ^ 52 from hM) 1
    rw [Nat.or_comm, show (4503599627370496 : Nat) = 2 ^ 52 * 1 from rfl, ← this, Nat.add_comm]
  rw [e] at h
  exact h
theorem hE_of (a : Nat) (ha : a < 18446744073709551616) : bits .and .i64 (wrap64 ((a : Int) / 4503599627370496)) 2047 = ((ex a : Nat) : Int) := by
  have e1 : wrap64 ((a : Int) / 4503599627370496) = ((a / 4503599627370496 : Nat) : Int) := by
    rw [w64_in _ (by omega)]; omega
  rw [e1]
  have hx : a / 4503599627370496 < 4096 := by omega
  unfold ex
  generalize a / 4503599627370496 = y at hx ⊢
  revert y
  decide +kernel
theorem neg_eq64 (a : Nat) (ha : a < 18446744073709551616) : neg64 a = decide (9223372036854775808 ≤ a) := by
  unfold neg64
  rw [decide_eq_decide]
  unfold wrap64
  omega

theorem ctz_lt (m : Nat) (h0 : m ≠ 0) (h : m < 9007199254740992) : Lib.ctz 64 m < 53 := by
  obtain ⟨h1, _⟩ := Lib.lowest_bit 64 m h0 (by omega)
  have h2 : 2 ^ Lib.ctz 64 m ≤ m := by rw [← h1]; exact Nat.and_le_left
  have h3 : 2 ^ Lib.ctz 64 m < 2 ^ 53 := Nat.lt_of_le_of_lt h2 h
  exact (Nat.pow_lt_pow_iff_right (by omega)).1 h3
theorem ex_lt (a : Nat) : ex a < 2048 := Nat.mod_lt _ (by omega)
theorem mant_lt (a : Nat) : mant a < 9007199254740992 := by unfold mant; split <;> omega

theorem text (a : Nat) (ha : a < 18446744073709551616) (w : World) (hT : TabAt 3 Lib.deBruijn64tab w) (htab : Lib.TabIs Tryd.prog w "internal/strconv.uint64pow10" .u64 Lib.pow10Tab) :
    Calls Tryd.prog 19 #[.int .u64 (a : Int)] w fun e w' => e = .returned (.string (textOf a)) ∧ Below w.heap.size w w' := by
  unfold textOf
  by_cases h1 : (double.order a a != some .eq) = true
  · rw [if_pos h1]
    exact (text_nan a h1 w).mono fun e w' ⟨he, hw⟩ => ⟨he, hw ▸ Below.refl _ _⟩
  rw [if_neg h1]
  by_cases h2 : infs a 1 = true
  · rw [if_pos h2]
    exact (text_inf a (by simpa using h1) h2 w).mono fun e w' ⟨he, hw⟩ => ⟨he, hw ▸ Below.refl _ _⟩
  rw [if_neg h2]
  by_cases h3 : infs a (-1) = true
  · rw [if_pos h3]
    exact (text_neg a (by simpa using h1) (by simpa using h2) h3 w).mono fun e w' ⟨he, hw⟩ => ⟨he, hw ▸ Below.refl _ _⟩
  rw [if_neg h3]
  replace h1 : (double.order a a != some .eq) = false := by simpa using h1
  replace h2 : infs a 1 = false := by simpa using h2
  replace h3 : infs a (-1) = false := by simpa using h3
  have hM := hM_of a ha
  have hE := hE_of a ha
  have hE2 := ex_lt a
  by_cases hm : mant a = 0
  · rw [if_pos hm]
    have hE0 : ex a = 0 := by unfold mant at hm; split at hm <;> omega
    have hM0 : a % 4503599627370496 = 0 := by unfold mant at hm; split at hm <;> omega
    rw [hM0] at hM; rw [hE0] at hE
    unfold sgB
    split
    · exact text_fin_nz a h1 h2 h3 hM hE ((neg_eq64 a ha).trans (decide_eq_true (by assumption))) w
    · exact text_fin_pz a h1 h2 h3 hM hE ((neg_eq64 a ha).trans (decide_eq_false (by assumption))) w
  rw [if_neg hm]
  have hml := mant_lt a
  have hk := ctz_lt _ hm hml
  have hu : mant a / 2 ^ Lib.ctz 64 (mant a) < 18446744073709551616 := Nat.lt_of_le_of_lt (Nat.div_le_self _ _) (by omega)
  have hD : (mant a : Int) / 2 ^ min (Lib.ctz 64 (mant a)) 64 = ((mant a / 2 ^ Lib.ctz 64 (mant a) : Nat) : Int) := by
    rw [Nat.min_eq_left (by omega)]
    push_cast
    rfl
  have hl1 : (Lib.decDigits (mant a / 2 ^ Lib.ctz 64 (mant a))).length ≤ 20 := by rw [Lib.decDigits_length]; exact Lib.nDigits_le20 _ hu
  have hx : -9223372036854775808 ≤ expo a + (Lib.ctz 64 (mant a) : Int) ∧ expo a + (Lib.ctz 64 (mant a) : Int) ≤ 9223372036854775807 := by
    unfold expo; split <;> omega
  have hl2 : (Lib.itoa (expo a + (Lib.ctz 64 (mant a) : Int))).length ≤ 21 := Lib.itoa_length_le _ hx.1 hx.2
  have hm0 : ((mant a : Int) == 0) = false := by simp; omega
  by_cases hE0 : ex a = 0
  · have em : mant a = a % 4503599627370496 := by unfold mant; rw [if_pos hE0]
    have ee : expo a = -1074 := by unfold expo; rw [if_pos hE0]
    rw [hE0] at hE
    rw [← em] at hM
    have hX : wrap64 (-1074 + (Lib.ctz 64 (mant a) : Int)) = expo a + (Lib.ctz 64 (mant a) : Int) := by rw [ee]; exact w64_in _ (by omega)
    unfold sgB
    split
    · exact text_fin_n0 a (mant a) _ _ h1 h2 h3 hM hE hm0 (by omega) ((neg_eq64 a ha).trans (decide_eq_true (by assumption))) hu hD hX hx hl1 hl2 w hT htab
    · exact text_fin_p0 a (mant a) _ _ h1 h2 h3 hM hE hm0 (by omega) ((neg_eq64 a ha).trans (decide_eq_false (by assumption))) hu hD hX hx hl1 hl2 w hT htab
  · have em : mant a = a % 4503599627370496 + 4503599627370496 := by unfold mant; rw [if_neg hE0]
    have ee : expo a = (ex a : Int) - 1075 := by unfold expo; rw [if_neg hE0]
    have hO := hO_of (a % 4503599627370496) (Nat.mod_lt _ (by omega))
    rw [← em] at hO
    have hX : wrap64 (wrap64 ((ex a : Int) - 1075) + (Lib.ctz 64 (mant a) : Int)) = expo a + (Lib.ctz 64 (mant a) : Int) := by rw [ee, w64_in ((ex a : Int) - 1075) (by omega)]; exact w64_in _ (by omega)
    unfold sgB
    split
    · exact text_fin_n1 a _ (ex a) (mant a) _ _ h1 h2 h3 hM hE hO hm0 (by omega) (by omega) ((neg_eq64 a ha).trans (decide_eq_true (by assumption))) hu hD hX hx hl1 hl2 w hT htab
    · exact text_fin_p1 a _ (ex a) (mant a) _ _ h1 h2 h3 hM hE hO hm0 (by omega) (by omega) ((neg_eq64 a ha).trans (decide_eq_false (by assumption))) hu hD hX hx hl1 hl2 w hT htab
end Go.Proofs.YtnggflfjmgbncaaDoor
