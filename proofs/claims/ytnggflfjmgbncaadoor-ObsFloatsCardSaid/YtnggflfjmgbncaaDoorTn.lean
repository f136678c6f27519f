/- math.Ldexp: what it is, at a whole number made a float. -/
import Derived.Test.YtnggflfjmgbncaaDoorTl
import Derived.Test.YtnggflfjmgbncaaDoorTm
import Derived.Test.YtnggflfjmgbncaaDoorTv
import Derived.Laws.FloatArith
namespace Go.Proofs.YtnggflfjmgbncaaDoor
open Go Go.RowKit Go.Sort Go.Lib Ieee Ev.Fl
set_option maxRecDepth 100000

theorem floatOfInt_nat (m : Nat) : floatOfInt .f64 (m : Int) = rnd (m * U) := by
  have h : floatOfInt .f64 (m : Int) = FloatKind.f64.nearest (m : Int) := rfl
  rw [h, ofInt_eq, show decide ((m : Int) < 0) = false from decide_eq_false (by omega), word_eq]
  simp

/-- Its exponent and what is behind it. -/
theorem mid_parts {n : Nat} (h : Mid n) : ∃ k f, n = k * 4503599627370496 + f ∧ f < 4503599627370496 ∧ 1023 ≤ k ∧ k ≤ 1087 ∧ n / 4503599627370496 = k ∧ n % 4503599627370496 = f := by
  obtain ⟨h1, h2⟩ := h
  exact ⟨n / 4503599627370496, n % 4503599627370496, by omega, by omega, by omega, by omega, rfl, rfl⟩

theorem val_of (k f : Nat) (hk : 1 ≤ k) (hf : f < 4503599627370496) : val (k * 4503599627370496 + f) = (4503599627370496 + f) * 2 ^ (k - 1) := by
  unfold val
  rw [if_neg (by omega), show (k * 4503599627370496 + f) % 4503599627370496 = f by omega, show (k * 4503599627370496 + f) / 4503599627370496 = k by omega]

theorem small_facts {y : Nat} (h : y < inf) : rung y = y ∧ sgn y = false ∧ isn y = false := by
  unfold inf at h
  have e1 : rung y = y := Nat.mod_eq_of_lt (by omega)
  refine ⟨e1, ?_, ?_⟩
  · unfold sgn; rw [show y / 9223372036854775808 = 0 by omega]; rfl
  · rw [isn_eq, e1, decide_eq_false_iff_not]; unfold inf; omega

theorem fb_mul (x y : Nat) : floatBits .mul .f64 x y = double.mul x y := rfl
theorem one_lit : Ev.Fl.one = 4607182418800017408 := rfl
theorem half_lit : half53 = 4368491638549381120 := rfl
theorem run_mul {x y r : Nat} (h : double.mul x y = some r) (w : World) : (binOp .mul 50 (.float .f64 x) (.float .f64 y)).run Tryd.prog w = .ok (.float .f64 r) w :=
  run_float_arith w .mul 50 .f64 x y r ((fb_mul x y).trans h)

theorem run_mul_one (y : Nat) (h : y < inf) (w : World) : (binOp .mul 50 (.float .f64 4607182418800017408) (.float .f64 y)).run Tryd.prog w = .ok (.float .f64 y) w := by
  obtain ⟨_, _, h3⟩ := small_facts h
  have := one_mul' y (by unfold inf at h; omega) h3
  rw [one_lit] at this
  exact run_mul this w

theorem run_mul_half (y V : Nat) (h : y < inf) (hv : val y = V * 2 ^ 53) (w : World) : (binOp .mul 50 (.float .f64 4368491638549381120) (.float .f64 y)).run Tryd.prog w = .ok (.float .f64 (rnd V)) w := by
  obtain ⟨h1, h2, _⟩ := small_facts h
  have := mul_half y V (by rw [h1]; exact h) (by rw [h1]; exact hv)
  rw [h2, word_eq, half_lit] at this
  simp only [Bool.false_eq_true, if_false] at this
  exact run_mul this w

theorem run_mul_any (y : Nat) (h : y < inf) : ∃ r, r < 18446744073709551616 ∧ ∀ w, (binOp .mul 50 (.float .f64 4368491638549381120) (.float .f64 y)).run Tryd.prog w = .ok (.float .f64 r) w := by
  obtain ⟨h1, h2, _⟩ := small_facts h
  obtain ⟨m, i, e, _⟩ := read_num y (by rw [h1]; exact h)
  have hm : double.mul half53 y = some (double.nearest (false ^^ sgn y) (4503599627370496 * m) (-105 + (-1074 + (i : Int)))) := by
    unfold Format.mul
    rw [read_half, e]
    rfl
  rw [half_lit] at hm
  refine ⟨_, ?_, fun w => run_mul hm w⟩
  exact double.write_lt (.number (false ^^ sgn y) (4503599627370496 * m) (-105 + (-1074 + (i : Int))))

theorem hk_of {n k : Nat} (h : Mid n) (hk : n / 4503599627370496 = k) : bits .and .i64 (wrap64 ((n : Int) / 4503599627370496)) 2047 = (k : Int) := by
  obtain ⟨h1, h2⟩ := h
  rw [hE_of n (by omega)]
  unfold ex
  omega

theorem U_eq : U = 2 ^ UE := rfl
theorem pow_shift {c u a b d : Nat} (h : c * 2 ^ a = u * U) (hd : b + UE = a + d) : c * 2 ^ b = u * 2 ^ d := by
  refine Nat.eq_of_mul_eq_mul_right U_pos ?_
  have e : 2 ^ b * U = 2 ^ a * 2 ^ d := by rw [← Nat.pow_add, ← hd, Nat.pow_add, U_eq]
  rw [Nat.mul_right_comm u, ← h, Nat.mul_assoc, Nat.mul_assoc, e]

theorem ar1 {K k : Nat} {x : Int} (hK : (K : Int) = x + k) (h1 : 1 ≤ K) (h2 : 1023 ≤ k) (h3 : -1074 ≤ x) : K - 1 + UE = k - 1 + (x + 1074).toNat := by rw [UE_eq]; omega
theorem ar2 {K k : Nat} {x : Int} (hK : (K : Int) = x + k + 53) (h1 : 1 ≤ K) (h2 : 1023 ≤ k) (h3 : -1074 ≤ x) : K - 1 + UE = k - 1 + ((x + 1074).toNat + 53) := by rw [UE_eq]; omega

theorem parts_exact {u r r1 : Nat} {x : Int} (hM : Mid r1) (hx : -1074 ≤ x ∧ x ≤ 1000000) (hv1 : val r1 = u * U) (hv : val r = u * 2 ^ (x + 1074).toNat) :
    ∃ k f : Nat, f < 4503599627370496 ∧ 1023 ≤ k ∧ k ≤ 1087 ∧ r1 / 4503599627370496 = k ∧ r1 % 4503599627370496 = f ∧
      ((∃ K : Nat, (K : Int) = x + k ∧ 1 ≤ K ∧ -1022 ≤ x + k - 1023 ∧ K * 4503599627370496 + f = r) ∨
       (∃ K : Nat, (K : Int) = x + k + 53 ∧ 1 ≤ K ∧ x + k - 1023 < -1022 ∧ val (K * 4503599627370496 + f) = val r * 2 ^ 53)) := by
  obtain ⟨k, f, e1, hf, hk1, hk2, hdk, hmf⟩ := mid_parts hM
  refine ⟨k, f, hf, hk1, hk2, hdk, hmf, ?_⟩
  have hk0 : 1 ≤ k := Nat.le_trans (by decide) hk1
  have hA : (∃ K : Nat, (K : Int) = x + k ∧ 1 ≤ K ∧ -1022 ≤ x + k - 1023) ∨ (∃ K : Nat, (K : Int) = x + k + 53 ∧ 1 ≤ K ∧ x + k - 1023 < -1022) := by
    clear hv hv1
    by_cases hE : -1022 ≤ x + k - 1023
    · exact .inl ⟨(x + k).toNat, by omega, by omega, hE⟩
    · exact .inr ⟨(x + k + 53).toNat, by omega, by omega, by omega⟩
  have hvn : (4503599627370496 + f) * 2 ^ (k - 1) = u * U := by rw [← hv1, e1, val_of k f hk0 hf]
  rcases hA with ⟨K, h1, h2, h3⟩ | ⟨K, h1, h2, h3⟩
  · refine .inl ⟨K, h1, h2, h3, val_inj ?_⟩
    rw [val_of K f h2 hf, hv]
    exact pow_shift hvn (ar1 h1 h2 hk1 hx.1)
  · refine .inr ⟨K, h1, h2, h3, ?_⟩
    rw [val_of K f h2 hf, hv, pow_shift (d := (x + 1074).toNat + 53) hvn (ar2 h1 h2 hk1 hx.1), Nat.pow_add, Nat.mul_assoc]

theorem ldexp_exact' {u r r1 : Nat} {x : Int} (hM : Mid r1) (hv1 : val r1 = u * U) (hx : -1074 ≤ x ∧ x ≤ 1000000) (hr : r < inf) (hv : val r = u * 2 ^ (x + 1074).toNat) (w : World) :
    Calls Tryd.prog 52 #[.float .f64 r1, .int .i64 x] w fun e w' => e = .returned (.float .f64 r) ∧ w' = w := by
  obtain ⟨k, f, hf, hk1, hk2, hdk, hmf, hcase⟩ := parts_exact hM hx hv1 hv
  clear hv1 hv
  have hlt : r1 < 9223372036854775808 := by obtain ⟨_, h⟩ := hM; omega
  have hw : wrap64 (wrap64 x + wrap64 ((k : Int) - 1023)) = x + k - 1023 := by
    rw [w64_in x (by omega), w64_in ((k : Int) - 1023) (by omega), w64_in _ (by omega)]; omega
  have hA : (bits .andNot .u64 (r1 : Int) 9223372036854775808).toNat = r1 := by rw [strip r1 hlt]; rfl
  have hC := frac_of r1 hlt
  rw [hmf] at hC
  have hkk := hk_of hM hdk
  rcases hcase with ⟨K, hK, hK1, hE, hy⟩ | ⟨K, hK, hK1, hE, hy⟩
  · have hKlt : K < 2047 := by unfold inf at hr; omega
    refine L.Ldexp (fun w => L.ldexp_mid r1 r r x k (x + k - 1023) f hA (mid_gt hM) (mid_lt hM) (mid_nan hM) (mid_zero hM) hkk hw hC ?_ ⟨by omega, by omega⟩ (run_mul_one r hr) w) w
    rw [show x + (k : Int) - 1023 + 1023 = (K : Int) by omega, or_exp f K hf (by omega), hy]
  · have hyi : K * 4503599627370496 + f < inf := by clear hy; unfold inf; omega
    have hm := run_mul_half _ _ hyi hy
    clear hy
    rw [R_val hr] at hm
    refine L.Ldexp (fun w => L.ldexp_den r1 r _ x k (x + k - 1023) f hA (mid_gt hM) (mid_lt hM) (mid_nan hM) (mid_zero hM) hkk hw hC ?_ ⟨by omega, by omega⟩ hm w) w
    rw [show x + (k : Int) - 1023 + 53 + 1023 = (K : Int) by omega, or_exp f K hf (by omega)]

theorem ldexp_exact (u r : Nat) (x : Int) (h0 : 0 < u) (hu : u < 9007199254740992) (hx : -1074 ≤ x ∧ x ≤ 1000000) (hr : r < inf) (hv : val r = u * 2 ^ (x + 1074).toNat) (w : World) :
    Calls Tryd.prog 52 #[.float .f64 (rnd (u * U)), .int .i64 x] w fun e w' => e = .returned (.float .f64 r) ∧ w' = w := by
  have hM := mid_of h0 (show u < 18446744073709551616 by omega)
  obtain ⟨r1, hr1, hv1⟩ := rep u hu
  have hn : r1 = rnd (u * U) := (R_val hr1).symm.trans (congrArg rnd hv1)
  exact ldexp_exact' hM (by rw [← hn]; exact hv1) hx hr hv w

theorem ldexp_mid_any {n : Nat} (hM : Mid n) (e : Int) : ∃ r, r < 18446744073709551616 ∧ ∀ w,
    Calls Tryd.prog 52 #[.float .f64 n, .int .i64 e] w fun e w' => e = .returned (.float .f64 r) ∧ w' = w := by
  obtain ⟨k, f, e1, hf, hk1, hk2, hdk, hmf⟩ := mid_parts hM
  have hlt : n < 9223372036854775808 := by obtain ⟨_, h⟩ := hM; omega
  have hA : (bits .andNot .u64 (n : Int) 9223372036854775808).toNat = n := by rw [strip n hlt]; rfl
  have hC := frac_of n hlt
  rw [hmf] at hC
  have hkk := hk_of hM hdk
  obtain ⟨E, hE⟩ : ∃ E, wrap64 (wrap64 e + wrap64 ((k : Int) - 1023)) = E := ⟨_, rfl⟩
  by_cases hE1 : E < -1075
  · refine ⟨0, by omega, fun w => L.Ldexp (fun w => L.ldexp_lo n 0 e k E hA (mid_gt hM) (mid_lt hM) (mid_nan hM) (mid_zero hM) hkk hE hE1 (fun w => ?_) w) w⟩
    refine L.copysign 0 n 0 0 0 (strip 0 (by omega)) ?_ (by decide) w
    have h := bits_and_u64_nat n 9223372036854775808 (by omega) (by omega)
    have e2 : n &&& 9223372036854775808 = 0 := by
      rw [show n = n &&& (2 ^ 63 - 1) by rw [Nat.and_two_pow_sub_one_eq_mod]; exact (Nat.mod_eq_of_lt hlt).symm, Nat.and_assoc, show (2 ^ 63 - 1) &&& 9223372036854775808 = 0 by decide]
      exact Nat.and_zero _
    rw [e2] at h
    exact h
  by_cases hE2 : 1023 < E
  · exact ⟨9218868437227405312, by omega, fun w => L.Ldexp (fun w => L.ldexp_hi n e k E hA (mid_gt hM) (mid_lt hM) (mid_nan hM) (mid_zero hM) hkk hE hE2 (mid_pos hM) w) w⟩
  by_cases hE3 : E < -1022
  · obtain ⟨K, hK⟩ : ∃ K : Nat, (K : Int) = E + 53 + 1023 := ⟨(E + 53 + 1023).toNat, by omega⟩
    obtain ⟨r, hr, hmul⟩ := run_mul_any (K * 4503599627370496 + f) (by unfold inf; omega)
    refine ⟨r, hr, fun w => L.Ldexp (fun w => L.ldexp_den n r _ e k E f hA (mid_gt hM) (mid_lt hM) (mid_nan hM) (mid_zero hM) hkk hE hC ?_ ⟨by omega, hE3⟩ hmul w) w⟩
    rw [← hK, or_exp f K hf (by omega)]
  · obtain ⟨K, hK⟩ : ∃ K : Nat, (K : Int) = E + 1023 := ⟨(E + 1023).toNat, by omega⟩
    have hyi : K * 4503599627370496 + f < inf := by unfold inf; omega
    refine ⟨K * 4503599627370496 + f, by unfold inf at hyi; omega, fun w => L.Ldexp (fun w => L.ldexp_mid n _ _ e k E f hA (mid_gt hM) (mid_lt hM) (mid_nan hM) (mid_zero hM) hkk hE hC ?_ ⟨by omega, by omega⟩ (run_mul_one _ hyi) w) w⟩
    rw [← hK, or_exp f K hf (by omega)]

theorem ldexp_any (m : Nat) (hm : m < 18446744073709551616) (e : Int) : ∃ r, r < 18446744073709551616 ∧ ∀ w,
    Calls Tryd.prog 52 #[.float .f64 (rnd (m * U)), .int .i64 e] w fun e w' => e = .returned (.float .f64 r) ∧ w' = w := by
  by_cases h0 : m = 0
  · refine ⟨0, by omega, fun w => ?_⟩
    have hz : rnd (m * U) = 0 := by rw [h0, Nat.zero_mul]; rfl
    rw [hz]
    exact L.Ldexp (fun w => L.ldexp_zero e w) w
  exact ldexp_mid_any (mid_of (Nat.pos_of_ne_zero h0) hm) e
end Go.Proofs.YtnggflfjmgbncaaDoor
