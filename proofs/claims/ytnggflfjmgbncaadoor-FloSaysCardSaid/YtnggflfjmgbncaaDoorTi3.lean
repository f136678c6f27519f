/- The reference's ToInt, walked. -/
import Derived.Test.YtnggflfjmgbncaaDoorTw
import Derived.Test.YtnggflfjmgbncaaDoorTu
namespace Go.Proofs.YtnggflfjmgbncaaDoor
open Go Go.RowKit Go.Sort Go.Lib Ieee Ev.Fl
set_option maxRecDepth 100000
theorem rti_low (a : Nat) (X : Int) (hx : bits .and .u64 ((a : Int) / 4503599627370496) 2047 = X) (hw : wrap64 X = X) (h1 : X < 1023) (w : World) :
    Calls Tryd.prog 11 #[.int .u64 (a : Int)] w fun e w' => e = .returned (.tuple #[.int .i64 0, .bool true]) ∧ w' = w := by
  go_enter Tryd.func11, Tryd.ntmps11
  go_wp2
  all_goals first | (exfalso; omega) | skip
  go_ret2
  exact ⟨rfl, rfl⟩
theorem rti_least (a : Nat) (X : Int) (hx : bits .and .u64 ((a : Int) / 4503599627370496) 2047 = X) (hw : wrap64 X = X) (h1 : 1086 ≤ X) (h2 : ((a : Int) == 14114281232179134464) = true) (w : World) :
    Calls Tryd.prog 11 #[.int .u64 (a : Int)] w fun e w' => e = .returned (.tuple #[.int .i64 (-9223372036854775808), .bool true]) ∧ w' = w := by
  go_enter Tryd.func11, Tryd.ntmps11
  go_wp2
  all_goals first | (exfalso; omega) | skip
  go_ret2
  exact ⟨rfl, rfl⟩
theorem rti_out (a : Nat) (X : Int) (hx : bits .and .u64 ((a : Int) / 4503599627370496) 2047 = X) (hw : wrap64 X = X) (h1 : 1086 ≤ X) (h2 : ((a : Int) == 14114281232179134464) = false) (w : World) :
    Calls Tryd.prog 11 #[.int .u64 (a : Int)] w fun e w' => e = .returned (.tuple #[.int .i64 0, .bool false]) ∧ w' = w := by
  go_enter Tryd.func11, Tryd.ntmps11
  go_wp2
  all_goals first | (exfalso; omega) | skip
  go_ret2
  exact ⟨rfl, rfl⟩
theorem rti_up_n (a : Nat) (X : Int) (M m n : Int) (hx : bits .and .u64 ((a : Int) / 4503599627370496) 2047 = X) (hw : wrap64 X = X) (h1 : 1023 ≤ X) (h2 : X < 1086) (h3 : 1075 ≤ X) (hM : bits .and .u64 (a : Int) 4503599627370495 = M) (hO : bits .or .u64 M 4503599627370496 = m) (hs : IntKind.u64.wrap (m * 2 ^ (X - 1023 - 52).toNat) = n)  (hb : ((a : Int) / 9223372036854775808 == 1) = true) (w : World) :
    Calls Tryd.prog 11 #[.int .u64 (a : Int)] w fun e w' => e = .returned (.tuple #[.int .i64 (wrap64 (-wrap64 n)), .bool true]) ∧ w' = w := by
  go_enter Tryd.func11, Tryd.ntmps11
  go_wp2
  all_goals first | (exfalso; omega) | skip
  go_ret2
  exact ⟨rfl, rfl⟩
theorem rti_up_p (a : Nat) (X : Int) (M m n : Int) (hx : bits .and .u64 ((a : Int) / 4503599627370496) 2047 = X) (hw : wrap64 X = X) (h1 : 1023 ≤ X) (h2 : X < 1086) (h3 : 1075 ≤ X) (hM : bits .and .u64 (a : Int) 4503599627370495 = M) (hO : bits .or .u64 M 4503599627370496 = m) (hs : IntKind.u64.wrap (m * 2 ^ (X - 1023 - 52).toNat) = n)  (hb : ((a : Int) / 9223372036854775808 == 1) = false) (w : World) :
    Calls Tryd.prog 11 #[.int .u64 (a : Int)] w fun e w' => e = .returned (.tuple #[.int .i64 (wrap64 n), .bool true]) ∧ w' = w := by
  go_enter Tryd.func11, Tryd.ntmps11
  go_wp2
  all_goals first | (exfalso; omega) | skip
  go_ret2
  exact ⟨rfl, rfl⟩
theorem rti_down_n (a : Nat) (X : Int) (M m n : Int) (hx : bits .and .u64 ((a : Int) / 4503599627370496) 2047 = X) (hw : wrap64 X = X) (h1 : 1023 ≤ X) (h2 : X < 1086) (h3 : X < 1075) (hM : bits .and .u64 (a : Int) 4503599627370495 = M) (hO : bits .or .u64 M 4503599627370496 = m) (hs : m / 2 ^ (-(X - 1023 - 52)).toNat = n)  (hb : ((a : Int) / 9223372036854775808 == 1) = true) (w : World) :
    Calls Tryd.prog 11 #[.int .u64 (a : Int)] w fun e w' => e = .returned (.tuple #[.int .i64 (wrap64 (-wrap64 n)), .bool true]) ∧ w' = w := by
  go_enter Tryd.func11, Tryd.ntmps11
  go_wp2
  all_goals first | (exfalso; omega) | skip
  go_ret2
  exact ⟨rfl, rfl⟩
theorem rti_down_p (a : Nat) (X : Int) (M m n : Int) (hx : bits .and .u64 ((a : Int) / 4503599627370496) 2047 = X) (hw : wrap64 X = X) (h1 : 1023 ≤ X) (h2 : X < 1086) (h3 : X < 1075) (hM : bits .and .u64 (a : Int) 4503599627370495 = M) (hO : bits .or .u64 M 4503599627370496 = m) (hs : m / 2 ^ (-(X - 1023 - 52)).toNat = n)  (hb : ((a : Int) / 9223372036854775808 == 1) = false) (w : World) :
    Calls Tryd.prog 11 #[.int .u64 (a : Int)] w fun e w' => e = .returned (.tuple #[.int .i64 (wrap64 n), .bool true]) ∧ w' = w := by
  go_enter Tryd.func11, Tryd.ntmps11
  go_wp2
  all_goals first | (exfalso; omega) | skip
  go_ret2
  exact ⟨rfl, rfl⟩

theorem pow_cast (a k : Nat) : ((a : Int)) * 2 ^ k = ((a * 2 ^ k : Nat) : Int) := by
  rw [Int.natCast_mul, Int.natCast_pow]; rfl
theorem div_cast (a k : Nat) : ((a : Int)) / 2 ^ k = ((a / 2 ^ k : Nat) : Int) := by
  rw [Int.natCast_ediv, Int.natCast_pow]; rfl
theorem sgn_bit (a : Nat) (ha : a < 18446744073709551616) : ((a : Int) / 9223372036854775808 == 1) = sgn a := by
  unfold sgn
  rw [Bool.eq_iff_iff, beq_iff_eq, beq_iff_eq]
  omega

theorem ref_toInt (a : Nat) (ha : a < 18446744073709551616) (w : World) : Calls Tryd.prog 11 #[.int .u64 (a : Int)] w fun e w' => e = .returned (.tuple #[.int .i64 (toIntOf a).1, .bool (toIntOf a).2]) ∧ w' = w := by
  rw [← refInt_eq a ha]
  have hx := hX_of a ha
  have hl := ex_lt a
  have hw : wrap64 ((ex a : Nat) : Int) = ((ex a : Nat) : Int) := w64_in _ (by omega)
  have hM := hM_of a ha
  have hO := hO_of (a % 4503599627370496) (Nat.mod_lt _ (by decide))
  obtain ⟨r1, r2⟩ := ex_rung a
  have hm : a % 4503599627370496 + 4503599627370496 = mOf a := by unfold mOf; omega
  rw [hm] at hO
  obtain ⟨m1, m2⟩ := mOf_lt a
  unfold refInt
  by_cases c1 : ex a < 1023
  · rw [if_pos c1]; exact rti_low a _ hx hw (by omega) w
  rw [if_neg c1]
  by_cases c2 : 1086 ≤ ex a
  · rw [if_pos c2]
    by_cases c3 : a = 14114281232179134464
    · rw [if_pos c3]; exact rti_least a _ hx hw (by omega) (by rw [beq_iff_eq]; omega) w
    · rw [if_neg c3]; exact rti_out a _ hx hw (by omega) (by rw [beq_eq_false_iff_ne]; omega) w
  rw [if_neg c2]
  have hb := sgn_bit a ha
  have fin : ∀ n : Nat, n < 9223372036854775808 → wrap64 (n : Int) = sgz false n ∧ wrap64 (-wrap64 (n : Int)) = sgz true n := by
    intro n hn
    rw [w64_in (n : Int) (by omega), w64_in (-(n : Int)) (by omega)]
    exact ⟨rfl, rfl⟩
  by_cases c3 : 1075 ≤ ex a
  · rw [if_pos c3]
    have hq : mOf a * 2 ^ (ex a - 1075) < 9223372036854775808 := by
      have h1 : 2 ^ (ex a - 1075) ≤ 2 ^ 10 := Nat.pow_le_pow_right (by decide) (by omega)
      have h2 : (2 : Nat) ^ 10 = 1024 := by decide
      rw [h2] at h1
      have := Nat.mul_le_mul (Nat.le_of_lt_succ (show mOf a < 9007199254740991 + 1 from m2)) h1
      omega
    have hs : IntKind.u64.wrap (((mOf a : Nat) : Int) * 2 ^ (((ex a : Nat) : Int) - 1023 - 52).toNat) = ((mOf a * 2 ^ (ex a - 1075) : Nat) : Int) := by
      rw [show (((ex a : Nat) : Int) - 1023 - 52).toNat = ex a - 1075 by omega, pow_cast, IntKind.wrap_u64]
      omega
    obtain ⟨f1, f2⟩ := fin _ hq
    cases hg : sgn a with
    | true => rw [hg] at hb; rw [← f2]; exact rti_up_n a _ _ _ _ hx hw (by omega) (by omega) (by omega) hM hO hs hb w
    | false => rw [hg] at hb; rw [← f1]; exact rti_up_p a _ _ _ _ hx hw (by omega) (by omega) (by omega) hM hO hs hb w
  · rw [if_neg c3]
    have hq : mOf a / 2 ^ (1075 - ex a) < 9223372036854775808 := Nat.lt_of_le_of_lt (Nat.div_le_self _ _) (by omega)
    have hs : ((mOf a : Nat) : Int) / 2 ^ (-(((ex a : Nat) : Int) - 1023 - 52)).toNat = ((mOf a / 2 ^ (1075 - ex a) : Nat) : Int) := by
      rw [show (-(((ex a : Nat) : Int) - 1023 - 52)).toNat = 1075 - ex a by omega, div_cast]
    obtain ⟨f1, f2⟩ := fin _ hq
    cases hg : sgn a with
    | true => rw [hg] at hb; rw [← f2]; exact rti_down_n a _ _ _ _ hx hw (by omega) (by omega) (by omega) hM hO hs hb w
    | false => rw [hg] at hb; rw [← f1]; exact rti_down_p a _ _ _ _ hx hw (by omega) (by omega) (by omega) hM hO hs hb w
end Go.Proofs.YtnggflfjmgbncaaDoor
