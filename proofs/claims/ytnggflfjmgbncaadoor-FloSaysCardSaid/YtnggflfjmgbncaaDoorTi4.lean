/- The reference's FloText, walked: it is textOf. -/
import Derived.Test.YtnggflfjmgbncaaDoorTi3
import Derived.Test.YtnggflfjmgbncaaDoorTq
import Derived.LoopTactic
namespace Go.Proofs.YtnggflfjmgbncaaDoor
open Go Go.RowKit Go.Sort Go.Lib Ieee Ev.Fl
set_option maxRecDepth 100000

theorem odd_unique : ∀ (k j a b : Nat), 2 ^ k * (2 * a + 1) = 2 ^ j * (2 * b + 1) → k = j ∧ a = b
  | 0, 0, a, b, h => ⟨rfl, by simp at h; omega⟩
  | 0, j + 1, a, b, h => by
    rw [Nat.pow_succ, Nat.mul_comm (2 ^ j) 2, Nat.mul_assoc, Nat.pow_zero, Nat.one_mul] at h
    generalize 2 ^ j * (2 * b + 1) = q at h
    omega
  | k + 1, 0, a, b, h => by
    rw [Nat.pow_succ, Nat.mul_comm (2 ^ k) 2, Nat.mul_assoc, Nat.pow_zero, Nat.one_mul] at h
    generalize 2 ^ k * (2 * a + 1) = q at h
    omega
  | k + 1, j + 1, a, b, h => by
    rw [Nat.pow_succ, Nat.pow_succ, Nat.mul_comm (2 ^ k) 2, Nat.mul_comm (2 ^ j) 2, Nat.mul_assoc, Nat.mul_assoc] at h
    obtain ⟨h1, h2⟩ := odd_unique k j a b (Nat.eq_of_mul_eq_mul_left (by decide) h)
    exact ⟨by rw [h1], h2⟩

/-- A fact that the walk is not to use. -/
structure Kept (p : Prop) : Prop where
  out : p

/-- So often halved. -/
def Half (m0 m k : Nat) : Prop := m0 = 2 ^ k * m ∧ m ≠ 0
theorem Half.start {m : Nat} (h : m ≠ 0) : Half m m 0 := ⟨by rw [Nat.pow_zero, Nat.one_mul], h⟩
theorem Half.step {m0 m k : Nat} (h : Half m0 m k) (he : m % 2 = 0) : Half m0 (m / 2) (k + 1) := by
  refine ⟨?_, by have := h.2; omega⟩
  rw [Nat.pow_succ, Nat.mul_assoc, show 2 * (m / 2) = m by omega]
  exact h.1
theorem Half.le {m0 m k : Nat} (h : Half m0 m k) : m ≤ m0 := by
  rw [h.1]
  exact Nat.le_mul_of_pos_left _ (Nat.pow_pos (by decide))
theorem Half.few {m0 m k : Nat} (h : Half m0 m k) (hl : m0 < 9007199254740992) : k < 53 := by
  have h1 : 2 ^ k ≤ m0 := by
    rw [h.1]
    exact Nat.le_mul_of_pos_right _ (Nat.pos_of_ne_zero h.2)
  have h2 : 2 ^ k < 2 ^ 53 := Nat.lt_of_le_of_lt h1 hl
  exact (Nat.pow_lt_pow_iff_right (by omega)).1 h2
theorem Half.last {m0 m k : Nat} (h : Half m0 m k) (hl : m0 < 9007199254740992) (ho : m % 2 = 1) : k = ctz 64 m0 ∧ m = m0 / 2 ^ ctz 64 m0 := by
  have h0 : m0 ≠ 0 := by have := h.le; have := h.2; omega
  obtain ⟨b, hb, _⟩ := ctzFrom_spec 64 m0 (Nat.pos_of_ne_zero h0) (by omega)
  have hk : ctz 64 m0 = ctzFrom 64 m0 := by unfold ctz; rw [if_neg h0]
  rw [← hk] at hb
  have e : 2 ^ k * (2 * (m / 2) + 1) = 2 ^ ctz 64 m0 * (2 * b + 1) := by
    rw [← hb, show 2 * (m / 2) + 1 = m by omega]
    exact h.1.symm
  obtain ⟨e1, e2⟩ := odd_unique _ _ _ _ e
  refine ⟨e1, ?_⟩
  rw [← e1, h.1, Nat.mul_div_cancel_left _ (Nat.pow_pos (by decide))]

theorem ftext_nan (a : Nat) (ha : a < 18446744073709551616) (hc : (canon a : Int) = 9221120237041090560) (w : World) :
    Calls Tryd.prog 20 #[.int .u64 (a : Int)] w fun e w' => e = .returned (.string ⟨#[110, 97, 110]⟩) ∧ w' = w := by
  go_enter Tryd.func20, Tryd.ntmps20
  go_wp2_with (first
    | (go_at_call 16; refine (ref_canon a ha _).mono ?_; rintro e w' ⟨rfl, rfl⟩; rw [hc]))
  go_ret
  exact ⟨rfl, rfl⟩
theorem ftext_inf_p (a : Nat) (ha : a < 18446744073709551616) (X M : Int) (hc : (canon a : Int) = (a : Int)) (hN : ((a : Int) == 9221120237041090560) = false) (hx : bits .and .u64 ((a : Int) / 4503599627370496) 2047 = X) (hw : wrap64 X = X) (hX : (X == 2047) = true) (hM : bits .and .u64 (a : Int) 4503599627370495 = M) (hs : ((a : Int) / 9223372036854775808 == 1) = false) (w : World) :
    Calls Tryd.prog 20 #[.int .u64 (a : Int)] w fun e w' => e = .returned (.string (⟨#[]⟩ ++ ⟨#[105, 110, 102]⟩)) ∧ w' = w := by
  go_enter Tryd.func20, Tryd.ntmps20
  go_wp2_with (first
    | (go_at_call 16; refine (ref_canon a ha _).mono ?_; rintro e w' ⟨rfl, rfl⟩; rw [hc]))
  go_ret
  exact ⟨rfl, rfl⟩
theorem ftext_zero_p (a : Nat) (ha : a < 18446744073709551616) (X : Int) (hc : (canon a : Int) = (a : Int)) (hN : ((a : Int) == 9221120237041090560) = false) (hx : bits .and .u64 ((a : Int) / 4503599627370496) 2047 = X) (hw : wrap64 X = X) (hX : (X == 2047) = false) (hX0 : (X == 0) = true) (hM : bits .and .u64 (a : Int) 4503599627370495 = 0) (hs : ((a : Int) / 9223372036854775808 == 1) = false) (w : World) :
    Calls Tryd.prog 20 #[.int .u64 (a : Int)] w fun e w' => e = .returned (.string (⟨#[]⟩ ++ ⟨#[48, 112, 48]⟩)) ∧ w' = w := by
  go_enter Tryd.func20, Tryd.ntmps20
  go_wp2_with (first
    | (go_at_call 16; refine (ref_canon a ha _).mono ?_; rintro e w' ⟨rfl, rfl⟩; rw [hc]))
  go_ret
  exact ⟨rfl, rfl⟩
theorem ftext_p1 (a : Nat) (ha : a < 18446744073709551616) (X E M0 : Int) (hc : (canon a : Int) = (a : Int)) (hN : ((a : Int) == 9221120237041090560) = false) (hx : bits .and .u64 ((a : Int) / 4503599627370496) 2047 = X) (hw : wrap64 X = X) (hX : (X == 2047) = false) (hX0 : (X == 0) = true) (hM : bits .and .u64 (a : Int) 4503599627370495 = M0) (hE : (-1074 : Int) = E) (_ : -1075 ≤ E) (_ : E ≤ 2000) (h0 : 0 < M0) (hz : (M0 == 0) = false) (hl : M0 < 9007199254740992) (hs : ((a : Int) / 9223372036854775808 == 1) = false) (w : World) (htab : Lib.TabIs Tryd.prog w "internal/strconv.uint64pow10" .u64 Lib.pow10Tab) :
    Calls Tryd.prog 20 #[.int .u64 (a : Int)] w fun e w' => e = .returned (.string (⟨#[]⟩ ++ ⟨(decDigits (M0.toNat / 2 ^ ctz 64 M0.toNat)).toArray⟩ ++ ⟨#[112]⟩ ++ ⟨(itoa (E + (ctz 64 M0.toNat : Int))).toArray⟩)) ∧ Below w.heap.size w w' := by
  have hbel := Lib.tabBelow_of_tabIs htab
  go_enter Tryd.func20, Tryd.ntmps20
  go_wp2_with (first
    | (go_at_call 16; refine (ref_canon a ha _).mono ?_; rintro e w' ⟨rfl, rfl⟩; rw [hc]))
  go_loop [4, 5] (fun e m => ∃ (k : Nat) (q : Int), e = .int .i64 (E + (k : Int)) ∧ m = .int .u64 q ∧ 0 < q ∧ q < 9007199254740992 ∧ Half M0.toNat q.toNat k) (fun _ m => (RowKit.intOf m).toNat)
  case atStart => exact ⟨0, M0, by simp [← hE], rfl, h0, hl, Half.start (by omega)⟩
  case round =>
    obtain ⟨k, q, rfl, rfl, hq, hql, hH⟩ := hrel
    have hk := hH.few (by omega)
    by_cases hev : q % 2 = 0
    · have hev2 : (q % 2 == 0) = true := by rw [hev]; rfl
      go_wp2
      go_round
      case rel =>
        have h2 : (q / 2).toNat = q.toNat / 2 := by omega
        exact ⟨k + 1, q / 2, by simp [Int.add_assoc], rfl, by omega, by omega, by rw [h2]; exact hH.step (by omega)⟩
      case measure => simp [RowKit.intOf]; omega
    · have hev2 : (q % 2 == 0) = false := by rw [beq_eq_false_iff_ne]; exact hev
      obtain ⟨e1, e2⟩ := hH.last (by omega) (by omega)
      have hu : q.toNat < 18446744073709551616 := by omega
      have hf := fun w ht => formatUint q.toNat hu w ht
      rw [show ((q.toNat : Nat) : Int) = q by omega] at hf
      have hi := fun w ht => Tryd.strconv_Itoa (E + (k : Int)) (by omega) (by omega) w ht
      have hl1 : (decDigits q.toNat).length ≤ 20 := by rw [Lib.decDigits_length]; exact Lib.nDigits_le20 _ hu
      have hl2 : (itoa (E + (k : Int))).length ≤ 21 := Lib.itoa_length_le _ (by omega) (by omega)
      have hres : Kept ((⟨#[]⟩ ++ ⟨(decDigits q.toNat).toArray⟩ ++ ⟨#[112]⟩ ++ ⟨(itoa (E + (k : Int))).toArray⟩ : ByteArray) = ⟨#[]⟩ ++ ⟨(decDigits (M0.toNat / 2 ^ ctz 64 M0.toNat)).toArray⟩ ++ ⟨#[112]⟩ ++ ⟨(itoa (E + (ctz 64 M0.toNat : Int))).toArray⟩) := ⟨by rw [← e2, ← e1]⟩
      clear e1 e2 hH
      go_wp2_with (first
        | (go_at_call 38; refine (hf _ htab).mono ?_; rintro e w' ⟨rfl, k', os, rfl⟩)
        | (go_at_call 39; refine (hi _ (hbel _ (Lib.below_grow _ _ (Nat.le_refl _) _ _))).mono ?_; rintro e w' ⟨rfl, k', os, rfl⟩))
      go_ret
      exact ⟨congrArg _ (congrArg _ hres.out), (Lib.below_grow _ _ (Nat.le_refl _) _ _).trans (Lib.below_grow _ _ (Lib.size_grow _ _ _) _ _)⟩
theorem ftext_p0 (a : Nat) (ha : a < 18446744073709551616) (X M E M0 : Int) (hc : (canon a : Int) = (a : Int)) (hN : ((a : Int) == 9221120237041090560) = false) (hx : bits .and .u64 ((a : Int) / 4503599627370496) 2047 = X) (hw : wrap64 X = X) (hX : (X == 2047) = false) (hX0 : (X == 0) = false) (hM : bits .and .u64 (a : Int) 4503599627370495 = M) (hO : bits .or .u64 M 4503599627370496 = M0) (hE : wrap64 (X - 1075) = E) (hE1 : -1075 ≤ E) (hE2 : E ≤ 2000) (h0 : 0 < M0) (hz : (M0 == 0) = false) (hl : M0 < 9007199254740992) (hs : ((a : Int) / 9223372036854775808 == 1) = false) (w : World) (htab : Lib.TabIs Tryd.prog w "internal/strconv.uint64pow10" .u64 Lib.pow10Tab) :
    Calls Tryd.prog 20 #[.int .u64 (a : Int)] w fun e w' => e = .returned (.string (⟨#[]⟩ ++ ⟨(decDigits (M0.toNat / 2 ^ ctz 64 M0.toNat)).toArray⟩ ++ ⟨#[112]⟩ ++ ⟨(itoa (E + (ctz 64 M0.toNat : Int))).toArray⟩)) ∧ Below w.heap.size w w' := by
  have hbel := Lib.tabBelow_of_tabIs htab
  go_enter Tryd.func20, Tryd.ntmps20
  go_wp2_with (first
    | (go_at_call 16; refine (ref_canon a ha _).mono ?_; rintro e w' ⟨rfl, rfl⟩; rw [hc]))
  go_loop [4, 5] (fun e m => ∃ (k : Nat) (q : Int), e = .int .i64 (E + (k : Int)) ∧ m = .int .u64 q ∧ 0 < q ∧ q < 9007199254740992 ∧ Half M0.toNat q.toNat k) (fun _ m => (RowKit.intOf m).toNat)
  case atStart => exact ⟨0, M0, by simp [hE], rfl, h0, hl, Half.start (by omega)⟩
  case round =>
    obtain ⟨k, q, rfl, rfl, hq, hql, hH⟩ := hrel
    have hk := hH.few (by omega)
    by_cases hev : q % 2 = 0
    · have hev2 : (q % 2 == 0) = true := by rw [hev]; rfl
      go_wp2
      go_round
      case rel =>
        have h2 : (q / 2).toNat = q.toNat / 2 := by omega
        exact ⟨k + 1, q / 2, by simp [Int.add_assoc], rfl, by omega, by omega, by rw [h2]; exact hH.step (by omega)⟩
      case measure => simp [RowKit.intOf]; omega
    · have hev2 : (q % 2 == 0) = false := by rw [beq_eq_false_iff_ne]; exact hev
      obtain ⟨e1, e2⟩ := hH.last (by omega) (by omega)
      have hu : q.toNat < 18446744073709551616 := by omega
      have hf := fun w ht => formatUint q.toNat hu w ht
      rw [show ((q.toNat : Nat) : Int) = q by omega] at hf
      have hi := fun w ht => Tryd.strconv_Itoa (E + (k : Int)) (by omega) (by omega) w ht
      have hl1 : (decDigits q.toNat).length ≤ 20 := by rw [Lib.decDigits_length]; exact Lib.nDigits_le20 _ hu
      have hl2 : (itoa (E + (k : Int))).length ≤ 21 := Lib.itoa_length_le _ (by omega) (by omega)
      have hres : Kept ((⟨#[]⟩ ++ ⟨(decDigits q.toNat).toArray⟩ ++ ⟨#[112]⟩ ++ ⟨(itoa (E + (k : Int))).toArray⟩ : ByteArray) = ⟨#[]⟩ ++ ⟨(decDigits (M0.toNat / 2 ^ ctz 64 M0.toNat)).toArray⟩ ++ ⟨#[112]⟩ ++ ⟨(itoa (E + (ctz 64 M0.toNat : Int))).toArray⟩) := ⟨by rw [← e2, ← e1]⟩
      clear e1 e2 hH
      go_wp2_with (first
        | (go_at_call 38; refine (hf _ htab).mono ?_; rintro e w' ⟨rfl, k', os, rfl⟩)
        | (go_at_call 39; refine (hi _ (hbel _ (Lib.below_grow _ _ (Nat.le_refl _) _ _))).mono ?_; rintro e w' ⟨rfl, k', os, rfl⟩))
      go_ret
      exact ⟨congrArg _ (congrArg _ hres.out), (Lib.below_grow _ _ (Nat.le_refl _) _ _).trans (Lib.below_grow _ _ (Lib.size_grow _ _ _) _ _)⟩
theorem ftext_inf_n (a : Nat) (ha : a < 18446744073709551616) (X M : Int) (hc : (canon a : Int) = (a : Int)) (hN : ((a : Int) == 9221120237041090560) = false) (hx : bits .and .u64 ((a : Int) / 4503599627370496) 2047 = X) (hw : wrap64 X = X) (hX : (X == 2047) = true) (hM : bits .and .u64 (a : Int) 4503599627370495 = M) (hs : ((a : Int) / 9223372036854775808 == 1) = true) (w : World) :
    Calls Tryd.prog 20 #[.int .u64 (a : Int)] w fun e w' => e = .returned (.string (⟨#[45]⟩ ++ ⟨#[105, 110, 102]⟩)) ∧ w' = w := by
  go_enter Tryd.func20, Tryd.ntmps20
  go_wp2_with (first
    | (go_at_call 16; refine (ref_canon a ha _).mono ?_; rintro e w' ⟨rfl, rfl⟩; rw [hc]))
  go_ret
  exact ⟨rfl, rfl⟩
theorem ftext_zero_n (a : Nat) (ha : a < 18446744073709551616) (X : Int) (hc : (canon a : Int) = (a : Int)) (hN : ((a : Int) == 9221120237041090560) = false) (hx : bits .and .u64 ((a : Int) / 4503599627370496) 2047 = X) (hw : wrap64 X = X) (hX : (X == 2047) = false) (hX0 : (X == 0) = true) (hM : bits .and .u64 (a : Int) 4503599627370495 = 0) (hs : ((a : Int) / 9223372036854775808 == 1) = true) (w : World) :
    Calls Tryd.prog 20 #[.int .u64 (a : Int)] w fun e w' => e = .returned (.string (⟨#[45]⟩ ++ ⟨#[48, 112, 48]⟩)) ∧ w' = w := by
  go_enter Tryd.func20, Tryd.ntmps20
  go_wp2_with (first
    | (go_at_call 16; refine (ref_canon a ha _).mono ?_; rintro e w' ⟨rfl, rfl⟩; rw [hc]))
  go_ret
  exact ⟨rfl, rfl⟩
theorem ftext_n1 (a : Nat) (ha : a < 18446744073709551616) (X E M0 : Int) (hc : (canon a : Int) = (a : Int)) (hN : ((a : Int) == 9221120237041090560) = false) (hx : bits .and .u64 ((a : Int) / 4503599627370496) 2047 = X) (hw : wrap64 X = X) (hX : (X == 2047) = false) (hX0 : (X == 0) = true) (hM : bits .and .u64 (a : Int) 4503599627370495 = M0) (hE : (-1074 : Int) = E) (_ : -1075 ≤ E) (_ : E ≤ 2000) (h0 : 0 < M0) (hz : (M0 == 0) = false) (hl : M0 < 9007199254740992) (hs : ((a : Int) / 9223372036854775808 == 1) = true) (w : World) (htab : Lib.TabIs Tryd.prog w "internal/strconv.uint64pow10" .u64 Lib.pow10Tab) :
    Calls Tryd.prog 20 #[.int .u64 (a : Int)] w fun e w' => e = .returned (.string (⟨#[45]⟩ ++ ⟨(decDigits (M0.toNat / 2 ^ ctz 64 M0.toNat)).toArray⟩ ++ ⟨#[112]⟩ ++ ⟨(itoa (E + (ctz 64 M0.toNat : Int))).toArray⟩)) ∧ Below w.heap.size w w' := by
  have hbel := Lib.tabBelow_of_tabIs htab
  go_enter Tryd.func20, Tryd.ntmps20
  go_wp2_with (first
    | (go_at_call 16; refine (ref_canon a ha _).mono ?_; rintro e w' ⟨rfl, rfl⟩; rw [hc]))
  go_loop [4, 5] (fun e m => ∃ (k : Nat) (q : Int), e = .int .i64 (E + (k : Int)) ∧ m = .int .u64 q ∧ 0 < q ∧ q < 9007199254740992 ∧ Half M0.toNat q.toNat k) (fun _ m => (RowKit.intOf m).toNat)
  case atStart => exact ⟨0, M0, by simp [← hE], rfl, h0, hl, Half.start (by omega)⟩
  case round =>
    obtain ⟨k, q, rfl, rfl, hq, hql, hH⟩ := hrel
    have hk := hH.few (by omega)
    by_cases hev : q % 2 = 0
    · have hev2 : (q % 2 == 0) = true := by rw [hev]; rfl
      go_wp2
      go_round
      case rel =>
        have h2 : (q / 2).toNat = q.toNat / 2 := by omega
        exact ⟨k + 1, q / 2, by simp [Int.add_assoc], rfl, by omega, by omega, by rw [h2]; exact hH.step (by omega)⟩
      case measure => simp [RowKit.intOf]; omega
    · have hev2 : (q % 2 == 0) = false := by rw [beq_eq_false_iff_ne]; exact hev
      obtain ⟨e1, e2⟩ := hH.last (by omega) (by omega)
      have hu : q.toNat < 18446744073709551616 := by omega
      have hf := fun w ht => formatUint q.toNat hu w ht
      rw [show ((q.toNat : Nat) : Int) = q by omega] at hf
      have hi := fun w ht => Tryd.strconv_Itoa (E + (k : Int)) (by omega) (by omega) w ht
      have hl1 : (decDigits q.toNat).length ≤ 20 := by rw [Lib.decDigits_length]; exact Lib.nDigits_le20 _ hu
      have hl2 : (itoa (E + (k : Int))).length ≤ 21 := Lib.itoa_length_le _ (by omega) (by omega)
      have hres : Kept ((⟨#[45]⟩ ++ ⟨(decDigits q.toNat).toArray⟩ ++ ⟨#[112]⟩ ++ ⟨(itoa (E + (k : Int))).toArray⟩ : ByteArray) = ⟨#[45]⟩ ++ ⟨(decDigits (M0.toNat / 2 ^ ctz 64 M0.toNat)).toArray⟩ ++ ⟨#[112]⟩ ++ ⟨(itoa (E + (ctz 64 M0.toNat : Int))).toArray⟩) := ⟨by rw [← e2, ← e1]⟩
      clear e1 e2 hH
      go_wp2_with (first
        | (go_at_call 38; refine (hf _ htab).mono ?_; rintro e w' ⟨rfl, k', os, rfl⟩)
        | (go_at_call 39; refine (hi _ (hbel _ (Lib.below_grow _ _ (Nat.le_refl _) _ _))).mono ?_; rintro e w' ⟨rfl, k', os, rfl⟩))
      go_ret
      exact ⟨congrArg _ (congrArg _ hres.out), (Lib.below_grow _ _ (Nat.le_refl _) _ _).trans (Lib.below_grow _ _ (Lib.size_grow _ _ _) _ _)⟩
theorem ftext_n0 (a : Nat) (ha : a < 18446744073709551616) (X M E M0 : Int) (hc : (canon a : Int) = (a : Int)) (hN : ((a : Int) == 9221120237041090560) = false) (hx : bits .and .u64 ((a : Int) / 4503599627370496) 2047 = X) (hw : wrap64 X = X) (hX : (X == 2047) = false) (hX0 : (X == 0) = false) (hM : bits .and .u64 (a : Int) 4503599627370495 = M) (hO : bits .or .u64 M 4503599627370496 = M0) (hE : wrap64 (X - 1075) = E) (hE1 : -1075 ≤ E) (hE2 : E ≤ 2000) (h0 : 0 < M0) (hz : (M0 == 0) = false) (hl : M0 < 9007199254740992) (hs : ((a : Int) / 9223372036854775808 == 1) = true) (w : World) (htab : Lib.TabIs Tryd.prog w "internal/strconv.uint64pow10" .u64 Lib.pow10Tab) :
    Calls Tryd.prog 20 #[.int .u64 (a : Int)] w fun e w' => e = .returned (.string (⟨#[45]⟩ ++ ⟨(decDigits (M0.toNat / 2 ^ ctz 64 M0.toNat)).toArray⟩ ++ ⟨#[112]⟩ ++ ⟨(itoa (E + (ctz 64 M0.toNat : Int))).toArray⟩)) ∧ Below w.heap.size w w' := by
  have hbel := Lib.tabBelow_of_tabIs htab
  go_enter Tryd.func20, Tryd.ntmps20
  go_wp2_with (first
    | (go_at_call 16; refine (ref_canon a ha _).mono ?_; rintro e w' ⟨rfl, rfl⟩; rw [hc]))
  go_loop [4, 5] (fun e m => ∃ (k : Nat) (q : Int), e = .int .i64 (E + (k : Int)) ∧ m = .int .u64 q ∧ 0 < q ∧ q < 9007199254740992 ∧ Half M0.toNat q.toNat k) (fun _ m => (RowKit.intOf m).toNat)
  case atStart => exact ⟨0, M0, by simp [hE], rfl, h0, hl, Half.start (by omega)⟩
  case round =>
    obtain ⟨k, q, rfl, rfl, hq, hql, hH⟩ := hrel
    have hk := hH.few (by omega)
    by_cases hev : q % 2 = 0
    · have hev2 : (q % 2 == 0) = true := by rw [hev]; rfl
      go_wp2
      go_round
      case rel =>
        have h2 : (q / 2).toNat = q.toNat / 2 := by omega
        exact ⟨k + 1, q / 2, by simp [Int.add_assoc], rfl, by omega, by omega, by rw [h2]; exact hH.step (by omega)⟩
      case measure => simp [RowKit.intOf]; omega
    · have hev2 : (q % 2 == 0) = false := by rw [beq_eq_false_iff_ne]; exact hev
      obtain ⟨e1, e2⟩ := hH.last (by omega) (by omega)
      have hu : q.toNat < 18446744073709551616 := by omega
      have hf := fun w ht => formatUint q.toNat hu w ht
      rw [show ((q.toNat : Nat) : Int) = q by omega] at hf
      have hi := fun w ht => Tryd.strconv_Itoa (E + (k : Int)) (by omega) (by omega) w ht
      have hl1 : (decDigits q.toNat).length ≤ 20 := by rw [Lib.decDigits_length]; exact Lib.nDigits_le20 _ hu
      have hl2 : (itoa (E + (k : Int))).length ≤ 21 := Lib.itoa_length_le _ (by omega) (by omega)
      have hres : Kept ((⟨#[45]⟩ ++ ⟨(decDigits q.toNat).toArray⟩ ++ ⟨#[112]⟩ ++ ⟨(itoa (E + (k : Int))).toArray⟩ : ByteArray) = ⟨#[45]⟩ ++ ⟨(decDigits (M0.toNat / 2 ^ ctz 64 M0.toNat)).toArray⟩ ++ ⟨#[112]⟩ ++ ⟨(itoa (E + (ctz 64 M0.toNat : Int))).toArray⟩) := ⟨by rw [← e2, ← e1]⟩
      clear e1 e2 hH
      go_wp2_with (first
        | (go_at_call 38; refine (hf _ htab).mono ?_; rintro e w' ⟨rfl, k', os, rfl⟩)
        | (go_at_call 39; refine (hi _ (hbel _ (Lib.below_grow _ _ (Nat.le_refl _) _ _))).mono ?_; rintro e w' ⟨rfl, k', os, rfl⟩))
      go_ret
      exact ⟨congrArg _ (congrArg _ hres.out), (Lib.below_grow _ _ (Nat.le_refl _) _ _).trans (Lib.below_grow _ _ (Lib.size_grow _ _ _) _ _)⟩

theorem sgB_sgn (a : Nat) (ha : a < 18446744073709551616) : sgB a = if sgn a then ⟨#[45]⟩ else ⟨#[]⟩ := by
  unfold sgB sgn
  by_cases h : 9223372036854775808 ≤ a
  · rw [if_pos h, if_pos (by rw [beq_iff_eq]; omega)]
  · rw [if_neg h, if_neg (by rw [beq_iff_eq]; omega)]

theorem ref_text (a : Nat) (ha : a < 18446744073709551616) (w : World) (hE : Env w) : Calls Tryd.prog 20 #[.int .u64 (a : Int)] w fun e w' => e = .returned (.string (textOf a)) ∧ Below w.heap.size w w' := by
  have lift : ∀ {t : ByteArray}, Calls Tryd.prog 20 #[.int .u64 (a : Int)] w (fun e w' => e = .returned (.string t) ∧ w' = w) → Calls Tryd.prog 20 #[.int .u64 (a : Int)] w fun e w' => e = .returned (.string t) ∧ Below w.heap.size w w' :=
    fun h => h.mono fun _ _ ⟨h1, h2⟩ => ⟨h1, h2 ▸ Below.refl _ _⟩
  unfold textOf
  rw [isn_text]
  cases hn : isn a with
  | true =>
    rw [if_pos rfl]
    have hc : (canon a : Int) = 9221120237041090560 := by unfold canon; rw [hn]; rfl
    exact lift (ftext_nan a ha hc w)
  | false =>
    have hc : (canon a : Int) = (a : Int) := by unfold canon; rw [hn]; rfl
    have hr : ¬ inf < rung a := by rwa [isn_eq, decide_eq_false_iff_not] at hn
    have hN : ((a : Int) == 9221120237041090560) = false := by
      rw [beq_eq_false_iff_ne]
      intro h
      unfold inf rung at hr
      omega
    have hx := hX_of a ha
    have hl := ex_lt a
    have hw : wrap64 ((ex a : Nat) : Int) = ((ex a : Nat) : Int) := w64_in _ (by omega)
    have hM := hM_of a ha
    have hs := sgn_bit a ha
    obtain ⟨r1, r2⟩ := ex_rung a
    rw [if_neg (by simp), infs_pos a hn, infs_neg a ha hn]
    by_cases hX : ex a = 2047
    · have hi : rung a = inf := by unfold inf at hr ⊢; omega
      have hX' : (((ex a : Nat) : Int) == 2047) = true := by rw [hX]; rfl
      cases hg : sgn a with
      | false =>
        rw [if_pos (decide_eq_true ⟨hi, rfl⟩)]
        exact lift (ftext_inf_p a ha _ _ hc hN hx hw hX' hM (hs.trans hg) w)
      | true =>
        rw [if_neg (by simp), if_pos (decide_eq_true ⟨hi, rfl⟩)]
        exact lift (ftext_inf_n a ha _ _ hc hN hx hw hX' hM (hs.trans hg) w)
    have hi : ¬ rung a = inf := by unfold inf; omega
    have hX' : (((ex a : Nat) : Int) == 2047) = false := by rw [beq_eq_false_iff_ne]; omega
    rw [if_neg (by rw [decide_eq_true_eq]; exact fun h => hi h.1), if_neg (by rw [decide_eq_true_eq]; exact fun h => hi h.1), sgB_sgn a ha]
    have hml := mant_lt a
    by_cases hm : mant a = 0
    · rw [if_pos hm]
      have hE0 : ex a = 0 := by unfold mant at hm; split at hm <;> omega
      have hM0 : a % 4503599627370496 = 0 := by unfold mant at hm; split at hm <;> omega
      rw [hM0] at hM
      have hX0 : (((ex a : Nat) : Int) == 0) = true := by rw [hE0]; rfl
      cases hg : sgn a with
      | false => exact lift (ftext_zero_p a ha _ hc hN hx hw hX' hX0 hM (hs.trans hg) w)
      | true => exact lift (ftext_zero_n a ha _ hc hN hx hw hX' hX0 hM (hs.trans hg) w)
    rw [if_neg hm]
    have hz : ((((mant a : Nat) : Int)) == 0) = false := by rw [beq_eq_false_iff_ne]; omega
    by_cases hE0 : ex a = 0
    · have em : mant a = a % 4503599627370496 := by unfold mant; rw [if_pos hE0]
      have ee : expo a = -1074 := by unfold expo; rw [if_pos hE0]
      have hX0 : (((ex a : Nat) : Int) == 0) = true := by rw [hE0]; rfl
      rw [← em] at hM
      cases hg : sgn a with
      | false =>
        have h := ftext_p1 a ha _ _ _ hc hN hx hw hX' hX0 hM ee.symm (by omega) (by omega) (by omega) hz (by omega) (hs.trans hg) w hE.tp
        rwa [Int.toNat_natCast] at h
      | true =>
        have h := ftext_n1 a ha _ _ _ hc hN hx hw hX' hX0 hM ee.symm (by omega) (by omega) (by omega) hz (by omega) (hs.trans hg) w hE.tp
        rwa [Int.toNat_natCast] at h
    · have em : mant a = a % 4503599627370496 + 4503599627370496 := by unfold mant; rw [if_neg hE0]
      have ee : expo a = (ex a : Int) - 1075 := by unfold expo; rw [if_neg hE0]
      have hX0 : (((ex a : Nat) : Int) == 0) = false := by rw [beq_eq_false_iff_ne]; omega
      have hO := hO_of (a % 4503599627370496) (Nat.mod_lt _ (by decide))
      rw [← em] at hO
      have hE' : wrap64 (((ex a : Nat) : Int) - 1075) = expo a := by rw [ee]; exact w64_in _ (by omega)
      cases hg : sgn a with
      | false =>
        have h := ftext_p0 a ha _ _ _ _ hc hN hx hw hX' hX0 hM hO hE' (by omega) (by omega) (by omega) hz (by omega) (hs.trans hg) w hE.tp
        rwa [Int.toNat_natCast] at h
      | true =>
        have h := ftext_n0 a ha _ _ _ _ hc hN hx hw hX' hX0 hM hO hE' (by omega) (by omega) (by omega) hz (by omega) (hs.trans hg) w hE.tp
        rwa [Int.toNat_natCast] at h
end Go.Proofs.YtnggflfjmgbncaaDoor
