/- flo.Text, walked. -/
import Derived.Test.YtnggflfjmgbncaaDoorFu
import Derived.Test.YtnggflfjmgbncaaDoorFlo
import Derived.Laws.Cover2
import Derived.Laws.Cover3
import Derived.Laws.Externs
import Derived.Lib.AppendIntMem
namespace Go.Proofs.YtnggflfjmgbncaaDoor
open Go Go.RowKit Go.Sort Go.Lib Ieee
set_option maxRecDepth 100000

theorem bits64 (n : Nat) (w : World) : (callFunc 26 #[.float .f64 n]).run Tryd.prog w = .ok (.value (.int .u64 (n : Int))) w := by
  rw [run_callFunc_extern (e := Extern.MathFloatBits.float64bits) Tryd.func26 (by kernel_rfl) (by kernel_rfl) (by kernel_rfl) (by kernel_rfl)]
  rfl
theorem from64 (n : Nat) (w : World) : (callFunc 28 #[.int .u64 (n : Int)]).run Tryd.prog w = .ok (.value (.float .f64 n)) w := by
  rw [run_callFunc_extern (e := Extern.MathFloatBits.float64frombits) Tryd.func28 (by kernel_rfl) (by kernel_rfl) (by kernel_rfl) (by kernel_rfl)]
  rfl

theorem isNaN (n : Nat) (w : World) : Calls Tryd.prog 30 #[.float .f64 n] w fun e w' => e = .returned (.bool (double.order n n != some .eq)) ∧ w' = w := by
  go_enter Tryd.func30, Tryd.ntmps30
  go_wp2
  go_ret
  exact ⟨rfl, rfl⟩

theorem signbit (n : Nat) (w : World) : Calls Tryd.prog 36 #[.float .f64 n] w fun e w' => e = .returned (.bool (decide (wrap64 (n : Int) < 0))) ∧ w' = w := by
  have hb := bits64 n
  go_enter Tryd.func36, Tryd.ntmps36
  go_wp2
  go_ret
  exact ⟨rfl, rfl⟩

theorem isInf1 (n : Nat) (w : World) : Calls Tryd.prog 35 #[.float .f64 n, .int .i64 1] w fun e w' => e = .returned (.bool (double.order n 9218868437227405311 == some .gt)) ∧ w' = w := by
  go_enter Tryd.func35, Tryd.ntmps35
  go_wp2
  go_ret
  exact ⟨rfl, rfl⟩
theorem isInf2 (n : Nat) (w : World) : Calls Tryd.prog 35 #[.float .f64 n, .int .i64 (-1)] w fun e w' => e = .returned (.bool (double.order (Op.negFloat .f64 n) 9218868437227405311 == some .gt)) ∧ w' = w := by
  have hb : ∀ w, (Op.unary .neg (.float .f64 n)).run Tryd.prog w = .ok (.float .f64 (Op.negFloat .f64 n)) w := fun _ => rfl
  go_enter Tryd.func35, Tryd.ntmps35
  go_wp2
  go_ret
  exact ⟨rfl, rfl⟩

def infs (n : Nat) (s : Int) : Bool := if s = 1 then double.order n 9218868437227405311 == some .gt else double.order (Op.negFloat .f64 n) 9218868437227405311 == some .gt
theorem isInf (n : Nat) (s : Int) (hs : s = 1 ∨ s = -1) (w : World) : Calls Tryd.prog 35 #[.float .f64 n, .int .i64 s] w fun e w' => e = .returned (.bool (infs n s)) ∧ w' = w := by
  rcases hs with rfl | rfl
  · exact isInf1 n w
  · exact isInf2 n w

theorem of (n : Nat) (w : World) : Calls Tryd.prog 27 #[.int .u64 (n : Int)] w fun e w' => e = .returned (.float .f64 n) ∧ w' = w := by
  have hb := from64 n
  go_enter Tryd.func27, Tryd.ntmps27
  go_wp2
  go_ret
  exact ⟨rfl, rfl⟩

theorem text_nan (a : Nat) (h : (double.order a a != some .eq) = true) (w : World) : Calls Tryd.prog 19 #[.int .u64 (a : Int)] w fun e w' => e = .returned (.string ⟨#[110, 97, 110]⟩) ∧ w' = w := by
  go_enter Tryd.func19, Tryd.ntmps19
  go_wp2_with (first
    | (go_at_call 27; refine (of a _).mono ?_; rintro e w' ⟨rfl, rfl⟩)
    | (go_at_call 30; refine (isNaN a _).mono ?_; rintro e w' ⟨rfl, rfl⟩))
  go_ret
  exact ⟨rfl, rfl⟩

theorem text_inf (a : Nat) (h1 : (double.order a a != some .eq) = false) (h2 : infs a 1 = true) (w : World) : Calls Tryd.prog 19 #[.int .u64 (a : Int)] w fun e w' => e = .returned (.string ⟨#[105, 110, 102]⟩) ∧ w' = w := by
  go_enter Tryd.func19, Tryd.ntmps19
  go_wp2_with (first
    | (go_at_call 27; refine (of a _).mono ?_; rintro e w' ⟨rfl, rfl⟩)
    | (go_at_call 30; refine (isNaN a _).mono ?_; rintro e w' ⟨rfl, rfl⟩)
    | (go_at_call 35; refine (isInf a _ (by first | exact .inl rfl | exact .inr rfl) _).mono ?_; rintro e w' ⟨rfl, rfl⟩)
    | (go_at_call 36; refine (signbit a _).mono ?_; rintro e w' ⟨rfl, rfl⟩))
  go_ret
  exact ⟨rfl, rfl⟩

theorem text_neg (a : Nat) (h1 : (double.order a a != some .eq) = false) (h2 : infs a 1 = false) (h3 : infs a (-1) = true) (w : World) : Calls Tryd.prog 19 #[.int .u64 (a : Int)] w fun e w' => e = .returned (.string ⟨#[45, 105, 110, 102]⟩) ∧ w' = w := by
  go_enter Tryd.func19, Tryd.ntmps19
  go_wp2_with (first
    | (go_at_call 27; refine (of a _).mono ?_; rintro e w' ⟨rfl, rfl⟩)
    | (go_at_call 30; refine (isNaN a _).mono ?_; rintro e w' ⟨rfl, rfl⟩)
    | (go_at_call 35; refine (isInf a _ (by first | exact .inl rfl | exact .inr rfl) _).mono ?_; rintro e w' ⟨rfl, rfl⟩)
    | (go_at_call 36; refine (signbit a _).mono ?_; rintro e w' ⟨rfl, rfl⟩))
  go_ret
  exact ⟨rfl, rfl⟩

def neg64 (n : Nat) : Bool := decide (wrap64 (n : Int) < 0)
theorem signbit' (n : Nat) (w : World) : Calls Tryd.prog 36 #[.float .f64 n] w fun e w' => e = .returned (.bool (neg64 n)) ∧ w' = w := signbit n w

theorem text_fin_n1 (a M E m u : Nat) (x : Int) (h1 : (double.order a a != some .eq) = false) (h2 : infs a 1 = false) (h3 : infs a (-1) = false)
    (hM : bits .and .u64 (a : Int) 4503599627370495 = (M : Int)) (hE : bits .and .i64 (wrap64 ((a : Int) / 4503599627370496)) 2047 = (E : Int))
    (hO : bits .or .u64 (M : Int) 4503599627370496 = (m : Int)) (hm : ((m : Int) == 0) = false) (hm64 : m < 18446744073709551616) (h0 : (0 : Int) < (E : Int)) (hs : neg64 a = true)
    (hu : u < 18446744073709551616) (hD : (m : Int) / 2 ^ min (Lib.ctz 64 m) 64 = (u : Int)) (hX : wrap64 (wrap64 ((E : Int) - 1075) + (Lib.ctz 64 m : Int)) = x) (hx : -9223372036854775808 ≤ x ∧ x ≤ 9223372036854775807)
    (hl1 : (Lib.decDigits u).length ≤ 20) (hl2 : (Lib.itoa x).length ≤ 21)
    (w : World) (hT : TabAt 3 Lib.deBruijn64tab w) (htab : Lib.TabIs Tryd.prog w "internal/strconv.uint64pow10" .u64 Lib.pow10Tab) :
    Calls Tryd.prog 19 #[.int .u64 (a : Int)] w fun e w' => e = .returned (.string (⟨#[45]⟩ ++ ⟨(Lib.decDigits u).toArray⟩ ++ ⟨#[112]⟩ ++ ⟨(Lib.itoa x).toArray⟩)) ∧ Below w.heap.size w w' := by
  have hbel := Lib.tabBelow_of_tabIs htab
  go_enter Tryd.func19, Tryd.ntmps19
  go_wp2_with (first
    | (go_at_call 27; refine (of a _).mono ?_; rintro e w' ⟨rfl, rfl⟩)
    | (go_at_call 30; refine (isNaN a _).mono ?_; rintro e w' ⟨rfl, rfl⟩)
    | (go_at_call 35; refine (isInf a _ (by first | exact .inl rfl | exact .inr rfl) _).mono ?_; rintro e w' ⟨rfl, rfl⟩)
    | (go_at_call 36; refine (signbit' a _).mono ?_; rintro e w' ⟨rfl, rfl⟩)
    | (go_at_call 38; refine (formatUint u hu _ htab).mono ?_; rintro e w' ⟨rfl, k, os, rfl⟩)
    | (go_at_call 39; refine (Tryd.strconv_Itoa x hx.1 hx.2 _ (hbel _ (Lib.below_grow _ _ (Nat.le_refl _) _ _))).mono ?_; rintro e w' ⟨rfl, k, os, rfl⟩)
    | (go_at_call 37; refine (trailingZeros64 m hm64 _ hT).mono ?_; rintro e w' ⟨rfl, rfl⟩))
  all_goals first | (exfalso; omega) | skip
  go_ret
  exact ⟨rfl, (Lib.below_grow _ _ (Nat.le_refl _) _ _).trans (Lib.below_grow _ _ (Lib.size_grow _ _ _) _ _)⟩

theorem text_fin_n0 (a m u : Nat) (x : Int) (h1 : (double.order a a != some .eq) = false) (h2 : infs a 1 = false) (h3 : infs a (-1) = false)
    (hM : bits .and .u64 (a : Int) 4503599627370495 = (m : Int)) (hE : bits .and .i64 (wrap64 ((a : Int) / 4503599627370496)) 2047 = 0)
    (hm : ((m : Int) == 0) = false) (hm64 : m < 18446744073709551616) (hs : neg64 a = true)
    (hu : u < 18446744073709551616) (hD : (m : Int) / 2 ^ min (Lib.ctz 64 m) 64 = (u : Int)) (hX : wrap64 (-1074 + (Lib.ctz 64 m : Int)) = x) (hx : -9223372036854775808 ≤ x ∧ x ≤ 9223372036854775807)
    (hl1 : (Lib.decDigits u).length ≤ 20) (hl2 : (Lib.itoa x).length ≤ 21)
    (w : World) (hT : TabAt 3 Lib.deBruijn64tab w) (htab : Lib.TabIs Tryd.prog w "internal/strconv.uint64pow10" .u64 Lib.pow10Tab) :
    Calls Tryd.prog 19 #[.int .u64 (a : Int)] w fun e w' => e = .returned (.string (⟨#[45]⟩ ++ ⟨(Lib.decDigits u).toArray⟩ ++ ⟨#[112]⟩ ++ ⟨(Lib.itoa x).toArray⟩)) ∧ Below w.heap.size w w' := by
  have hbel := Lib.tabBelow_of_tabIs htab
  go_enter Tryd.func19, Tryd.ntmps19
  go_wp2_with (first
    | (go_at_call 27; refine (of a _).mono ?_; rintro e w' ⟨rfl, rfl⟩)
    | (go_at_call 30; refine (isNaN a _).mono ?_; rintro e w' ⟨rfl, rfl⟩)
    | (go_at_call 35; refine (isInf a _ (by first | exact .inl rfl | exact .inr rfl) _).mono ?_; rintro e w' ⟨rfl, rfl⟩)
    | (go_at_call 36; refine (signbit' a _).mono ?_; rintro e w' ⟨rfl, rfl⟩)
    | (go_at_call 38; refine (formatUint u hu _ htab).mono ?_; rintro e w' ⟨rfl, k, os, rfl⟩)
    | (go_at_call 39; refine (Tryd.strconv_Itoa x hx.1 hx.2 _ (hbel _ (Lib.below_grow _ _ (Nat.le_refl _) _ _))).mono ?_; rintro e w' ⟨rfl, k, os, rfl⟩)
    | (go_at_call 37; refine (trailingZeros64 m hm64 _ hT).mono ?_; rintro e w' ⟨rfl, rfl⟩))
  all_goals first | (exfalso; omega) | skip
  go_ret
  exact ⟨rfl, (Lib.below_grow _ _ (Nat.le_refl _) _ _).trans (Lib.below_grow _ _ (Lib.size_grow _ _ _) _ _)⟩

theorem text_fin_nz (a : Nat) (h1 : (double.order a a != some .eq) = false) (h2 : infs a 1 = false) (h3 : infs a (-1) = false)
    (hM : bits .and .u64 (a : Int) 4503599627370495 = 0) (hE : bits .and .i64 (wrap64 ((a : Int) / 4503599627370496)) 2047 = 0) (hs : neg64 a = true)
    (w : World) : Calls Tryd.prog 19 #[.int .u64 (a : Int)] w fun e w' => e = .returned (.string (⟨#[45]⟩ ++ ⟨#[48, 112, 48]⟩)) ∧ Below w.heap.size w w' := by
  go_enter Tryd.func19, Tryd.ntmps19
  go_wp2_with (first
    | (go_at_call 27; refine (of a _).mono ?_; rintro e w' ⟨rfl, rfl⟩)
    | (go_at_call 30; refine (isNaN a _).mono ?_; rintro e w' ⟨rfl, rfl⟩)
    | (go_at_call 35; refine (isInf a _ (by first | exact .inl rfl | exact .inr rfl) _).mono ?_; rintro e w' ⟨rfl, rfl⟩)
    | (go_at_call 36; refine (signbit' a _).mono ?_; rintro e w' ⟨rfl, rfl⟩))
  go_ret
  exact ⟨rfl, Below.refl _ _⟩

theorem text_fin_p1 (a M E m u : Nat) (x : Int) (h1 : (double.order a a != some .eq) = false) (h2 : infs a 1 = false) (h3 : infs a (-1) = false)
    (hM : bits .and .u64 (a : Int) 4503599627370495 = (M : Int)) (hE : bits .and .i64 (wrap64 ((a : Int) / 4503599627370496)) 2047 = (E : Int))
    (hO : bits .or .u64 (M : Int) 4503599627370496 = (m : Int)) (hm : ((m : Int) == 0) = false) (hm64 : m < 18446744073709551616) (h0 : (0 : Int) < (E : Int)) (hs : neg64 a = false)
    (hu : u < 18446744073709551616) (hD : (m : Int) / 2 ^ min (Lib.ctz 64 m) 64 = (u : Int)) (hX : wrap64 (wrap64 ((E : Int) - 1075) + (Lib.ctz 64 m : Int)) = x) (hx : -9223372036854775808 ≤ x ∧ x ≤ 9223372036854775807)
    (hl1 : (Lib.decDigits u).length ≤ 20) (hl2 : (Lib.itoa x).length ≤ 21)
    (w : World) (hT : TabAt 3 Lib.deBruijn64tab w) (htab : Lib.TabIs Tryd.prog w "internal/strconv.uint64pow10" .u64 Lib.pow10Tab) :
    Calls Tryd.prog 19 #[.int .u64 (a : Int)] w fun e w' => e = .returned (.string (⟨#[]⟩ ++ ⟨(Lib.decDigits u).toArray⟩ ++ ⟨#[112]⟩ ++ ⟨(Lib.itoa x).toArray⟩)) ∧ Below w.heap.size w w' := by
  have hbel := Lib.tabBelow_of_tabIs htab
  go_enter Tryd.func19, Tryd.ntmps19
  go_wp2_with (first
    | (go_at_call 27; refine (of a _).mono ?_; rintro e w' ⟨rfl, rfl⟩)
    | (go_at_call 30; refine (isNaN a _).mono ?_; rintro e w' ⟨rfl, rfl⟩)
    | (go_at_call 35; refine (isInf a _ (by first | exact .inl rfl | exact .inr rfl) _).mono ?_; rintro e w' ⟨rfl, rfl⟩)
    | (go_at_call 36; refine (signbit' a _).mono ?_; rintro e w' ⟨rfl, rfl⟩)
    | (go_at_call 38; refine (formatUint u hu _ htab).mono ?_; rintro e w' ⟨rfl, k, os, rfl⟩)
    | (go_at_call 39; refine (Tryd.strconv_Itoa x hx.1 hx.2 _ (hbel _ (Lib.below_grow _ _ (Nat.le_refl _) _ _))).mono ?_; rintro e w' ⟨rfl, k, os, rfl⟩)
    | (go_at_call 37; refine (trailingZeros64 m hm64 _ hT).mono ?_; rintro e w' ⟨rfl, rfl⟩))
  all_goals first | (exfalso; omega) | skip
  go_ret
  exact ⟨rfl, (Lib.below_grow _ _ (Nat.le_refl _) _ _).trans (Lib.below_grow _ _ (Lib.size_grow _ _ _) _ _)⟩

theorem text_fin_p0 (a m u : Nat) (x : Int) (h1 : (double.order a a != some .eq) = false) (h2 : infs a 1 = false) (h3 : infs a (-1) = false)
    (hM : bits .and .u64 (a : Int) 4503599627370495 = (m : Int)) (hE : bits .and .i64 (wrap64 ((a : Int) / 4503599627370496)) 2047 = 0)
    (hm : ((m : Int) == 0) = false) (hm64 : m < 18446744073709551616) (hs : neg64 a = false)
    (hu : u < 18446744073709551616) (hD : (m : Int) / 2 ^ min (Lib.ctz 64 m) 64 = (u : Int)) (hX : wrap64 (-1074 + (Lib.ctz 64 m : Int)) = x) (hx : -9223372036854775808 ≤ x ∧ x ≤ 9223372036854775807)
    (hl1 : (Lib.decDigits u).length ≤ 20) (hl2 : (Lib.itoa x).length ≤ 21)
    (w : World) (hT : TabAt 3 Lib.deBruijn64tab w) (htab : Lib.TabIs Tryd.prog w "internal/strconv.uint64pow10" .u64 Lib.pow10Tab) :
    Calls Tryd.prog 19 #[.int .u64 (a : Int)] w fun e w' => e = .returned (.string (⟨#[]⟩ ++ ⟨(Lib.decDigits u).toArray⟩ ++ ⟨#[112]⟩ ++ ⟨(Lib.itoa x).toArray⟩)) ∧ Below w.heap.size w w' := by
  have hbel := Lib.tabBelow_of_tabIs htab
  go_enter Tryd.func19, Tryd.ntmps19
  go_wp2_with (first
    | (go_at_call 27; refine (of a _).mono ?_; rintro e w' ⟨rfl, rfl⟩)
    | (go_at_call 30; refine (isNaN a _).mono ?_; rintro e w' ⟨rfl, rfl⟩)
    | (go_at_call 35; refine (isInf a _ (by first | exact .inl rfl | exact .inr rfl) _).mono ?_; rintro e w' ⟨rfl, rfl⟩)
    | (go_at_call 36; refine (signbit' a _).mono ?_; rintro e w' ⟨rfl, rfl⟩)
    | (go_at_call 38; refine (formatUint u hu _ htab).mono ?_; rintro e w' ⟨rfl, k, os, rfl⟩)
    | (go_at_call 39; refine (Tryd.strconv_Itoa x hx.1 hx.2 _ (hbel _ (Lib.below_grow _ _ (Nat.le_refl _) _ _))).mono ?_; rintro e w' ⟨rfl, k, os, rfl⟩)
    | (go_at_call 37; refine (trailingZeros64 m hm64 _ hT).mono ?_; rintro e w' ⟨rfl, rfl⟩))
  all_goals first | (exfalso; omega) | skip
  go_ret
  exact ⟨rfl, (Lib.below_grow _ _ (Nat.le_refl _) _ _).trans (Lib.below_grow _ _ (Lib.size_grow _ _ _) _ _)⟩

theorem text_fin_pz (a : Nat) (h1 : (double.order a a != some .eq) = false) (h2 : infs a 1 = false) (h3 : infs a (-1) = false)
    (hM : bits .and .u64 (a : Int) 4503599627370495 = 0) (hE : bits .and .i64 (wrap64 ((a : Int) / 4503599627370496)) 2047 = 0) (hs : neg64 a = false)
    (w : World) : Calls Tryd.prog 19 #[.int .u64 (a : Int)] w fun e w' => e = .returned (.string (⟨#[]⟩ ++ ⟨#[48, 112, 48]⟩)) ∧ Below w.heap.size w w' := by
  go_enter Tryd.func19, Tryd.ntmps19
  go_wp2_with (first
    | (go_at_call 27; refine (of a _).mono ?_; rintro e w' ⟨rfl, rfl⟩)
    | (go_at_call 30; refine (isNaN a _).mono ?_; rintro e w' ⟨rfl, rfl⟩)
    | (go_at_call 35; refine (isInf a _ (by first | exact .inl rfl | exact .inr rfl) _).mono ?_; rintro e w' ⟨rfl, rfl⟩)
    | (go_at_call 36; refine (signbit' a _).mono ?_; rintro e w' ⟨rfl, rfl⟩))
  go_ret
  exact ⟨rfl, Below.refl _ _⟩

end Go.Proofs.YtnggflfjmgbncaaDoor
