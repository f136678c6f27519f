/- flo.Do, flo.Is, flo.OfInt, the reference's, walked. -/
import Derived.Test.YtnggflfjmgbncaaDoorTs
namespace Go.Proofs.YtnggflfjmgbncaaDoor
open Go Go.RowKit Go.Sort Go.Lib Ieee Ev.Fl
set_option maxRecDepth 100000

theorem ref_canon_t (a : Nat) (h1 : bits .and .u64 ((a : Int) / 4503599627370496) 2047 = 2047) (f : Int) (h2 : bits .and .u64 (a : Int) 4503599627370495 = f) (h3 : (f == 0) = false) (w : World) :
    Calls Tryd.prog 16 #[.int .u64 (a : Int)] w fun e w' => e = .returned (.int .u64 9221120237041090560) ∧ w' = w := by
  have h3' : (f != 0) = true := by rw [bne, h3]; rfl
  go_enter Tryd.func16, Tryd.ntmps16
  go_wp2
  go_ret
  exact ⟨rfl, rfl⟩
theorem ref_canon_z (a : Nat) (h1 : bits .and .u64 ((a : Int) / 4503599627370496) 2047 = 2047) (h2 : bits .and .u64 (a : Int) 4503599627370495 = 0) (w : World) :
    Calls Tryd.prog 16 #[.int .u64 (a : Int)] w fun e w' => e = .returned (.int .u64 (a : Int)) ∧ w' = w := by
  go_enter Tryd.func16, Tryd.ntmps16
  go_wp2
  go_ret
  exact ⟨rfl, rfl⟩
theorem ref_canon_f (a : Nat) (x : Int) (h1 : bits .and .u64 ((a : Int) / 4503599627370496) 2047 = x) (h3 : (x == 2047) = false) (w : World) :
    Calls Tryd.prog 16 #[.int .u64 (a : Int)] w fun e w' => e = .returned (.int .u64 (a : Int)) ∧ w' = w := by
  go_enter Tryd.func16, Tryd.ntmps16
  go_wp2
  go_ret
  exact ⟨rfl, rfl⟩

theorem hX_of (a : Nat) (ha : a < 18446744073709551616) : bits .and .u64 ((a : Int) / 4503599627370496) 2047 = ((ex a : Nat) : Int) := by
  have h := bits_and_u64_nat (a / 4503599627370496) 2047 (by omega) (by omega)
  rw [show (2047 : Nat) = 2 ^ 11 - 1 from rfl, Nat.and_two_pow_sub_one_eq_mod] at h
  have e : (a : Int) / 4503599627370496 = ((a / 4503599627370496 : Nat) : Int) := by omega
  rw [e]
  exact h

theorem ref_canon (a : Nat) (ha : a < 18446744073709551616) (w : World) : Calls Tryd.prog 16 #[.int .u64 (a : Int)] w fun e w' => e = .returned (.int .u64 (canon a : Int)) ∧ w' = w := by
  have hX := hX_of a ha
  have hM := hM_of a ha
  have hi := isn_eq a
  obtain ⟨r1, r2⟩ := ex_rung a
  have hr : rung a < 9223372036854775808 := Nat.mod_lt _ (by decide)
  unfold canon
  by_cases h : ex a = 2047
  · rw [h] at hX
    by_cases hz : a % 4503599627370496 = 0
    · have hn : isn a = false := by rw [hi, decide_eq_false_iff_not]; unfold inf; omega
      rw [hn]
      rw [hz] at hM
      exact ref_canon_z a hX hM w
    · have hn : isn a = true := by rw [hi, decide_eq_true_iff]; unfold inf; omega
      rw [hn]
      exact ref_canon_t a hX _ hM (by rw [beq_eq_false_iff_ne]; omega) w
  · have hn : isn a = false := by rw [hi, decide_eq_false_iff_not]; unfold inf; have := ex_lt a; omega
    rw [hn]
    exact ref_canon_f a _ hX (by rw [beq_eq_false_iff_ne]; omega) w

theorem run_nan (op : BinOp) (hop : op = .add ∨ op = .sub ∨ op = .mul ∨ op = .quo) (t : TypeId) (m n : Nat) (hr : floatBits op .f64 m n = none) (w : World) : ∃ r, isn r = true ∧ (binOp op t (.float .f64 m) (.float .f64 n)).run Tryd.prog w = .ok (.float .f64 r) w.drew := by
  have nn : ∀ k, isn (Question.cut (.nanBits .f64 m n) k) = true := by
    intro k
    rw [isn_eq, decide_eq_true_iff]
    show 9218868437227405312 < ((k % 2) * 2 ^ 63 + 0x7ff0000000000000 + 1 + (k / 2) % (2 ^ 52 - 1)) % 9223372036854775808
    have h1 : k % 2 < 2 := Nat.mod_lt _ (by decide)
    have h2 : (k / 2) % (2 ^ 52 - 1) < 2 ^ 52 - 1 := Nat.mod_lt _ (by decide)
    generalize k % 2 = a at *
    generalize (k / 2) % (2 ^ 52 - 1) = b at *
    rcases (show a = 0 ∨ a = 1 by omega) with rfl | rfl <;> omega
  refine ⟨Question.cut (.nanBits .f64 m n) (w.tape w.drawn (.nanBits .f64 m n)), nn _, ?_⟩
  rcases hop with rfl | rfl | rfl | rfl <;> (simp only [floatBits, FloatKind.format] at hr; simp [binOp, Op.floatArith, FloatKind.format, hr, Question.forced])

/-- What a float's operation leaves: its bits, those that are no number as one. -/
def canonF (o : Option Nat) : Nat := match o with
  | some r => canon r
  | none => NaNb

theorem run_op (op : BinOp) (hop : op = .add ∨ op = .sub ∨ op = .mul ∨ op = .quo) (t : TypeId) (m n : Nat) (w : World) : ∃ r w1, canon r = canonF (floatBits op .f64 m n) ∧ r < 18446744073709551616 ∧ (w1 = w ∨ w1 = w.drew) ∧ (binOp op t (.float .f64 m) (.float .f64 n)).run Tryd.prog w = .ok (.float .f64 r) w1 := by
  cases h : floatBits op .f64 m n with
  | some r =>
    refine ⟨r, w, rfl, ?_, .inl rfl, run_float_arith w op t .f64 m n r h⟩
    have := floatBits_wf h
    simpa [Lit.wf] using this
  | none =>
    obtain ⟨r, h1, h2⟩ := run_nan op hop t m n h w
    refine ⟨r, w.drew, by unfold canon canonF; rw [h1]; rfl, ?_, .inr rfl, h2⟩
    have hb : ∀ k, Question.cut (.nanBits .f64 m n) k < 18446744073709551616 := by
      intro k
      show (k % 2) * 2 ^ 63 + 0x7ff0000000000000 + 1 + (k / 2) % (2 ^ 52 - 1) < _
      have h1 : k % 2 < 2 := Nat.mod_lt _ (by decide)
      have h2 : (k / 2) % (2 ^ 52 - 1) < 2 ^ 52 - 1 := Nat.mod_lt _ (by decide)
      generalize k % 2 = a at *
      generalize (k / 2) % (2 ^ 52 - 1) = b at *
      omega
    have e := h2
    rcases hop with rfl | rfl | rfl | rfl <;>
    · simp only [floatBits, FloatKind.format] at h
      simp [binOp, Op.floatArith, FloatKind.format, h, Question.forced] at e
      rw [← e]
      exact hb _

theorem flo_add (a b r : Nat) (w w1 : World) (hm : (binOp .add 50 (.float .f64 a) (.float .f64 b)).run Tryd.prog w = .ok (.float .f64 r) w1) :
    Calls Tryd.prog 6 #[.string ⟨#[102, 43]⟩, .int .u64 (a : Int), .int .u64 (b : Int)] w fun e w' => e = .returned (.tuple #[.int .u64 (canon r : Int), .bool true]) ∧ w' = w1 := by
  have hb := bits64
  have hf := from64
  go_enter Tryd.func6, Tryd.ntmps6
  go_wp2_with (first
    | (go_at_call 27; refine (of _ _).mono ?_; rintro e w' ⟨rfl, rfl⟩)
    | (go_at_call 15; refine (canon_call _ _).mono ?_; rintro e w' ⟨rfl, rfl⟩))
  go_ret2
  exact ⟨rfl, rfl⟩

theorem flo_sub (a b r : Nat) (w w1 : World) (hm : (binOp .sub 50 (.float .f64 a) (.float .f64 b)).run Tryd.prog w = .ok (.float .f64 r) w1) :
    Calls Tryd.prog 6 #[.string ⟨#[102, 45]⟩, .int .u64 (a : Int), .int .u64 (b : Int)] w fun e w' => e = .returned (.tuple #[.int .u64 (canon r : Int), .bool true]) ∧ w' = w1 := by
  have hb := bits64
  have hf := from64
  go_enter Tryd.func6, Tryd.ntmps6
  go_wp2_with (first
    | (go_at_call 27; refine (of _ _).mono ?_; rintro e w' ⟨rfl, rfl⟩)
    | (go_at_call 15; refine (canon_call _ _).mono ?_; rintro e w' ⟨rfl, rfl⟩))
  go_ret2
  exact ⟨rfl, rfl⟩

theorem flo_mul (a b r : Nat) (w w1 : World) (hm : (binOp .mul 50 (.float .f64 a) (.float .f64 b)).run Tryd.prog w = .ok (.float .f64 r) w1) :
    Calls Tryd.prog 6 #[.string ⟨#[102, 42]⟩, .int .u64 (a : Int), .int .u64 (b : Int)] w fun e w' => e = .returned (.tuple #[.int .u64 (canon r : Int), .bool true]) ∧ w' = w1 := by
  have hb := bits64
  have hf := from64
  go_enter Tryd.func6, Tryd.ntmps6
  go_wp2_with (first
    | (go_at_call 27; refine (of _ _).mono ?_; rintro e w' ⟨rfl, rfl⟩)
    | (go_at_call 15; refine (canon_call _ _).mono ?_; rintro e w' ⟨rfl, rfl⟩))
  go_ret2
  exact ⟨rfl, rfl⟩

theorem flo_quo (a b r : Nat) (w w1 : World) (hm : (binOp .quo 50 (.float .f64 a) (.float .f64 b)).run Tryd.prog w = .ok (.float .f64 r) w1) :
    Calls Tryd.prog 6 #[.string ⟨#[102, 47]⟩, .int .u64 (a : Int), .int .u64 (b : Int)] w fun e w' => e = .returned (.tuple #[.int .u64 (canon r : Int), .bool true]) ∧ w' = w1 := by
  have hb := bits64
  have hf := from64
  go_enter Tryd.func6, Tryd.ntmps6
  go_wp2_with (first
    | (go_at_call 27; refine (of _ _).mono ?_; rintro e w' ⟨rfl, rfl⟩)
    | (go_at_call 15; refine (canon_call _ _).mono ?_; rintro e w' ⟨rfl, rfl⟩))
  go_ret2
  exact ⟨rfl, rfl⟩

theorem flo_none (s : ByteArray) (a b : Nat) (h0 : (s.toList == [102, 43]) = false) (h1 : (s.toList == [102, 45]) = false) (h2 : (s.toList == [102, 42]) = false) (h3 : (s.toList == [102, 47]) = false) (w : World) :
    Calls Tryd.prog 6 #[.string s, .int .u64 (a : Int), .int .u64 (b : Int)] w fun e w' => e = .returned (.tuple #[.int .u64 0, .bool false]) ∧ w' = w := by
  have hb := bits64
  have hf := from64
  go_enter Tryd.func6, Tryd.ntmps6
  go_wp2_with (first
    | (go_at_call 27; refine (of _ _).mono ?_; rintro e w' ⟨rfl, rfl⟩)
    | (go_at_call 15; refine (canon_call _ _).mono ?_; rintro e w' ⟨rfl, rfl⟩))
  go_ret2
  exact ⟨rfl, rfl⟩

theorem ref_add (a b r : Nat) (w w1 : World) (hr : r < 18446744073709551616) (hm : (binOp .add 50 (.float .f64 a) (.float .f64 b)).run Tryd.prog w = .ok (.float .f64 r) w1) :
    Calls Tryd.prog 7 #[.string ⟨#[102, 43]⟩, .int .u64 (a : Int), .int .u64 (b : Int)] w fun e w' => e = .returned (.tuple #[.int .u64 (canon r : Int), .bool true]) ∧ w' = w1 := by
  have hb := bits64
  have hf := from64
  go_enter Tryd.func7, Tryd.ntmps7
  go_wp2_with (first
    | (go_at_call 16; refine (ref_canon _ hr _).mono ?_; rintro e w' ⟨rfl, rfl⟩))
  go_ret2
  exact ⟨rfl, rfl⟩

theorem ref_sub (a b r : Nat) (w w1 : World) (hr : r < 18446744073709551616) (hm : (binOp .sub 50 (.float .f64 a) (.float .f64 b)).run Tryd.prog w = .ok (.float .f64 r) w1) :
    Calls Tryd.prog 7 #[.string ⟨#[102, 45]⟩, .int .u64 (a : Int), .int .u64 (b : Int)] w fun e w' => e = .returned (.tuple #[.int .u64 (canon r : Int), .bool true]) ∧ w' = w1 := by
  have hb := bits64
  have hf := from64
  go_enter Tryd.func7, Tryd.ntmps7
  go_wp2_with (first
    | (go_at_call 16; refine (ref_canon _ hr _).mono ?_; rintro e w' ⟨rfl, rfl⟩))
  go_ret2
  exact ⟨rfl, rfl⟩

theorem ref_mul (a b r : Nat) (w w1 : World) (hr : r < 18446744073709551616) (hm : (binOp .mul 50 (.float .f64 a) (.float .f64 b)).run Tryd.prog w = .ok (.float .f64 r) w1) :
    Calls Tryd.prog 7 #[.string ⟨#[102, 42]⟩, .int .u64 (a : Int), .int .u64 (b : Int)] w fun e w' => e = .returned (.tuple #[.int .u64 (canon r : Int), .bool true]) ∧ w' = w1 := by
  have hb := bits64
  have hf := from64
  go_enter Tryd.func7, Tryd.ntmps7
  go_wp2_with (first
    | (go_at_call 16; refine (ref_canon _ hr _).mono ?_; rintro e w' ⟨rfl, rfl⟩))
  go_ret2
  exact ⟨rfl, rfl⟩

theorem ref_quo (a b r : Nat) (w w1 : World) (hr : r < 18446744073709551616) (hm : (binOp .quo 50 (.float .f64 a) (.float .f64 b)).run Tryd.prog w = .ok (.float .f64 r) w1) :
    Calls Tryd.prog 7 #[.string ⟨#[102, 47]⟩, .int .u64 (a : Int), .int .u64 (b : Int)] w fun e w' => e = .returned (.tuple #[.int .u64 (canon r : Int), .bool true]) ∧ w' = w1 := by
  have hb := bits64
  have hf := from64
  go_enter Tryd.func7, Tryd.ntmps7
  go_wp2_with (first
    | (go_at_call 16; refine (ref_canon _ hr _).mono ?_; rintro e w' ⟨rfl, rfl⟩))
  go_ret2
  exact ⟨rfl, rfl⟩

theorem ref_none (s : ByteArray) (a b : Nat) (h0 : (s.toList == [102, 43]) = false) (h1 : (s.toList == [102, 45]) = false) (h2 : (s.toList == [102, 42]) = false) (h3 : (s.toList == [102, 47]) = false) (w : World) :
    Calls Tryd.prog 7 #[.string s, .int .u64 (a : Int), .int .u64 (b : Int)] w fun e w' => e = .returned (.tuple #[.int .u64 0, .bool false]) ∧ w' = w := by
  have hb := bits64
  have hf := from64
  go_enter Tryd.func7, Tryd.ntmps7
  go_wp2_with (first
    | (go_at_call 16; refine (ref_canon _ (by assumption) _).mono ?_; rintro e w' ⟨rfl, rfl⟩))
  go_ret2
  exact ⟨rfl, rfl⟩

theorem flo_is_lt (a b : Nat) (w : World) : Calls Tryd.prog 8 #[.string ⟨#[102, 60]⟩, .int .u64 (a : Int), .int .u64 (b : Int)] w fun e w' => e = .returned (.tuple #[.bool (double.order a b == some .lt), .bool true]) ∧ w' = w := by
  have hf := from64
  go_enter Tryd.func8, Tryd.ntmps8
  go_wp2_with (go_at_call 27; refine (of _ _).mono ?_; rintro e w' ⟨rfl, rfl⟩)
  go_ret2
  exact ⟨rfl, rfl⟩

theorem flo_is_eq (a b : Nat) (w : World) : Calls Tryd.prog 8 #[.string ⟨#[102, 61]⟩, .int .u64 (a : Int), .int .u64 (b : Int)] w fun e w' => e = .returned (.tuple #[.bool (double.order a b == some .eq), .bool true]) ∧ w' = w := by
  have hf := from64
  go_enter Tryd.func8, Tryd.ntmps8
  go_wp2_with (go_at_call 27; refine (of _ _).mono ?_; rintro e w' ⟨rfl, rfl⟩)
  go_ret2
  exact ⟨rfl, rfl⟩

theorem flo_is_none (s : ByteArray) (a b : Nat) (h0 : (s.toList == [102, 60]) = false) (h1 : (s.toList == [102, 61]) = false) (w : World) : Calls Tryd.prog 8 #[.string s, .int .u64 (a : Int), .int .u64 (b : Int)] w fun e w' => e = .returned (.tuple #[.bool false, .bool false]) ∧ w' = w := by
  have hf := from64
  go_enter Tryd.func8, Tryd.ntmps8
  go_wp2_with (go_at_call 27; refine (of _ _).mono ?_; rintro e w' ⟨rfl, rfl⟩)
  go_ret2
  exact ⟨rfl, rfl⟩

theorem ref_is_lt (a b : Nat) (w : World) : Calls Tryd.prog 9 #[.string ⟨#[102, 60]⟩, .int .u64 (a : Int), .int .u64 (b : Int)] w fun e w' => e = .returned (.tuple #[.bool (double.order a b == some .lt), .bool true]) ∧ w' = w := by
  have hf := from64
  go_enter Tryd.func9, Tryd.ntmps9
  go_wp2
  go_ret2
  exact ⟨rfl, rfl⟩

theorem ref_is_eq (a b : Nat) (w : World) : Calls Tryd.prog 9 #[.string ⟨#[102, 61]⟩, .int .u64 (a : Int), .int .u64 (b : Int)] w fun e w' => e = .returned (.tuple #[.bool (double.order a b == some .eq), .bool true]) ∧ w' = w := by
  have hf := from64
  go_enter Tryd.func9, Tryd.ntmps9
  go_wp2
  go_ret2
  exact ⟨rfl, rfl⟩

theorem ref_is_none (s : ByteArray) (a b : Nat) (h0 : (s.toList == [102, 60]) = false) (h1 : (s.toList == [102, 61]) = false) (w : World) : Calls Tryd.prog 9 #[.string s, .int .u64 (a : Int), .int .u64 (b : Int)] w fun e w' => e = .returned (.tuple #[.bool false, .bool false]) ∧ w' = w := by
  have hf := from64
  go_enter Tryd.func9, Tryd.ntmps9
  go_wp2
  go_ret2
  exact ⟨rfl, rfl⟩

theorem flo_ofInt (n : Int) (w : World) : Calls Tryd.prog 17 #[.int .i64 n] w fun e w' => e = .returned (.int .u64 ((floatOfInt .f64 n : Nat) : Int)) ∧ w' = w := by
  have hb := bits64
  go_enter Tryd.func17, Tryd.ntmps17
  go_wp2
  go_ret
  exact ⟨rfl, rfl⟩

theorem ref_ofInt (n : Int) (w : World) : Calls Tryd.prog 18 #[.int .i64 n] w fun e w' => e = .returned (.int .u64 ((floatOfInt .f64 n : Nat) : Int)) ∧ w' = w := by
  have hb := bits64
  go_enter Tryd.func18, Tryd.ntmps18
  go_wp2
  go_ret
  exact ⟨rfl, rfl⟩
end Go.Proofs.YtnggflfjmgbncaaDoor
