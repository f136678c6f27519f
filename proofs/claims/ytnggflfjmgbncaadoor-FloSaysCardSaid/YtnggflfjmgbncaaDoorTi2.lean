/- flo.ToInt, walked; what it is. -/
import Derived.Test.YtnggflfjmgbncaaDoorTw
import Derived.Test.YtnggflfjmgbncaaDoorTu
namespace Go.Proofs.YtnggflfjmgbncaaDoor
open Go Go.RowKit Go.Sort Go.Lib Ieee Ev.Fl
set_option maxRecDepth 100000

theorem trunc_call (x : Nat) (w : World) : ∃ r w', (callFunc 45 #[.float .f64 x]).run Tryd.prog w = .ok (.value (.float .f64 r)) w' ∧ (w' = w ∨ w' = w.drew) ∧ (isn x = false → r = Ev.truncF x ∧ w' = w) ∧ (isn x = true → isn r = true) := by
  obtain ⟨r, w', h1, h2, h3, h4⟩ := Ev.trunc_run (P := Tryd.prog) (w := w) x
  refine ⟨r, w', ?_, h2, h3, h4⟩
  rw [run_callFunc_extern (e := Extern.MathFloor.toIntegral "math.archTrunc" .zero) Tryd.func45 (by kernel_rfl) (by kernel_rfl) (by kernel_rfl) (by kernel_rfl), h1]
  rfl

theorem Trunc (x r : Nat) (w w1 : World) (ht : (callFunc 45 #[.float .f64 x]).run Tryd.prog w = .ok (.value (.float .f64 r)) w1) :
    Calls Tryd.prog 29 #[.float .f64 x] w fun e w' => e = .returned (.float .f64 r) ∧ w' = w1 := by
  go_enter Tryd.func29, Tryd.ntmps29
  go_wp2
  go_ret
  exact ⟨rfl, rfl⟩

theorem toInt_nan (x r : Nat) (w w1 : World) (ht : (callFunc 45 #[.float .f64 x]).run Tryd.prog w = .ok (.value (.float .f64 r)) w1) (h : (double.order r r != some .eq) = true) :
    Calls Tryd.prog 10 #[.int .u64 (x : Int)] w fun e w' => e = .returned (.tuple #[.int .i64 0, .bool false]) ∧ w' = w1 := by
  go_enter Tryd.func10, Tryd.ntmps10
  go_wp2_with (first
    | (go_at_call 29; refine (Trunc x r _ _ ht).mono ?_; rintro e w' ⟨rfl, rfl⟩)
    | (go_at_call 27; refine (of x _).mono ?_; rintro e w' ⟨rfl, rfl⟩)
    | (go_at_call 30; refine (isNaN r _).mono ?_; rintro e w' ⟨rfl, rfl⟩))
  go_ret2
  exact ⟨rfl, rfl⟩
theorem toInt_out (x r : Nat) (w w1 : World) (ht : (callFunc 45 #[.float .f64 x]).run Tryd.prog w = .ok (.value (.float .f64 r)) w1) (h : (double.order r r != some .eq) = false)
    (h2 : (double.order r 14114281232179134464 == some .lt) = true) :
    Calls Tryd.prog 10 #[.int .u64 (x : Int)] w fun e w' => e = .returned (.tuple #[.int .i64 0, .bool false]) ∧ w' = w1 := by
  have h2' : (FloatKind.f64.format.order r 14114281232179134464 == some .lt) = true := h2
  go_enter Tryd.func10, Tryd.ntmps10
  go_wp2_with (first
    | (go_at_call 29; refine (Trunc x r _ _ ht).mono ?_; rintro e w' ⟨rfl, rfl⟩)
    | (go_at_call 27; refine (of x _).mono ?_; rintro e w' ⟨rfl, rfl⟩)
    | (go_at_call 30; refine (isNaN r _).mono ?_; rintro e w' ⟨rfl, rfl⟩))
  go_ret2
  exact ⟨rfl, rfl⟩
theorem toInt_over (x r : Nat) (w w1 : World) (ht : (callFunc 45 #[.float .f64 x]).run Tryd.prog w = .ok (.value (.float .f64 r)) w1) (h : (double.order r r != some .eq) = false)
    (h2 : (double.order r 14114281232179134464 == some .lt) = false) (h3 : (double.order r 4890909195324358656 == some .gt || double.order r 4890909195324358656 == some .eq) = true) :
    Calls Tryd.prog 10 #[.int .u64 (x : Int)] w fun e w' => e = .returned (.tuple #[.int .i64 0, .bool false]) ∧ w' = w1 := by
  have h2' : (FloatKind.f64.format.order r 14114281232179134464 == some .lt) = false := h2
  have h3' : (FloatKind.f64.format.order r 4890909195324358656 == some .gt || FloatKind.f64.format.order r 4890909195324358656 == some .eq) = true := h3
  go_enter Tryd.func10, Tryd.ntmps10
  go_wp2_with (first
    | (go_at_call 29; refine (Trunc x r _ _ ht).mono ?_; rintro e w' ⟨rfl, rfl⟩)
    | (go_at_call 27; refine (of x _).mono ?_; rintro e w' ⟨rfl, rfl⟩)
    | (go_at_call 30; refine (isNaN r _).mono ?_; rintro e w' ⟨rfl, rfl⟩))
  go_ret2
  exact ⟨rfl, rfl⟩
theorem toInt_in (x r : Nat) (n : Int) (w w1 : World) (ht : (callFunc 45 #[.float .f64 x]).run Tryd.prog w = .ok (.value (.float .f64 r)) w1) (h : (double.order r r != some .eq) = false)
    (h2 : (double.order r 14114281232179134464 == some .lt) = false) (h3 : (double.order r 4890909195324358656 == some .gt || double.order r 4890909195324358656 == some .eq) = false)
    (hn : ∀ w, (convert 50 2 (.float .f64 r)).run Tryd.prog w = .ok (.int .i64 n) w) :
    Calls Tryd.prog 10 #[.int .u64 (x : Int)] w fun e w' => e = .returned (.tuple #[.int .i64 n, .bool true]) ∧ w' = w1 := by
  have h2' : (FloatKind.f64.format.order r 14114281232179134464 == some .lt) = false := h2
  have h3' : (FloatKind.f64.format.order r 4890909195324358656 == some .gt || FloatKind.f64.format.order r 4890909195324358656 == some .eq) = false := h3
  go_enter Tryd.func10, Tryd.ntmps10
  go_wp2_with (first
    | (go_at_call 29; refine (Trunc x r _ _ ht).mono ?_; rintro e w' ⟨rfl, rfl⟩)
    | (go_at_call 27; refine (of x _).mono ?_; rintro e w' ⟨rfl, rfl⟩)
    | (go_at_call 30; refine (isNaN r _).mono ?_; rintro e w' ⟨rfl, rfl⟩))
  go_ret2
  exact ⟨rfl, rfl⟩

theorem sgz_true (n : Nat) : sgz true n = -(n : Int) := rfl
theorem isn_mi' : isn 14114281232179134464 = false := isn_mi
theorem isn_tp' : isn 4890909195324358656 = false := isn_tp

/-- flo.ToInt. -/
theorem toInt_call (a : Nat) (w : World) : Calls Tryd.prog 10 #[.int .u64 (a : Int)] w fun e w' => e = .returned (.tuple #[.int .i64 (toIntOf a).1, .bool (toIntOf a).2]) ∧ Below w.heap.size w w' := by
  obtain ⟨r, w1, ht, hw, hnum, hnan⟩ := trunc_call a w
  have hb : Below w.heap.size w w1 := by
    rcases hw with rfl | rfl
    · exact Below.refl _ _
    · exact (Below.refl _ _).drew
  unfold toIntOf
  cases hn : isn a with
  | true =>
    have hi : inf ≤ rung a := by rw [isn_eq, decide_eq_true_iff] at hn; omega
    rw [if_pos hi]
    exact (toInt_nan a r w w1 ht ((isn_text r).trans (hnan hn))).mono fun e w' ⟨he, h⟩ => ⟨he, h ▸ hb⟩
  | false =>
    obtain ⟨rfl, _⟩ := hnum hn
    have hnr : isn (Ev.truncF a) = false := (trunc_isn a).trans hn
    have h1 : (double.order (Ev.truncF a) (Ev.truncF a) != some .eq) = false := (isn_text _).trans hnr
    have hlt : (double.order (Ev.truncF a) 14114281232179134464 == some .lt) = decide (sr (Ev.truncF a) < sr mi) := by
      have := lt_eq (Ev.truncF a) mi
      rw [hnr, isn_mi] at this
      exact this
    have hge : (double.order (Ev.truncF a) 4890909195324358656 == some .gt || double.order (Ev.truncF a) 4890909195324358656 == some .eq) = decide (sr tp ≤ sr (Ev.truncF a)) := by
      have := geq_eq (Ev.truncF a) tp
      rw [hnr, isn_tp] at this
      exact this
    by_cases hi : inf ≤ rung a
    · rw [if_pos hi]
      have hri : rung a = inf := by rw [isn_eq, decide_eq_false_iff_not] at hn; omega
      have hs := trunc_sr_inf a hri
      rcases sr_cases a hn with ⟨_, _, h3⟩ | ⟨_, _, h3⟩ | ⟨h3, _⟩
      · refine (toInt_over a _ w w1 ht h1 ?_ ?_).mono fun e w' ⟨he, h⟩ => ⟨he, h ▸ hb⟩
        · rw [hlt, hs, h3, sr_mi]; decide
        · rw [hge, hs, h3, sr_tp]; decide
      · refine (toInt_out a _ w w1 ht h1 ?_).mono fun e w' ⟨he, h⟩ => ⟨he, h ▸ hb⟩
        rw [hlt, hs, h3, sr_mi]; decide
      · omega
    · rw [if_neg hi]
      obtain ⟨r', hr', hv', e1, e2, _, e4⟩ := trunc_sv a (by omega)
      have hsv : sv (Ev.truncF a) = sgz (sgn a) (wOf a * U) := e4
      have c1 : sr (Ev.truncF a) < sr mi ↔ sgz (sgn a) (wOf a) < -9223372036854775808 := by
        rw [lt_sv, hsv, sv_mi]
        exact sgz_lt (s := sgn a) (t := true) (m := wOf a) (n := 9223372036854775808) U_pos
      have c2 : sr (Ev.truncF a) < sr tp ↔ sgz (sgn a) (wOf a) < 9223372036854775808 := by
        rw [lt_sv, hsv, sv_tp]
        exact sgz_lt (s := sgn a) (t := false) (m := wOf a) (n := 9223372036854775808) U_pos
      by_cases k1 : sgz (sgn a) (wOf a) < -9223372036854775808
      · rw [if_neg (by omega)]
        refine (toInt_out a _ w w1 ht h1 ?_).mono fun e w' ⟨he, h⟩ => ⟨he, h ▸ hb⟩
        rw [hlt, decide_eq_true_iff]
        exact c1.2 k1
      have k1' : (double.order (Ev.truncF a) 14114281232179134464 == some .lt) = false := by
        rw [hlt, decide_eq_false_iff_not]
        exact fun h => k1 (c1.1 h)
      by_cases k2 : sgz (sgn a) (wOf a) < 9223372036854775808
      · rw [if_pos ⟨by omega, by omega⟩]
        have k2' : (double.order (Ev.truncF a) 4890909195324358656 == some .gt || double.order (Ev.truncF a) 4890909195324358656 == some .eq) = false := by
          rw [hge, decide_eq_false_iff_not]
          have := c2.2 k2
          omega
        have hf : Ev.ftoi .i64 (Ev.truncF a) = some (sgz (sgn a) (wOf a)) := by
          have := ftoi_num (Ev.truncF a) (by rw [e1]; exact hr')
          rw [e2, e1, hv', Nat.mul_div_cancel _ U_pos] at this
          rw [this]
          exact if_pos ⟨by show -9223372036854775808 ≤ sgz (sgn a) (wOf a); omega, by show sgz (sgn a) (wOf a) ≤ 9223372036854775807; omega⟩
        exact (toInt_in a _ _ w w1 ht h1 k1' k2' fun w => run_convert_float_int w _ _ .f64 .i64 _ _ (by rw [Tryd.underlying50]; rfl) Tryd.underlying2 hf).mono fun e w' ⟨he, h⟩ => ⟨he, h ▸ hb⟩
      · rw [if_neg (by omega)]
        refine (toInt_over a _ w w1 ht h1 k1' ?_).mono fun e w' ⟨he, h⟩ => ⟨he, h ▸ hb⟩
        rw [hge, decide_eq_true_iff]
        have : ¬ sr (Ev.truncF a) < sr tp := fun h => k2 (c2.1 h)
        omega
end Go.Proofs.YtnggflfjmgbncaaDoor
