/- The law FloSays, at any arguments. -/
import Derived.Test.YtnggflfjmgbncaaDoorTi9
import Derived.Test.YtnggflfjmgbncaaDoorTi2
namespace Go.Proofs.YtnggflfjmgbncaaDoor
open Go Go.RowKit Go.Sort Go.Lib Ieee Ev.Fl
set_option maxRecDepth 100000

variable {ms : List (List (Nat × Nat))} {b off : Nat}

theorem gives_env {f : Nat} {args : Array Value} {v : Value} (h : Gives f args v) : GivesS ms b off f args v := fun w hE => h w hE.env
theorem gives_same {f : Nat} {args : Array Value} {v : Value} (h : ∀ w : World, Calls Tryd.prog f args w fun e w' => e = .returned v ∧ w' = w) : GivesS ms b off f args v :=
  fun w _ => (h w).mono fun _ _ ⟨h1, h2⟩ => ⟨h1, h2 ▸ Below.refl _ _⟩

theorem name_eq {s : ByteArray} {l : List UInt8} (h : (s.toList == l) = true) : s = bs l := by
  rw [beqL, decide_eq_true_iff] at h
  exact eq_bs h

theorem op_gives (op : BinOp) (hop : op = .add ∨ op = .sub ∨ op = .mul ∨ op = .quo) (f : Nat) (s : ByteArray) (x y : Nat)
    (h : ∀ (r : Nat) (w w1 : World), r < 18446744073709551616 → (binOp op 50 (.float .f64 x) (.float .f64 y)).run Tryd.prog w = .ok (.float .f64 r) w1 →
      Calls Tryd.prog f #[.string s, .int .u64 (x : Int), .int .u64 (y : Int)] w fun e w' => e = .returned (.tuple #[.int .u64 (canon r : Int), .bool true]) ∧ w' = w1) :
    GivesS ms b off f #[.string s, .int .u64 (x : Int), .int .u64 (y : Int)] (.tuple #[.int .u64 (canonF (floatBits op .f64 x y) : Int), .bool true]) := by
  intro w _
  obtain ⟨r, w1, hc, hr, hw, hrun⟩ := run_op op hop 50 x y w
  refine (h r w w1 hr hrun).mono fun e w' ⟨h1, h2⟩ => ?_
  rw [← hc]
  refine ⟨h1, ?_⟩
  subst h2
  rcases hw with rfl | rfl
  · exact Below.refl _ _
  · exact (Below.refl _ _).drew

theorem do_gives (s : ByteArray) (x y : Nat) : ∃ (c : Int) (is : Bool), GivesS ms b off 6 #[.string s, .int .u64 (x : Int), .int .u64 (y : Int)] (.tuple #[.int .u64 c, .bool is]) ∧
    GivesS ms b off 7 #[.string s, .int .u64 (x : Int), .int .u64 (y : Int)] (.tuple #[.int .u64 c, .bool is]) := by
  by_cases h1 : (s.toList == [102, 43]) = true
  · obtain rfl := name_eq h1
    exact ⟨_, _, op_gives .add (by simp) 6 _ x y fun r w w1 _ h => flo_add x y r w w1 h, op_gives .add (by simp) 7 _ x y fun r w w1 hr h => ref_add x y r w w1 hr h⟩
  by_cases h2 : (s.toList == [102, 45]) = true
  · obtain rfl := name_eq h2
    exact ⟨_, _, op_gives .sub (by simp) 6 _ x y fun r w w1 _ h => flo_sub x y r w w1 h, op_gives .sub (by simp) 7 _ x y fun r w w1 hr h => ref_sub x y r w w1 hr h⟩
  by_cases h3 : (s.toList == [102, 42]) = true
  · obtain rfl := name_eq h3
    exact ⟨_, _, op_gives .mul (by simp) 6 _ x y fun r w w1 _ h => flo_mul x y r w w1 h, op_gives .mul (by simp) 7 _ x y fun r w w1 hr h => ref_mul x y r w w1 hr h⟩
  by_cases h4 : (s.toList == [102, 47]) = true
  · obtain rfl := name_eq h4
    exact ⟨_, _, op_gives .quo (by simp) 6 _ x y fun r w w1 _ h => flo_quo x y r w w1 h, op_gives .quo (by simp) 7 _ x y fun r w w1 hr h => ref_quo x y r w w1 hr h⟩
  replace h1 : (s.toList == [102, 43]) = false := by simpa using h1
  replace h2 : (s.toList == [102, 45]) = false := by simpa using h2
  replace h3 : (s.toList == [102, 42]) = false := by simpa using h3
  replace h4 : (s.toList == [102, 47]) = false := by simpa using h4
  exact ⟨_, _, gives_same (flo_none s x y h1 h2 h3 h4), gives_same (ref_none s x y h1 h2 h3 h4)⟩

theorem is_gives (s : ByteArray) (x y : Nat) : ∃ (e can : Bool), GivesS ms b off 8 #[.string s, .int .u64 (x : Int), .int .u64 (y : Int)] (.tuple #[.bool e, .bool can]) ∧
    GivesS ms b off 9 #[.string s, .int .u64 (x : Int), .int .u64 (y : Int)] (.tuple #[.bool e, .bool can]) := by
  by_cases h1 : (s.toList == [102, 60]) = true
  · obtain rfl := name_eq h1
    exact ⟨_, _, gives_same (flo_is_lt x y), gives_same (ref_is_lt x y)⟩
  by_cases h2 : (s.toList == [102, 61]) = true
  · obtain rfl := name_eq h2
    exact ⟨_, _, gives_same (flo_is_eq x y), gives_same (ref_is_eq x y)⟩
  replace h1 : (s.toList == [102, 60]) = false := by simpa using h1
  replace h2 : (s.toList == [102, 61]) = false := by simpa using h2
  exact ⟨_, _, gives_same (flo_is_none s x y h1 h2), gives_same (ref_is_none s x y h1 h2)⟩

theorem says (name s : ByteArray) (x y : Nat) (n : Int) (hx : x < 18446744073709551616) (w : World) (hE : EnvS ms b off w) :
    Calls Tryd.prog 3 #[.string name, .string s, .int .u64 (x : Int), .int .u64 (y : Int), .int .i64 n] w fun e w' => e = .returned (.bool true) ∧ Below w.heap.size w w' := by
  have hf : GivesS ms b off 5 #[] (.bool true) := gives_env first_gives
  by_cases hs : s.size ≤ 60
  rotate_left
  · exact says_long ms b off name s x y n hf (.inl (by omega)) w hE
  by_cases hn : name.size ≤ 60
  rotate_left
  · exact says_long ms b off name s x y n hf (.inr (by omega)) w hE
  obtain ⟨c, is, h6, h7⟩ := do_gives (ms := ms) (b := b) (off := off) name x y
  obtain ⟨e1, can, h8, h9⟩ := is_gives (ms := ms) (b := b) (off := off) name x y
  have h10 : GivesS ms b off 10 #[.int .u64 (x : Int)] (.tuple #[.int .i64 (toIntOf x).1, .bool (toIntOf x).2]) := fun w _ => toInt_call x w
  have h11 : GivesS ms b off 11 #[.int .u64 (x : Int)] (.tuple #[.int .i64 (toIntOf x).1, .bool (toIntOf x).2]) := gives_same (ref_toInt x hx)
  have h15 : GivesS ms b off 15 #[.int .u64 (x : Int)] (.int .u64 (canon x : Int)) := gives_same (canon_call x)
  have h16 : GivesS ms b off 16 #[.int .u64 (x : Int)] (.int .u64 (canon x : Int)) := gives_same (ref_canon x hx)
  have h17 : GivesS ms b off 17 #[.int .i64 n] (.int .u64 ((floatOfInt .f64 n : Nat) : Int)) := gives_same (flo_ofInt n)
  have h18 : GivesS ms b off 18 #[.int .i64 n] (.int .u64 ((floatOfInt .f64 n : Nat) : Int)) := gives_same (ref_ofInt n)
  have h19 : GivesS ms b off 19 #[.int .u64 (x : Int)] (.string (textOf x)) := gives_env (text_call x hx)
  have h20 : GivesS ms b off 20 #[.int .u64 (x : Int)] (.string (textOf x)) := gives_env (ref_text x hx)
  have hr := ref_parse s (by omega)
  cases hq : fpL s.data.toList with
  | some v =>
    rw [hq] at hr
    obtain ⟨hv, ht, hc⟩ := fpL_back hq
    have hp := parse_text v hv
    have es : textOf v = s := by rw [eq_bs ht, bs_list]
    rw [es, hc] at hp
    exact says_good ms b off name s (textOf x) x y n c _ v _ _ is e1 can _ hs hn hf h6 h7 h8 h9 h10 h11 (gives_env hp) (gives_same hr) h15 h16 h17 h18 h19 h20 w hE
  | none =>
    rw [hq] at hr
    obtain ⟨m, hm, _, hv⟩ := value_all s (by omega)
    have hne : textOf m ≠ s := by
      intro e
      have := fpL_text m hm
      rw [e, hq] at this
      cases this
    have hp : GivesS ms b off 12 #[.string s] (.tuple #[.int .u64 0, .iface 141 (.pointer (some ⟨b, off, none⟩))]) := fun w hE =>
      parse_bad_s s (textOf m) m 141 _ w hE.env (fun w' hb => (hE.below hb).cell) hv (text_call m hm) (by
        rw [beqL, decide_eq_false_iff_not]
        rw [ByteArray.toList_eq]
        exact fun e => hne (by rw [eq_bs e, bs_list]))
    exact says_bad ms b off name s (textOf x) x y n c _ _ _ is e1 can _ 141 _ hs hn hf h6 h7 h8 h9 h10 h11 hp (gives_same hr) h15 h16 h17 h18 h19 h20 (fun w hE => isNumber hE) w hE
end Go.Proofs.YtnggflfjmgbncaaDoor
