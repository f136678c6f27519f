/- The reference's FloParse, walked. -/
import Derived.Test.YtnggflfjmgbncaaDoorTi5
namespace Go.Proofs.YtnggflfjmgbncaaDoor
open Go Go.RowKit Go.Lib Ieee
set_option maxRecDepth 100000

/-- How many bits a number has. -/
def bl (n : Nat) : Nat := if n = 0 then 0 else n.log2 + 1
theorem bl_half {n : Nat} (h : 0 < n) : bl n = bl (n / 2) + 1 := by
  unfold bl
  rw [if_neg (by omega), Nat.log2_def]
  split
  · rw [if_neg (by omega)]
  · rw [if_pos (by omega)]

/-- What FloParse makes of the parts. -/
def fpW (S m x : Int) (L : Nat) : Int × Bool :=
  if 1023 < wrap64 (wrap64 (x + (L : Int)) - 1) ∨ x < -1074 then (0, false)
  else if -1022 ≤ wrap64 (wrap64 (x + (L : Int)) - 1) then
    (bits .or .u64 (bits .or .u64 S ((wrap64 (wrap64 (x + (L : Int)) - 1) + 1023) * 4503599627370496)) (bits .and .u64 (IntKind.u64.wrap (m * 2 ^ min (IntKind.u64.wrap (53 - (L : Int))).toNat 64)) 4503599627370495), true)
  else (bits .or .u64 S (IntKind.u64.wrap (m * 2 ^ min (IntKind.u64.wrap (wrap64 (x + 1074))).toNat 64)), true)

theorem fpW_out (S : Int) {m x : Int} {L : Nat} (h : 1023 < wrap64 (wrap64 (x + (L : Int)) - 1) ∨ x < -1074) : fpW S m x L = (0, false) := if_pos h
theorem fpW_up (S : Int) {m x : Int} {L : Nat} (h : ¬ (1023 < wrap64 (wrap64 (x + (L : Int)) - 1) ∨ x < -1074)) (h2 : -1022 ≤ wrap64 (wrap64 (x + (L : Int)) - 1)) :
    fpW S m x L = (bits .or .u64 (bits .or .u64 S ((wrap64 (wrap64 (x + (L : Int)) - 1) + 1023) * 4503599627370496)) (bits .and .u64 (IntKind.u64.wrap (m * 2 ^ min (IntKind.u64.wrap (53 - (L : Int))).toNat 64)) 4503599627370495), true) := by
  unfold fpW
  rw [if_neg h, if_pos h2]
theorem fpW_low (S : Int) {m x : Int} {L : Nat} (h : ¬ (1023 < wrap64 (wrap64 (x + (L : Int)) - 1) ∨ x < -1074)) (h2 : ¬ -1022 ≤ wrap64 (wrap64 (x + (L : Int)) - 1)) :
    fpW S m x L = (bits .or .u64 S (IntKind.u64.wrap (m * 2 ^ min (IntKind.u64.wrap (wrap64 (x + 1074))).toNat 64)), true) := by
  unfold fpW
  rw [if_neg h, if_neg h2]

abbrev NoneP (s : ByteArray) : Prop := ∀ w : World, Calls Tryd.prog 13 #[.string s] w fun e w' => e = .returned (.tuple #[.int .u64 0, .bool false]) ∧ w' = w
abbrev SomeP (s : ByteArray) (V : Int) : Prop := ∀ w : World, Calls Tryd.prog 13 #[.string s] w fun e w' => e = .returned (.tuple #[.int .u64 V, .bool true]) ∧ w' = w
abbrev Digs (s : ByteArray) (k n : Int) (b : Bool) : Prop := ∀ w : World, Calls Tryd.prog 32 #[.string s, .int .i64 k] w fun e w' => e = .returned (.tuple #[.int .i64 n, .bool b]) ∧ w' = w

theorem fparse_nan (s : ByteArray) (h : (s.toList == [110, 97, 110]) = true) : SomeP s 9221120237041090560 := by
  intro w
  go_enter Tryd.func13, Tryd.ntmps13
  go_wp2
  go_ret2
  exact ⟨rfl, rfl⟩
theorem fparse_empty (s : ByteArray) (h : (s.toList == [110, 97, 110]) = false) (h0 : (s.toList == []) = true) (hs : s.size = 0) (hinf : (s.toList == [105, 110, 102]) = false) (hz : (s.toList == [48, 112, 48]) = false) : NoneP s := by
  intro w
  go_enter Tryd.func13, Tryd.ntmps13
  go_wp2
  go_loop [6] (fun a => a = .int .i64 0) (fun _ => 0)
  case atStart => rfl
  case round =>
    obtain rfl := hrel
    go_wp2
    go_ret2
    exact ⟨rfl, rfl⟩

theorem fparse_inf_n (s t : ByteArray) (hnan : (s.toList == [110, 97, 110]) = false) (h0 : (s.toList == []) = false) (hp : 0 < s.size) (h45 : (s[0].toNat : Int) = 45) (hT : s.extract 1 s.size = t) (hinf : (t.toList == [105, 110, 102]) = true) : SomeP s (bits .or .u64 9223372036854775808 9218868437227405312) := by
  intro w
  go_enter Tryd.func13, Tryd.ntmps13
  go_wp2
  go_ret2
  exact ⟨rfl, rfl⟩
theorem fparse_zero_n (s t : ByteArray) (hnan : (s.toList == [110, 97, 110]) = false) (h0 : (s.toList == []) = false) (hp : 0 < s.size) (h45 : (s[0].toNat : Int) = 45) (hT : s.extract 1 s.size = t) (hinf : (t.toList == [105, 110, 102]) = false) (hz : (t.toList == [48, 112, 48]) = true) : SomeP s 9223372036854775808 := by
  intro w
  go_enter Tryd.func13, Tryd.ntmps13
  go_wp2
  go_ret2
  exact ⟨rfl, rfl⟩
theorem fparse_nop_n (s t : ByteArray) (hnan : (s.toList == [110, 97, 110]) = false) (h0 : (s.toList == []) = false) (hp : 0 < s.size) (h45 : (s[0].toNat : Int) = 45) (hT : s.extract 1 s.size = t) (hinf : (t.toList == [105, 110, 102]) = false) (hz : (t.toList == [48, 112, 48]) = false) (hts : t.size ≤ 1000) (hnp : ∀ i (h : i < t.size), ¬ (t[i].toNat : Int) = 112) : NoneP s := by
  intro w
  go_enter Tryd.func13, Tryd.ntmps13
  go_wp2
  go_loop [6] (fun a => ∃ k : Nat, a = .int .i64 (k : Int) ∧ k ≤ t.size) (fun a => t.size - (RowKit.intOf a).toNat)
  case atStart => exact ⟨0, rfl, Nat.zero_le _⟩
  case round =>
    obtain ⟨k, rfl, hk⟩ := hrel
    by_cases hkp : k < t.size
    · have hc : ¬ (t[k].toNat : Int) = 112 := hnp k hkp
      go_wp2
      go_round
      case rel => exact ⟨k + 1, rfl, by omega⟩
      case measure => simp [RowKit.intOf]; omega
    · go_wp2
      go_ret2
      exact ⟨rfl, rfl⟩

theorem fparse_bad_nn (s t : ByteArray) (hnan : (s.toList == [110, 97, 110]) = false) (h0 : (s.toList == []) = false) (hp : 0 < s.size) (h45 : (s[0].toNat : Int) = 45) (hT : s.extract 1 s.size = t) (hinf : (t.toList == [105, 110, 102]) = false) (hz : (t.toList == [48, 112, 48]) = false) (hts : t.size ≤ 1000) (D rest r2 : ByteArray) (p : Nat) (hpt : p < t.size) (hnp : ∀ i (h : i < p), ¬ (t[i].toNat : Int) = 112) (h112 : (t[p].toNat : Int) = 112) (hD : t.extract 0 p = D) (hR : t.extract (p + 1) t.size = rest) (hr0 : (rest.toList == []) = false) (hrp : 0 < rest.size) (hr45 : (rest[0].toNat : Int) = 45) (hR2 : rest.extract 1 rest.size = r2) (m e : Int) (is has : Bool) (hm0 : 0 ≤ m) (hm : Digs D 16 m is) (he : Digs r2 4 e has)
    (hbad : is = false ∨ has = false ∨ m % 2 = 0 ∨ 9007199254740992 ≤ m ∨ e = 0) : NoneP s := by
  intro w
  cases is <;> cases has
  · clear hbad
    go_enter Tryd.func13, Tryd.ntmps13
    go_wp2
    go_loop [6] (fun a => ∃ k : Nat, a = .int .i64 (k : Int) ∧ k ≤ p) (fun a => p - (RowKit.intOf a).toNat)
    case atStart => exact ⟨0, rfl, Nat.zero_le _⟩
    case round =>
      obtain ⟨k, rfl, hk⟩ := hrel
      by_cases hkp : k < p
      · have hc : ¬ (t[k].toNat : Int) = 112 := hnp k hkp
        have hkt : k < t.size := by omega
        go_wp2
        go_round
        case rel => exact ⟨k + 1, rfl, by omega⟩
        case measure => simp [RowKit.intOf]; omega
      · obtain rfl : k = p := by omega
        go_wp2_with (first
          | (go_at_call 32; with_reducible refine (hm _).mono ?_; rintro e' w1 ⟨rfl, rfl⟩)
          | (go_at_call 32; with_reducible refine (he _).mono ?_; rintro e' w1 ⟨rfl, rfl⟩))
        all_goals
        · go_ret2
          exact ⟨rfl, rfl⟩
  · clear hbad
    go_enter Tryd.func13, Tryd.ntmps13
    go_wp2
    go_loop [6] (fun a => ∃ k : Nat, a = .int .i64 (k : Int) ∧ k ≤ p) (fun a => p - (RowKit.intOf a).toNat)
    case atStart => exact ⟨0, rfl, Nat.zero_le _⟩
    case round =>
      obtain ⟨k, rfl, hk⟩ := hrel
      by_cases hkp : k < p
      · have hc : ¬ (t[k].toNat : Int) = 112 := hnp k hkp
        have hkt : k < t.size := by omega
        go_wp2
        go_round
        case rel => exact ⟨k + 1, rfl, by omega⟩
        case measure => simp [RowKit.intOf]; omega
      · obtain rfl : k = p := by omega
        go_wp2_with (first
          | (go_at_call 32; with_reducible refine (hm _).mono ?_; rintro e' w1 ⟨rfl, rfl⟩)
          | (go_at_call 32; with_reducible refine (he _).mono ?_; rintro e' w1 ⟨rfl, rfl⟩))
        all_goals
        · go_ret2
          exact ⟨rfl, rfl⟩
  · clear hbad
    go_enter Tryd.func13, Tryd.ntmps13
    go_wp2
    go_loop [6] (fun a => ∃ k : Nat, a = .int .i64 (k : Int) ∧ k ≤ p) (fun a => p - (RowKit.intOf a).toNat)
    case atStart => exact ⟨0, rfl, Nat.zero_le _⟩
    case round =>
      obtain ⟨k, rfl, hk⟩ := hrel
      by_cases hkp : k < p
      · have hc : ¬ (t[k].toNat : Int) = 112 := hnp k hkp
        have hkt : k < t.size := by omega
        go_wp2
        go_round
        case rel => exact ⟨k + 1, rfl, by omega⟩
        case measure => simp [RowKit.intOf]; omega
      · obtain rfl : k = p := by omega
        go_wp2_with (first
          | (go_at_call 32; with_reducible refine (hm _).mono ?_; rintro e' w1 ⟨rfl, rfl⟩)
          | (go_at_call 32; with_reducible refine (he _).mono ?_; rintro e' w1 ⟨rfl, rfl⟩))
        all_goals
        · go_ret2
          exact ⟨rfl, rfl⟩
  · have hbad2 : m % 2 = 0 ∨ 9007199254740992 ≤ m ∨ e = 0 := by simpa using hbad
    go_enter Tryd.func13, Tryd.ntmps13
    go_wp2
    go_loop [6] (fun a => ∃ k : Nat, a = .int .i64 (k : Int) ∧ k ≤ p) (fun a => p - (RowKit.intOf a).toNat)
    case atStart => exact ⟨0, rfl, Nat.zero_le _⟩
    case round =>
      obtain ⟨k, rfl, hk⟩ := hrel
      by_cases hkp : k < p
      · have hc : ¬ (t[k].toNat : Int) = 112 := hnp k hkp
        have hkt : k < t.size := by omega
        go_wp2
        go_round
        case rel => exact ⟨k + 1, rfl, by omega⟩
        case measure => simp [RowKit.intOf]; omega
      · obtain rfl : k = p := by omega
        go_wp2_with (first
          | (go_at_call 32; with_reducible refine (hm _).mono ?_; rintro e' w1 ⟨rfl, rfl⟩)
          | (go_at_call 32; with_reducible refine (he _).mono ?_; rintro e' w1 ⟨rfl, rfl⟩))
        all_goals first
          | (go_ret2
             exact ⟨rfl, rfl⟩)
          | (exfalso
             simp only [beq_eq_false_iff_ne] at *
             omega)

theorem fparse_good_nn (s t : ByteArray) (hnan : (s.toList == [110, 97, 110]) = false) (h0 : (s.toList == []) = false) (hp : 0 < s.size) (h45 : (s[0].toNat : Int) = 45) (hT : s.extract 1 s.size = t) (hinf : (t.toList == [105, 110, 102]) = false) (hz : (t.toList == [48, 112, 48]) = false) (hts : t.size ≤ 1000) (D rest r2 : ByteArray) (p : Nat) (hpt : p < t.size) (hnp : ∀ i (h : i < p), ¬ (t[i].toNat : Int) = 112) (h112 : (t[p].toNat : Int) = 112) (hD : t.extract 0 p = D) (hR : t.extract (p + 1) t.size = rest) (hr0 : (rest.toList == []) = false) (hrp : 0 < rest.size) (hr45 : (rest[0].toNat : Int) = 45) (hR2 : rest.extract 1 rest.size = r2) (m e x : Int) (_ : ¬ m % 2 = 0) (hr2b : (m % 2 == 0) = false) (hmx : m < 9007199254740992) (hm0 : 0 ≤ m) (hx : wrap64 (-e) = x) (_ : ¬ e = 0) (he0b : (e == 0) = false) (hm : Digs D 16 m true) (he : Digs r2 4 e true) (hL : bl m.toNat ≤ 60) (w : World) :
    Calls Tryd.prog 13 #[.string s] w fun e' w' => e' = .returned (.tuple #[.int .u64 (fpW 9223372036854775808 m x (bl m.toNat)).1, .bool (fpW 9223372036854775808 m x (bl m.toNat)).2]) ∧ w' = w := by
  go_enter Tryd.func13, Tryd.ntmps13
  go_wp2
  go_loop [6] (fun a => ∃ k : Nat, a = .int .i64 (k : Int) ∧ k ≤ p) (fun a => p - (RowKit.intOf a).toNat)
  case atStart => exact ⟨0, rfl, Nat.zero_le _⟩
  case round =>
    obtain ⟨k, rfl, hk⟩ := hrel
    by_cases hkp : k < p
    · have hc : ¬ (t[k].toNat : Int) = 112 := hnp k hkp
      have hkt : k < t.size := by omega
      go_wp2
      go_round
      case rel => exact ⟨k + 1, rfl, by omega⟩
      case measure => simp [RowKit.intOf]; omega
    · obtain rfl : k = p := by omega
      go_wp2_with (first
        | (go_at_call 32; with_reducible refine (hm _).mono ?_; rintro e' w1 ⟨rfl, rfl⟩)
        | (go_at_call 32; with_reducible refine (he _).mono ?_; rintro e' w1 ⟨rfl, rfl⟩))
      go_loop [13, 14] (fun l q => ∃ (j : Nat) (k : Int), l = .int .i64 (j : Int) ∧ q = .int .i64 k ∧ 0 ≤ k ∧ k ≤ m ∧ bl k.toNat + j = bl m.toNat) (fun _ q => (RowKit.intOf q).toNat)
      case atStart => exact ⟨0, m, rfl, rfl, hm0, Int.le_refl _, rfl⟩
      case round =>
        obtain ⟨j, q, rfl, rfl, hq, hqm, hb⟩ := hrel
        by_cases hq0 : 0 < q
        · have hb2 : bl q.toNat = bl (q / 2).toNat + 1 := by
            rw [bl_half (n := q.toNat) (by omega)]
            congr 2
            omega
          have hj : j ≤ 60 := by omega
          go_wp2
          go_round
          case rel => exact ⟨j + 1, q / 2, rfl, rfl, by omega, by omega, by omega⟩
          case measure => simp [RowKit.intOf]; omega
        · obtain rfl : q = 0 := by omega
          obtain rfl : j = bl m.toNat := by
            have : bl (0 : Int).toNat = 0 := rfl
            omega
          go_wp2
          all_goals
          · go_ret2
            refine ⟨?_, rfl⟩
            first
              | (rw [fpW_out _ (by omega)]; rfl)
              | (rw [fpW_up _ (by omega) (by omega)]; rfl)
              | (rw [fpW_low _ (by omega) (by omega)]; rfl)

theorem fparse_bad_np (s t : ByteArray) (hnan : (s.toList == [110, 97, 110]) = false) (h0 : (s.toList == []) = false) (hp : 0 < s.size) (h45 : (s[0].toNat : Int) = 45) (hT : s.extract 1 s.size = t) (hinf : (t.toList == [105, 110, 102]) = false) (hz : (t.toList == [48, 112, 48]) = false) (hts : t.size ≤ 1000) (D rest : ByteArray) (p : Nat) (hpt : p < t.size) (hnp : ∀ i (h : i < p), ¬ (t[i].toNat : Int) = 112) (h112 : (t[p].toNat : Int) = 112) (hD : t.extract 0 p = D) (hR : t.extract (p + 1) t.size = rest) (hr0 : (rest.toList == []) = false) (hrp : 0 < rest.size) (hr45 : ¬ (rest[0].toNat : Int) = 45) (m e : Int) (is has : Bool) (hm0 : 0 ≤ m) (hm : Digs D 16 m is) (he : Digs rest 4 e has)
    (hbad : is = false ∨ has = false ∨ m % 2 = 0 ∨ 9007199254740992 ≤ m) : NoneP s := by
  intro w
  cases is <;> cases has
  · clear hbad
    go_enter Tryd.func13, Tryd.ntmps13
    go_wp2
    go_loop [6] (fun a => ∃ k : Nat, a = .int .i64 (k : Int) ∧ k ≤ p) (fun a => p - (RowKit.intOf a).toNat)
    case atStart => exact ⟨0, rfl, Nat.zero_le _⟩
    case round =>
      obtain ⟨k, rfl, hk⟩ := hrel
      by_cases hkp : k < p
      · have hc : ¬ (t[k].toNat : Int) = 112 := hnp k hkp
        have hkt : k < t.size := by omega
        go_wp2
        go_round
        case rel => exact ⟨k + 1, rfl, by omega⟩
        case measure => simp [RowKit.intOf]; omega
      · obtain rfl : k = p := by omega
        go_wp2_with (first
          | (go_at_call 32; with_reducible refine (hm _).mono ?_; rintro e' w1 ⟨rfl, rfl⟩)
          | (go_at_call 32; with_reducible refine (he _).mono ?_; rintro e' w1 ⟨rfl, rfl⟩))
        all_goals
        · go_ret2
          exact ⟨rfl, rfl⟩
  · clear hbad
    go_enter Tryd.func13, Tryd.ntmps13
    go_wp2
    go_loop [6] (fun a => ∃ k : Nat, a = .int .i64 (k : Int) ∧ k ≤ p) (fun a => p - (RowKit.intOf a).toNat)
    case atStart => exact ⟨0, rfl, Nat.zero_le _⟩
    case round =>
      obtain ⟨k, rfl, hk⟩ := hrel
      by_cases hkp : k < p
      · have hc : ¬ (t[k].toNat : Int) = 112 := hnp k hkp
        have hkt : k < t.size := by omega
        go_wp2
        go_round
        case rel => exact ⟨k + 1, rfl, by omega⟩
        case measure => simp [RowKit.intOf]; omega
      · obtain rfl : k = p := by omega
        go_wp2_with (first
          | (go_at_call 32; with_reducible refine (hm _).mono ?_; rintro e' w1 ⟨rfl, rfl⟩)
          | (go_at_call 32; with_reducible refine (he _).mono ?_; rintro e' w1 ⟨rfl, rfl⟩))
        all_goals
        · go_ret2
          exact ⟨rfl, rfl⟩
  · clear hbad
    go_enter Tryd.func13, Tryd.ntmps13
    go_wp2
    go_loop [6] (fun a => ∃ k : Nat, a = .int .i64 (k : Int) ∧ k ≤ p) (fun a => p - (RowKit.intOf a).toNat)
    case atStart => exact ⟨0, rfl, Nat.zero_le _⟩
    case round =>
      obtain ⟨k, rfl, hk⟩ := hrel
      by_cases hkp : k < p
      · have hc : ¬ (t[k].toNat : Int) = 112 := hnp k hkp
        have hkt : k < t.size := by omega
        go_wp2
        go_round
        case rel => exact ⟨k + 1, rfl, by omega⟩
        case measure => simp [RowKit.intOf]; omega
      · obtain rfl : k = p := by omega
        go_wp2_with (first
          | (go_at_call 32; with_reducible refine (hm _).mono ?_; rintro e' w1 ⟨rfl, rfl⟩)
          | (go_at_call 32; with_reducible refine (he _).mono ?_; rintro e' w1 ⟨rfl, rfl⟩))
        all_goals
        · go_ret2
          exact ⟨rfl, rfl⟩
  · have hbad2 : m % 2 = 0 ∨ 9007199254740992 ≤ m := by simpa using hbad
    go_enter Tryd.func13, Tryd.ntmps13
    go_wp2
    go_loop [6] (fun a => ∃ k : Nat, a = .int .i64 (k : Int) ∧ k ≤ p) (fun a => p - (RowKit.intOf a).toNat)
    case atStart => exact ⟨0, rfl, Nat.zero_le _⟩
    case round =>
      obtain ⟨k, rfl, hk⟩ := hrel
      by_cases hkp : k < p
      · have hc : ¬ (t[k].toNat : Int) = 112 := hnp k hkp
        have hkt : k < t.size := by omega
        go_wp2
        go_round
        case rel => exact ⟨k + 1, rfl, by omega⟩
        case measure => simp [RowKit.intOf]; omega
      · obtain rfl : k = p := by omega
        go_wp2_with (first
          | (go_at_call 32; with_reducible refine (hm _).mono ?_; rintro e' w1 ⟨rfl, rfl⟩)
          | (go_at_call 32; with_reducible refine (he _).mono ?_; rintro e' w1 ⟨rfl, rfl⟩))
        all_goals first
          | (go_ret2
             exact ⟨rfl, rfl⟩)
          | (exfalso
             simp only [beq_iff_eq, beq_eq_false_iff_ne] at *
             omega)

theorem fparse_good_np (s t : ByteArray) (hnan : (s.toList == [110, 97, 110]) = false) (h0 : (s.toList == []) = false) (hp : 0 < s.size) (h45 : (s[0].toNat : Int) = 45) (hT : s.extract 1 s.size = t) (hinf : (t.toList == [105, 110, 102]) = false) (hz : (t.toList == [48, 112, 48]) = false) (hts : t.size ≤ 1000) (D rest : ByteArray) (p : Nat) (hpt : p < t.size) (hnp : ∀ i (h : i < p), ¬ (t[i].toNat : Int) = 112) (h112 : (t[p].toNat : Int) = 112) (hD : t.extract 0 p = D) (hR : t.extract (p + 1) t.size = rest) (hr0 : (rest.toList == []) = false) (hrp : 0 < rest.size) (hr45 : ¬ (rest[0].toNat : Int) = 45) (m x : Int) (_ : ¬ m % 2 = 0) (hr2b : (m % 2 == 0) = false) (hmx : m < 9007199254740992) (hm0 : 0 ≤ m)  (hm : Digs D 16 m true) (he : Digs rest 4 x true) (hL : bl m.toNat ≤ 60) (w : World) :
    Calls Tryd.prog 13 #[.string s] w fun e' w' => e' = .returned (.tuple #[.int .u64 (fpW 9223372036854775808 m x (bl m.toNat)).1, .bool (fpW 9223372036854775808 m x (bl m.toNat)).2]) ∧ w' = w := by
  go_enter Tryd.func13, Tryd.ntmps13
  go_wp2
  go_loop [6] (fun a => ∃ k : Nat, a = .int .i64 (k : Int) ∧ k ≤ p) (fun a => p - (RowKit.intOf a).toNat)
  case atStart => exact ⟨0, rfl, Nat.zero_le _⟩
  case round =>
    obtain ⟨k, rfl, hk⟩ := hrel
    by_cases hkp : k < p
    · have hc : ¬ (t[k].toNat : Int) = 112 := hnp k hkp
      have hkt : k < t.size := by omega
      go_wp2
      go_round
      case rel => exact ⟨k + 1, rfl, by omega⟩
      case measure => simp [RowKit.intOf]; omega
    · obtain rfl : k = p := by omega
      go_wp2_with (first
        | (go_at_call 32; with_reducible refine (hm _).mono ?_; rintro e' w1 ⟨rfl, rfl⟩)
        | (go_at_call 32; with_reducible refine (he _).mono ?_; rintro e' w1 ⟨rfl, rfl⟩))
      go_loop [13, 14] (fun l q => ∃ (j : Nat) (k : Int), l = .int .i64 (j : Int) ∧ q = .int .i64 k ∧ 0 ≤ k ∧ k ≤ m ∧ bl k.toNat + j = bl m.toNat) (fun _ q => (RowKit.intOf q).toNat)
      case atStart => exact ⟨0, m, rfl, rfl, hm0, Int.le_refl _, rfl⟩
      case round =>
        obtain ⟨j, q, rfl, rfl, hq, hqm, hb⟩ := hrel
        by_cases hq0 : 0 < q
        · have hb2 : bl q.toNat = bl (q / 2).toNat + 1 := by
            rw [bl_half (n := q.toNat) (by omega)]
            congr 2
            omega
          have hj : j ≤ 60 := by omega
          go_wp2
          go_round
          case rel => exact ⟨j + 1, q / 2, rfl, rfl, by omega, by omega, by omega⟩
          case measure => simp [RowKit.intOf]; omega
        · obtain rfl : q = 0 := by omega
          obtain rfl : j = bl m.toNat := by
            have : bl (0 : Int).toNat = 0 := rfl
            omega
          go_wp2
          all_goals
          · go_ret2
            refine ⟨?_, rfl⟩
            first
              | (rw [fpW_out _ (by omega)]; rfl)
              | (rw [fpW_up _ (by omega) (by omega)]; rfl)
              | (rw [fpW_low _ (by omega) (by omega)]; rfl)

theorem fparse_bad_ne (s t : ByteArray) (hnan : (s.toList == [110, 97, 110]) = false) (h0 : (s.toList == []) = false) (hp : 0 < s.size) (h45 : (s[0].toNat : Int) = 45) (hT : s.extract 1 s.size = t) (hinf : (t.toList == [105, 110, 102]) = false) (hz : (t.toList == [48, 112, 48]) = false) (hts : t.size ≤ 1000) (D rest : ByteArray) (p : Nat) (hpt : p < t.size) (hnp : ∀ i (h : i < p), ¬ (t[i].toNat : Int) = 112) (h112 : (t[p].toNat : Int) = 112) (hD : t.extract 0 p = D) (hR : t.extract (p + 1) t.size = rest) (hr0 : (rest.toList == []) = true) (m e : Int) (is has : Bool) (hm0 : 0 ≤ m) (hm : Digs D 16 m is) (he : Digs rest 4 e has)
    (hbad : is = false ∨ has = false ∨ m % 2 = 0 ∨ 9007199254740992 ≤ m) : NoneP s := by
  intro w
  cases is <;> cases has
  · clear hbad
    go_enter Tryd.func13, Tryd.ntmps13
    go_wp2
    go_loop [6] (fun a => ∃ k : Nat, a = .int .i64 (k : Int) ∧ k ≤ p) (fun a => p - (RowKit.intOf a).toNat)
    case atStart => exact ⟨0, rfl, Nat.zero_le _⟩
    case round =>
      obtain ⟨k, rfl, hk⟩ := hrel
      by_cases hkp : k < p
      · have hc : ¬ (t[k].toNat : Int) = 112 := hnp k hkp
        have hkt : k < t.size := by omega
        go_wp2
        go_round
        case rel => exact ⟨k + 1, rfl, by omega⟩
        case measure => simp [RowKit.intOf]; omega
      · obtain rfl : k = p := by omega
        go_wp2_with (first
          | (go_at_call 32; with_reducible refine (hm _).mono ?_; rintro e' w1 ⟨rfl, rfl⟩)
          | (go_at_call 32; with_reducible refine (he _).mono ?_; rintro e' w1 ⟨rfl, rfl⟩))
        all_goals
        · go_ret2
          exact ⟨rfl, rfl⟩
  · clear hbad
    go_enter Tryd.func13, Tryd.ntmps13
    go_wp2
    go_loop [6] (fun a => ∃ k : Nat, a = .int .i64 (k : Int) ∧ k ≤ p) (fun a => p - (RowKit.intOf a).toNat)
    case atStart => exact ⟨0, rfl, Nat.zero_le _⟩
    case round =>
      obtain ⟨k, rfl, hk⟩ := hrel
      by_cases hkp : k < p
      · have hc : ¬ (t[k].toNat : Int) = 112 := hnp k hkp
        have hkt : k < t.size := by omega
        go_wp2
        go_round
        case rel => exact ⟨k + 1, rfl, by omega⟩
        case measure => simp [RowKit.intOf]; omega
      · obtain rfl : k = p := by omega
        go_wp2_with (first
          | (go_at_call 32; with_reducible refine (hm _).mono ?_; rintro e' w1 ⟨rfl, rfl⟩)
          | (go_at_call 32; with_reducible refine (he _).mono ?_; rintro e' w1 ⟨rfl, rfl⟩))
        all_goals
        · go_ret2
          exact ⟨rfl, rfl⟩
  · clear hbad
    go_enter Tryd.func13, Tryd.ntmps13
    go_wp2
    go_loop [6] (fun a => ∃ k : Nat, a = .int .i64 (k : Int) ∧ k ≤ p) (fun a => p - (RowKit.intOf a).toNat)
    case atStart => exact ⟨0, rfl, Nat.zero_le _⟩
    case round =>
      obtain ⟨k, rfl, hk⟩ := hrel
      by_cases hkp : k < p
      · have hc : ¬ (t[k].toNat : Int) = 112 := hnp k hkp
        have hkt : k < t.size := by omega
        go_wp2
        go_round
        case rel => exact ⟨k + 1, rfl, by omega⟩
        case measure => simp [RowKit.intOf]; omega
      · obtain rfl : k = p := by omega
        go_wp2_with (first
          | (go_at_call 32; with_reducible refine (hm _).mono ?_; rintro e' w1 ⟨rfl, rfl⟩)
          | (go_at_call 32; with_reducible refine (he _).mono ?_; rintro e' w1 ⟨rfl, rfl⟩))
        all_goals
        · go_ret2
          exact ⟨rfl, rfl⟩
  · have hbad2 : m % 2 = 0 ∨ 9007199254740992 ≤ m := by simpa using hbad
    go_enter Tryd.func13, Tryd.ntmps13
    go_wp2
    go_loop [6] (fun a => ∃ k : Nat, a = .int .i64 (k : Int) ∧ k ≤ p) (fun a => p - (RowKit.intOf a).toNat)
    case atStart => exact ⟨0, rfl, Nat.zero_le _⟩
    case round =>
      obtain ⟨k, rfl, hk⟩ := hrel
      by_cases hkp : k < p
      · have hc : ¬ (t[k].toNat : Int) = 112 := hnp k hkp
        have hkt : k < t.size := by omega
        go_wp2
        go_round
        case rel => exact ⟨k + 1, rfl, by omega⟩
        case measure => simp [RowKit.intOf]; omega
      · obtain rfl : k = p := by omega
        go_wp2_with (first
          | (go_at_call 32; with_reducible refine (hm _).mono ?_; rintro e' w1 ⟨rfl, rfl⟩)
          | (go_at_call 32; with_reducible refine (he _).mono ?_; rintro e' w1 ⟨rfl, rfl⟩))
        all_goals first
          | (go_ret2
             exact ⟨rfl, rfl⟩)
          | (exfalso
             simp only [beq_iff_eq, beq_eq_false_iff_ne] at *
             omega)

theorem fparse_inf_p (t : ByteArray) (hnan : (t.toList == [110, 97, 110]) = false) (h0 : (t.toList == []) = false) (hp : 0 < t.size) (h45 : ¬ (t[0].toNat : Int) = 45) (hinf : (t.toList == [105, 110, 102]) = true) : SomeP t (bits .or .u64 0 9218868437227405312) := by
  intro w
  go_enter Tryd.func13, Tryd.ntmps13
  go_wp2
  go_ret2
  exact ⟨rfl, rfl⟩
theorem fparse_zero_p (t : ByteArray) (hnan : (t.toList == [110, 97, 110]) = false) (h0 : (t.toList == []) = false) (hp : 0 < t.size) (h45 : ¬ (t[0].toNat : Int) = 45) (hinf : (t.toList == [105, 110, 102]) = false) (hz : (t.toList == [48, 112, 48]) = true) : SomeP t 0 := by
  intro w
  go_enter Tryd.func13, Tryd.ntmps13
  go_wp2
  go_ret2
  exact ⟨rfl, rfl⟩
theorem fparse_nop_p (t : ByteArray) (hnan : (t.toList == [110, 97, 110]) = false) (h0 : (t.toList == []) = false) (hp : 0 < t.size) (h45 : ¬ (t[0].toNat : Int) = 45) (hinf : (t.toList == [105, 110, 102]) = false) (hz : (t.toList == [48, 112, 48]) = false) (hts : t.size ≤ 1000) (hnp : ∀ i (h : i < t.size), ¬ (t[i].toNat : Int) = 112) : NoneP t := by
  intro w
  go_enter Tryd.func13, Tryd.ntmps13
  go_wp2
  go_loop [6] (fun a => ∃ k : Nat, a = .int .i64 (k : Int) ∧ k ≤ t.size) (fun a => t.size - (RowKit.intOf a).toNat)
  case atStart => exact ⟨0, rfl, Nat.zero_le _⟩
  case round =>
    obtain ⟨k, rfl, hk⟩ := hrel
    by_cases hkp : k < t.size
    · have hc : ¬ (t[k].toNat : Int) = 112 := hnp k hkp
      go_wp2
      go_round
      case rel => exact ⟨k + 1, rfl, by omega⟩
      case measure => simp [RowKit.intOf]; omega
    · go_wp2
      go_ret2
      exact ⟨rfl, rfl⟩

theorem fparse_bad_pn (t : ByteArray) (hnan : (t.toList == [110, 97, 110]) = false) (h0 : (t.toList == []) = false) (hp : 0 < t.size) (h45 : ¬ (t[0].toNat : Int) = 45) (hinf : (t.toList == [105, 110, 102]) = false) (hz : (t.toList == [48, 112, 48]) = false) (hts : t.size ≤ 1000) (D rest r2 : ByteArray) (p : Nat) (hpt : p < t.size) (hnp : ∀ i (h : i < p), ¬ (t[i].toNat : Int) = 112) (h112 : (t[p].toNat : Int) = 112) (hD : t.extract 0 p = D) (hR : t.extract (p + 1) t.size = rest) (hr0 : (rest.toList == []) = false) (hrp : 0 < rest.size) (hr45 : (rest[0].toNat : Int) = 45) (hR2 : rest.extract 1 rest.size = r2) (m e : Int) (is has : Bool) (hm0 : 0 ≤ m) (hm : Digs D 16 m is) (he : Digs r2 4 e has)
    (hbad : is = false ∨ has = false ∨ m % 2 = 0 ∨ 9007199254740992 ≤ m ∨ e = 0) : NoneP t := by
  intro w
  cases is <;> cases has
  · clear hbad
    go_enter Tryd.func13, Tryd.ntmps13
    go_wp2
    go_loop [6] (fun a => ∃ k : Nat, a = .int .i64 (k : Int) ∧ k ≤ p) (fun a => p - (RowKit.intOf a).toNat)
    case atStart => exact ⟨0, rfl, Nat.zero_le _⟩
    case round =>
      obtain ⟨k, rfl, hk⟩ := hrel
      by_cases hkp : k < p
      · have hc : ¬ (t[k].toNat : Int) = 112 := hnp k hkp
        have hkt : k < t.size := by omega
        go_wp2
        go_round
        case rel => exact ⟨k + 1, rfl, by omega⟩
        case measure => simp [RowKit.intOf]; omega
      · obtain rfl : k = p := by omega
        go_wp2_with (first
          | (go_at_call 32; with_reducible refine (hm _).mono ?_; rintro e' w1 ⟨rfl, rfl⟩)
          | (go_at_call 32; with_reducible refine (he _).mono ?_; rintro e' w1 ⟨rfl, rfl⟩))
        all_goals
        · go_ret2
          exact ⟨rfl, rfl⟩
  · clear hbad
    go_enter Tryd.func13, Tryd.ntmps13
    go_wp2
    go_loop [6] (fun a => ∃ k : Nat, a = .int .i64 (k : Int) ∧ k ≤ p) (fun a => p - (RowKit.intOf a).toNat)
    case atStart => exact ⟨0, rfl, Nat.zero_le _⟩
    case round =>
      obtain ⟨k, rfl, hk⟩ := hrel
      by_cases hkp : k < p
      · have hc : ¬ (t[k].toNat : Int) = 112 := hnp k hkp
        have hkt : k < t.size := by omega
        go_wp2
        go_round
        case rel => exact ⟨k + 1, rfl, by omega⟩
        case measure => simp [RowKit.intOf]; omega
      · obtain rfl : k = p := by omega
        go_wp2_with (first
          | (go_at_call 32; with_reducible refine (hm _).mono ?_; rintro e' w1 ⟨rfl, rfl⟩)
          | (go_at_call 32; with_reducible refine (he _).mono ?_; rintro e' w1 ⟨rfl, rfl⟩))
        all_goals
        · go_ret2
          exact ⟨rfl, rfl⟩
  · clear hbad
    go_enter Tryd.func13, Tryd.ntmps13
    go_wp2
    go_loop [6] (fun a => ∃ k : Nat, a = .int .i64 (k : Int) ∧ k ≤ p) (fun a => p - (RowKit.intOf a).toNat)
    case atStart => exact ⟨0, rfl, Nat.zero_le _⟩
    case round =>
      obtain ⟨k, rfl, hk⟩ := hrel
      by_cases hkp : k < p
      · have hc : ¬ (t[k].toNat : Int) = 112 := hnp k hkp
        have hkt : k < t.size := by omega
        go_wp2
        go_round
        case rel => exact ⟨k + 1, rfl, by omega⟩
        case measure => simp [RowKit.intOf]; omega
      · obtain rfl : k = p := by omega
        go_wp2_with (first
          | (go_at_call 32; with_reducible refine (hm _).mono ?_; rintro e' w1 ⟨rfl, rfl⟩)
          | (go_at_call 32; with_reducible refine (he _).mono ?_; rintro e' w1 ⟨rfl, rfl⟩))
        all_goals
        · go_ret2
          exact ⟨rfl, rfl⟩
  · have hbad2 : m % 2 = 0 ∨ 9007199254740992 ≤ m ∨ e = 0 := by simpa using hbad
    go_enter Tryd.func13, Tryd.ntmps13
    go_wp2
    go_loop [6] (fun a => ∃ k : Nat, a = .int .i64 (k : Int) ∧ k ≤ p) (fun a => p - (RowKit.intOf a).toNat)
    case atStart => exact ⟨0, rfl, Nat.zero_le _⟩
    case round =>
      obtain ⟨k, rfl, hk⟩ := hrel
      by_cases hkp : k < p
      · have hc : ¬ (t[k].toNat : Int) = 112 := hnp k hkp
        have hkt : k < t.size := by omega
        go_wp2
        go_round
        case rel => exact ⟨k + 1, rfl, by omega⟩
        case measure => simp [RowKit.intOf]; omega
      · obtain rfl : k = p := by omega
        go_wp2_with (first
          | (go_at_call 32; with_reducible refine (hm _).mono ?_; rintro e' w1 ⟨rfl, rfl⟩)
          | (go_at_call 32; with_reducible refine (he _).mono ?_; rintro e' w1 ⟨rfl, rfl⟩))
        all_goals first
          | (go_ret2
             exact ⟨rfl, rfl⟩)
          | (exfalso
             simp only [beq_eq_false_iff_ne] at *
             omega)

theorem fparse_good_pn (t : ByteArray) (hnan : (t.toList == [110, 97, 110]) = false) (h0 : (t.toList == []) = false) (hp : 0 < t.size) (h45 : ¬ (t[0].toNat : Int) = 45) (hinf : (t.toList == [105, 110, 102]) = false) (hz : (t.toList == [48, 112, 48]) = false) (hts : t.size ≤ 1000) (D rest r2 : ByteArray) (p : Nat) (hpt : p < t.size) (hnp : ∀ i (h : i < p), ¬ (t[i].toNat : Int) = 112) (h112 : (t[p].toNat : Int) = 112) (hD : t.extract 0 p = D) (hR : t.extract (p + 1) t.size = rest) (hr0 : (rest.toList == []) = false) (hrp : 0 < rest.size) (hr45 : (rest[0].toNat : Int) = 45) (hR2 : rest.extract 1 rest.size = r2) (m e x : Int) (_ : ¬ m % 2 = 0) (hr2b : (m % 2 == 0) = false) (hmx : m < 9007199254740992) (hm0 : 0 ≤ m) (hx : wrap64 (-e) = x) (_ : ¬ e = 0) (he0b : (e == 0) = false) (hm : Digs D 16 m true) (he : Digs r2 4 e true) (hL : bl m.toNat ≤ 60) (w : World) :
    Calls Tryd.prog 13 #[.string t] w fun e' w' => e' = .returned (.tuple #[.int .u64 (fpW 0 m x (bl m.toNat)).1, .bool (fpW 0 m x (bl m.toNat)).2]) ∧ w' = w := by
  go_enter Tryd.func13, Tryd.ntmps13
  go_wp2
  go_loop [6] (fun a => ∃ k : Nat, a = .int .i64 (k : Int) ∧ k ≤ p) (fun a => p - (RowKit.intOf a).toNat)
  case atStart => exact ⟨0, rfl, Nat.zero_le _⟩
  case round =>
    obtain ⟨k, rfl, hk⟩ := hrel
    by_cases hkp : k < p
    · have hc : ¬ (t[k].toNat : Int) = 112 := hnp k hkp
      have hkt : k < t.size := by omega
      go_wp2
      go_round
      case rel => exact ⟨k + 1, rfl, by omega⟩
      case measure => simp [RowKit.intOf]; omega
    · obtain rfl : k = p := by omega
      go_wp2_with (first
        | (go_at_call 32; with_reducible refine (hm _).mono ?_; rintro e' w1 ⟨rfl, rfl⟩)
        | (go_at_call 32; with_reducible refine (he _).mono ?_; rintro e' w1 ⟨rfl, rfl⟩))
      go_loop [13, 14] (fun l q => ∃ (j : Nat) (k : Int), l = .int .i64 (j : Int) ∧ q = .int .i64 k ∧ 0 ≤ k ∧ k ≤ m ∧ bl k.toNat + j = bl m.toNat) (fun _ q => (RowKit.intOf q).toNat)
      case atStart => exact ⟨0, m, rfl, rfl, hm0, Int.le_refl _, rfl⟩
      case round =>
        obtain ⟨j, q, rfl, rfl, hq, hqm, hb⟩ := hrel
        by_cases hq0 : 0 < q
        · have hb2 : bl q.toNat = bl (q / 2).toNat + 1 := by
            rw [bl_half (n := q.toNat) (by omega)]
            congr 2
            omega
          have hj : j ≤ 60 := by omega
          go_wp2
          go_round
          case rel => exact ⟨j + 1, q / 2, rfl, rfl, by omega, by omega, by omega⟩
          case measure => simp [RowKit.intOf]; omega
        · obtain rfl : q = 0 := by omega
          obtain rfl : j = bl m.toNat := by
            have : bl (0 : Int).toNat = 0 := rfl
            omega
          go_wp2
          all_goals
          · go_ret2
            refine ⟨?_, rfl⟩
            first
              | (rw [fpW_out _ (by omega)]; rfl)
              | (rw [fpW_up _ (by omega) (by omega)]; rfl)
              | (rw [fpW_low _ (by omega) (by omega)]; rfl)

theorem fparse_bad_pp (t : ByteArray) (hnan : (t.toList == [110, 97, 110]) = false) (h0 : (t.toList == []) = false) (hp : 0 < t.size) (h45 : ¬ (t[0].toNat : Int) = 45) (hinf : (t.toList == [105, 110, 102]) = false) (hz : (t.toList == [48, 112, 48]) = false) (hts : t.size ≤ 1000) (D rest : ByteArray) (p : Nat) (hpt : p < t.size) (hnp : ∀ i (h : i < p), ¬ (t[i].toNat : Int) = 112) (h112 : (t[p].toNat : Int) = 112) (hD : t.extract 0 p = D) (hR : t.extract (p + 1) t.size = rest) (hr0 : (rest.toList == []) = false) (hrp : 0 < rest.size) (hr45 : ¬ (rest[0].toNat : Int) = 45) (m e : Int) (is has : Bool) (hm0 : 0 ≤ m) (hm : Digs D 16 m is) (he : Digs rest 4 e has)
    (hbad : is = false ∨ has = false ∨ m % 2 = 0 ∨ 9007199254740992 ≤ m) : NoneP t := by
  intro w
  cases is <;> cases has
  · clear hbad
    go_enter Tryd.func13, Tryd.ntmps13
    go_wp2
    go_loop [6] (fun a => ∃ k : Nat, a = .int .i64 (k : Int) ∧ k ≤ p) (fun a => p - (RowKit.intOf a).toNat)
    case atStart => exact ⟨0, rfl, Nat.zero_le _⟩
    case round =>
      obtain ⟨k, rfl, hk⟩ := hrel
      by_cases hkp : k < p
      · have hc : ¬ (t[k].toNat : Int) = 112 := hnp k hkp
        have hkt : k < t.size := by omega
        go_wp2
        go_round
        case rel => exact ⟨k + 1, rfl, by omega⟩
        case measure => simp [RowKit.intOf]; omega
      · obtain rfl : k = p := by omega
        go_wp2_with (first
          | (go_at_call 32; with_reducible refine (hm _).mono ?_; rintro e' w1 ⟨rfl, rfl⟩)
          | (go_at_call 32; with_reducible refine (he _).mono ?_; rintro e' w1 ⟨rfl, rfl⟩))
        all_goals
        · go_ret2
          exact ⟨rfl, rfl⟩
  · clear hbad
    go_enter Tryd.func13, Tryd.ntmps13
    go_wp2
    go_loop [6] (fun a => ∃ k : Nat, a = .int .i64 (k : Int) ∧ k ≤ p) (fun a => p - (RowKit.intOf a).toNat)
    case atStart => exact ⟨0, rfl, Nat.zero_le _⟩
    case round =>
      obtain ⟨k, rfl, hk⟩ := hrel
      by_cases hkp : k < p
      · have hc : ¬ (t[k].toNat : Int) = 112 := hnp k hkp
        have hkt : k < t.size := by omega
        go_wp2
        go_round
        case rel => exact ⟨k + 1, rfl, by omega⟩
        case measure => simp [RowKit.intOf]; omega
      · obtain rfl : k = p := by omega
        go_wp2_with (first
          | (go_at_call 32; with_reducible refine (hm _).mono ?_; rintro e' w1 ⟨rfl, rfl⟩)
          | (go_at_call 32; with_reducible refine (he _).mono ?_; rintro e' w1 ⟨rfl, rfl⟩))
        all_goals
        · go_ret2
          exact ⟨rfl, rfl⟩
  · clear hbad
    go_enter Tryd.func13, Tryd.ntmps13
    go_wp2
    go_loop [6] (fun a => ∃ k : Nat, a = .int .i64 (k : Int) ∧ k ≤ p) (fun a => p - (RowKit.intOf a).toNat)
    case atStart => exact ⟨0, rfl, Nat.zero_le _⟩
    case round =>
      obtain ⟨k, rfl, hk⟩ := hrel
      by_cases hkp : k < p
      · have hc : ¬ (t[k].toNat : Int) = 112 := hnp k hkp
        have hkt : k < t.size := by omega
        go_wp2
        go_round
        case rel => exact ⟨k + 1, rfl, by omega⟩
        case measure => simp [RowKit.intOf]; omega
      · obtain rfl : k = p := by omega
        go_wp2_with (first
          | (go_at_call 32; with_reducible refine (hm _).mono ?_; rintro e' w1 ⟨rfl, rfl⟩)
          | (go_at_call 32; with_reducible refine (he _).mono ?_; rintro e' w1 ⟨rfl, rfl⟩))
        all_goals
        · go_ret2
          exact ⟨rfl, rfl⟩
  · have hbad2 : m % 2 = 0 ∨ 9007199254740992 ≤ m := by simpa using hbad
    go_enter Tryd.func13, Tryd.ntmps13
    go_wp2
    go_loop [6] (fun a => ∃ k : Nat, a = .int .i64 (k : Int) ∧ k ≤ p) (fun a => p - (RowKit.intOf a).toNat)
    case atStart => exact ⟨0, rfl, Nat.zero_le _⟩
    case round =>
      obtain ⟨k, rfl, hk⟩ := hrel
      by_cases hkp : k < p
      · have hc : ¬ (t[k].toNat : Int) = 112 := hnp k hkp
        have hkt : k < t.size := by omega
        go_wp2
        go_round
        case rel => exact ⟨k + 1, rfl, by omega⟩
        case measure => simp [RowKit.intOf]; omega
      · obtain rfl : k = p := by omega
        go_wp2_with (first
          | (go_at_call 32; with_reducible refine (hm _).mono ?_; rintro e' w1 ⟨rfl, rfl⟩)
          | (go_at_call 32; with_reducible refine (he _).mono ?_; rintro e' w1 ⟨rfl, rfl⟩))
        all_goals first
          | (go_ret2
             exact ⟨rfl, rfl⟩)
          | (exfalso
             simp only [beq_iff_eq, beq_eq_false_iff_ne] at *
             omega)

theorem fparse_good_pp (t : ByteArray) (hnan : (t.toList == [110, 97, 110]) = false) (h0 : (t.toList == []) = false) (hp : 0 < t.size) (h45 : ¬ (t[0].toNat : Int) = 45) (hinf : (t.toList == [105, 110, 102]) = false) (hz : (t.toList == [48, 112, 48]) = false) (hts : t.size ≤ 1000) (D rest : ByteArray) (p : Nat) (hpt : p < t.size) (hnp : ∀ i (h : i < p), ¬ (t[i].toNat : Int) = 112) (h112 : (t[p].toNat : Int) = 112) (hD : t.extract 0 p = D) (hR : t.extract (p + 1) t.size = rest) (hr0 : (rest.toList == []) = false) (hrp : 0 < rest.size) (hr45 : ¬ (rest[0].toNat : Int) = 45) (m x : Int) (_ : ¬ m % 2 = 0) (hr2b : (m % 2 == 0) = false) (hmx : m < 9007199254740992) (hm0 : 0 ≤ m)  (hm : Digs D 16 m true) (he : Digs rest 4 x true) (hL : bl m.toNat ≤ 60) (w : World) :
    Calls Tryd.prog 13 #[.string t] w fun e' w' => e' = .returned (.tuple #[.int .u64 (fpW 0 m x (bl m.toNat)).1, .bool (fpW 0 m x (bl m.toNat)).2]) ∧ w' = w := by
  go_enter Tryd.func13, Tryd.ntmps13
  go_wp2
  go_loop [6] (fun a => ∃ k : Nat, a = .int .i64 (k : Int) ∧ k ≤ p) (fun a => p - (RowKit.intOf a).toNat)
  case atStart => exact ⟨0, rfl, Nat.zero_le _⟩
  case round =>
    obtain ⟨k, rfl, hk⟩ := hrel
    by_cases hkp : k < p
    · have hc : ¬ (t[k].toNat : Int) = 112 := hnp k hkp
      have hkt : k < t.size := by omega
      go_wp2
      go_round
      case rel => exact ⟨k + 1, rfl, by omega⟩
      case measure => simp [RowKit.intOf]; omega
    · obtain rfl : k = p := by omega
      go_wp2_with (first
        | (go_at_call 32; with_reducible refine (hm _).mono ?_; rintro e' w1 ⟨rfl, rfl⟩)
        | (go_at_call 32; with_reducible refine (he _).mono ?_; rintro e' w1 ⟨rfl, rfl⟩))
      go_loop [13, 14] (fun l q => ∃ (j : Nat) (k : Int), l = .int .i64 (j : Int) ∧ q = .int .i64 k ∧ 0 ≤ k ∧ k ≤ m ∧ bl k.toNat + j = bl m.toNat) (fun _ q => (RowKit.intOf q).toNat)
      case atStart => exact ⟨0, m, rfl, rfl, hm0, Int.le_refl _, rfl⟩
      case round =>
        obtain ⟨j, q, rfl, rfl, hq, hqm, hb⟩ := hrel
        by_cases hq0 : 0 < q
        · have hb2 : bl q.toNat = bl (q / 2).toNat + 1 := by
            rw [bl_half (n := q.toNat) (by omega)]
            congr 2
            omega
          have hj : j ≤ 60 := by omega
          go_wp2
          go_round
          case rel => exact ⟨j + 1, q / 2, rfl, rfl, by omega, by omega, by omega⟩
          case measure => simp [RowKit.intOf]; omega
        · obtain rfl : q = 0 := by omega
          obtain rfl : j = bl m.toNat := by
            have : bl (0 : Int).toNat = 0 := rfl
            omega
          go_wp2
          all_goals
          · go_ret2
            refine ⟨?_, rfl⟩
            first
              | (rw [fpW_out _ (by omega)]; rfl)
              | (rw [fpW_up _ (by omega) (by omega)]; rfl)
              | (rw [fpW_low _ (by omega) (by omega)]; rfl)

theorem fparse_bad_pe (t : ByteArray) (hnan : (t.toList == [110, 97, 110]) = false) (h0 : (t.toList == []) = false) (hp : 0 < t.size) (h45 : ¬ (t[0].toNat : Int) = 45) (hinf : (t.toList == [105, 110, 102]) = false) (hz : (t.toList == [48, 112, 48]) = false) (hts : t.size ≤ 1000) (D rest : ByteArray) (p : Nat) (hpt : p < t.size) (hnp : ∀ i (h : i < p), ¬ (t[i].toNat : Int) = 112) (h112 : (t[p].toNat : Int) = 112) (hD : t.extract 0 p = D) (hR : t.extract (p + 1) t.size = rest) (hr0 : (rest.toList == []) = true) (m e : Int) (is has : Bool) (hm0 : 0 ≤ m) (hm : Digs D 16 m is) (he : Digs rest 4 e has)
    (hbad : is = false ∨ has = false ∨ m % 2 = 0 ∨ 9007199254740992 ≤ m) : NoneP t := by
  intro w
  cases is <;> cases has
  · clear hbad
    go_enter Tryd.func13, Tryd.ntmps13
    go_wp2
    go_loop [6] (fun a => ∃ k : Nat, a = .int .i64 (k : Int) ∧ k ≤ p) (fun a => p - (RowKit.intOf a).toNat)
    case atStart => exact ⟨0, rfl, Nat.zero_le _⟩
    case round =>
      obtain ⟨k, rfl, hk⟩ := hrel
      by_cases hkp : k < p
      · have hc : ¬ (t[k].toNat : Int) = 112 := hnp k hkp
        have hkt : k < t.size := by omega
        go_wp2
        go_round
        case rel => exact ⟨k + 1, rfl, by omega⟩
        case measure => simp [RowKit.intOf]; omega
      · obtain rfl : k = p := by omega
        go_wp2_with (first
          | (go_at_call 32; with_reducible refine (hm _).mono ?_; rintro e' w1 ⟨rfl, rfl⟩)
          | (go_at_call 32; with_reducible refine (he _).mono ?_; rintro e' w1 ⟨rfl, rfl⟩))
        all_goals
        · go_ret2
          exact ⟨rfl, rfl⟩
  · clear hbad
    go_enter Tryd.func13, Tryd.ntmps13
    go_wp2
    go_loop [6] (fun a => ∃ k : Nat, a = .int .i64 (k : Int) ∧ k ≤ p) (fun a => p - (RowKit.intOf a).toNat)
    case atStart => exact ⟨0, rfl, Nat.zero_le _⟩
    case round =>
      obtain ⟨k, rfl, hk⟩ := hrel
      by_cases hkp : k < p
      · have hc : ¬ (t[k].toNat : Int) = 112 := hnp k hkp
        have hkt : k < t.size := by omega
        go_wp2
        go_round
        case rel => exact ⟨k + 1, rfl, by omega⟩
        case measure => simp [RowKit.intOf]; omega
      · obtain rfl : k = p := by omega
        go_wp2_with (first
          | (go_at_call 32; with_reducible refine (hm _).mono ?_; rintro e' w1 ⟨rfl, rfl⟩)
          | (go_at_call 32; with_reducible refine (he _).mono ?_; rintro e' w1 ⟨rfl, rfl⟩))
        all_goals
        · go_ret2
          exact ⟨rfl, rfl⟩
  · clear hbad
    go_enter Tryd.func13, Tryd.ntmps13
    go_wp2
    go_loop [6] (fun a => ∃ k : Nat, a = .int .i64 (k : Int) ∧ k ≤ p) (fun a => p - (RowKit.intOf a).toNat)
    case atStart => exact ⟨0, rfl, Nat.zero_le _⟩
    case round =>
      obtain ⟨k, rfl, hk⟩ := hrel
      by_cases hkp : k < p
      · have hc : ¬ (t[k].toNat : Int) = 112 := hnp k hkp
        have hkt : k < t.size := by omega
        go_wp2
        go_round
        case rel => exact ⟨k + 1, rfl, by omega⟩
        case measure => simp [RowKit.intOf]; omega
      · obtain rfl : k = p := by omega
        go_wp2_with (first
          | (go_at_call 32; with_reducible refine (hm _).mono ?_; rintro e' w1 ⟨rfl, rfl⟩)
          | (go_at_call 32; with_reducible refine (he _).mono ?_; rintro e' w1 ⟨rfl, rfl⟩))
        all_goals
        · go_ret2
          exact ⟨rfl, rfl⟩
  · have hbad2 : m % 2 = 0 ∨ 9007199254740992 ≤ m := by simpa using hbad
    go_enter Tryd.func13, Tryd.ntmps13
    go_wp2
    go_loop [6] (fun a => ∃ k : Nat, a = .int .i64 (k : Int) ∧ k ≤ p) (fun a => p - (RowKit.intOf a).toNat)
    case atStart => exact ⟨0, rfl, Nat.zero_le _⟩
    case round =>
      obtain ⟨k, rfl, hk⟩ := hrel
      by_cases hkp : k < p
      · have hc : ¬ (t[k].toNat : Int) = 112 := hnp k hkp
        have hkt : k < t.size := by omega
        go_wp2
        go_round
        case rel => exact ⟨k + 1, rfl, by omega⟩
        case measure => simp [RowKit.intOf]; omega
      · obtain rfl : k = p := by omega
        go_wp2_with (first
          | (go_at_call 32; with_reducible refine (hm _).mono ?_; rintro e' w1 ⟨rfl, rfl⟩)
          | (go_at_call 32; with_reducible refine (he _).mono ?_; rintro e' w1 ⟨rfl, rfl⟩))
        all_goals first
          | (go_ret2
             exact ⟨rfl, rfl⟩)
          | (exfalso
             simp only [beq_iff_eq, beq_eq_false_iff_ne] at *
             omega)
end Go.Proofs.YtnggflfjmgbncaaDoor
