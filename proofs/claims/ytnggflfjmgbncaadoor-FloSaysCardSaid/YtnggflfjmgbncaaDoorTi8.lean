/- The reference's FloParse: it is fpL. -/
import Derived.Test.YtnggflfjmgbncaaDoorTi7
namespace Go.Proofs.YtnggflfjmgbncaaDoor
open Go Go.RowKit Go.Sort Go.Lib Ieee Ev.Fl
set_option maxRecDepth 100000

abbrev GivesP (s : ByteArray) (o : Option Nat) : Prop := ∀ w : World, Calls Tryd.prog 13 #[.string s] w fun e w' => e = .returned (.tuple #[.int .u64 (dN o), .bool o.isSome]) ∧ w' = w

structure Part (s : ByteArray) (S : Int) (D rest : ByteArray) : Prop where
  bad_n : ∀ r2 : ByteArray, (rest.toList == []) = false → ∀ _ : 0 < rest.size, (rest[0].toNat : Int) = 45 → rest.extract 1 rest.size = r2 → ∀ (m e : Int) (is has : Bool), 0 ≤ m → Digs D 16 m is → Digs r2 4 e has →
    (is = false ∨ has = false ∨ m % 2 = 0 ∨ 9007199254740992 ≤ m ∨ e = 0) → NoneP s
  bad_p : (rest.toList == []) = false → ∀ _ : 0 < rest.size, ¬ (rest[0].toNat : Int) = 45 → ∀ (m e : Int) (is has : Bool), 0 ≤ m → Digs D 16 m is → Digs rest 4 e has →
    (is = false ∨ has = false ∨ m % 2 = 0 ∨ 9007199254740992 ≤ m) → NoneP s
  bad_e : (rest.toList == []) = true → ∀ (m e : Int) (is has : Bool), 0 ≤ m → Digs D 16 m is → Digs rest 4 e has →
    (is = false ∨ has = false ∨ m % 2 = 0 ∨ 9007199254740992 ≤ m) → NoneP s
  good_n : ∀ r2 : ByteArray, (rest.toList == []) = false → ∀ _ : 0 < rest.size, (rest[0].toNat : Int) = 45 → rest.extract 1 rest.size = r2 → ∀ (m e x : Int), ¬ m % 2 = 0 → (m % 2 == 0) = false → m < 9007199254740992 → 0 ≤ m →
    wrap64 (-e) = x → ¬ e = 0 → (e == 0) = false → Digs D 16 m true → Digs r2 4 e true → bl m.toNat ≤ 60 → ∀ w : World,
    Calls Tryd.prog 13 #[.string s] w fun e' w' => e' = .returned (.tuple #[.int .u64 (fpW S m x (bl m.toNat)).1, .bool (fpW S m x (bl m.toNat)).2]) ∧ w' = w
  good_p : (rest.toList == []) = false → ∀ _ : 0 < rest.size, ¬ (rest[0].toNat : Int) = 45 → ∀ (m x : Int), ¬ m % 2 = 0 → (m % 2 == 0) = false → m < 9007199254740992 → 0 ≤ m →
    Digs D 16 m true → Digs rest 4 x true → bl m.toNat ≤ 60 → ∀ w : World,
    Calls Tryd.prog 13 #[.string s] w fun e' w' => e' = .returned (.tuple #[.int .u64 (fpW S m x (bl m.toNat)).1, .bool (fpW S m x (bl m.toNat)).2]) ∧ w' = w

structure Pk (s t : ByteArray) (S : Int) : Prop where
  inf : (t.toList == [105, 110, 102]) = true → SomeP s (bits .or .u64 S 9218868437227405312)
  zero : (t.toList == [105, 110, 102]) = false → (t.toList == [48, 112, 48]) = true → SomeP s S
  nop : (t.toList == [105, 110, 102]) = false → (t.toList == [48, 112, 48]) = false → (∀ i (_ : i < t.size), ¬ (t[i].toNat : Int) = 112) → NoneP s
  part : (t.toList == [105, 110, 102]) = false → (t.toList == [48, 112, 48]) = false → ∀ (D rest : ByteArray) (p : Nat) (_ : p < t.size), (∀ i (_ : i < p), ¬ (t[i].toNat : Int) = 112) → (t[p].toNat : Int) = 112 →
    t.extract 0 p = D → t.extract (p + 1) t.size = rest → Part s S D rest

theorem pk_n (s t : ByteArray) (hnan : (s.toList == [110, 97, 110]) = false) (h0 : (s.toList == []) = false) (hp : 0 < s.size) (h45 : (s[0].toNat : Int) = 45) (hT : s.extract 1 s.size = t) (hts : t.size ≤ 1000) : Pk s t 9223372036854775808 where
  inf h := fparse_inf_n s t hnan h0 hp h45 hT h
  zero h1 h2 := fparse_zero_n s t hnan h0 hp h45 hT h1 h2
  nop h1 h2 h3 := fparse_nop_n s t hnan h0 hp h45 hT h1 h2 hts h3
  part h1 h2 D rest p hpt hnp h112 hD hR := {
    bad_n := fun r2 hr0 hrp hr45 hR2 m e is has hm0 hm he hb => fparse_bad_nn s t hnan h0 hp h45 hT h1 h2 hts D rest r2 p hpt hnp h112 hD hR hr0 hrp hr45 hR2 m e is has hm0 hm he hb
    bad_p := fun hr0 hrp hr45 m e is has hm0 hm he hb => fparse_bad_np s t hnan h0 hp h45 hT h1 h2 hts D rest p hpt hnp h112 hD hR hr0 hrp hr45 m e is has hm0 hm he hb
    bad_e := fun hr0 m e is has hm0 hm he hb => fparse_bad_ne s t hnan h0 hp h45 hT h1 h2 hts D rest p hpt hnp h112 hD hR hr0 m e is has hm0 hm he hb
    good_n := fun r2 hr0 hrp hr45 hR2 m e x a1 a2 a3 a4 a5 a6 a7 a8 a9 a10 => fparse_good_nn s t hnan h0 hp h45 hT h1 h2 hts D rest r2 p hpt hnp h112 hD hR hr0 hrp hr45 hR2 m e x a1 a2 a3 a4 a5 a6 a7 a8 a9 a10
    good_p := fun hr0 hrp hr45 m x a1 a2 a3 a4 a8 a9 a10 => fparse_good_np s t hnan h0 hp h45 hT h1 h2 hts D rest p hpt hnp h112 hD hR hr0 hrp hr45 m x a1 a2 a3 a4 a8 a9 a10 }

theorem pk_p (t : ByteArray) (hnan : (t.toList == [110, 97, 110]) = false) (h0 : (t.toList == []) = false) (hp : 0 < t.size) (h45 : ¬ (t[0].toNat : Int) = 45) (hts : t.size ≤ 1000) : Pk t t 0 where
  inf h := fparse_inf_p t hnan h0 hp h45 h
  zero h1 h2 := fparse_zero_p t hnan h0 hp h45 h1 h2
  nop h1 h2 h3 := fparse_nop_p t hnan h0 hp h45 h1 h2 hts h3
  part h1 h2 D rest p hpt hnp h112 hD hR := {
    bad_n := fun r2 hr0 hrp hr45 hR2 m e is has hm0 hm he hb => fparse_bad_pn t hnan h0 hp h45 h1 h2 hts D rest r2 p hpt hnp h112 hD hR hr0 hrp hr45 hR2 m e is has hm0 hm he hb
    bad_p := fun hr0 hrp hr45 m e is has hm0 hm he hb => fparse_bad_pp t hnan h0 hp h45 h1 h2 hts D rest p hpt hnp h112 hD hR hr0 hrp hr45 m e is has hm0 hm he hb
    bad_e := fun hr0 m e is has hm0 hm he hb => fparse_bad_pe t hnan h0 hp h45 h1 h2 hts D rest p hpt hnp h112 hD hR hr0 m e is has hm0 hm he hb
    good_n := fun r2 hr0 hrp hr45 hR2 m e x a1 a2 a3 a4 a5 a6 a7 a8 a9 a10 => fparse_good_pn t hnan h0 hp h45 h1 h2 hts D rest r2 p hpt hnp h112 hD hR hr0 hrp hr45 hR2 m e x a1 a2 a3 a4 a5 a6 a7 a8 a9 a10
    good_p := fun hr0 hrp hr45 m x a1 a2 a3 a4 a8 a9 a10 => fparse_good_pp t hnan h0 hp h45 h1 h2 hts D rest p hpt hnp h112 hD hR hr0 hrp hr45 m x a1 a2 a3 a4 a8 a9 a10 }

theorem beqL (s : ByteArray) (l : List UInt8) : (s.toList == l) = decide (s.data.toList = l) := by
  rw [ByteArray.toList_eq, Bool.eq_iff_iff, beq_iff_eq, decide_eq_true_iff]

theorem extract_list (s : ByteArray) (a : Nat) : (s.extract a s.size).data.toList = s.data.toList.drop a := by
  rw [ByteArray.data_extract, Array.toList_extract, List.extract_eq_take_drop]
  apply List.take_of_length_le
  rw [List.length_drop, size_list]
  exact Nat.le_refl _
theorem extract_take (s : ByteArray) (b : Nat) : (s.extract 0 b).data.toList = s.data.toList.take b := by
  rw [ByteArray.data_extract, Array.toList_extract, List.extract_eq_take_drop]
  rfl

theorem decFrom_lt : ∀ (l : List UInt8) (acc n : Nat), decFrom acc l = some n → n < (acc + 1) * 10 ^ l.length
  | [], acc, n, h => by
    simp only [decFrom, Option.some.injEq] at h
    rw [List.length_nil, Nat.pow_zero]
    omega
  | c :: l, acc, n, h => by
    simp only [decFrom] at h
    cases hd : digitVal c with
    | none => rw [hd] at h; cases h
    | some d =>
      rw [hd] at h
      have hdl := (digit_back hd).1
      have := decFrom_lt l (acc * 10 + d) n (by simpa using h)
      have h2 : (acc * 10 + d + 1) * 10 ^ l.length ≤ ((acc + 1) * 10) * 10 ^ l.length := Nat.mul_le_mul_right _ (by omega)
      rw [List.length_cons, Nat.pow_succ, Nat.mul_comm (10 ^ l.length), ← Nat.mul_assoc]
      omega

theorem digitsL_lt {l : List UInt8} {k n : Nat} (h : digitsL l k = some n) : n < 10 ^ k := by
  unfold digitsL at h
  split at h
  · cases h
  · rename_i hc
    have h1 := decFrom_lt l 0 n h
    have h2 : 10 ^ l.length ≤ 10 ^ k := Nat.pow_le_pow_right (by decide) (by omega)
    omega

theorem digs (s : ByteArray) (k : Nat) (h : k ≤ 18) {o : Option Nat} (ho : digitsL s.data.toList k = o) : Digs s (k : Int) (dN o) o.isSome := fun w => ho ▸ digits_call s k h w

theorem dN_nonneg (o : Option Nat) : 0 ≤ dN o := Int.natCast_nonneg _

theorem prefix45 (s : ByteArray) (h : 0 < s.size) : hasPrefix s.data.toList [45] = decide ((s[0].toNat : Int) = 45) := by
  have e := drop_one s 0 h
  rw [List.take_zero, List.nil_append] at e
  rw [e]
  show ((45 : UInt8) == s[0] && List.isPrefixOf [] _) = _
  rw [Bool.eq_iff_iff, Bool.and_eq_true_iff, beq_iff_eq, decide_eq_true_iff, ← UInt8.toNat_inj]
  show ((45 = s[0].toNat) ∧ _) ↔ _
  constructor
  · rintro ⟨h1, _⟩; omega
  · intro h1; exact ⟨by omega, rfl⟩

theorem fpP_none1 {sg : Bool} {D R : List UInt8} (h : digitsL D 16 = none) : fpP sg D R = none := by
  unfold fpP
  rw [h]
theorem fpP_none2 {sg : Bool} {D R : List UInt8} (h : digitsL (trimPrefix R [45]) 4 = none) : fpP sg D R = none := by
  unfold fpP
  rw [h]
  cases digitsL D 16 <;> rfl
theorem fpP_some {sg : Bool} {D R : List UInt8} {m e : Nat} (h1 : digitsL D 16 = some m) (h2 : digitsL (trimPrefix R [45]) 4 = some e) :
    fpP sg D R = if m % 2 = 0 ∨ 9007199254740992 ≤ m ∨ (hasPrefix R [45] = true ∧ e = 0) then none else fpV sg m (if hasPrefix R [45] = true then -(e : Int) else (e : Int)) := by
  unfold fpP
  rw [h1, h2]

theorem part_gives {s D rest : ByteArray} {sg : Bool} (hP : Part s (if sg then 9223372036854775808 else 0) D rest) : GivesP s (fpP sg D.data.toList rest.data.toList) := by
  by_cases h0 : rest.size = 0
  · have hl : rest.data.toList = [] := List.length_eq_zero_iff.1 ((size_list rest).trans h0)
    have h2 : digitsL rest.data.toList 4 = none := by rw [hl]; rfl
    have e : fpP sg D.data.toList rest.data.toList = none := fpP_none2 (by rw [hl]; rfl)
    rw [e]
    exact hP.bad_e (by rw [beqL, hl]; rfl) _ _ _ _ (dN_nonneg _) (digs D 16 (by decide) rfl) (digs rest 4 (by decide) h2) (.inr (.inl rfl))
  have hp : 0 < rest.size := Nat.pos_of_ne_zero h0
  have hne : (rest.toList == []) = false := by
    rw [beqL, decide_eq_false_iff_not]
    intro h
    rw [← size_list, h] at h0
    exact h0 rfl
  have hpre := prefix45 rest hp
  by_cases h45 : (rest[0].toNat : Int) = 45
  · rw [decide_eq_true h45] at hpre
    have ht : (rest.extract 1 rest.size).data.toList = trimPrefix rest.data.toList [45] := by
      unfold trimPrefix
      rw [if_pos hpre, extract_list]
      rfl
    cases hA : digitsL D.data.toList 16 with
    | none => rw [fpP_none1 hA]; exact hP.bad_n _ hne hp h45 rfl _ _ _ _ (dN_nonneg _) (digs D 16 (by decide) hA) (digs _ 4 (by decide) rfl) (.inl rfl)
    | some m =>
      cases hB : digitsL (trimPrefix rest.data.toList [45]) 4 with
      | none => rw [fpP_none2 hB]; exact hP.bad_n _ hne hp h45 rfl _ _ _ _ (dN_nonneg _) (digs D 16 (by decide) hA) (digs (o := none) _ 4 (by decide) (by rw [ht]; exact hB)) (.inr (.inl rfl))
      | some e =>
        have dA := digs D 16 (by decide) hA
        have dB := digs (o := some e) (rest.extract 1 rest.size) 4 (by decide) (by rw [ht]; exact hB)
        have he := digitsL_lt hB
        rw [fpP_some hA hB]
        by_cases hc : m % 2 = 0 ∨ 9007199254740992 ≤ m ∨ (hasPrefix rest.data.toList [45] = true ∧ e = 0)
        · rw [if_pos hc]
          refine hP.bad_n _ hne hp h45 rfl _ _ _ _ (dN_nonneg _) dA dB (.inr (.inr ?_))
          show ((m : Nat) : Int) % 2 = 0 ∨ 9007199254740992 ≤ ((m : Nat) : Int) ∨ ((e : Nat) : Int) = 0
          omega
        · rw [if_neg hc, if_pos hpre]
          have hc2 : ¬ m % 2 = 0 ∧ m < 9007199254740992 ∧ ¬ e = 0 := by
            rw [hpre] at hc
            exact ⟨fun h => hc (.inl h), Nat.lt_of_not_le fun h => hc (.inr (.inl h)), fun h => hc (.inr (.inr ⟨rfl, h⟩))⟩
          have hm0 : m ≠ 0 := by omega
          have hL := (lead hm0 hc2.2.1).1
          have hb := bl_log hm0
          have hg := hP.good_n _ hne hp h45 rfl (m : Int) (e : Int) (-(e : Int)) (by omega) (by rw [beq_eq_false_iff_ne]; omega) (by omega) (by omega) (w64_in _ (by omega)) (by omega) (by rw [beq_eq_false_iff_ne]; omega) dA dB (by rw [Int.toNat_natCast]; omega)
          rw [Int.toNat_natCast, fpW_eq sg m _ hm0 hc2.2.1 (by omega)] at hg
          exact hg
  · rw [decide_eq_false h45] at hpre
    have ht : trimPrefix rest.data.toList [45] = rest.data.toList := by
      unfold trimPrefix
      rw [if_neg (by rw [hpre]; simp)]
    cases hA : digitsL D.data.toList 16 with
    | none => rw [fpP_none1 hA]; exact hP.bad_p hne hp h45 _ _ _ _ (dN_nonneg _) (digs D 16 (by decide) hA) (digs _ 4 (by decide) rfl) (.inl rfl)
    | some m =>
      cases hB : digitsL (trimPrefix rest.data.toList [45]) 4 with
      | none => rw [fpP_none2 hB]; exact hP.bad_p hne hp h45 _ _ _ _ (dN_nonneg _) (digs D 16 (by decide) hA) (digs (o := none) _ 4 (by decide) (by rw [← ht]; exact hB)) (.inr (.inl rfl))
      | some e =>
        have dA := digs D 16 (by decide) hA
        have dB := digs (o := some e) rest 4 (by decide) (by rw [← ht]; exact hB)
        have he := digitsL_lt hB
        rw [fpP_some hA hB]
        by_cases hc : m % 2 = 0 ∨ 9007199254740992 ≤ m ∨ (hasPrefix rest.data.toList [45] = true ∧ e = 0)
        · rw [if_pos hc]
          refine hP.bad_p hne hp h45 _ _ _ _ (dN_nonneg _) dA dB (.inr (.inr ?_))
          show ((m : Nat) : Int) % 2 = 0 ∨ 9007199254740992 ≤ ((m : Nat) : Int)
          rw [hpre] at hc
          rcases hc with h | h | ⟨h, _⟩
          · omega
          · omega
          · cases h
        · rw [if_neg hc, if_neg (by rw [hpre]; simp)]
          have hc2 : ¬ m % 2 = 0 ∧ m < 9007199254740992 := ⟨fun h => hc (.inl h), Nat.lt_of_not_le fun h => hc (.inr (.inl h))⟩
          have hm0 : m ≠ 0 := by omega
          have hL := (lead hm0 hc2.2).1
          have hb := bl_log hm0
          have hg := hP.good_p hne hp h45 (m : Int) (e : Int) (by omega) (by rw [beq_eq_false_iff_ne]; omega) (by omega) (by omega) dA dB (by rw [Int.toNat_natCast]; omega)
          rw [Int.toNat_natCast, fpW_eq sg m _ hm0 hc2.2 (by omega)] at hg
          exact hg

theorem first_at (t : ByteArray) : ∀ n, n ≤ t.size → (∀ i (_ : i < n) (_ : i < t.size), ¬ (t[i].toNat : Int) = 112) ∨ ∃ p, ∃ _ : p < t.size, (∀ i (_ : i < p), ¬ (t[i].toNat : Int) = 112) ∧ (t[p].toNat : Int) = 112
  | 0, _ => .inl fun i h _ => absurd h (Nat.not_lt_zero _)
  | n + 1, hn => by
    rcases first_at t n (by omega) with h | h
    · by_cases hc : (t[n].toNat : Int) = 112
      · exact .inr ⟨n, hn, fun i hi => h i hi (by omega), hc⟩
      · left
        intro i hi hit
        by_cases e : i = n
        · subst e; exact hc
        · exact h i (by omega) hit
    · exact .inr h

theorem byte112 (c : UInt8) : (c.toNat : Int) = 112 ↔ c = 112 := by
  rw [← UInt8.toNat_inj]
  show _ ↔ c.toNat = 112
  omega

theorem no_cut {t : ByteArray} (h : ∀ i (_ : i < t.size), ¬ (t[i].toNat : Int) = 112) : (cut t.data.toList [112]).2.2 = false := by
  cases hc : (cut t.data.toList [112]).2.2 with
  | false => rfl
  | true =>
    have e := cut_back hc
    have hm : (112 : UInt8) ∈ t.data.toList := by
      rw [e]
      simp
    obtain ⟨i, hi, hv⟩ := List.mem_iff_getElem.1 hm
    exact absurd ((byte112 _).2 hv) (h i (by rwa [size_list] at hi))

theorem cut_first {t : ByteArray} {p : Nat} (hp : p < t.size) (hn : ∀ i (_ : i < p), ¬ (t[i].toNat : Int) = 112) (h : (t[p].toNat : Int) = 112) :
    cut t.data.toList [112] = ((t.extract 0 p).data.toList, (t.extract (p + 1) t.size).data.toList, true) := by
  rw [extract_take, extract_list]
  have e := drop_one t p hp
  rw [(byte112 _).1 h] at e
  have := cut_at (t.data.toList.take p) (t.data.toList.drop (p + 1)) fun b hb hv => by
    obtain ⟨i, hi, e2⟩ := List.mem_iff_getElem.1 hb
    rw [List.length_take, size_list] at hi
    rw [List.getElem_take] at e2
    exact hn i (by omega) ((byte112 _).2 (e2.trans hv))
  rwa [← e] at this

theorem pk_gives {s t : ByteArray} {sg : Bool} (hP : Pk s t (if sg then 9223372036854775808 else 0)) (hl : trimPrefix s.data.toList [45] = t.data.toList) (hsg : hasPrefix s.data.toList [45] = sg) (hnan : s.data.toList ≠ nanL) : GivesP s (fpL s.data.toList) := by
  unfold fpL
  rw [if_neg hnan, hl, hsg]
  by_cases c1 : t.data.toList = infL
  · rw [if_pos c1]
    have := hP.inf (by rw [beqL]; exact decide_eq_true c1)
    have e := or_sign sg 9218868437227405312 (by decide)
    rw [show ((9218868437227405312 : Nat) : Int) = 9218868437227405312 from rfl] at e
    rw [e] at this
    exact this
  rw [if_neg c1]
  have c1' : (t.toList == [105, 110, 102]) = false := by rw [beqL]; exact decide_eq_false c1
  by_cases c2 : t.data.toList = [48, 112, 48]
  · rw [if_pos c2]
    have := hP.zero c1' (by rw [beqL]; exact decide_eq_true c2)
    have e : (if sg then 9223372036854775808 else 0 : Int) = ((double.word sg 0 : Nat) : Int) := by
      rw [word_eq]
      cases sg <;> rfl
    rw [e] at this
    exact this
  rw [if_neg c2]
  have c2' : (t.toList == [48, 112, 48]) = false := by rw [beqL]; exact decide_eq_false c2
  rcases first_at t t.size (Nat.le_refl _) with h | ⟨p, hp, hn, h⟩
  · rw [no_cut fun i hi => h i hi hi, if_neg (by simp)]
    exact hP.nop c1' c2' fun i hi => h i hi hi
  · rw [cut_first hp hn h, if_pos rfl]
    exact part_gives (hP.part c1' c2' _ _ p hp hn h rfl rfl)

/-- The reference's FloParse. -/
theorem ref_parse (s : ByteArray) (hs : s.size ≤ 1000) : GivesP s (fpL s.data.toList) := by
  by_cases hnan : s.data.toList = nanL
  · have e : fpL s.data.toList = some NaNb := by unfold fpL; rw [if_pos hnan]
    rw [e]
    exact fparse_nan s (by rw [beqL]; exact decide_eq_true hnan)
  have hnan' : (s.toList == [110, 97, 110]) = false := by rw [beqL]; exact decide_eq_false hnan
  by_cases h0 : s.size = 0
  · have hl : s.data.toList = [] := List.length_eq_zero_iff.1 ((size_list s).trans h0)
    have e : fpL s.data.toList = none := by rw [hl]; decide
    rw [e]
    exact fparse_empty s hnan' (by rw [beqL, hl]; rfl) h0 (by rw [beqL, hl]; rfl) (by rw [beqL, hl]; rfl)
  have hp : 0 < s.size := Nat.pos_of_ne_zero h0
  have hne : (s.toList == []) = false := by
    rw [beqL, decide_eq_false_iff_not]
    intro h
    rw [← size_list, h] at h0
    exact h0 rfl
  have hpre := prefix45 s hp
  by_cases h45 : (s[0].toNat : Int) = 45
  · rw [decide_eq_true h45] at hpre
    refine pk_gives (sg := true) (pk_n s _ hnan' hne hp h45 rfl ?_) ?_ hpre hnan
    · rw [← size_list, extract_list, List.length_drop, size_list]
      omega
    · unfold trimPrefix
      rw [if_pos hpre, extract_list]
      rfl
  · rw [decide_eq_false h45] at hpre
    refine pk_gives (sg := false) (pk_p s hnan' hne hp h45 hs) ?_ hpre hnan
    unfold trimPrefix
    rw [if_neg (by rw [hpre]; simp)]
end Go.Proofs.YtnggflfjmgbncaaDoor
