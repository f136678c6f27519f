/- flo.value, walked. -/
import Derived.Test.YtnggflfjmgbncaaDoorTn
import Derived.Lib.AppendIntMem
namespace Go.Proofs.YtnggflfjmgbncaaDoor
open Go Go.RowKit Go.Sort Go.Lib Ieee
set_option maxRecDepth 100000

/-- What the calls ask of the package variables. -/
structure Env (w : World) : Prop where
  c1 : ∃ te pe, w.cell? ⟨0, 0, none⟩ = some (.iface te pe)
  c4 : ∃ m, w.cell? ⟨5, 0, none⟩ = some (.int .i64 m)
  c5 : ∃ te pe, w.cell? ⟨6, 0, none⟩ = some (.iface te pe)
  c6 : ∃ te pe, w.cell? ⟨7, 0, none⟩ = some (.iface te pe)
  t2 : TabAt 3 Lib.deBruijn64tab w
  tp : Lib.TabIs Tryd.prog w "internal/strconv.uint64pow10" .u64 Lib.pow10Tab
  sz : 8 ≤ w.heap.size

theorem Env.below {w w' : World} (h : Env w) (hb : Below w.heap.size w w') : Env w' := by
  have hz := h.sz
  have hc : ∀ g k, g < 8 → w'.cell? ⟨g, k, none⟩ = w.cell? ⟨g, k, none⟩ := fun g k hg => by
    have := hb.block g (by omega)
    unfold World.cell?
    rw [this]
  refine ⟨?_, ?_, ?_, ?_, fun j hj => ?_, Lib.tabBelow_of_tabIs h.tp w' hb, Nat.le_trans hz hb.size⟩
  · rw [hc 0 0 (by decide)]; exact h.c1
  · rw [hc 5 0 (by decide)]; exact h.c4
  · rw [hc 6 0 (by decide)]; exact h.c5
  · rw [hc 7 0 (by decide)]; exact h.c6
  · rw [hc 3 j (by decide)]; exact h.t2 j hj

theorem below_drewN (w : World) (n : Nat) : Below w.heap.size w (w.drewN n) := ⟨rfl, rfl, rfl, Nat.le_refl _, fun _ _ => rfl⟩

theorem below_bytes (w : World) (e : TypeId) (s : ByteArray) : Below w.heap.size w (Lib.bytesWorld w e s) := by
  refine ⟨rfl, rfl, rfl, ?_, fun k hk => ?_⟩
  · show w.heap.size ≤ ((w.heap.push _).modify w.heap.size _).size
    rw [Array.size_modify, Array.size_push]
    omega
  · show ((w.heap.push _).modify w.heap.size _)[k]? = _
    rw [Array.getElem?_modify, if_neg (by omega), Array.getElem?_push, if_neg (by omega)]

/-- An answer that a number's text gives: a number and no error, or an error. -/
theorem parse_ok (s : ByteArray) (hmax : s.size ≤ 1000000) (u : Nat) (h : Lib.parseUintB 64 s.data.toList = .ok u) (w : World) :
    Calls Tryd.prog 50 #[.string s, .int .i64 10, .int .i64 64] w fun e w' => e = .returned (.tuple #[.int .u64 u, .nilIface]) ∧ Below w.heap.size w w' := by
  refine (Tryd.strconv_ParseUint_10_at64_ok s (by omega) u h w).mono fun e w' ⟨he, hw⟩ => ⟨he, ?_⟩
  rcases hw with rfl | rfl
  · exact Below.refl _ _
  · exact below_bytes _ _ _

theorem parse_bad (s : ByteArray) (hmax : s.size ≤ 1000000) (h : ∀ u, Lib.parseUintB 64 s.data.toList ≠ .ok u) : ∃ m : Int, ∀ w, Env w →
    Calls Tryd.prog 50 #[.string s, .int .i64 10, .int .i64 64] w fun e w' => (∃ N, e = .returned (.tuple #[.int .u64 m, .iface 115 (.pointer (some ⟨N, 0, none⟩))])) ∧ Below w.heap.size w w' := by
  rcases hr : Lib.parseUintB 64 s.data.toList with u | _ | _
  · exact (h u hr).elim
  · refine ⟨0, fun w hE => ?_⟩
    obtain ⟨te, pe, hc⟩ := hE.c5
    exact (Tryd.strconv_ParseUint_10_at64_syntax s (by omega) hr _ w hc (.inr ⟨te, pe, rfl⟩)).mono fun e w' ⟨N, he, _, _, hb⟩ => ⟨⟨N, he⟩, hb⟩
  · refine ⟨18446744073709551615, fun w hE => ?_⟩
    obtain ⟨te, pe, hc⟩ := hE.c6
    exact (Tryd.strconv_ParseUint_10_at64_range s (by omega) hr _ w hc (.inr ⟨te, pe, rfl⟩)).mono fun e w' ⟨N, he, _, _, hb⟩ => ⟨⟨N, he⟩, hb⟩

theorem atoi_ok (s : ByteArray) (hmax : s.size ≤ 1000000) (v : Int) (h : Lib.atoiAll s.data.toList = .ok v) (w : World) :
    Calls Tryd.prog 51 #[.string s] w fun e w' => e = .returned (.tuple #[.int .i64 v, .nilIface]) ∧ Below w.heap.size w w' := by
  refine (Tryd.strconv_Atoi_ok s (by omega) v h w).mono fun e w' ⟨he, hw⟩ => ⟨he, ?_⟩
  rcases hw with rfl | ⟨t, rfl⟩
  · exact Below.refl _ _
  · exact below_bytes _ _ _

theorem atoi_bad (s : ByteArray) (hmax : s.size ≤ 1000000) (h : ∀ u, Lib.atoiAll s.data.toList ≠ .ok u) : ∃ m : Int, ∀ w, Env w →
    Calls Tryd.prog 51 #[.string s] w fun e w' => (∃ N, e = .returned (.tuple #[.int .i64 m, .iface 115 (.pointer (some ⟨N, 0, none⟩))])) ∧ Below w.heap.size w w' := by
  rcases hr : Lib.atoiAll s.data.toList with u | _ | _
  · exact (h u hr).elim
  · refine ⟨0, fun w hE => ?_⟩
    obtain ⟨te, pe, hc⟩ := hE.c5
    exact (Tryd.strconv_Atoi_syntax s (by omega) hr _ w hc (.inr ⟨te, pe, rfl⟩)).mono fun e w' ⟨N, he, _, _, hb⟩ => ⟨⟨N, he⟩, hb⟩
  · refine ⟨Lib.atoiSat s.data.toList, fun w hE => ?_⟩
    obtain ⟨te, pe, hc⟩ := hE.c6
    exact (Tryd.strconv_Atoi_range s (by omega) hr _ w hc (.inr ⟨te, pe, rfl⟩)).mono fun e w' ⟨N, he, _, _, hb⟩ => ⟨⟨N, he⟩, hb⟩

/-- Any text: what comes out is some answer. -/
theorem parse_some (s : ByteArray) (hmax : s.size ≤ 1000000) : ∃ m : Int, ∀ w, Env w →
    Calls Tryd.prog 50 #[.string s, .int .i64 10, .int .i64 64] w fun e w' => (∃ er, e = .returned (.tuple #[.int .u64 m, er])) ∧ Below w.heap.size w w' := by
  by_cases h : ∃ u, Lib.parseUintB 64 s.data.toList = .ok u
  · obtain ⟨u, hu⟩ := h
    exact ⟨u, fun w _ => (parse_ok s hmax u hu w).mono fun e w' ⟨he, hb⟩ => ⟨⟨_, he⟩, hb⟩⟩
  · obtain ⟨m, hm⟩ := parse_bad s hmax (fun u hu => h ⟨u, hu⟩)
    exact ⟨m, fun w hE => (hm w hE).mono fun e w' ⟨⟨N, he⟩, hb⟩ => ⟨⟨_, he⟩, hb⟩⟩
theorem atoi_some (s : ByteArray) (hmax : s.size ≤ 1000000) : ∃ m : Int, ∀ w, Env w →
    Calls Tryd.prog 51 #[.string s] w fun e w' => (∃ er, e = .returned (.tuple #[.int .i64 m, er])) ∧ Below w.heap.size w w' := by
  by_cases h : ∃ u, Lib.atoiAll s.data.toList = .ok u
  · obtain ⟨u, hu⟩ := h
    exact ⟨u, fun w _ => (atoi_ok s hmax u hu w).mono fun e w' ⟨he, hb⟩ => ⟨⟨_, he⟩, hb⟩⟩
  · obtain ⟨m, hm⟩ := atoi_bad s hmax (fun u hu => h ⟨u, hu⟩)
    exact ⟨m, fun w hE => (hm w hE).mono fun e w' ⟨⟨N, he⟩, hb⟩ => ⟨⟨_, he⟩, hb⟩⟩

theorem value_inf (w : World) : Calls Tryd.prog 31 #[.string ⟨#[105, 110, 102]⟩] w fun e w' => e = .returned (.int .u64 9218868437227405312) ∧ w' = w := by
  have hb := bits64
  go_enter Tryd.func31, Tryd.ntmps31
  go_wp2_with (go_at_call 47; refine (inf1 _).mono ?_; rintro e w' ⟨rfl, rfl⟩)
  go_ret
  exact ⟨rfl, rfl⟩
theorem value_ninf (w : World) : Calls Tryd.prog 31 #[.string ⟨#[45, 105, 110, 102]⟩] w fun e w' => e = .returned (.int .u64 18442240474082181120) ∧ w' = w := by
  have hb := bits64
  go_enter Tryd.func31, Tryd.ntmps31
  go_wp2_with (go_at_call 47; refine (inf2 _).mono ?_; rintro e w' ⟨rfl, rfl⟩)
  go_ret
  exact ⟨rfl, rfl⟩

theorem value_none (s t wd p : ByteArray) (neg : Bool) (mv ev : Int) (h1 : (s.toList == [105, 110, 102]) = false) (h2 : (s.toList == [45, 105, 110, 102]) = false)
    (hX : ∀ w, Calls Tryd.prog 48 #[.string s, .string ⟨#[45]⟩] w fun e w' => e = .returned (.tuple #[.string t, .bool neg]) ∧ w' = w)
    (hC : ∀ w, Env w → Calls Tryd.prog 49 #[.string t, .string ⟨#[112]⟩] w fun e w' => e = .returned (.tuple #[.string wd, .string p, .bool false]) ∧ ∃ n, w' = w.drewN n)
    (hP : ∀ w, Env w → Calls Tryd.prog 50 #[.string wd, .int .i64 10, .int .i64 64] w fun e w' => (∃ er, e = .returned (.tuple #[.int .u64 mv, er])) ∧ Below w.heap.size w w')
    (hA : ∀ w, Env w → Calls Tryd.prog 51 #[.string p] w fun e w' => (∃ er, e = .returned (.tuple #[.int .i64 ev, er])) ∧ Below w.heap.size w w')
    (w : World) (hE : Env w) : Calls Tryd.prog 31 #[.string s] w fun e w' => e = .returned (.int .u64 9221120237041090560) ∧ Below w.heap.size w w' := by
  go_enter Tryd.func31, Tryd.ntmps31
  go_wp2_with (first
    | (go_at_call 48; refine (hX _).mono ?_; rintro e w' ⟨rfl, rfl⟩)
    | (go_at_call 49; refine (hC _ hE).mono ?_; rintro e w' ⟨rfl, n, rfl⟩; have hE1 := hE.below (below_drewN _ n))
    | (go_at_call 50; refine (hP _ hE1).mono ?_; rintro e w1 ⟨⟨er1, rfl⟩, hb1⟩; have hE2 := hE1.below hb1)
    | (go_at_call 51; refine (hA _ hE2).mono ?_; rintro e w2 ⟨⟨er2, rfl⟩, hb2⟩))
  go_ret
  exact ⟨rfl, (below_drewN _ n).trans (hb1.trans (hb2.mono hb1.size))⟩

theorem value_badP (s t wd p : ByteArray) (neg : Bool) (mv ev : Int) (h1 : (s.toList == [105, 110, 102]) = false) (h2 : (s.toList == [45, 105, 110, 102]) = false)
    (hX : ∀ w, Calls Tryd.prog 48 #[.string s, .string ⟨#[45]⟩] w fun e w' => e = .returned (.tuple #[.string t, .bool neg]) ∧ w' = w)
    (hC : ∀ w, Env w → Calls Tryd.prog 49 #[.string t, .string ⟨#[112]⟩] w fun e w' => e = .returned (.tuple #[.string wd, .string p, .bool true]) ∧ ∃ n, w' = w.drewN n)
    (hP : ∀ w, Env w → Calls Tryd.prog 50 #[.string wd, .int .i64 10, .int .i64 64] w fun e w' => (∃ N, e = .returned (.tuple #[.int .u64 mv, .iface 115 (.pointer (some ⟨N, 0, none⟩))])) ∧ Below w.heap.size w w')
    (hA : ∀ w, Env w → Calls Tryd.prog 51 #[.string p] w fun e w' => (∃ er, e = .returned (.tuple #[.int .i64 ev, er])) ∧ Below w.heap.size w w')
    (w : World) (hE : Env w) : Calls Tryd.prog 31 #[.string s] w fun e w' => e = .returned (.int .u64 9221120237041090560) ∧ Below w.heap.size w w' := by
  go_enter Tryd.func31, Tryd.ntmps31
  go_wp2_with (first
    | (go_at_call 48; refine (hX _).mono ?_; rintro e w' ⟨rfl, rfl⟩)
    | (go_at_call 49; refine (hC _ hE).mono ?_; rintro e w' ⟨rfl, n, rfl⟩; have hE1 := hE.below (below_drewN _ n))
    | (go_at_call 50; refine (hP _ hE1).mono ?_; rintro e w1 ⟨⟨N1, rfl⟩, hb1⟩; have hE2 := hE1.below hb1)
    | (go_at_call 51; refine (hA _ hE2).mono ?_; rintro e w2 ⟨⟨er2, rfl⟩, hb2⟩))
  go_ret
  exact ⟨rfl, (below_drewN _ n).trans (hb1.trans (hb2.mono hb1.size))⟩

theorem value_badA (s t wd p : ByteArray) (neg : Bool) (mv ev : Int) (h1 : (s.toList == [105, 110, 102]) = false) (h2 : (s.toList == [45, 105, 110, 102]) = false)
    (hX : ∀ w, Calls Tryd.prog 48 #[.string s, .string ⟨#[45]⟩] w fun e w' => e = .returned (.tuple #[.string t, .bool neg]) ∧ w' = w)
    (hC : ∀ w, Env w → Calls Tryd.prog 49 #[.string t, .string ⟨#[112]⟩] w fun e w' => e = .returned (.tuple #[.string wd, .string p, .bool true]) ∧ ∃ n, w' = w.drewN n)
    (hP : ∀ w, Env w → Calls Tryd.prog 50 #[.string wd, .int .i64 10, .int .i64 64] w fun e w' => e = .returned (.tuple #[.int .u64 mv, .nilIface]) ∧ Below w.heap.size w w')
    (hA : ∀ w, Env w → Calls Tryd.prog 51 #[.string p] w fun e w' => (∃ N, e = .returned (.tuple #[.int .i64 ev, .iface 115 (.pointer (some ⟨N, 0, none⟩))])) ∧ Below w.heap.size w w')
    (w : World) (hE : Env w) : Calls Tryd.prog 31 #[.string s] w fun e w' => e = .returned (.int .u64 9221120237041090560) ∧ Below w.heap.size w w' := by
  go_enter Tryd.func31, Tryd.ntmps31
  go_wp2_with (first
    | (go_at_call 48; refine (hX _).mono ?_; rintro e w' ⟨rfl, rfl⟩)
    | (go_at_call 49; refine (hC _ hE).mono ?_; rintro e w' ⟨rfl, n, rfl⟩; have hE1 := hE.below (below_drewN _ n))
    | (go_at_call 50; refine (hP _ hE1).mono ?_; rintro e w1 ⟨rfl, hb1⟩; have hE2 := hE1.below hb1)
    | (go_at_call 51; refine (hA _ hE2).mono ?_; rintro e w2 ⟨⟨N2, rfl⟩, hb2⟩))
  go_ret
  exact ⟨rfl, (below_drewN _ n).trans (hb1.trans (hb2.mono hb1.size))⟩

theorem value_pos (s t wd p : ByteArray) (mv ev : Int) (r : Nat) (h1 : (s.toList == [105, 110, 102]) = false) (h2 : (s.toList == [45, 105, 110, 102]) = false)
    (hX : ∀ w, Calls Tryd.prog 48 #[.string s, .string ⟨#[45]⟩] w fun e w' => e = .returned (.tuple #[.string t, .bool false]) ∧ w' = w)
    (hC : ∀ w, Env w → Calls Tryd.prog 49 #[.string t, .string ⟨#[112]⟩] w fun e w' => e = .returned (.tuple #[.string wd, .string p, .bool true]) ∧ ∃ n, w' = w.drewN n)
    (hP : ∀ w, Env w → Calls Tryd.prog 50 #[.string wd, .int .i64 10, .int .i64 64] w fun e w' => e = .returned (.tuple #[.int .u64 mv, .nilIface]) ∧ Below w.heap.size w w')
    (hA : ∀ w, Env w → Calls Tryd.prog 51 #[.string p] w fun e w' => e = .returned (.tuple #[.int .i64 ev, .nilIface]) ∧ Below w.heap.size w w')
    (hL : ∀ w, Calls Tryd.prog 52 #[.float .f64 (floatOfInt .f64 mv), .int .i64 ev] w fun e w' => e = .returned (.float .f64 r) ∧ w' = w)
    (w : World) (hE : Env w) : Calls Tryd.prog 31 #[.string s] w fun e w' => e = .returned (.int .u64 (r : Int)) ∧ Below w.heap.size w w' := by
  have hb := bits64
  go_enter Tryd.func31, Tryd.ntmps31
  go_wp2_with (first
    | (go_at_call 48; refine (hX _).mono ?_; rintro e w' ⟨rfl, rfl⟩)
    | (go_at_call 49; refine (hC _ hE).mono ?_; rintro e w' ⟨rfl, n, rfl⟩; have hE1 := hE.below (below_drewN _ n))
    | (go_at_call 50; refine (hP _ hE1).mono ?_; rintro e w1 ⟨rfl, hb1⟩; have hE2 := hE1.below hb1)
    | (go_at_call 51; refine (hA _ hE2).mono ?_; rintro e w2 ⟨rfl, hb2⟩)
    | (go_at_call 52; refine (hL _).mono ?_; rintro e w' ⟨rfl, rfl⟩))
  go_ret
  exact ⟨rfl, (below_drewN _ n).trans (hb1.trans (hb2.mono hb1.size))⟩

theorem value_neg (s t wd p : ByteArray) (mv ev : Int) (r r' : Nat) (h1 : (s.toList == [105, 110, 102]) = false) (h2 : (s.toList == [45, 105, 110, 102]) = false)
    (hX : ∀ w, Calls Tryd.prog 48 #[.string s, .string ⟨#[45]⟩] w fun e w' => e = .returned (.tuple #[.string t, .bool true]) ∧ w' = w)
    (hC : ∀ w, Env w → Calls Tryd.prog 49 #[.string t, .string ⟨#[112]⟩] w fun e w' => e = .returned (.tuple #[.string wd, .string p, .bool true]) ∧ ∃ n, w' = w.drewN n)
    (hP : ∀ w, Env w → Calls Tryd.prog 50 #[.string wd, .int .i64 10, .int .i64 64] w fun e w' => e = .returned (.tuple #[.int .u64 mv, .nilIface]) ∧ Below w.heap.size w w')
    (hA : ∀ w, Env w → Calls Tryd.prog 51 #[.string p] w fun e w' => e = .returned (.tuple #[.int .i64 ev, .nilIface]) ∧ Below w.heap.size w w')
    (hL : ∀ w, Calls Tryd.prog 52 #[.float .f64 (floatOfInt .f64 mv), .int .i64 ev] w fun e w' => e = .returned (.float .f64 r) ∧ w' = w)
    (hS : ∀ w, Calls Tryd.prog 53 #[.float .f64 r, .float .f64 13830554455654793216] w fun e w' => e = .returned (.float .f64 r') ∧ w' = w)
    (w : World) (hE : Env w) : Calls Tryd.prog 31 #[.string s] w fun e w' => e = .returned (.int .u64 (r' : Int)) ∧ Below w.heap.size w w' := by
  have hb := bits64
  go_enter Tryd.func31, Tryd.ntmps31
  go_wp2_with (first
    | (go_at_call 48; refine (hX _).mono ?_; rintro e w' ⟨rfl, rfl⟩)
    | (go_at_call 49; refine (hC _ hE).mono ?_; rintro e w' ⟨rfl, n, rfl⟩; have hE1 := hE.below (below_drewN _ n))
    | (go_at_call 50; refine (hP _ hE1).mono ?_; rintro e w1 ⟨rfl, hb1⟩; have hE2 := hE1.below hb1)
    | (go_at_call 51; refine (hA _ hE2).mono ?_; rintro e w2 ⟨rfl, hb2⟩)
    | (go_at_call 52; refine (hL _).mono ?_; rintro e w' ⟨rfl, rfl⟩)
    | (go_at_call 53; refine (hS _).mono ?_; rintro e w' ⟨rfl, rfl⟩))
  go_ret
  exact ⟨rfl, (below_drewN _ n).trans (hb1.trans (hb2.mono hb1.size))⟩

end Go.Proofs.YtnggflfjmgbncaaDoor
