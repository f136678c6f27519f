/- flo.Parse, flo.Canon, the chapter's example; the law FloBack, walked. -/
import Derived.Test.YtomjoiaahalahaaDoorTr
import Derived.RegionTactic
import Derived.ChangeAlike
namespace Go.Proofs.YtomjoiaahalahaaDoor
open Go Go.RowKit Go.Sort Go.Lib Ieee Ev.Fl
set_option maxRecDepth 100000

theorem canon_t (a : Nat) (h : (double.order a a != some .eq) = true) (w : World) : Calls Tryd.prog 10 #[.int .u64 (a : Int)] w fun e w' => e = .returned (.int .u64 9221120237041090560) ∧ w' = w := by
  go_enter Tryd.func10, Tryd.ntmps10
  go_wp2_with (first
    | (go_at_call 23; refine (of a _).mono ?_; rintro e w' ⟨rfl, rfl⟩)
    | (go_at_call 22; refine (isNaN a _).mono ?_; rintro e w' ⟨rfl, rfl⟩))
  go_ret
  exact ⟨rfl, rfl⟩
theorem canon_f (a : Nat) (h : (double.order a a != some .eq) = false) (w : World) : Calls Tryd.prog 10 #[.int .u64 (a : Int)] w fun e w' => e = .returned (.int .u64 (a : Int)) ∧ w' = w := by
  go_enter Tryd.func10, Tryd.ntmps10
  go_wp2_with (first
    | (go_at_call 23; refine (of a _).mono ?_; rintro e w' ⟨rfl, rfl⟩)
    | (go_at_call 22; refine (isNaN a _).mono ?_; rintro e w' ⟨rfl, rfl⟩))
  go_ret
  exact ⟨rfl, rfl⟩
theorem canon_call (a : Nat) (w : World) : Calls Tryd.prog 10 #[.int .u64 (a : Int)] w fun e w' => e = .returned (.int .u64 (canon a : Int)) ∧ w' = w := by
  unfold canon
  cases h : isn a with
  | true => exact canon_t a ((isn_text a).trans h) w
  | false => exact canon_f a ((isn_text a).trans h) w

theorem text_call (a : Nat) (ha : a < 18446744073709551616) (w : World) (hE : Env w) : Calls Tryd.prog 21 #[.int .u64 (a : Int)] w fun e w' => e = .returned (.string (textOf a)) ∧ Below w.heap.size w w' := text a ha w hE.t2 hE.tp

theorem parse_good_walk (s t : ByteArray) (n : Int) (hv : ∀ w, Env w → Calls Tryd.prog 27 #[.string s] w fun e w' => e = .returned (.int .u64 n) ∧ Below w.heap.size w w')
    (ht : ∀ w, Env w → Calls Tryd.prog 21 #[.int .u64 n] w fun e w' => e = .returned (.string t) ∧ Below w.heap.size w w') (h : (t.toList == s.toList) = true) (w : World) (hE : Env w) :
    Calls Tryd.prog 20 #[.string s] w fun e w' => e = .returned (.tuple #[.int .u64 n, .nilIface]) ∧ Below w.heap.size w w' := by
  go_enter Tryd.func20, Tryd.ntmps20
  go_wp2_with (first
    | (go_at_call 27; refine (hv _ hE).mono ?_; rintro e w1 ⟨rfl, hb1⟩; have hE1 := hE.below hb1)
    | (go_at_call 21; refine (ht _ hE1).mono ?_; rintro e w2 ⟨rfl, hb2⟩))
  go_ret2
  exact ⟨rfl, hb1.trans (hb2.mono hb1.size)⟩
theorem parse_bad_walk (s t : ByteArray) (n : Int) (hv : ∀ w, Env w → Calls Tryd.prog 27 #[.string s] w fun e w' => e = .returned (.int .u64 n) ∧ Below w.heap.size w w')
    (ht : ∀ w, Env w → Calls Tryd.prog 21 #[.int .u64 n] w fun e w' => e = .returned (.string t) ∧ Below w.heap.size w w') (h : (t.toList == s.toList) = false) (w : World) (hE : Env w) :
    Calls Tryd.prog 20 #[.string s] w fun e w' => (∃ te pe, e = .returned (.tuple #[.int .u64 0, .iface te pe])) ∧ Below w.heap.size w w' := by
  go_enter Tryd.func20, Tryd.ntmps20
  go_wp2_with (first
    | (go_at_call 27; refine (hv _ hE).mono ?_; rintro e w1 ⟨rfl, hb1⟩; have hE1 := hE.below hb1)
    | (go_at_call 21; refine (ht _ hE1).mono ?_; rintro e w2 ⟨rfl, hb2⟩; obtain ⟨te, pe, hc⟩ := (hE1.below hb2).c1))
  go_region
  go_wp2
  go_ret2
  exact ⟨⟨te, pe, rfl⟩, (hb1.trans (hb2.mono hb1.size)).drew⟩

theorem first_walk (hT : textOf 4609434218613702656 = ⟨#[51, 112, 45, 49]⟩) (w : World) (hE : Env w) : Calls Tryd.prog 9 #[] w fun e w' => e = .returned (.bool true) ∧ Below w.heap.size w w' := by
  have ht := text_call 4609434218613702656 (by decide)
  rw [hT] at ht
  have hb := bits64
  go_enter Tryd.func9, Tryd.ntmps9
  go_wp2_with (first
    | (go_at_call 21; refine (ht _ hE).mono ?_; rintro e w2 ⟨rfl, hb2⟩))
  go_ret
  exact ⟨rfl, hb2⟩
/-- The walk's world: the variables are there, what was there is as it was. -/
structure On (w0 w : World) : Prop where
  env : Env w
  old : Below w0.heap.size w0 w
theorem On.start {w : World} (h : Env w) : On w w := ⟨h, Below.refl _ _⟩
theorem On.step {w0 w w' : World} (h : On w0 w) (hb : Below w.heap.size w w') : On w0 w' := ⟨h.env.below hb, h.old.trans (hb.mono h.old.size)⟩

abbrev Gives (f : Nat) (args : Array Value) (v : Value) : Prop := ∀ w, Env w → Calls Tryd.prog f args w fun e w' => e = .returned v ∧ Below w.heap.size w w'
abbrev Fails (s : ByteArray) : Prop := ∀ w, Env w → Calls Tryd.prog 20 #[.string s] w fun e w' => (∃ te pe, e = .returned (.tuple #[.int .u64 0, .iface te pe])) ∧ Below w.heap.size w w'

theorem back_long (a b : Int) (s : ByteArray) (hf : Gives 9 #[] (.bool true)) (hs : 60 < s.size) (w : World) (hE : Env w) :
    Calls Tryd.prog 8 #[.int .u64 a, .int .u64 b, .string s] w fun e w' => e = .returned (.bool true) ∧ Below w.heap.size w w' := by
  have h0 := On.start hE
  go_enter Tryd.func8, Tryd.ntmps8
  go_wp2_with (first
    | (go_at_call 9; refine (hf _ (On.env (by assumption))).mono ?_; rintro e w1 ⟨rfl, hb⟩; have h1 := On.step (by assumption) hb; clear hb))
  all_goals first | (exfalso; omega) | skip
  go_ret
  exact ⟨rfl, h1.old⟩

set_option maxHeartbeats 6400000 in
theorem back_bad (a b ca cb : Int) (ta tb s : ByteArray) (S : Bool) (hf : Gives 9 #[] (.bool true)) (hs : s.size ≤ 60)
    (hta : Gives 21 #[.int .u64 a] (.string ta)) (htb : Gives 21 #[.int .u64 b] (.string tb)) (hp : Gives 20 #[.string ta] (.tuple #[.int .u64 ca, .nilIface]))
    (hca : ∀ w, Calls Tryd.prog 10 #[.int .u64 a] w fun e w' => e = .returned (.int .u64 ca) ∧ w' = w) (hcb : ∀ w, Calls Tryd.prog 10 #[.int .u64 b] w fun e w' => e = .returned (.int .u64 cb) ∧ w' = w)
    (hS1 : (ca == cb) = S) (hS2 : (ta.toList == tb.toList) = S) (hq : Fails s) (w : World) (hE : Env w) :
    Calls Tryd.prog 8 #[.int .u64 a, .int .u64 b, .string s] w fun e w' => e = .returned (.bool true) ∧ Below w.heap.size w w' := by
  have h0 := On.start hE
  go_enter Tryd.func8, Tryd.ntmps8
  go_wp2_with (first
    | (go_at_call 9; with_reducible refine (hf _ (On.env (by assumption))).mono ?_; rintro e w1 ⟨rfl, hb⟩; have h1 := On.step (by assumption) hb; clear hb)
    | (go_at_call 21; with_reducible refine (hta _ (On.env (by assumption))).mono ?_; rintro e w1 ⟨rfl, hb⟩; have h1 := On.step (by assumption) hb; clear hb)
    | (go_at_call 21; with_reducible refine (htb _ (On.env (by assumption))).mono ?_; rintro e w1 ⟨rfl, hb⟩; have h1 := On.step (by assumption) hb; clear hb)
    | (go_at_call 20; with_reducible refine (hp _ (On.env (by assumption))).mono ?_; rintro e w1 ⟨rfl, hb⟩; have h1 := On.step (by assumption) hb; clear hb)
    | (go_at_call 20; with_reducible refine (hq _ (On.env (by assumption))).mono ?_; rintro e w1 ⟨⟨te, pe, rfl⟩, hb⟩; have h1 := On.step (by assumption) hb; clear hb)
    | (go_at_call 10; with_reducible refine (hca _).mono ?_; rintro e w' ⟨rfl, rfl⟩)
    | (go_at_call 10; with_reducible refine (hcb _).mono ?_; rintro e w' ⟨rfl, rfl⟩))
  all_goals first | (exfalso; omega) | skip
  go_ret
  refine ⟨?_, On.old (by assumption)⟩
  cases S <;> rfl

set_option maxHeartbeats 6400000 in
theorem back_good (a b ca cb n : Int) (ta tb s : ByteArray) (S : Bool) (hf : Gives 9 #[] (.bool true)) (hs : s.size ≤ 60)
    (hta : Gives 21 #[.int .u64 a] (.string ta)) (htb : Gives 21 #[.int .u64 b] (.string tb)) (hp : Gives 20 #[.string ta] (.tuple #[.int .u64 ca, .nilIface]))
    (hca : ∀ w, Calls Tryd.prog 10 #[.int .u64 a] w fun e w' => e = .returned (.int .u64 ca) ∧ w' = w) (hcb : ∀ w, Calls Tryd.prog 10 #[.int .u64 b] w fun e w' => e = .returned (.int .u64 cb) ∧ w' = w)
    (hS1 : (ca == cb) = S) (hS2 : (ta.toList == tb.toList) = S) (hq : Gives 20 #[.string s] (.tuple #[.int .u64 n, .nilIface])) (htn : Gives 21 #[.int .u64 n] (.string s))
    (hcn : ∀ w, Calls Tryd.prog 10 #[.int .u64 n] w fun e w' => e = .returned (.int .u64 n) ∧ w' = w) (w : World) (hE : Env w) :
    Calls Tryd.prog 8 #[.int .u64 a, .int .u64 b, .string s] w fun e w' => e = .returned (.bool true) ∧ Below w.heap.size w w' := by
  have h0 := On.start hE
  go_enter Tryd.func8, Tryd.ntmps8
  go_wp2_with (first
    | (go_at_call 9; with_reducible refine (hf _ (On.env (by assumption))).mono ?_; rintro e w1 ⟨rfl, hb⟩; have h1 := On.step (by assumption) hb; clear hb)
    | (go_at_call 21; with_reducible refine (hta _ (On.env (by assumption))).mono ?_; rintro e w1 ⟨rfl, hb⟩; have h1 := On.step (by assumption) hb; clear hb)
    | (go_at_call 21; with_reducible refine (htb _ (On.env (by assumption))).mono ?_; rintro e w1 ⟨rfl, hb⟩; have h1 := On.step (by assumption) hb; clear hb)
    | (go_at_call 21; with_reducible refine (htn _ (On.env (by assumption))).mono ?_; rintro e w1 ⟨rfl, hb⟩; have h1 := On.step (by assumption) hb; clear hb)
    | (go_at_call 20; with_reducible refine (hp _ (On.env (by assumption))).mono ?_; rintro e w1 ⟨rfl, hb⟩; have h1 := On.step (by assumption) hb; clear hb)
    | (go_at_call 20; with_reducible refine (hq _ (On.env (by assumption))).mono ?_; rintro e w1 ⟨rfl, hb⟩; have h1 := On.step (by assumption) hb; clear hb)
    | (go_at_call 10; with_reducible refine (hca _).mono ?_; rintro e w' ⟨rfl, rfl⟩)
    | (go_at_call 10; with_reducible refine (hcb _).mono ?_; rintro e w' ⟨rfl, rfl⟩)
    | (go_at_call 10; with_reducible refine (hcn _).mono ?_; rintro e w' ⟨rfl, rfl⟩))
  all_goals first | (exfalso; omega) | skip
  go_ret
  refine ⟨?_, On.old (by assumption)⟩
  cases S <;> rfl
end Go.Proofs.YtomjoiaahalahaaDoor
