/- gristmillsee.Is of ErrNumber, reckoned; the law FloSays, walked. -/
import Derived.Test.YtnggflfjmgbncaaDoorTt
import Derived.Test.YtnggflfjmgbncaaDoorTi4
import Derived.Test.YtnggflfjmgbncaaDoorTi8
namespace Go.Proofs.YtnggflfjmgbncaaDoor
open Go Go.RowKit Go.Sort Go.Lib Ieee Ev.Fl
open Ev (laid_rel ItemOk AllOk allOk_get phi0 ev_call isT isT_val ofL itemsO)
set_option maxRecDepth 100000

theorem heap_below {w w' : World} (hb : Below w.heap.size w w') (b : Nat) (x : Obj) (h : w.heap[b]? = some x) : w'.heap[b]? = some x := by
  rw [hb.block b (Array.getElem?_eq_some_iff.1 h).1]
  exact h

theorem itemOk_below {w w' : World} {tp : TypeId} {it : Ev.Item} {m : List (Nat × Nat)} (hb : Below w.heap.size w w') (h : ItemOk w tp it m) : ItemOk w' tp it m := by
  cases it with
  | sent g text =>
    obtain ⟨b, off, s, C, C2, et, et2, h1, h2, h3, h4, h5, h6⟩ := h
    exact ⟨b, off, s, C, C2, et, et2, heap_below hb _ _ h1, h2, heap_below hb _ _ h3, h4, h5, h6⟩
  | arr g k xs =>
    obtain ⟨C, et, h1, h2, h3⟩ := h
    exact ⟨C, et, heap_below hb _ _ h1, h2, h3⟩
  | skip g => exact h

theorem allOk_below {w w' : World} {tp : TypeId} (hb : Below w.heap.size w w') : ∀ {l : List Ev.Item} {ms : List (List (Nat × Nat))}, AllOk w tp l ms → AllOk w' tp l ms
  | [], [], _ => trivial
  | _ :: _, _ :: _, ⟨h1, h2⟩ => ⟨itemOk_below hb h1, allOk_below hb h2⟩
  | [], _ :: _, h => h.elim
  | _ :: _, [], h => h.elim

/-- What the law asks of the package variables. -/
structure EnvS (ms : List (List (Nat × Nat))) (b off : Nat) (w : World) : Prop where
  env : Env w
  ok : AllOk w 141 its ms
  nd : ms.flatten.Nodup
  big : 25 ≤ w.heap.size
  at22 : ms[22]? = some [(0, 0), (b, off)]
  cell : w.cell? ⟨0, 0, none⟩ = some (.iface 141 (.pointer (some ⟨b, off, none⟩)))

theorem EnvS.below {ms : List (List (Nat × Nat))} {b off : Nat} {w w' : World} (h : EnvS ms b off w) (hb : Below w.heap.size w w') : EnvS ms b off w' := by
  refine ⟨h.env.below hb, allOk_below hb h.ok, h.nd, Nat.le_trans h.big hb.size, h.at22, ?_⟩
  have := hb.block 0 (by have := h.big; omega)
  have hc := h.cell
  unfold World.cell? at hc ⊢
  rw [this]
  exact hc

theorem envS_of {W : World} (hL : laidMet Tryd.prog Rows.floSaysRow.laid W) (hS : W.ShapedOpen Tryd.prog) : ∃ ms b off, EnvS ms b off W := by
  obtain ⟨ms, hok, hnd⟩ := its_ok hL
  obtain ⟨m, h1, h2⟩ := allOk_get hok 22 _ rfl
  obtain ⟨b, off, s, C, C2, et, et2, g1, g2, g3, g4, g5, g6⟩ := h2
  refine ⟨ms, b, off, env_of hL hS, hok, hnd, big_heap hS, by rw [h1, g6], ?_⟩
  subst g2
  unfold World.cell?
  simp [g1]

theorem number_is : isT ((Ev.ev CC 4000).call 14 [.x (.ic 141 (.p 47 0)), .i 0 118] ⟨ofL (itemsO 141 25 its), 25 + its.length, 25 + its.length⟩) = true := by decide +kernel

theorem isNumber {ms : List (List (Nat × Nat))} {b off : Nat} {w : World} (h : EnvS ms b off w) :
    Calls Tryd.prog 14 #[.iface 141 (.pointer (some ⟨b, off, none⟩)), .int .i64 118] w fun e w' => e = .returned (.bool true) ∧ Below w.heap.size w w' := by
  have hrel := laid_rel (sy := Ev.syOf [] (Ev.szAt w)) (n0 := 25) h.ok h.nd (by decide) (by decide) (Nat.le_refl _) h.big (fun _ _ => rfl)
  obtain ⟨s', hs⟩ := isT_val number_is
  have hφ : phi0 w 25 ms 47 = some ⟨b, off, Ev.szAt w b - off⟩ := by
    unfold phi0
    rw [if_neg (by decide), h.at22]
    rfl
  refine (ev_call (P := Tryd.prog) (C := CC) rfl mixed (ov_ok _ _) hs hrel ?_).mono fun e W' ⟨V', ψ, he, hx, hV⟩ => ?_
  · exact .cons _ _ _ _ (.x _ _ (.ic _ _ _ (.p _ _ _ hφ))) (.cons _ _ _ _ (.i 0 118) .nil)
  · cases hV
    exact ⟨he, ⟨hx.low.os, hx.low.tape, hx.low.output, hx.low.size, hx.low.block⟩⟩

theorem parse_bad_s (s t : ByteArray) (n : Int) (te : TypeId) (pe : Value) (w : World) (hE : Env w) (hcell : ∀ w', Below w.heap.size w w' → w'.cell? ⟨0, 0, none⟩ = some (.iface te pe)) (hv : ∀ w, Env w → Calls Tryd.prog 31 #[.string s] w fun e w' => e = .returned (.int .u64 n) ∧ Below w.heap.size w w')
    (ht : ∀ w, Env w → Calls Tryd.prog 19 #[.int .u64 n] w fun e w' => e = .returned (.string t) ∧ Below w.heap.size w w') (h : (t.toList == s.toList) = false) :
    Calls Tryd.prog 12 #[.string s] w fun e w' => e = .returned (.tuple #[.int .u64 0, .iface te pe]) ∧ Below w.heap.size w w' := by
  go_enter Tryd.func12, Tryd.ntmps12
  go_wp2_with (first
    | (go_at_call 31; refine (hv _ hE).mono ?_; rintro e w1 ⟨rfl, hb1⟩; have hE1 := hE.below hb1)
    | (go_at_call 19; refine (ht _ hE1).mono ?_; rintro e w2 ⟨rfl, hb2⟩; have hc := hcell _ (hb1.trans (hb2.mono hb1.size))))
  go_region
  go_wp2
  go_ret2
  exact ⟨rfl, (hb1.trans (hb2.mono hb1.size)).drew⟩

/-- The walk's world. -/
structure OnS (ms : List (List (Nat × Nat))) (b off : Nat) (w0 w : World) : Prop where
  env : EnvS ms b off w
  old : Below w0.heap.size w0 w
theorem OnS.start {ms : List (List (Nat × Nat))} {b off : Nat} {w : World} (h : EnvS ms b off w) : OnS ms b off w w := ⟨h, Below.refl _ _⟩
theorem OnS.step {ms : List (List (Nat × Nat))} {b off : Nat} {w0 w w' : World} (h : OnS ms b off w0 w) (hb : Below w.heap.size w w') : OnS ms b off w0 w' := ⟨h.env.below hb, h.old.trans (hb.mono h.old.size)⟩

abbrev GivesS (ms : List (List (Nat × Nat))) (b off : Nat) (f : Nat) (args : Array Value) (v : Value) : Prop := ∀ w, EnvS ms b off w → Calls Tryd.prog f args w fun e w' => e = .returned v ∧ Below w.heap.size w w'

theorem says_long (ms : List (List (Nat × Nat))) (b off : Nat) (name s : ByteArray) (x y n : Int) (hf : GivesS ms b off 5 #[] (.bool true)) (hs : 60 < s.size ∨ 60 < name.size) (w : World) (hE : EnvS ms b off w) :
    Calls Tryd.prog 3 #[.string name, .string s, .int .u64 x, .int .u64 y, .int .i64 n] w fun e w' => e = .returned (.bool true) ∧ Below w.heap.size w w' := by
  have h0 := OnS.start hE
  by_cases h60 : 60 < s.size
  · clear hs
    go_enter Tryd.func3, Tryd.ntmps3
    go_wp2_with (first
      | (go_at_call 5; refine (hf _ (OnS.env (by assumption))).mono ?_; rintro e w1 ⟨rfl, hb⟩; have h1 := OnS.step (by assumption) hb; clear hb))
    all_goals first | (exfalso; omega) | skip
    go_ret
    exact ⟨rfl, h1.old⟩
  · have h61 : 60 < name.size := by omega
    clear hs
    go_enter Tryd.func3, Tryd.ntmps3
    go_wp2_with (first
      | (go_at_call 5; refine (hf _ (OnS.env (by assumption))).mono ?_; rintro e w1 ⟨rfl, hb⟩; have h1 := OnS.step (by assumption) hb; clear hb))
    all_goals first | (exfalso; omega) | skip
    go_ret
    exact ⟨rfl, h1.old⟩

set_option maxHeartbeats 6400000 in
theorem says_good (ms : List (List (Nat × Nat))) (b off : Nat) (name s t : ByteArray) (x y n c g p k o : Int) (is e1 can fits : Bool) (hs : s.size ≤ 60) (hn : name.size ≤ 60) (hf : GivesS ms b off 5 #[] (.bool true)) (h6 : GivesS ms b off 6 #[.string name, .int .u64 x, .int .u64 y] (.tuple #[.int .u64 c, .bool is])) (h7 : GivesS ms b off 7 #[.string name, .int .u64 x, .int .u64 y] (.tuple #[.int .u64 c, .bool is])) (h8 : GivesS ms b off 8 #[.string name, .int .u64 x, .int .u64 y] (.tuple #[.bool e1, .bool can])) (h9 : GivesS ms b off 9 #[.string name, .int .u64 x, .int .u64 y] (.tuple #[.bool e1, .bool can])) (h10 : GivesS ms b off 10 #[.int .u64 x] (.tuple #[.int .i64 g, .bool fits])) (h11 : GivesS ms b off 11 #[.int .u64 x] (.tuple #[.int .i64 g, .bool fits])) (h12 : GivesS ms b off 12 #[.string s] (.tuple #[.int .u64 p, .nilIface])) (h13 : GivesS ms b off 13 #[.string s] (.tuple #[.int .u64 p, .bool true])) (h15 : GivesS ms b off 15 #[.int .u64 x] (.int .u64 k)) (h16 : GivesS ms b off 16 #[.int .u64 x] (.int .u64 k)) (h17 : GivesS ms b off 17 #[.int .i64 n] (.int .u64 o)) (h18 : GivesS ms b off 18 #[.int .i64 n] (.int .u64 o)) (h19 : GivesS ms b off 19 #[.int .u64 x] (.string t)) (h20 : GivesS ms b off 20 #[.int .u64 x] (.string t)) (w : World) (hE : EnvS ms b off w) :
    Calls Tryd.prog 3 #[.string name, .string s, .int .u64 x, .int .u64 y, .int .i64 n] w fun e w' => e = .returned (.bool true) ∧ Below w.heap.size w w' := by
  have h0 := OnS.start hE
  go_enter Tryd.func3, Tryd.ntmps3
  go_wp2_with (first
    | (go_at_call 5; with_reducible refine (hf _ (OnS.env (by assumption))).mono ?_; rintro e w1 ⟨rfl, hb⟩; have h1 := OnS.step (by assumption) hb; clear hb)
    | (go_at_call 6; with_reducible refine (h6 _ (OnS.env (by assumption))).mono ?_; rintro e w1 ⟨rfl, hb⟩; have h1 := OnS.step (by assumption) hb; clear hb)
    | (go_at_call 7; with_reducible refine (h7 _ (OnS.env (by assumption))).mono ?_; rintro e w1 ⟨rfl, hb⟩; have h1 := OnS.step (by assumption) hb; clear hb)
    | (go_at_call 8; with_reducible refine (h8 _ (OnS.env (by assumption))).mono ?_; rintro e w1 ⟨rfl, hb⟩; have h1 := OnS.step (by assumption) hb; clear hb)
    | (go_at_call 9; with_reducible refine (h9 _ (OnS.env (by assumption))).mono ?_; rintro e w1 ⟨rfl, hb⟩; have h1 := OnS.step (by assumption) hb; clear hb)
    | (go_at_call 10; with_reducible refine (h10 _ (OnS.env (by assumption))).mono ?_; rintro e w1 ⟨rfl, hb⟩; have h1 := OnS.step (by assumption) hb; clear hb)
    | (go_at_call 11; with_reducible refine (h11 _ (OnS.env (by assumption))).mono ?_; rintro e w1 ⟨rfl, hb⟩; have h1 := OnS.step (by assumption) hb; clear hb)
    | (go_at_call 12; with_reducible refine (h12 _ (OnS.env (by assumption))).mono ?_; rintro e w1 ⟨rfl, hb⟩; have h1 := OnS.step (by assumption) hb; clear hb)
    | (go_at_call 13; with_reducible refine (h13 _ (OnS.env (by assumption))).mono ?_; rintro e w1 ⟨rfl, hb⟩; have h1 := OnS.step (by assumption) hb; clear hb)
    | (go_at_call 15; with_reducible refine (h15 _ (OnS.env (by assumption))).mono ?_; rintro e w1 ⟨rfl, hb⟩; have h1 := OnS.step (by assumption) hb; clear hb)
    | (go_at_call 16; with_reducible refine (h16 _ (OnS.env (by assumption))).mono ?_; rintro e w1 ⟨rfl, hb⟩; have h1 := OnS.step (by assumption) hb; clear hb)
    | (go_at_call 17; with_reducible refine (h17 _ (OnS.env (by assumption))).mono ?_; rintro e w1 ⟨rfl, hb⟩; have h1 := OnS.step (by assumption) hb; clear hb)
    | (go_at_call 18; with_reducible refine (h18 _ (OnS.env (by assumption))).mono ?_; rintro e w1 ⟨rfl, hb⟩; have h1 := OnS.step (by assumption) hb; clear hb)
    | (go_at_call 19; with_reducible refine (h19 _ (OnS.env (by assumption))).mono ?_; rintro e w1 ⟨rfl, hb⟩; have h1 := OnS.step (by assumption) hb; clear hb)
    | (go_at_call 20; with_reducible refine (h20 _ (OnS.env (by assumption))).mono ?_; rintro e w1 ⟨rfl, hb⟩; have h1 := OnS.step (by assumption) hb; clear hb))
  all_goals first | (exfalso; omega) | skip

  go_ret
  refine ⟨?_, OnS.old (by assumption)⟩
  simp

set_option maxHeartbeats 6400000 in
theorem says_bad (ms : List (List (Nat × Nat))) (b off : Nat) (name s t : ByteArray) (x y n c g k o : Int) (is e1 can fits : Bool) (te : TypeId) (pe : Value) (hs : s.size ≤ 60) (hn : name.size ≤ 60) (hf : GivesS ms b off 5 #[] (.bool true)) (h6 : GivesS ms b off 6 #[.string name, .int .u64 x, .int .u64 y] (.tuple #[.int .u64 c, .bool is])) (h7 : GivesS ms b off 7 #[.string name, .int .u64 x, .int .u64 y] (.tuple #[.int .u64 c, .bool is])) (h8 : GivesS ms b off 8 #[.string name, .int .u64 x, .int .u64 y] (.tuple #[.bool e1, .bool can])) (h9 : GivesS ms b off 9 #[.string name, .int .u64 x, .int .u64 y] (.tuple #[.bool e1, .bool can])) (h10 : GivesS ms b off 10 #[.int .u64 x] (.tuple #[.int .i64 g, .bool fits])) (h11 : GivesS ms b off 11 #[.int .u64 x] (.tuple #[.int .i64 g, .bool fits])) (h12 : GivesS ms b off 12 #[.string s] (.tuple #[.int .u64 0, .iface te pe])) (h13 : GivesS ms b off 13 #[.string s] (.tuple #[.int .u64 0, .bool false])) (h15 : GivesS ms b off 15 #[.int .u64 x] (.int .u64 k)) (h16 : GivesS ms b off 16 #[.int .u64 x] (.int .u64 k)) (h17 : GivesS ms b off 17 #[.int .i64 n] (.int .u64 o)) (h18 : GivesS ms b off 18 #[.int .i64 n] (.int .u64 o)) (h19 : GivesS ms b off 19 #[.int .u64 x] (.string t)) (h20 : GivesS ms b off 20 #[.int .u64 x] (.string t)) (h14 : GivesS ms b off 14 #[.iface te pe, .int .i64 118] (.bool true)) (w : World) (hE : EnvS ms b off w) :
    Calls Tryd.prog 3 #[.string name, .string s, .int .u64 x, .int .u64 y, .int .i64 n] w fun e w' => e = .returned (.bool true) ∧ Below w.heap.size w w' := by
  have h0 := OnS.start hE
  go_enter Tryd.func3, Tryd.ntmps3
  go_wp2_with (first
    | (go_at_call 5; with_reducible refine (hf _ (OnS.env (by assumption))).mono ?_; rintro e w1 ⟨rfl, hb⟩; have h1 := OnS.step (by assumption) hb; clear hb)
    | (go_at_call 6; with_reducible refine (h6 _ (OnS.env (by assumption))).mono ?_; rintro e w1 ⟨rfl, hb⟩; have h1 := OnS.step (by assumption) hb; clear hb)
    | (go_at_call 7; with_reducible refine (h7 _ (OnS.env (by assumption))).mono ?_; rintro e w1 ⟨rfl, hb⟩; have h1 := OnS.step (by assumption) hb; clear hb)
    | (go_at_call 8; with_reducible refine (h8 _ (OnS.env (by assumption))).mono ?_; rintro e w1 ⟨rfl, hb⟩; have h1 := OnS.step (by assumption) hb; clear hb)
    | (go_at_call 9; with_reducible refine (h9 _ (OnS.env (by assumption))).mono ?_; rintro e w1 ⟨rfl, hb⟩; have h1 := OnS.step (by assumption) hb; clear hb)
    | (go_at_call 10; with_reducible refine (h10 _ (OnS.env (by assumption))).mono ?_; rintro e w1 ⟨rfl, hb⟩; have h1 := OnS.step (by assumption) hb; clear hb)
    | (go_at_call 11; with_reducible refine (h11 _ (OnS.env (by assumption))).mono ?_; rintro e w1 ⟨rfl, hb⟩; have h1 := OnS.step (by assumption) hb; clear hb)
    | (go_at_call 12; with_reducible refine (h12 _ (OnS.env (by assumption))).mono ?_; rintro e w1 ⟨rfl, hb⟩; have h1 := OnS.step (by assumption) hb; clear hb)
    | (go_at_call 13; with_reducible refine (h13 _ (OnS.env (by assumption))).mono ?_; rintro e w1 ⟨rfl, hb⟩; have h1 := OnS.step (by assumption) hb; clear hb)
    | (go_at_call 15; with_reducible refine (h15 _ (OnS.env (by assumption))).mono ?_; rintro e w1 ⟨rfl, hb⟩; have h1 := OnS.step (by assumption) hb; clear hb)
    | (go_at_call 16; with_reducible refine (h16 _ (OnS.env (by assumption))).mono ?_; rintro e w1 ⟨rfl, hb⟩; have h1 := OnS.step (by assumption) hb; clear hb)
    | (go_at_call 17; with_reducible refine (h17 _ (OnS.env (by assumption))).mono ?_; rintro e w1 ⟨rfl, hb⟩; have h1 := OnS.step (by assumption) hb; clear hb)
    | (go_at_call 18; with_reducible refine (h18 _ (OnS.env (by assumption))).mono ?_; rintro e w1 ⟨rfl, hb⟩; have h1 := OnS.step (by assumption) hb; clear hb)
    | (go_at_call 19; with_reducible refine (h19 _ (OnS.env (by assumption))).mono ?_; rintro e w1 ⟨rfl, hb⟩; have h1 := OnS.step (by assumption) hb; clear hb)
    | (go_at_call 20; with_reducible refine (h20 _ (OnS.env (by assumption))).mono ?_; rintro e w1 ⟨rfl, hb⟩; have h1 := OnS.step (by assumption) hb; clear hb)
    | (go_at_call 14; with_reducible refine (h14 _ (OnS.env (by assumption))).mono ?_; rintro e w1 ⟨rfl, hb⟩; have h1 := OnS.step (by assumption) hb; clear hb))
  all_goals first | (exfalso; omega) | skip

  go_ret
  refine ⟨?_, OnS.old (by assumption)⟩
  simp
end Go.Proofs.YtnggflfjmgbncaaDoor
