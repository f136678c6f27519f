/- What lies in a code that was read; its bytes. -/
import Derived.Test.YtfdkdghhdigfbaaDoorCh
namespace Go.Proofs.YtfdkdghhdigfbaaDoor
open Go Go.RowKit
set_option maxRecDepth 100000

theorem row_cell {w : World} {C : Nat} {e : TypeId} {s : Nat} {v : Value} {n : Nat} {xs : List Value} (h : w.ownsRow C e s v n xs) : (n = 0 ∧ v = .slice none 0 0) ∨ ∃ g cap, v = .slice (some ⟨g, 0, none⟩) n cap ∧ n ≤ cap ∧ C ≤ g ∧ g < w.heap.size ∧ ∀ k, k < n * s → w.cell? ⟨g, k, none⟩ = xs[k]? := by
  rcases h.2 with ⟨rfl, h0⟩ | ⟨g, cap, cur, rfl, hC, hg, hn, _, hcur, hx⟩
  · exact .inl ⟨h0, rfl⟩
  · refine .inr ⟨g, cap, rfl, hn, hC, (Array.getElem?_eq_some_iff.1 hg).1, fun k hk => ?_⟩
    rw [Lib.cell_of_heap hg, ← hx, List.getElem?_take, if_pos hk]
    simp

theorem flat_get {α : Type} (f : α → List Value) (s : Nat) (hf : ∀ x, (f x).length = s) : ∀ (l : List α) (j o : Nat), o < s → (l.flatMap f)[j * s + o]? = (l[j]?).bind fun x => (f x)[o]? := by
  intro l
  induction l with
  | nil => intro j o _; simp
  | cons x l ih =>
    intro j o ho
    rw [List.flatMap_cons]
    cases j with
    | zero =>
      rw [Nat.zero_mul, Nat.zero_add, List.getElem?_append_left (by rw [hf]; exact ho)]
      rfl
    | succ j =>
      have e : (j + 1) * s + o = s + (j * s + o) := by rw [Nat.add_mul]; omega
      rw [e, List.getElem?_append_right (by rw [hf]; omega), hf, Nat.add_sub_cancel_left, ih j o ho]
      simp
theorem flat_get' {α : Type} (f : α → List Value) (s : Nat) (hf : ∀ x, (f x).length = s) (l : List α) (j o : Nat) (ho : o < s) (hj : j < l.length) : (l.flatMap f)[j * s + o]? = (f l[j])[o]? := by
  rw [flat_get f s hf l j o ho, List.getElem?_eq_getElem hj]
  rfl
theorem flatten_get {css : List (List Value)} {s : Nat} (hf : ∀ (i : Nat) (cs : List Value), css[i]? = some cs → cs.length = s) : ∀ (j o : Nat), o < s → css.flatten[j * s + o]? = (css[j]?).bind fun x => x[o]? := by
  induction css with
  | nil => intro j o _; simp
  | cons x l ih =>
    intro j o ho
    have hx : x.length = s := hf 0 x rfl
    rw [List.flatten_cons]
    cases j with
    | zero =>
      rw [Nat.zero_mul, Nat.zero_add, List.getElem?_append_left (by rw [hx]; exact ho)]
      rfl
    | succ j =>
      have e : (j + 1) * s + o = s + (j * s + o) := by rw [Nat.add_mul]; omega
      rw [e, List.getElem?_append_right (by rw [hx]; omega), hx, Nat.add_sub_cancel_left, ih (fun i cs h => hf (i + 1) cs (by simpa using h)) j o ho]
      simp

/-- A code, in the world. -/
structure CodeAt (w : World) (bc : Nat) (D : CodeD) (vt vf vi : Value) : Prop where
  c : w.heap[bc]? = some (.cells #[vt, vf, vi, .int .i64 D.main] 45 (0, 0))
  tags : w.ownsRow (bc + 1) 47 4 vt D.tags.length (tCells D.tags)
  funs : w.ownsRow (bc + 1) 50 3 vf D.funs.length (fCells D.funs)
  ins : InsAll w (bc + 1) vi D.ins

/-- What is kept of it: the cells that are read. -/
structure Cells (w : World) (C : Nat) (bc : Nat) (D : CodeD) (vt vf vi : Value) : Prop where
  lo : bc < C
  c0 : w.cell? ⟨bc, 0, none⟩ = some vt
  c1 : w.cell? ⟨bc, 1, none⟩ = some vf
  c2 : w.cell? ⟨bc, 2, none⟩ = some vi
  c3 : w.cell? ⟨bc, 3, none⟩ = some (.int .i64 D.main)
  tags : (D.tags.length = 0 ∧ vt = .slice none 0 0) ∨ ∃ g cap, vt = .slice (some ⟨g, 0, none⟩) D.tags.length cap ∧ D.tags.length ≤ cap ∧ g < C ∧ ∀ j (h : j < D.tags.length), w.cell? ⟨g, j * 4, none⟩ = some (.int .i64 D.tags[j].kind) ∧ w.cell? ⟨g, j * 4 + 1, none⟩ = some (.string D.tags[j].name) ∧ w.cell? ⟨g, j * 4 + 2, none⟩ = some (.int .i64 D.tags[j].fn) ∧ w.cell? ⟨g, j * 4 + 3, none⟩ = some (.int .i64 D.tags[j].n)
  funs : (D.funs.length = 0 ∧ vf = .slice none 0 0) ∨ ∃ g cap, vf = .slice (some ⟨g, 0, none⟩) D.funs.length cap ∧ D.funs.length ≤ cap ∧ g < C ∧ ∀ j (h : j < D.funs.length), w.cell? ⟨g, j * 3, none⟩ = some (.int .i64 D.funs[j].params) ∧ w.cell? ⟨g, j * 3 + 1, none⟩ = some (.int .i64 D.funs[j].regs) ∧ w.cell? ⟨g, j * 3 + 2, none⟩ = some (.int .i64 D.funs[j].at')
  ins : (D.ins.length = 0 ∧ vi = .slice none 0 0) ∨ ∃ g cap, vi = .slice (some ⟨g, 0, none⟩) D.ins.length cap ∧ D.ins.length ≤ cap ∧ g < C ∧ ∀ j (h : j < D.ins.length), ∃ vv va, (w.cell? ⟨g, j * 8, none⟩ = some (.int .i64 D.ins[j].op) ∧ w.cell? ⟨g, j * 8 + 1, none⟩ = some (.int .i64 D.ins[j].dst) ∧ w.cell? ⟨g, j * 8 + 2, none⟩ = some (.int .i64 D.ins[j].tag) ∧ w.cell? ⟨g, j * 8 + 3, none⟩ = some (.int .i64 D.ins[j].fn) ∧ w.cell? ⟨g, j * 8 + 4, none⟩ = some (.int .i64 D.ins[j].n) ∧ w.cell? ⟨g, j * 8 + 5, none⟩ = some (.string D.ins[j].prim) ∧ w.cell? ⟨g, j * 8 + 6, none⟩ = some vv ∧ w.cell? ⟨g, j * 8 + 7, none⟩ = some va) ∧
    ((D.ins[j].vals.length = 0 ∧ vv = .slice none 0 0) ∨ ∃ g' cap', vv = .slice (some ⟨g', 0, none⟩) D.ins[j].vals.length cap' ∧ g' < C ∧ ∀ k (h : k < D.ins[j].vals.length), w.cell? ⟨g', k * 2, none⟩ = some (.int .i64 D.ins[j].vals[k].1) ∧ w.cell? ⟨g', k * 2 + 1, none⟩ = some (.int .i64 D.ins[j].vals[k].2)) ∧
    ((D.ins[j].alts.length = 0 ∧ va = .slice none 0 0) ∨ ∃ g' cap', va = .slice (some ⟨g', 0, none⟩) D.ins[j].alts.length cap' ∧ g' < C ∧ ∀ k (h : k < D.ins[j].alts.length), w.cell? ⟨g', k * 4, none⟩ = some (.int .i64 D.ins[j].alts[k].1) ∧ w.cell? ⟨g', k * 4 + 1, none⟩ = some (.int .i64 D.ins[j].alts[k].2.1) ∧ w.cell? ⟨g', k * 4 + 2, none⟩ = some (.int .i64 D.ins[j].alts[k].2.2.1) ∧ w.cell? ⟨g', k * 4 + 3, none⟩ = some (.int .i64 D.ins[j].alts[k].2.2.2))

theorem CodeAt.cells {w : World} {bc : Nat} {D : CodeD} {vt vf vi : Value} (h : CodeAt w bc D vt vf vi) : Cells w w.heap.size bc D vt vf vi := by
  obtain ⟨e0, e1, e2, e3, _⟩ := cells4 h.c
  refine ⟨(Array.getElem?_eq_some_iff.1 h.c).1, e0, e1, e2, e3, ?_, ?_, ?_⟩
  · rcases row_cell h.tags with h0 | ⟨g, cap, h1, hc, _, h2, h3⟩
    · exact .inl h0
    · refine .inr ⟨g, cap, h1, hc, h2, fun j hj => ?_⟩
      have key : ∀ o, o < 4 → w.cell? ⟨g, j * 4 + o, none⟩ = _ := fun o ho => (h3 (j * 4 + o) (by omega)).trans (flat_get' _ 4 (fun _ => rfl) D.tags j o ho hj)
      exact ⟨key 0 (by decide), key 1 (by decide), key 2 (by decide), key 3 (by decide)⟩
  · rcases row_cell h.funs with h0 | ⟨g, cap, h1, hc, _, h2, h3⟩
    · exact .inl h0
    · refine .inr ⟨g, cap, h1, hc, h2, fun j hj => ?_⟩
      have key : ∀ o, o < 3 → w.cell? ⟨g, j * 3 + o, none⟩ = _ := fun o ho => (h3 (j * 3 + o) (by omega)).trans (flat_get' _ 3 (fun _ => rfl) D.funs j o ho hj)
      exact ⟨key 0 (by decide), key 1 (by decide), key 2 (by decide)⟩
  · obtain ⟨css, hl, ho, hN⟩ := h.ins
    rcases row_cell ho with h0 | ⟨g, cap, h1, hc, _, h2, h3⟩
    · exact .inl h0
    · refine .inr ⟨g, cap, h1, hc, h2, fun j hj => ?_⟩
      have hcs : css[j]? = some css[j] := List.getElem?_eq_getElem (by omega)
      obtain ⟨vv, va, q1, q2, q3⟩ := hN j D.ins[j] css[j] (List.getElem?_eq_getElem hj) hcs
      have key : ∀ o, o < 8 → w.cell? ⟨g, j * 8 + o, none⟩ = (css[j])[o]? := fun o ho => by
        rw [h3 (j * 8 + o) (by omega), flatten_get (s := 8) (fun i cs hi => ?_) j o ho, hcs]
        · rfl
        · obtain ⟨hlt, _⟩ := List.getElem?_eq_some_iff.1 hi
          obtain ⟨_, _, r1, _⟩ := hN i D.ins[i] cs (List.getElem?_eq_getElem (by omega)) hi
          rw [r1]
          rfl
      rw [q1] at key
      refine ⟨vv, va, ⟨key 0 (by decide), key 1 (by decide), key 2 (by decide), key 3 (by decide), key 4 (by decide), key 5 (by decide), key 6 (by decide), key 7 (by decide)⟩, ?_, ?_⟩
      · rcases row_cell q2 with h0 | ⟨g', cap', k1, kc, _, k2, k3⟩
        · exact .inl h0
        · refine .inr ⟨g', cap', k1, k2, fun k hk => ?_⟩
          have key : ∀ o, o < 2 → w.cell? ⟨g', k * 2 + o, none⟩ = ([.int .i64 D.ins[j].vals[k].1, .int .i64 D.ins[j].vals[k].2] : List Value)[o]? := fun o ho => (k3 (k * 2 + o) (by omega)).trans (flat_get' (fun v : Int × Int => [.int .i64 v.1, .int .i64 v.2]) 2 (fun _ => rfl) D.ins[j].vals k o ho hk)
          exact ⟨key 0 (by decide), key 1 (by decide)⟩
      · rcases row_cell q3 with h0 | ⟨g', cap', k1, kc, _, k2, k3⟩
        · exact .inl h0
        · refine .inr ⟨g', cap', k1, k2, fun k hk => ?_⟩
          have key : ∀ o, o < 4 → w.cell? ⟨g', k * 4 + o, none⟩ = ([.int .i64 D.ins[j].alts[k].1, .int .i64 D.ins[j].alts[k].2.1, .int .i64 D.ins[j].alts[k].2.2.1, .int .i64 D.ins[j].alts[k].2.2.2] : List Value)[o]? := fun o ho => (k3 (k * 4 + o) (by omega)).trans (flat_get' (fun v : Int × Int × Int × Int => [.int .i64 v.1, .int .i64 v.2.1, .int .i64 v.2.2.1, .int .i64 v.2.2.2]) 4 (fun _ => rfl) D.ins[j].alts k o ho hk)
          exact ⟨key 0 (by decide), key 1 (by decide), key 2 (by decide), key 3 (by decide)⟩

theorem Cells.keep {w w' : World} {C bc : Nat} {D : CodeD} {vt vf vi : Value} (h : Cells w C bc D vt vf vi) (hs : ∀ k, k < C → w'.heap[k]? = w.heap[k]?) : Cells w' C bc D vt vf vi := by
  have key : ∀ g o, g < C → w'.cell? ⟨g, o, none⟩ = w.cell? ⟨g, o, none⟩ := fun g o hg => by unfold World.cell?; rw [hs g hg]
  refine ⟨h.lo, (key _ _ h.lo).trans h.c0, (key _ _ h.lo).trans h.c1, (key _ _ h.lo).trans h.c2, (key _ _ h.lo).trans h.c3, ?_, ?_, ?_⟩
  · rcases h.tags with h0 | ⟨g, cap, h1, hc, h2, h3⟩
    · exact .inl h0
    · exact .inr ⟨g, cap, h1, hc, h2, fun j hj => by rw [key _ _ h2, key _ _ h2, key _ _ h2, key _ _ h2]; exact h3 j hj⟩
  · rcases h.funs with h0 | ⟨g, cap, h1, hc, h2, h3⟩
    · exact .inl h0
    · exact .inr ⟨g, cap, h1, hc, h2, fun j hj => by rw [key _ _ h2, key _ _ h2, key _ _ h2]; exact h3 j hj⟩
  · rcases h.ins with h0 | ⟨g, cap, h1, hc, h2, h3⟩
    · exact .inl h0
    · refine .inr ⟨g, cap, h1, hc, h2, fun j hj => ?_⟩
      obtain ⟨vv, va, q, q2, q3⟩ := h3 j hj
      refine ⟨vv, va, ?_, ?_, ?_⟩
      · rw [key _ _ h2, key _ _ h2, key _ _ h2, key _ _ h2, key _ _ h2, key _ _ h2, key _ _ h2, key _ _ h2]; exact q
      · rcases q2 with h0 | ⟨g', cap', k1, k2, k3⟩
        · exact .inl h0
        · exact .inr ⟨g', cap', k1, k2, fun k hk => by rw [key _ _ k2, key _ _ k2]; exact k3 k hk⟩
      · rcases q3 with h0 | ⟨g', cap', k1, k2, k3⟩
        · exact .inl h0
        · exact .inr ⟨g', cap', k1, k2, fun k hk => by rw [key _ _ k2, key _ _ k2, key _ _ k2, key _ _ k2]; exact k3 k hk⟩
theorem Cells.more {w : World} {C C' bc : Nat} {D : CodeD} {vt vf vi : Value} (h : Cells w C bc D vt vf vi) (hC : C ≤ C') : Cells w C' bc D vt vf vi := by
  refine ⟨Nat.lt_of_lt_of_le h.lo hC, h.c0, h.c1, h.c2, h.c3, ?_, ?_, ?_⟩
  · rcases h.tags with h0 | ⟨g, cap, h1, hc, h2, h3⟩
    · exact .inl h0
    · exact .inr ⟨g, cap, h1, hc, Nat.lt_of_lt_of_le h2 hC, h3⟩
  · rcases h.funs with h0 | ⟨g, cap, h1, hc, h2, h3⟩
    · exact .inl h0
    · exact .inr ⟨g, cap, h1, hc, Nat.lt_of_lt_of_le h2 hC, h3⟩
  · rcases h.ins with h0 | ⟨g, cap, h1, hc, h2, h3⟩
    · exact .inl h0
    · refine .inr ⟨g, cap, h1, hc, Nat.lt_of_lt_of_le h2 hC, fun j hj => ?_⟩
      obtain ⟨vv, va, q, q2, q3⟩ := h3 j hj
      refine ⟨vv, va, q, ?_, ?_⟩
      · rcases q2 with h0 | ⟨g', cap', k1, k2, k3⟩
        · exact .inl h0
        · exact .inr ⟨g', cap', k1, Nat.lt_of_lt_of_le k2 hC, k3⟩
      · rcases q3 with h0 | ⟨g', cap', k1, k2, k3⟩
        · exact .inl h0
        · exact .inr ⟨g', cap', k1, Nat.lt_of_lt_of_le k2 hC, k3⟩

theorem Cells.tags' {w : World} {C bc : Nat} {D : CodeD} {vt vf vi : Value} (h : Cells w C bc D vt vf vi) : ∃ ao cap, vt = .slice ao D.tags.length cap ∧ D.tags.length ≤ cap ∧ ∀ j (h : j < D.tags.length), ∃ g, ao = some ⟨g, 0, none⟩ ∧ g < C ∧ w.cell? ⟨g, j * 4, none⟩ = some (.int .i64 D.tags[j].kind) ∧ w.cell? ⟨g, j * 4 + 1, none⟩ = some (.string D.tags[j].name) ∧ w.cell? ⟨g, j * 4 + 2, none⟩ = some (.int .i64 D.tags[j].fn) ∧ w.cell? ⟨g, j * 4 + 3, none⟩ = some (.int .i64 D.tags[j].n) := by
  rcases h.tags with ⟨h0, h1⟩ | ⟨g, cap, h1, hc, h2, h3⟩
  · exact ⟨none, 0, by rw [h0]; exact h1, by omega, fun j hj => by omega⟩
  · exact ⟨some ⟨g, 0, none⟩, cap, h1, hc, fun j hj => ⟨g, rfl, h2, h3 j hj⟩⟩
theorem Cells.funs' {w : World} {C bc : Nat} {D : CodeD} {vt vf vi : Value} (h : Cells w C bc D vt vf vi) : ∃ ao cap, vf = .slice ao D.funs.length cap ∧ D.funs.length ≤ cap ∧ ∀ j (h : j < D.funs.length), ∃ g, ao = some ⟨g, 0, none⟩ ∧ g < C ∧ w.cell? ⟨g, j * 3, none⟩ = some (.int .i64 D.funs[j].params) ∧ w.cell? ⟨g, j * 3 + 1, none⟩ = some (.int .i64 D.funs[j].regs) ∧ w.cell? ⟨g, j * 3 + 2, none⟩ = some (.int .i64 D.funs[j].at') := by
  rcases h.funs with ⟨h0, h1⟩ | ⟨g, cap, h1, hc, h2, h3⟩
  · exact ⟨none, 0, by rw [h0]; exact h1, by omega, fun j hj => by omega⟩
  · exact ⟨some ⟨g, 0, none⟩, cap, h1, hc, fun j hj => ⟨g, rfl, h2, h3 j hj⟩⟩
/-- An instruction's values, alternatives. -/
def ValsAt (w : World) (C : Nat) (vv : Value) (l : List (Int × Int)) : Prop := ∃ ao cap, vv = .slice ao l.length cap ∧ ∀ k (h : k < l.length), ∃ g, ao = some ⟨g, 0, none⟩ ∧ g < C ∧ w.cell? ⟨g, k * 2, none⟩ = some (.int .i64 l[k].1) ∧ w.cell? ⟨g, k * 2 + 1, none⟩ = some (.int .i64 l[k].2)
def AltsAt (w : World) (C : Nat) (vv : Value) (l : List (Int × Int × Int × Int)) : Prop := ∃ ao cap, vv = .slice ao l.length cap ∧ ∀ k (h : k < l.length), ∃ g, ao = some ⟨g, 0, none⟩ ∧ g < C ∧ w.cell? ⟨g, k * 4, none⟩ = some (.int .i64 l[k].1) ∧ w.cell? ⟨g, k * 4 + 1, none⟩ = some (.int .i64 l[k].2.1) ∧ w.cell? ⟨g, k * 4 + 2, none⟩ = some (.int .i64 l[k].2.2.1) ∧ w.cell? ⟨g, k * 4 + 3, none⟩ = some (.int .i64 l[k].2.2.2)
theorem Cells.ins' {w : World} {C bc : Nat} {D : CodeD} {vt vf vi : Value} (h : Cells w C bc D vt vf vi) : ∃ ao cap, vi = .slice ao D.ins.length cap ∧ D.ins.length ≤ cap ∧ ∀ j (h : j < D.ins.length), ∃ g vv va, ao = some ⟨g, 0, none⟩ ∧ g < C ∧ (w.cell? ⟨g, j * 8, none⟩ = some (.int .i64 D.ins[j].op) ∧ w.cell? ⟨g, j * 8 + 1, none⟩ = some (.int .i64 D.ins[j].dst) ∧ w.cell? ⟨g, j * 8 + 2, none⟩ = some (.int .i64 D.ins[j].tag) ∧ w.cell? ⟨g, j * 8 + 3, none⟩ = some (.int .i64 D.ins[j].fn) ∧ w.cell? ⟨g, j * 8 + 4, none⟩ = some (.int .i64 D.ins[j].n) ∧ w.cell? ⟨g, j * 8 + 5, none⟩ = some (.string D.ins[j].prim) ∧ w.cell? ⟨g, j * 8 + 6, none⟩ = some vv ∧ w.cell? ⟨g, j * 8 + 7, none⟩ = some va) ∧ ValsAt w C vv D.ins[j].vals ∧ AltsAt w C va D.ins[j].alts := by
  rcases h.ins with ⟨h0, h1⟩ | ⟨g, cap, h1, hc, h2, h3⟩
  · exact ⟨none, 0, by rw [h0]; exact h1, by omega, fun j hj => by omega⟩
  · refine ⟨some ⟨g, 0, none⟩, cap, h1, hc, fun j hj => ?_⟩
    obtain ⟨vv, va, q1, q2, q3⟩ := h3 j hj
    refine ⟨g, vv, va, rfl, h2, q1, ?_, ?_⟩
    · rcases q2 with ⟨k0, k1⟩ | ⟨g', cap', k1, k2, k3⟩
      · exact ⟨none, 0, by rw [k0]; exact k1, fun j hj => by omega⟩
      · exact ⟨some ⟨g', 0, none⟩, cap', k1, fun j hj => ⟨g', rfl, k2, k3 j hj⟩⟩
    · rcases q3 with ⟨k0, k1⟩ | ⟨g', cap', k1, k2, k3⟩
      · exact ⟨none, 0, by rw [k0]; exact k1, fun j hj => by omega⟩
      · exact ⟨some ⟨g', 0, none⟩, cap', k1, fun j hj => ⟨g', rfl, k2, k3 j hj⟩⟩
theorem ValsAt.keep {w w' : World} {C : Nat} {vv : Value} {l : List (Int × Int)} (h : ValsAt w C vv l) (hs : ∀ k, k < C → w'.heap[k]? = w.heap[k]?) : ValsAt w' C vv l := by
  have key : ∀ g o, g < C → w'.cell? ⟨g, o, none⟩ = w.cell? ⟨g, o, none⟩ := fun g o hg => by unfold World.cell?; rw [hs g hg]
  obtain ⟨ao, cap, h1, h2⟩ := h
  refine ⟨ao, cap, h1, fun k hk => ?_⟩
  obtain ⟨g, q1, q2, q3⟩ := h2 k hk
  exact ⟨g, q1, q2, by rw [key _ _ q2, key _ _ q2]; exact q3⟩
theorem AltsAt.keep {w w' : World} {C : Nat} {vv : Value} {l : List (Int × Int × Int × Int)} (h : AltsAt w C vv l) (hs : ∀ k, k < C → w'.heap[k]? = w.heap[k]?) : AltsAt w' C vv l := by
  have key : ∀ g o, g < C → w'.cell? ⟨g, o, none⟩ = w.cell? ⟨g, o, none⟩ := fun g o hg => by unfold World.cell?; rw [hs g hg]
  obtain ⟨ao, cap, h1, h2⟩ := h
  refine ⟨ao, cap, h1, fun k hk => ?_⟩
  obtain ⟨g, q1, q2, q3⟩ := h2 k hk
  exact ⟨g, q1, q2, by rw [key _ _ q2, key _ _ q2, key _ _ q2, key _ _ q2]; exact q3⟩

structure FitTag (t : TagD) : Prop where
  kind : 0 ≤ t.kind ∧ t.kind ≤ 6
  name : t.name.size ≤ 3000
  fn : 0 ≤ t.fn ∧ t.fn ≤ 262144
  n : 0 ≤ t.n ∧ t.n ≤ 60
structure FitFun (f : FunD) : Prop where
  params : 0 ≤ f.params ∧ f.params ≤ 262144
  regs : 0 ≤ f.regs ∧ f.regs ≤ 524288
  at' : 0 ≤ f.at' ∧ f.at' ≤ 262144
structure FitIns (x : InsD) : Prop where
  op : 0 ≤ x.op ∧ x.op ≤ 12
  dst : 0 ≤ x.dst ∧ x.dst ≤ 262144
  tag : 0 ≤ x.tag ∧ x.tag ≤ 262144
  fn : 0 ≤ x.fn ∧ x.fn ≤ 262144
  n : I64 x.n
  prim : x.prim.size ≤ 3000
  vl : x.vals.length ≤ 3000
  al : x.alts.length ≤ 3000
  vals : ∀ v ∈ x.vals, (0 ≤ v.1 ∧ v.1 ≤ 2) ∧ I64 v.2
  alts : ∀ a ∈ x.alts, (0 ≤ a.1 ∧ a.1 ≤ 3) ∧ (0 ≤ a.2.1 ∧ a.2.1 ≤ 262144) ∧ (0 ≤ a.2.2.1 ∧ a.2.2.1 ≤ 262144) ∧ I64 a.2.2.2
structure FitD (D : CodeD) : Prop where
  tl : D.tags.length ≤ 3000
  fl : D.funs.length ≤ 3000
  il : D.ins.length ≤ 3000
  main : 0 ≤ D.main ∧ D.main ≤ 262144
  tags : ∀ t ∈ D.tags, FitTag t
  funs : ∀ f ∈ D.funs, FitFun f
  ins : ∀ x ∈ D.ins, FitIns x

def tagBy (t : TagD) : List Int := putsL [t.kind] ++ (textB t.name ++ putsL [t.fn, t.n])
def funBy (f : FunD) : List Int := putsL [f.params, f.regs, f.at']
def valBy (v : Int × Int) : List Int := putsL [v.1] ++ putL v.2
def altBy (a : Int × Int × Int × Int) : List Int := putsL [a.1, a.2.1, a.2.2.1] ++ putL a.2.2.2
def insBy (x : InsD) : List Int := putsL [x.op, x.dst, x.tag, x.fn] ++ (putL x.n ++ (textB x.prim ++ (putsL [(x.vals.length : Int)] ++ (x.vals.flatMap valBy ++ (putsL [(x.alts.length : Int)] ++ x.alts.flatMap altBy)))))
/-- A code's bytes. -/
def bytesF (D : CodeD) : List Int := [71] ++ (putsL [(D.tags.length : Int)] ++ (D.tags.flatMap tagBy ++ (putsL [(D.funs.length : Int)] ++ (D.funs.flatMap funBy ++ (putsL [D.main, (D.ins.length : Int)] ++ D.ins.flatMap insBy)))))

theorem bound {l a r T : List Int} {N : Nat} (h : l ++ (a ++ r) = T) (hT : T.length ≤ N) : (l ++ a).length ≤ N := by
  have := congrArg List.length h
  simp only [List.length_append] at this ⊢
  omega
theorem flatstep {α : Type} (f : α → List Int) (l : List α) (j : Nat) (h : j < l.length) : (l.drop j).flatMap f = f l[j] ++ (l.drop (j + 1)).flatMap f := by
  rw [List.drop_eq_getElem_cons h, List.flatMap_cons]
end Go.Proofs.YtfdkdghhdigfbaaDoor
