/- What a code is; what reading all of it needs. -/
import Derived.Test.YtfdkdghhdigfbaaDoorCd
import Derived.Deep.RegionHeld3
import Derived.Deep.AppendLies
namespace Go.Proofs.YtfdkdghhdigfbaaDoor
open Go Go.RowKit
set_option maxRecDepth 100000

structure TagD where
  kind : Int
  name : ByteArray
  fn : Int
  n : Int
structure FunD where
  params : Int
  regs : Int
  at' : Int
structure CodeD where
  tags : List TagD
  funs : List FunD
  ins : List InsD
  main : Int

def tagA (l : List UInt8) : Int × St := inS 1 6 (some l)
def tagB (l : List UInt8) : ByteArray × St := textS (tagA l).2
def tagC (l : List UInt8) : Int × St := inS 0 262144 (tagB l).2
def tagE (l : List UInt8) : Int × St := inS 0 60 (tagC l).2
def tagsS : Nat → St → List TagD × St
  | 0, st => ([], st)
  | _ + 1, none => ([], none)
  | n + 1, some l => (⟨(tagA l).1, (tagB l).1, (tagC l).1, (tagE l).1⟩ :: (tagsS n (tagE l).2).1, (tagsS n (tagE l).2).2)
def funA (l : List UInt8) : Int × St := inS 0 262144 (some l)
def funB (l : List UInt8) : Int × St := inS 0 524288 (funA l).2
def funC (l : List UInt8) : Int × St := inS 0 262144 (funB l).2
def funsS : Nat → St → List FunD × St
  | 0, st => ([], st)
  | _ + 1, none => ([], none)
  | n + 1, some l => (⟨(funA l).1, (funB l).1, (funC l).1⟩ :: (funsS n (funC l).2).1, (funsS n (funC l).2).2)
def allIns : Nat → St → List InsD × St
  | 0, st => ([], st)
  | _ + 1, none => ([], none)
  | n + 1, some l => ((insS (some l)).1 :: (allIns n (insS (some l)).2).1, (allIns n (insS (some l)).2).2)
def all1 (st : St) : Int × St := countS 262144 st
def all2 (st : St) : List TagD × St := tagsS (all1 st).1.toNat (all1 st).2
def all3 (st : St) : Int × St := countS 262144 (all2 st).2
def all4 (st : St) : List FunD × St := funsS (all3 st).1.toNat (all3 st).2
def all5 (st : St) : Int × St := inS 0 262144 (all4 st).2
def all6 (st : St) : Int × St := countS 262144 (all5 st).2
def all7 (st : St) : List InsD × St := allIns (all6 st).1.toNat (all6 st).2
/-- A code. -/
def allS (st : St) : CodeD × St := (⟨(all2 st).1, (all4 st).1, (all7 st).1, (all5 st).1⟩, (all7 st).2)

theorem tags0 (s : St) : tagsS 0 s = ([], s) := rfl
theorem tags_none (k : Nat) : tagsS (k + 1) none = ([], none) := rfl
theorem tags_some (k : Nat) (l : List UInt8) : tagsS (k + 1) (some l) = (⟨(tagA l).1, (tagB l).1, (tagC l).1, (tagE l).1⟩ :: (tagsS k (tagE l).2).1, (tagsS k (tagE l).2).2) := rfl
theorem funs0 (s : St) : funsS 0 s = ([], s) := rfl
theorem funs_none (k : Nat) : funsS (k + 1) none = ([], none) := rfl
theorem funs_some (k : Nat) (l : List UInt8) : funsS (k + 1) (some l) = (⟨(funA l).1, (funB l).1, (funC l).1⟩ :: (funsS k (funC l).2).1, (funsS k (funC l).2).2) := rfl
theorem alli0 (s : St) : allIns 0 s = ([], s) := rfl
theorem alli_none (k : Nat) : allIns (k + 1) none = ([], none) := rfl
theorem alli_some (k : Nat) (l : List UInt8) : allIns (k + 1) (some l) = ((insS (some l)).1 :: (allIns k (insS (some l)).2).1, (allIns k (insS (some l)).2).2) := rfl

def tCells (l : List TagD) : List Value := l.flatMap fun t => [.int .i64 t.kind, .string t.name, .int .i64 t.fn, .int .i64 t.n]
def fCells (l : List FunD) : List Value := l.flatMap fun f => [.int .i64 f.params, .int .i64 f.regs, .int .i64 f.at']
/-- All instructions. -/
def InsAll (w : World) (C : Nat) (v : Value) (l : List InsD) : Prop :=
  ∃ css : List (List Value), css.length = l.length ∧ w.ownsRow C 54 8 v l.length css.flatten ∧ ∀ (i : Nat) (x : InsD) (cs : List Value), l[i]? = some x → css[i]? = some cs → InsRep w C x cs

def Nest (w : World) (C : Nat) (l : List InsD) (css : List (List Value)) : Prop := ∀ (i : Nat) (x : InsD) (cs : List Value), l[i]? = some x → css[i]? = some cs → InsRep w C x cs
theorem Nest.map {w w' : World} {C : Nat} {l : List InsD} {css : List (List Value)} (h : Nest w C l css) (f : ∀ x cs, InsRep w C x cs → InsRep w' C x cs) : Nest w' C l css := fun i x cs h1 h2 => f x cs (h i x cs h1 h2)
theorem Nest.snoc {w : World} {C : Nat} {l : List InsD} {css : List (List Value)} (h : Nest w C l css) (hl : css.length = l.length) {x : InsD} {cs : List Value} (hx : InsRep w C x cs) : Nest w C (l ++ [x]) (css ++ [cs]) := by
  intro i y ds h1 h2
  rcases Nat.lt_trichotomy i l.length with hi | hi | hi
  · rw [List.getElem?_append_left hi] at h1
    rw [List.getElem?_append_left (by omega)] at h2
    exact h i y ds h1 h2
  · subst hi
    rw [List.getElem?_append_right (Nat.le_refl _), Nat.sub_self] at h1
    rw [List.getElem?_append_right (by omega), hl, Nat.sub_self] at h2
    simp at h1 h2
    subst h1 h2
    exact hx
  · rw [List.getElem?_eq_none (by simp; omega)] at h1
    cases h1
theorem at_same {B br : Nat} {w w' : World} {st : St} (h : At B w br st) (e1 : w'.heap = w.heap) : At B w' br st := h.keep (Nat.le_of_eq (by rw [e1])) fun k _ => by rw [e1]
theorem own_form {w : World} {C : Nat} {e : TypeId} {s : Nat} {v : Value} {n : Nat} {xs : List Value} (h : w.ownsRow C e s v n xs) : ∃ a m c, v = .slice a m c := by
  rcases h.2 with ⟨hv, _⟩ | ⟨g, cap, cur, hv, _⟩
  · exact ⟨_, _, _, hv⟩
  · exact ⟨_, _, _, hv⟩
theorem own_same {w w' : World} {C : Nat} {e : TypeId} {s : Nat} {v : Value} {n : Nat} {xs : List Value} (h : w.ownsRow C e s v n xs) (e1 : w'.heap = w.heap) : w'.ownsRow C e s v n xs := by
  have hc : ∀ a, w'.cell? a = w.cell? a := fun a => by unfold World.cell?; rw [e1]
  have hf : ∀ a, w'.frozen? a = w.frozen? a := fun a => by unfold World.frozen?; rw [e1]
  unfold World.ownsRow at h ⊢
  rw [e1]
  simpa only [hc, hf] using h
theorem insrep_same {w w' : World} {C : Nat} {x : InsD} {cs : List Value} (e1 : w'.heap = w.heap) (h : InsRep w C x cs) : InsRep w' C x cs := by
  obtain ⟨vv, va, h1, h2, h3⟩ := h
  exact ⟨vv, va, h1, own_same h2 e1, own_same h3 e1⟩
theorem insrep_stir {br : Nat} {w w' : World} {C : Nat} {x : InsD} {cs : List Value} (h : InsRep w C x cs) (hC : br < C) (hs : Stir br w w') : InsRep w' C x cs := by
  obtain ⟨vv, va, h1, h2, h3⟩ := h
  exact ⟨vv, va, h1, own_stir h2 hC hs, own_stir h3 hC hs⟩
theorem insrep_alloc {w : World} {C : Nat} {x : InsD} {cs : List Value} (o : Obj) (h : InsRep w C x cs) : InsRep (w.alloc o) C x cs := by
  obtain ⟨vv, va, h1, h2, h3⟩ := h
  exact ⟨vv, va, h1, h2.alloc o, h3.alloc o⟩
theorem insrep_put {w : World} {C : Nat} {x : InsD} {cs : List Value} {b o : Nat} (hb : b < C) (v : Value) (h : InsRep w C x cs) : InsRep (w.setCell ⟨b, o, none⟩ v) C x cs := by
  obtain ⟨vv, va, h1, h2, h3⟩ := h
  exact ⟨vv, va, h1, ownsRow_setCell_below h2 hb v, ownsRow_setCell_below h3 hb v⟩
theorem insrep_base {w : World} {C C' : Nat} {x : InsD} {cs : List Value} (h : InsRep w C x cs) (hC : C' ≤ C) : InsRep w C' x cs := by
  obtain ⟨vv, va, h1, h2, h3⟩ := h
  exact ⟨vv, va, h1, own_base h2 hC, own_base h3 hC⟩
theorem own_apart2 {w : World} {C C2 e1 e2 s1 s2 : Nat} {v u : Value} {n m : Nat} {xs ys : List Value} (h1 : w.ownsRow C e1 s1 v n xs) (h2 : w.ownsRow C2 e2 s2 u m ys) (he : e2 ≠ e1) : v.ownBlock = none ∨ v.ownBlock ≠ u.ownBlock :=
  own_apart (C := 0) (own_base h1 (Nat.zero_le _)) (own_base h2 (Nat.zero_le _)) he
theorem own_grown2 {w W w' : World} {C C2 e1 e2 s1 s2 : Nat} {v u : Value} {n m : Nat} {xs ys : List Value} (h1 : w.ownsRow C e1 s1 v n xs) (hg : W.grownBy w' u.ownBlock) (eh : W.heap = w.heap) (h2 : w.ownsRow C2 e2 s2 u m ys) (he : e2 ≠ e1) : w'.ownsRow C e1 s1 v n xs :=
  (own_same h1 eh).kept hg (own_apart2 h1 h2 he)
theorem insrep_grown {w w' : World} {C C' e s n : Nat} {u : Value} {xs : List Value} (ho : w.ownsRow C' e s u n xs) (he : e ≠ 57 ∧ e ≠ 59) (hg : w.grownBy w' u.ownBlock) {x : InsD} {cs : List Value} (h : InsRep w C x cs) : InsRep w' C x cs := by
  obtain ⟨vv, va, h1, h2, h3⟩ := h
  exact ⟨vv, va, h1, h2.kept hg (own_apart2 h2 ho he.1), h3.kept hg (own_apart2 h3 ho he.2)⟩
theorem insrep_grown2 {w W w' : World} {C C' e s n : Nat} {u : Value} {xs : List Value} (ho : w.ownsRow C' e s u n xs) (he : e ≠ 57 ∧ e ≠ 59) (hg : W.grownBy w' u.ownBlock) (eh : W.heap = w.heap) {x : InsD} {cs : List Value} (h : InsRep w C x cs) : InsRep w' C x cs :=
  insrep_grown (own_same ho eh) he hg (insrep_same eh h)
theorem infoT : (Tryd.prog.info? 47).map (fun i => (i.zero, i.size, i.bytes)) = some (some (.agg #[.int .i64 0, .string ⟨#[]⟩, .int .i64 0, .int .i64 0]), 4, 40) := by kernel_rfl
theorem infoF : (Tryd.prog.info? 50).map (fun i => (i.zero, i.size, i.bytes)) = some (some (.agg #[.int .i64 0, .int .i64 0, .int .i64 0]), 3, 24) := by kernel_rfl
theorem infoI : (Tryd.prog.info? 54).map (fun i => (i.zero, i.size, i.bytes)) = some (some (.agg #[.int .i64 0, .int .i64 0, .int .i64 0, .int .i64 0, .int .i64 0, .string ⟨#[]⟩, .slice none 0 0, .slice none 0 0]), 8, 104) := by kernel_rfl

/-- The state of the reading. -/
structure Going (B br : Nat) (w0 w : World) (bc : Nat) (cs : Array Value) (st : St) : Prop where
  at' : At B w br st
  stir : Stir br w0 w
  c : w.heap[bc]? = some (.cells cs 45 (0, 0))
  lo : w0.heap.size ≤ bc
  sz : B ≤ w0.heap.size

theorem Going.call {B br : Nat} {w0 w w' : World} {bc : Nat} {cs : Array Value} {st st' : St} (h : Going B br w0 w bc cs st) (hA : At B w' br st') (hS : Stir br w w') : Going B br w0 w' bc cs st' :=
  ⟨hA, h.stir.trans hS, keep_stir h.c (by have := h.lo; have := h.sz; have := hA.lo; omega) hS, h.lo, h.sz⟩
theorem Going.alloc {B br : Nat} {w0 w : World} {bc : Nat} {cs : Array Value} {st : St} (h : Going B br w0 w bc cs st) (o : Obj) : Going B br w0 (w.alloc o) bc cs st :=
  ⟨h.at'.keep (by simp) fun k hk => Below.heap_alloc _ _ _ (by have := h.at'.sz; omega), h.stir.trans (.of ((Below.refl _ w).alloc (Nat.le_refl _) _)),
    (Lib.alloc_old w o bc (Array.getElem?_eq_some_iff.1 h.c).1).trans h.c, h.lo, h.sz⟩
theorem Going.put {B br : Nat} {w0 w : World} {bc : Nat} {cs : Array Value} {st : St} (h : Going B br w0 w bc cs st) {bx : Nat} (o : Nat) (hx : bc < bx) (v : Value) : Going B br w0 (w.setCell ⟨bx, o, none⟩ v) bc cs st :=
  have hl := h.lo
  have hz := h.sz
  ⟨at_put h.at' (by omega) v, stir_put h.stir (by omega) v, put_other h.c (by omega) v, h.lo, h.sz⟩
theorem Going.grown {B br : Nat} {w0 w w' : World} {bc : Nat} {cs : Array Value} {st : St} (h : Going B br w0 w bc cs st) {row : Option Nat} (hg : w.grownBy w' row) (hr : ∀ k, row = some k → bc < k) : Going B br w0 w' bc cs st :=
  have hl := h.lo
  have hz := h.sz
  ⟨h.at'.keep hg.size fun k hk => hg.block k (by have := h.at'.sz; omega) (fun e => by have := hr k e.symm; omega),
    ⟨hg.os.trans h.stir.os, hg.tape.trans h.stir.tape, hg.output.trans h.stir.output, Nat.le_trans h.stir.size hg.size, fun k hk hn => (hg.block k (Nat.lt_of_lt_of_le hk h.stir.size) (fun e => by have := hr k e.symm; omega)).trans (h.stir.block k hk hn)⟩,
    (hg.block bc (Array.getElem?_eq_some_iff.1 h.c).1 (fun e => by have := hr bc e.symm; omega)).trans h.c, h.lo, h.sz⟩
theorem Going.putc {B br : Nat} {w0 w : World} {bc : Nat} {cs : Array Value} {st : St} (h : Going B br w0 w bc cs st) (o : Nat) (v : Value) : Going B br w0 (w.setCell ⟨bc, o, none⟩ v) bc (cs.setIfInBounds o v) st :=
  have hl := h.lo
  have hz := h.sz
  ⟨at_put h.at' (by omega) v, stir_put h.stir (by omega) v, by
    have hc := h.c
    simp only [World.setCell, Array.getElem?_modify, hc]
    simp, h.lo, h.sz⟩

theorem Going.same {B br : Nat} {w0 w w' : World} {bc : Nat} {cs : Array Value} {st : St} (h : Going B br w0 w bc cs st) (e1 : w'.heap = w.heap) (e2 : w'.os = w.os) (e3 : w'.tape = w.tape) (e4 : w'.output = w.output) : Going B br w0 w' bc cs st :=
  ⟨h.at'.keep (Nat.le_of_eq (by rw [e1])) fun k _ => by rw [e1], ⟨e2.trans h.stir.os, e3.trans h.stir.tape, e4.trans h.stir.output, by rw [e1]; exact h.stir.size, fun k hk hn => by rw [e1]; exact h.stir.block k hk hn⟩, by rw [e1]; exact h.c, h.lo, h.sz⟩
theorem Going.grown2 {B br : Nat} {w0 w W w' : World} {bc : Nat} {cs : Array Value} {st : St} (h : Going B br w0 w bc cs st) {row : Option Nat} (hg : W.grownBy w' row) (hr : ∀ k, row = some k → bc < k) (e1 : W.heap = w.heap) (e2 : W.os = w.os) (e3 : W.tape = w.tape) (e4 : W.output = w.output) : Going B br w0 w' bc cs st :=
  (h.same e1 e2 e3 e4).grown hg hr
theorem cells4 {w : World} {b : Nat} {t : TypeId} {a0 a1 a2 a3 : Value} (h : w.heap[b]? = some (.cells #[a0, a1, a2, a3] t (0, 0))) : w.cell? ⟨b, 0, none⟩ = some a0 ∧ w.cell? ⟨b, 1, none⟩ = some a1 ∧ w.cell? ⟨b, 2, none⟩ = some a2 ∧ w.cell? ⟨b, 3, none⟩ = some a3 ∧ ∀ j, w.frozen? ⟨b, j, none⟩ = false := by
  refine ⟨?_, ?_, ?_, ?_, Lib.frozen_of_heap h⟩ <;> (rw [Lib.cell_of_heap h]; rfl)
theorem cells3 {w : World} {b : Nat} {t : TypeId} {a0 a1 a2 : Value} (h : w.heap[b]? = some (.cells #[a0, a1, a2] t (0, 0))) : w.cell? ⟨b, 0, none⟩ = some a0 ∧ w.cell? ⟨b, 1, none⟩ = some a1 ∧ w.cell? ⟨b, 2, none⟩ = some a2 ∧ ∀ j, w.frozen? ⟨b, j, none⟩ = false := by
  refine ⟨?_, ?_, ?_, Lib.frozen_of_heap h⟩ <;> (rw [Lib.cell_of_heap h]; rfl)
theorem put4 {w : World} {b : Nat} {t : TypeId} {a0 a1 a2 a3 : Value} (h : w.heap[b]? = some (.cells #[a0, a1, a2, a3] t (0, 0))) (v : Value) : (w.setCell ⟨b, 1, none⟩ v).heap[b]? = some (.cells #[a0, v, a2, a3] t (0, 0)) ∧ (w.setCell ⟨b, 2, none⟩ v).heap[b]? = some (.cells #[a0, a1, v, a3] t (0, 0)) ∧ (w.setCell ⟨b, 3, none⟩ v).heap[b]? = some (.cells #[a0, a1, a2, v] t (0, 0)) := by
  refine ⟨?_, ?_, ?_⟩ <;> simp [World.setCell, Array.getElem?_modify, h]
theorem put3 {w : World} {b : Nat} {t : TypeId} {a0 a1 a2 : Value} (h : w.heap[b]? = some (.cells #[a0, a1, a2] t (0, 0))) (v : Value) : (w.setCell ⟨b, 1, none⟩ v).heap[b]? = some (.cells #[a0, v, a2] t (0, 0)) ∧ (w.setCell ⟨b, 2, none⟩ v).heap[b]? = some (.cells #[a0, a1, v] t (0, 0)) := by
  refine ⟨?_, ?_⟩ <;> simp [World.setCell, Array.getElem?_modify, h]
end Go.Proofs.YtfdkdghhdigfbaaDoor
