/- An instruction is read. -/
import Derived.Test.YtfdkdghhdigfbaaDoorCc
import Derived.OwnWalk
import Derived.Deep.Cut
import Derived.Deep.CutBlock
import Derived.Deep.CutRange
import Derived.Laws.Rows
namespace Go.Proofs.YtfdkdghhdigfbaaDoor
open Go Go.RowKit
set_option maxRecDepth 100000

def valsS : Nat → St → List (Int × Int) × St
  | 0, st => ([], st)
  | _ + 1, none => ([], none)
  | n + 1, some l => (((inS 0 2 (some l)).1, (numS (inS 0 2 (some l)).2).1) :: (valsS n (numS (inS 0 2 (some l)).2).2).1, (valsS n (numS (inS 0 2 (some l)).2).2).2)
def altA (l : List UInt8) : Int × St := inS 1 3 (some l)
def altB (l : List UInt8) : Int × St := inS 0 262144 (altA l).2
def altC (l : List UInt8) : Int × St := inS 0 262144 (altB l).2
def altD (l : List UInt8) : Int × St := numS (altC l).2
def altsS : Nat → St → List (Int × Int × Int × Int) × St
  | 0, st => ([], st)
  | _ + 1, none => ([], none)
  | n + 1, some l => (((altA l).1, (altB l).1, (altC l).1, (altD l).1) :: (altsS n (altD l).2).1, (altsS n (altD l).2).2)
def vCells (l : List (Int × Int)) : List Value := l.flatMap fun v => [.int .i64 v.1, .int .i64 v.2]
def aCells (l : List (Int × Int × Int × Int)) : List Value := l.flatMap fun v => [.int .i64 v.1, .int .i64 v.2.1, .int .i64 v.2.2.1, .int .i64 v.2.2.2]

structure InsD where
  op : Int
  dst : Int
  tag : Int
  fn : Int
  n : Int
  prim : ByteArray
  vals : List (Int × Int)
  alts : List (Int × Int × Int × Int)
def ins1 (st : St) : Int × St := inS 0 12 st
def ins2 (st : St) : Int × St := inS 0 262144 (ins1 st).2
def ins3 (st : St) : Int × St := inS 0 262144 (ins2 st).2
def ins4 (st : St) : Int × St := inS 0 262144 (ins3 st).2
def ins5 (st : St) : Int × St := numS (ins4 st).2
def ins6 (st : St) : ByteArray × St := textS (ins5 st).2
def ins7 (st : St) : Int × St := countS 262144 (ins6 st).2
def ins8 (st : St) : List (Int × Int) × St := valsS (ins7 st).1.toNat (ins7 st).2
def ins9 (st : St) : Int × St := countS 60 (ins8 st).2
def ins10 (st : St) : List (Int × Int × Int × Int) × St := altsS (ins9 st).1.toNat (ins9 st).2
/-- An instruction. -/
def insS (st : St) : InsD × St := (⟨(ins1 st).1, (ins2 st).1, (ins3 st).1, (ins4 st).1, (ins5 st).1, (ins6 st).1, (ins8 st).1, (ins10 st).1⟩, (ins10 st).2)

/-- An instruction's cells. -/
def InsRep (w : World) (C : Nat) (x : InsD) (cs : List Value) : Prop :=
  ∃ vv va : Value, cs = [.int .i64 x.op, .int .i64 x.dst, .int .i64 x.tag, .int .i64 x.fn, .int .i64 x.n, .string x.prim, vv, va] ∧ w.ownsRow C 57 2 vv x.vals.length (vCells x.vals) ∧ w.ownsRow C 59 4 va x.alts.length (aCells x.alts)

theorem own_base {w : World} {C C' : Nat} {e : TypeId} {s : Nat} {v : Value} {n : Nat} {xs : List Value} (h : w.ownsRow C e s v n xs) (hC : C' ≤ C) : w.ownsRow C' e s v n xs := by
  refine ⟨h.1, ?_⟩
  rcases h.2 with hn | ⟨g, cap, cur, hv, hg, hr⟩
  · exact .inl hn
  · exact .inr ⟨g, cap, cur, hv, Nat.le_trans hC hg, hr⟩
theorem own_put_base {w : World} {C : Nat} {e : TypeId} {s : Nat} {v : Value} {n : Nat} {xs : List Value} {b o : Nat} (h : w.ownsRow C e s v n xs) (hb : b < C) (u : Value) : (w.setCell ⟨b, o, none⟩ u).ownsRow C e s v n xs :=
  ownsRow_setCell_below h hb u

theorem infoV : (Tryd.prog.info? 57).map (fun i => (i.zero, i.size, i.bytes)) = some (some (.agg #[.int .i64 0, .int .i64 0]), 2, 16) := by kernel_rfl
theorem infoA : (Tryd.prog.info? 59).map (fun i => (i.zero, i.size, i.bytes)) = some (some (.agg #[.int .i64 0, .int .i64 0, .int .i64 0, .int .i64 0]), 4, 32) := by kernel_rfl

theorem keep_stir {br : Nat} {w w' : World} {b : Nat} {o : Obj} (h : w.heap[b]? = some o) (hb : b ≠ br) (hs : Stir br w w') : w'.heap[b]? = some o :=
  (hs.block b (Array.getElem?_eq_some_iff.1 h).1 hb).trans h
theorem own_stir {br : Nat} {w w' : World} {C : Nat} {e : TypeId} {s : Nat} {v : Value} {n : Nat} {xs : List Value} (h : w.ownsRow C e s v n xs) (hC : br < C) (hs : Stir br w w') : w'.ownsRow C e s v n xs :=
  h.kept (row := some br) ⟨hs.os, hs.tape, hs.output, hs.size, fun k hk hn => hs.block k hk fun e => hn (by rw [e])⟩ (.inr fun e => by have := (h.lt br e).1; omega)

theorem ins_cells {w : World} {b : Nat} {a0 a1 a2 a3 a4 a5 a6 a7 : Value} (h : w.heap[b]? = some (.cells #[a0, a1, a2, a3, a4, a5, a6, a7] 54 (0, 0))) :
    w.cell? ⟨b, 0, none⟩ = some a0 ∧ w.cell? ⟨b, 1, none⟩ = some a1 ∧ w.cell? ⟨b, 2, none⟩ = some a2 ∧ w.cell? ⟨b, 3, none⟩ = some a3 ∧ w.cell? ⟨b, 4, none⟩ = some a4 ∧ w.cell? ⟨b, 5, none⟩ = some a5 ∧ w.cell? ⟨b, 6, none⟩ = some a6 ∧ w.cell? ⟨b, 7, none⟩ = some a7 ∧ ∀ j, w.frozen? ⟨b, j, none⟩ = false := by
  refine ⟨?_, ?_, ?_, ?_, ?_, ?_, ?_, ?_, Lib.frozen_of_heap h⟩ <;> (rw [Lib.cell_of_heap h]; rfl)
theorem val_cells {w : World} {b : Nat} {a0 a1 : Value} (h : w.heap[b]? = some (.cells #[a0, a1] 57 (0, 0))) : w.cell? ⟨b, 0, none⟩ = some a0 ∧ w.cell? ⟨b, 1, none⟩ = some a1 ∧ ∀ j, w.frozen? ⟨b, j, none⟩ = false :=
  ⟨by rw [Lib.cell_of_heap h]; rfl, by rw [Lib.cell_of_heap h]; rfl, Lib.frozen_of_heap h⟩
theorem own_put {w : World} {C : Nat} {e : TypeId} {s : Nat} {v : Value} {n : Nat} {xs : List Value} {b o : Nat} (h : w.ownsRow C e s v n xs) (hne : v.ownBlock ≠ some b) (u : Value) : (w.setCell ⟨b, o, none⟩ u).ownsRow C e s v n xs :=
  h.kept (row := some b) ⟨rfl, rfl, rfl, by simp [World.setCell], fun k _ hk => Below.heap_setCell _ _ _ _ (fun e => hk (by simp [e]))⟩ (Or.inr hne)
theorem own_apart {w : World} {C e1 e2 s1 s2 : Nat} {v u : Value} {n m : Nat} {xs ys : List Value} (h1 : w.ownsRow C e1 s1 v n xs) (h2 : w.ownsRow C e2 s2 u m ys) (he : e2 ≠ e1) : v.ownBlock = none ∨ v.ownBlock ≠ u.ownBlock := by
  rcases h1.2 with ⟨rfl, _⟩ | ⟨g, cap, cur, rfl, _, hg, _⟩
  · exact .inl rfl
  · rcases h2.2 with ⟨rfl, _⟩ | ⟨g', cap', cur', rfl, _, hg', _⟩
    · exact .inr (by simp [Value.ownBlock])
    · refine .inr fun e => ?_
      simp only [Value.ownBlock, Option.some.injEq] at e
      subst e
      rw [hg] at hg'
      simp only [Option.some.injEq, Obj.cells.injEq] at hg'
      exact he hg'.2.1.symm
theorem stored8 {w : World} {b : Nat} {a0 a1 a2 a3 a4 a5 a6 a7 : Value} (v0 v1 v2 v3 v4 v5 v6 v7 : Value) (h : w.heap[b]? = some (.cells #[a0, a1, a2, a3, a4, a5, a6, a7] 54 (0, 0))) :
    ((((((((w.setCell ⟨b, 0, none⟩ v0).setCell ⟨b, 1, none⟩ v1).setCell ⟨b, 2, none⟩ v2).setCell ⟨b, 3, none⟩ v3).setCell ⟨b, 4, none⟩ v4).setCell ⟨b, 5, none⟩ v5).setCell ⟨b, 6, none⟩ v6).setCell ⟨b, 7, none⟩ v7).heap[b]? = some (.cells #[v0, v1, v2, v3, v4, v5, v6, v7] 54 (0, 0)) := by
  simp [World.setCell, Array.getElem?_modify, h]
theorem alt_cells {w : World} {b : Nat} {a0 a1 a2 a3 : Value} (h : w.heap[b]? = some (.cells #[a0, a1, a2, a3] 59 (0, 0))) : w.cell? ⟨b, 0, none⟩ = some a0 ∧ w.cell? ⟨b, 1, none⟩ = some a1 ∧ w.cell? ⟨b, 2, none⟩ = some a2 ∧ w.cell? ⟨b, 3, none⟩ = some a3 ∧ ∀ j, w.frozen? ⟨b, j, none⟩ = false := by
  refine ⟨?_, ?_, ?_, ?_, Lib.frozen_of_heap h⟩ <;> (rw [Lib.cell_of_heap h]; rfl)
theorem alts0 (s : St) : altsS 0 s = ([], s) := rfl
theorem alts_none (k : Nat) : altsS (k + 1) none = ([], none) := rfl
theorem alts_some (k : Nat) (l : List UInt8) : altsS (k + 1) (some l) = (((altA l).1, (altB l).1, (altC l).1, (altD l).1) :: (altsS k (altD l).2).1, (altsS k (altD l).2).2) := rfl
theorem vals0 (s : St) : valsS 0 s = ([], s) := rfl
theorem vals_none (k : Nat) : valsS (k + 1) none = ([], none) := rfl
theorem vals_some (k : Nat) (l : List UInt8) : valsS (k + 1) (some l) = (((inS 0 2 (some l)).1, (numS (inS 0 2 (some l)).2).1) :: (valsS k (numS (inS 0 2 (some l)).2).2).1, (valsS k (numS (inS 0 2 (some l)).2).2).2) := rfl
theorem put5 {w : World} {b : Nat} {a0 a1 a2 a3 a4 a5 a6 a7 : Value} (h : w.heap[b]? = some (.cells #[a0, a1, a2, a3, a4, a5, a6, a7] 54 (0, 0))) (v : Value) : (w.setCell ⟨b, 5, none⟩ v).heap[b]? = some (.cells #[a0, a1, a2, a3, a4, v, a6, a7] 54 (0, 0)) := by
  simp [World.setCell, Array.getElem?_modify, h]
theorem put6 {w : World} {b : Nat} {a0 a1 a2 a3 a4 a5 a6 a7 : Value} (h : w.heap[b]? = some (.cells #[a0, a1, a2, a3, a4, a5, a6, a7] 54 (0, 0))) (v : Value) : (w.setCell ⟨b, 6, none⟩ v).heap[b]? = some (.cells #[a0, a1, a2, a3, a4, a5, v, a7] 54 (0, 0)) := by
  simp [World.setCell, Array.getElem?_modify, h]
theorem put7 {w : World} {b : Nat} {a0 a1 a2 a3 a4 a5 a6 a7 : Value} (h : w.heap[b]? = some (.cells #[a0, a1, a2, a3, a4, a5, a6, a7] 54 (0, 0))) (v : Value) : (w.setCell ⟨b, 7, none⟩ v).heap[b]? = some (.cells #[a0, a1, a2, a3, a4, a5, a6, v] 54 (0, 0)) := by
  simp [World.setCell, Array.getElem?_modify, h]
theorem put_other {w : World} {b bx o : Nat} {x : Obj} (h : w.heap[b]? = some x) (hb : b ≠ bx) (v : Value) : (w.setCell ⟨bx, o, none⟩ v).heap[b]? = some x :=
  (Below.heap_setCell _ _ _ _ (fun e => hb (by simpa using e))).trans h
theorem at_put {B : Nat} {w : World} {br bx o : Nat} {st : St} (h : At B w br st) (hb : B ≤ bx) (v : Value) : At B (w.setCell ⟨bx, o, none⟩ v) br st :=
  h.keep (by simp [World.setCell]) fun k hk => Below.heap_setCell _ _ _ _ (fun e => by simp at e; omega)
theorem stir_put {br : Nat} {w w' : World} {bx o : Nat} (h : Stir br w w') (hb : w.heap.size ≤ bx) (v : Value) : Stir br w (w'.setCell ⟨bx, o, none⟩ v) :=
  ⟨h.os, h.tape, h.output, by simpa [World.setCell] using h.size, fun k hk hn => (Below.heap_setCell _ _ _ _ (fun e => by simp at e; omega)).trans (h.block k hk hn)⟩
theorem countS_nat (m : Int) (st : St) (h : ∀ l, (countS m st).2 = some l → l.length ≤ 3000) : ∃ n : Nat, (countS m st).1 = (n : Int) ∧ n ≤ 3000 := by
  cases hs : (countS m st).2 with
  | none => exact ⟨0, countS_zero hs, by decide⟩
  | some l =>
    obtain ⟨n, h1, h2⟩ := countS_in hs
    exact ⟨n, h1, Nat.le_trans h2 (h l hs)⟩
set_option maxHeartbeats 16000000 in
theorem ins_call {B : Nat} (st : St) (br : Nat) (w : World) (h : At B w br st) : Calls Tryd.prog 21 #[.pointer (some ⟨br, 0, none⟩)] w fun e w' => ∃ cs, e = .returned (.agg ⟨cs⟩) ∧ At B w' br (insS st).2 ∧ Stir br w w' ∧ InsRep w' w.heap.size (insS st).1 cs := by
  have hlo := h.lo
  have hsz := h.sz
  go_enter Tryd.func21, Tryd.ntmps21
  go_wp2_with fail
  have hk0 : (w.alloc (Obj.cells #[.int .i64 0, .int .i64 0, .int .i64 0, .int .i64 0, .int .i64 0, .string ⟨#[]⟩, .slice none 0 0, .slice none 0 0] 54)).heap[w.heap.size]? = some (Obj.cells #[.int .i64 0, .int .i64 0, .int .i64 0, .int .i64 0, .int .i64 0, .string ⟨#[]⟩, .slice none 0 0, .slice none 0 0] 54 (0, 0)) := heap_alloc_new w _
  have hA0 : At B (w.alloc (Obj.cells #[.int .i64 0, .int .i64 0, .int .i64 0, .int .i64 0, .int .i64 0, .string ⟨#[]⟩, .slice none 0 0, .slice none 0 0] 54)) br st := h.keep (by simp) fun k hk => Below.heap_alloc _ _ _ (by omega)
  have hS0 : Stir br w (w.alloc (Obj.cells #[.int .i64 0, .int .i64 0, .int .i64 0, .int .i64 0, .int .i64 0, .string ⟨#[]⟩, .slice none 0 0, .slice none 0 0] 54)) := .of ((Below.refl _ w).alloc (Nat.le_refl _) _)
  generalize w.alloc (Obj.cells #[.int .i64 0, .int .i64 0, .int .i64 0, .int .i64 0, .int .i64 0, .string ⟨#[]⟩, .slice none 0 0, .slice none 0 0] 54) = w0 at hk0 hA0 hS0 ⊢
  go_wp2_with fail
  go_at_call 19
  refine (in_call 0 12 br st w0 hA0).mono ?_
  rintro e w1 ⟨rfl, hA1, hS1⟩
  have hk1 := keep_stir hk0 (by omega) hS1
  replace hS1 := hS0.trans hS1
  clear hA0 hS0 hk0
  obtain ⟨p1, hp1⟩ : ∃ p, (inS 0 12 st) = p := ⟨_, rfl⟩
  rw [hp1] at hA1 ⊢
  go_wp2_with fail
  go_at_call 19
  refine (in_call 0 262144 br p1.2 w1 hA1).mono ?_
  rintro e w2 ⟨rfl, hA2, hS2⟩
  have hk2 := keep_stir hk1 (by omega) hS2
  replace hS2 := hS1.trans hS2
  clear hA1 hS1 hk1
  obtain ⟨p2, hp2⟩ : ∃ p, (inS 0 262144 p1.2) = p := ⟨_, rfl⟩
  rw [hp2] at hA2 ⊢
  go_wp2_with fail
  go_at_call 19
  refine (in_call 0 262144 br p2.2 w2 hA2).mono ?_
  rintro e w3 ⟨rfl, hA3, hS3⟩
  have hk3 := keep_stir hk2 (by omega) hS3
  replace hS3 := hS2.trans hS3
  clear hA2 hS2 hk2
  obtain ⟨p3, hp3⟩ : ∃ p, (inS 0 262144 p2.2) = p := ⟨_, rfl⟩
  rw [hp3] at hA3 ⊢
  go_wp2_with fail
  go_at_call 19
  refine (in_call 0 262144 br p3.2 w3 hA3).mono ?_
  rintro e w4 ⟨rfl, hA4, hS4⟩
  have hk4 := keep_stir hk3 (by omega) hS4
  replace hS4 := hS3.trans hS4
  clear hA3 hS3 hk3
  obtain ⟨p4, hp4⟩ : ∃ p, (inS 0 262144 p3.2) = p := ⟨_, rfl⟩
  rw [hp4] at hA4 ⊢
  go_wp2_with fail
  go_at_call 25
  refine (num_call br p4.2 w4 hA4).mono ?_
  rintro e w5 ⟨rfl, hA5, hS5⟩
  have hk5 := keep_stir hk4 (by omega) hS5
  replace hS5 := hS4.trans hS5
  clear hA4 hS4 hk4
  obtain ⟨p5, hp5⟩ : ∃ p, (numS p4.2) = p := ⟨_, rfl⟩
  rw [hp5] at hA5 ⊢
  have hbx : w.heap.size < w5.heap.size := (Array.getElem?_eq_some_iff.1 hk5).1
  have hkx : (w5.alloc (Obj.cells #[.int .i64 p1.1, .int .i64 p2.1, .int .i64 p3.1, .int .i64 p4.1, .int .i64 p5.1, .string ⟨#[]⟩, .slice none 0 0, .slice none 0 0] 54)).heap[w5.heap.size]? = some (Obj.cells #[.int .i64 p1.1, .int .i64 p2.1, .int .i64 p3.1, .int .i64 p4.1, .int .i64 p5.1, .string ⟨#[]⟩, .slice none 0 0, .slice none 0 0] 54 (0, 0)) := heap_alloc_new w5 _
  have hk6 : (w5.alloc (Obj.cells #[.int .i64 p1.1, .int .i64 p2.1, .int .i64 p3.1, .int .i64 p4.1, .int .i64 p5.1, .string ⟨#[]⟩, .slice none 0 0, .slice none 0 0] 54)).heap[w.heap.size]? = some (Obj.cells #[.int .i64 0, .int .i64 0, .int .i64 0, .int .i64 0, .int .i64 0, .string ⟨#[]⟩, .slice none 0 0, .slice none 0 0] 54 (0, 0)) := (Lib.alloc_old w5 _ _ hbx).trans hk5
  have hA6 : At B (w5.alloc (Obj.cells #[.int .i64 p1.1, .int .i64 p2.1, .int .i64 p3.1, .int .i64 p4.1, .int .i64 p5.1, .string ⟨#[]⟩, .slice none 0 0, .slice none 0 0] 54)) br p5.2 := hA5.keep (by simp) fun k hk => Below.heap_alloc _ _ _ (by have := hA5.sz; omega)
  have hS6 : Stir br w (w5.alloc (Obj.cells #[.int .i64 p1.1, .int .i64 p2.1, .int .i64 p3.1, .int .i64 p4.1, .int .i64 p5.1, .string ⟨#[]⟩, .slice none 0 0, .slice none 0 0] 54)) := hS5.trans (.of ((Below.refl _ w5).alloc (Nat.le_refl _) _))
  go_wp2_with fail
  generalize w5.alloc (Obj.cells #[.int .i64 p1.1, .int .i64 p2.1, .int .i64 p3.1, .int .i64 p4.1, .int .i64 p5.1, .string ⟨#[]⟩, .slice none 0 0, .slice none 0 0] 54) = w6 at hkx hk6 hA6 hS6 ⊢
  generalize w5.heap.size = bx at hbx hkx ⊢
  clear hA5 hS5 hk5
  go_at_call 20
  refine (text_call br p5.2 w6 hA6).mono ?_
  rintro e w7 ⟨rfl, hA7, hS7⟩
  have hkx7 := keep_stir hkx (by omega) hS7
  have hk7 := keep_stir hk6 (by omega) hS7
  replace hS7 := hS6.trans hS7
  clear hA6 hS6 hkx hk6
  obtain ⟨p6, hp6⟩ : ∃ p, textS p5.2 = p := ⟨_, rfl⟩
  rw [hp6] at hA7 ⊢
  obtain ⟨x0, x1, x2, x3, x4, x5, x6, x7, xf⟩ := ins_cells hkx7
  go_wp2_with fail
  have hkx8 := put5 hkx7 (.string p6.1)
  have hk8 := put_other (o := 5) hk7 (by omega : w.heap.size ≠ bx) (.string p6.1)
  have hA8 := at_put (o := 5) hA7 (by omega : B ≤ bx) (.string p6.1)
  have hS8 := stir_put (o := 5) hS7 (by omega : w.heap.size ≤ bx) (.string p6.1)
  generalize w7.setCell ⟨bx, 5, none⟩ (.string p6.1) = w8 at hkx8 hk8 hA8 hS8 ⊢
  clear hkx7 hk7 hA7 hS7 x0 x1 x2 x3 x4 x5 x6 x7 xf
  go_at_call 18
  refine (count_call 262144 br p6.2 w8 hA8).mono ?_
  rintro e w9 ⟨rfl, hA9, hS9⟩
  have hkx9 := keep_stir hkx8 (by omega) hS9
  have hk9 := keep_stir hk8 (by omega) hS9
  replace hS9 := hS8.trans hS9
  clear hA8 hS8 hkx8 hk8
  obtain ⟨q, hq0, hq3⟩ := countS_nat 262144 p6.2 (fun l hl => hA9.len l hl)
  obtain ⟨p7, hp7⟩ : ∃ p, (countS 262144 p6.2).2 = p := ⟨_, rfl⟩
  rw [hp7] at hA9
  rw [hq0]
  go_upto_block 0 with fail
  go_cut [4, 5] from 22 to 46 (fun _ _ wr => ∃ (vv : Value), At B wr br (valsS q p7).2 ∧ Stir br w wr ∧ wr.heap[w.heap.size]? = some (Obj.cells #[.int .i64 0, .int .i64 0, .int .i64 0, .int .i64 0, .int .i64 0, .string ⟨#[]⟩, .slice none 0 0, .slice none 0 0] 54 (0, 0)) ∧ wr.heap[bx]? = some (Obj.cells #[.int .i64 p1.1, .int .i64 p2.1, .int .i64 p3.1, .int .i64 p4.1, .int .i64 p5.1, .string p6.1, vv, .slice none 0 0] 54 (0, 0)) ∧ wr.ownsRow (bx + 1) 57 2 vv (valsS q p7).1.length (vCells (valsS q p7).1))
  case first =>
    go_wp2_with fail
    go_loopw [4, 5] (fun nv _ wr => ∃ (k : Nat) (s : St) (vs : List (Int × Int)) (vv : Value), nv = .int .i64 (k : Int) ∧ At B wr br s ∧ Stir br w wr ∧ wr.heap[w.heap.size]? = some (Obj.cells #[.int .i64 0, .int .i64 0, .int .i64 0, .int .i64 0, .int .i64 0, .string ⟨#[]⟩, .slice none 0 0, .slice none 0 0] 54 (0, 0)) ∧ wr.heap[bx]? = some (Obj.cells #[.int .i64 p1.1, .int .i64 p2.1, .int .i64 p3.1, .int .i64 p4.1, .int .i64 p5.1, .string p6.1, vv, .slice none 0 0] 54 (0, 0)) ∧ wr.ownsRow (bx + 1) 57 2 vv vs.length (vCells vs) ∧ Veil (vs ++ (valsS k s).1 = (valsS q p7).1 ∧ (valsS k s).2 = (valsS q p7).2) ∧ vs.length + k ≤ 3000) (fun nv _ _ => (RowKit.intOf nv).toNat)
    case atStart => exact ⟨q, p7, [], .slice none 0 0, rfl, hA9, hS9, hk9, hkx9, World.ownsRow_nil _ _ _ _, ⟨rfl, rfl⟩, by simpa using hq3⟩
    case round =>
      obtain ⟨k, s, vs, vv, rfl, hA, hS, hk, hkx, hown, hV, hle⟩ := hrel
      clear hA9 hS9 hk9 hkx9
      obtain ⟨v, er, hb, hx⟩ := hA.rd
      obtain ⟨r0, r1, rf⟩ := rd_cells hb
      cases k with
      | zero =>
        go_wp2
        go_meet
        case rel =>
          have h1 : vs = (valsS q p7).1 := by rw [← hV.out.1, vals0, List.append_nil]
          have h2 : s = (valsS q p7).2 := by rw [← hV.out.2, vals0]
          rw [← h1, ← h2]
          exact ⟨vv, hA, hS, hk, hkx, hown⟩
      | succ k =>
        rcases hx with ⟨l, rfl, rfl, hB⟩ | ⟨rfl, ⟨te, pe, rfl⟩, _⟩
        rotate_left
        · go_wp2
          go_meet
          case rel =>
            have h1 : vs = (valsS q p7).1 := by rw [← hV.out.1, vals_none, List.append_nil]
            have h2 : none = (valsS q p7).2 := by rw [← hV.out.2, vals_none]
            rw [← h1, ← h2]
            exact ⟨vv, hA, hS, hk, hkx, hown⟩
        · clear hB hb
          have hbr := hA.lo
          go_wp2_with fail
          go_at_call 19
          refine (in_call 0 2 br (some l) wr hA).mono ?_
          rintro e y1 ⟨rfl, gA1, gS1⟩
          have gx1 := keep_stir hkx (by omega) gS1
          have gk1 := keep_stir hk (by omega) gS1
          have go1 := own_stir hown (by omega) gS1
          replace gS1 := hS.trans gS1
          clear hA hS hk hkx hown r0 r1 rf
          obtain ⟨i1, hi1⟩ : ∃ p, inS 0 2 (some l) = p := ⟨_, rfl⟩
          rw [hi1] at gA1 ⊢
          have hnb : vv.ownBlock ≠ some y1.heap.size := fun e => by have := (go1.lt _ e).2; omega
          have gz : y1.heap.size ≤ (y1.alloc (Obj.cells #[.int .i64 i1.1, .int .i64 0] 57)).heap.size := by simp
          have gbx : bx < y1.heap.size := (Array.getElem?_eq_some_iff.1 gx1).1
          have gv2 : (y1.alloc (Obj.cells #[.int .i64 i1.1, .int .i64 0] 57)).heap[y1.heap.size]? = some (Obj.cells #[.int .i64 i1.1, .int .i64 0] 57 (0, 0)) := heap_alloc_new y1 _
          have gx2 := (Lib.alloc_old y1 (Obj.cells #[.int .i64 i1.1, .int .i64 0] 57) _ gbx).trans gx1
          have gk2 := (Lib.alloc_old y1 (Obj.cells #[.int .i64 i1.1, .int .i64 0] 57) w.heap.size (by omega)).trans gk1
          have gA2 : At B (y1.alloc (Obj.cells #[.int .i64 i1.1, .int .i64 0] 57)) br i1.2 := gA1.keep gz fun k hk => Below.heap_alloc _ _ _ (by have := gA1.sz; omega)
          have gS2 : Stir br w (y1.alloc (Obj.cells #[.int .i64 i1.1, .int .i64 0] 57)) := gS1.trans (.of ((Below.refl _ y1).alloc (Nat.le_refl _) _))
          have go2 := go1.alloc (Obj.cells #[.int .i64 i1.1, .int .i64 0] 57)
          go_wp2_with fail
          generalize y1.alloc (Obj.cells #[.int .i64 i1.1, .int .i64 0] 57) = y2 at gz gv2 gx2 gk2 gA2 gS2 go2 ⊢
          generalize y1.heap.size = bv at gz gbx gv2 hnb ⊢
          clear gA1 gS1 gk1 gx1 go1
          go_at_call 25
          refine (num_call br i1.2 y2 gA2).mono ?_
          rintro e y3 ⟨rfl, gA3, gS3⟩
          have gv3 := keep_stir gv2 (by omega) gS3
          have gx3 := keep_stir gx2 (by omega) gS3
          have gk3 := keep_stir gk2 (by omega) gS3
          have go3 := own_stir go2 (by omega) gS3
          replace gS3 := gS2.trans gS3
          clear gA2 gS2 gv2 gx2 gk2 go2
          obtain ⟨i2, hi2⟩ : ∃ p, numS i1.2 = p := ⟨_, rfl⟩
          rw [hi2] at gA3 ⊢
          obtain ⟨x0, x1, x2, x3, x4, x5, x6, x7, xf⟩ := ins_cells gx3
          obtain ⟨v0, v1, vf⟩ := val_cells gv3
          have gbv : bv < y3.heap.size := (Array.getElem?_eq_some_iff.1 gv3).1
          have z1 : ¬ bx = bv := by omega
          have z2 : ¬ bv = bx := by omega
          obtain ⟨iV, hiV, hzV, hsV, hbV⟩ := info_parts infoV
          have go4 := (own_put (o := 1) go3 hnb (.int .i64 i2.1)).alloc (Obj.cells #[.int .i64 i1.1, .int .i64 i2.1] 57)
          have gA4 := (at_put (o := 1) gA3 (by omega : B ≤ bv) (.int .i64 i2.1)).keep (w' := (y3.setCell ⟨bv, 1, none⟩ (.int .i64 i2.1)).alloc (Obj.cells #[.int .i64 i1.1, .int .i64 i2.1] 57)) (by simp) fun k hk => Below.heap_alloc _ _ _ (by have := gA3.sz; simp [World.setCell]; omega)
          have gS4 := (stir_put (o := 1) gS3 (by omega : w.heap.size ≤ bv) (.int .i64 i2.1)).trans (Stir.of ((Below.refl _ _).alloc (Nat.le_refl _) (Obj.cells #[.int .i64 i1.1, .int .i64 i2.1] 57)))
          have gx4 := (Lib.alloc_old (y3.setCell ⟨bv, 1, none⟩ (.int .i64 i2.1)) (Obj.cells #[.int .i64 i1.1, .int .i64 i2.1] 57) bx (by simp [World.setCell]; omega)).trans (put_other (o := 1) gx3 z1 (.int .i64 i2.1))
          have gk4 := (Lib.alloc_old (y3.setCell ⟨bv, 1, none⟩ (.int .i64 i2.1)) (Obj.cells #[.int .i64 i1.1, .int .i64 i2.1] 57) w.heap.size (by simp [World.setCell]; omega)).trans (put_other (o := 1) gk3 (by omega) (.int .i64 i2.1))
          have gt4 : ((y3.setCell ⟨bv, 1, none⟩ (.int .i64 i2.1)).alloc (Obj.cells #[.int .i64 i1.1, .int .i64 i2.1] 57)).heap[y3.heap.size]? = some (Obj.cells #[.int .i64 i1.1, .int .i64 i2.1] 57 (0, 0)) := by
            have := heap_alloc_new (y3.setCell ⟨bv, 1, none⟩ (.int .i64 i2.1)) (Obj.cells #[.int .i64 i1.1, .int .i64 i2.1] 57)
            simpa [World.setCell] using this
          go_wp2_with (at_builtin; refine wpList_append_own _ rfl _ _ 51 rfl (bx + 1) 57 iV (.agg #[.int .i64 0, .int .i64 0]) 2 16 Tryd.underlying51 hiV hzV hsV hbV rfl (by decide) _ _ _ rfl go4 ⟨y3.heap.size, 0, none⟩ 1 1 [.int .i64 i1.1, .int .i64 i2.1] rfl rfl ?c1 ?c2 ?c3 ?c4 ?c5 ?_)
          case c1 =>
            intro j u hj
            have hadd : (⟨y3.heap.size, 0, none⟩ : Addr).add j = ⟨y3.heap.size, j, none⟩ := by unfold Addr.add; split <;> simp_all
            rw [hadd, Lib.cell_of_heap gt4]
            simpa using hj
          case c2 =>
            intro u hu
            simp at hu
            rcases hu with rfl | rfl <;> rfl
          case c3 => unfold maxLen; omega
          case c4 => omega
          case c5 => simp [World.setCell]; omega
          intro v' y5 hown' hgrow _
          have hrow : ∀ k, vv.ownBlock = some k → bx + 1 ≤ k := fun k e => (go4.lt k e).1
          have gA5 := gA4.keep hgrow.size fun k hk => hgrow.block k (by have := gA4.sz; omega) (fun e => by have := hrow k e.symm; omega)
          have gS5 : Stir br w y5 := ⟨hgrow.os.trans gS4.os, hgrow.tape.trans gS4.tape, hgrow.output.trans gS4.output, Nat.le_trans gS4.size hgrow.size, fun k hk hn => (hgrow.block k (Nat.lt_of_lt_of_le hk gS4.size) (fun e => by have := hrow k e.symm; omega)).trans (gS4.block k hk hn)⟩
          have gx5 := (hgrow.block bx (Array.getElem?_eq_some_iff.1 gx4).1 (fun e => by have := hrow bx e.symm; omega)).trans gx4
          have gk5 := (hgrow.block w.heap.size (Array.getElem?_eq_some_iff.1 gk4).1 (fun e => by have := hrow _ e.symm; omega)).trans gk4
          obtain ⟨s0, s1, s2, s3, s4, s5, s6, s7, sf⟩ := ins_cells gx5
          obtain ⟨ao, n', cap, rfl⟩ : ∃ ao n' cap, v' = .slice ao n' cap := by
            rcases hown'.2 with ⟨hv, _⟩ | ⟨g, cap, cur, hv, _⟩
            · exact ⟨_, _, _, hv⟩
            · exact ⟨_, _, _, hv⟩
          clear gA4 gS4 gx4 gk4 gt4 go4 gA3 gS3 gx3 gk3 go3 gv3 x0 x1 x2 x3 x4 x5 x6 x7 xf v0 v1 vf
          go_wp2_with fail
          have hVal : Veil ((vs ++ [(i1.1, i2.1)]) ++ (valsS k i2.2).1 = (valsS q p7).1 ∧ (valsS k i2.2).2 = (valsS q p7).2) := by
            have h1 := hV.out
            rw [vals_some, hi1, hi2] at h1
            exact ⟨by rw [List.append_assoc]; exact h1.1, h1.2⟩
          have hlen : (vs ++ [(i1.1, i2.1)]).length = vs.length + 1 := by simp
          have hcel : vCells (vs ++ [(i1.1, i2.1)]) = vCells vs ++ [.int .i64 i1.1, .int .i64 i2.1] := by simp [vCells]
          refine ⟨⟨k, i2.2, vs ++ [(i1.1, i2.1)], .slice ao n' cap, rfl, at_put gA5 (by omega) _, stir_put gS5 (by omega) _, put_other gk5 (by omega) _, put6 gx5 _, ?_, hVal, by rw [hlen]; omega⟩, by simp [RowKit.intOf]⟩
          rw [hlen, hcel]
          exact ownsRow_setCell_below hown' (Nat.lt_succ_self bx) _
  case rest =>
    obtain ⟨vv, hB1, hB2, hB3, hB4, hB5⟩ := hcut
    obtain ⟨p8, hp8⟩ : ∃ p, (valsS q p7).2 = p := ⟨_, rfl⟩
    obtain ⟨V8, hV8⟩ : ∃ p, (valsS q p7).1 = p := ⟨_, rfl⟩
    rw [hp8] at hB1
    rw [hV8] at hB5
    clear h
    go_wp2_with fail
    go_at_call 18
    refine (count_call 60 br p8 wc hB1).mono ?_
    rintro e w10 ⟨rfl, hA10, hS10⟩
    have hkx10 := keep_stir hB4 (by omega) hS10
    have hk10 := keep_stir hB3 (by omega) hS10
    have ho10 := own_stir hB5 (by omega) hS10
    replace hS10 := hB2.trans hS10
    clear hB1 hB2 hB3 hB4 hB5
    obtain ⟨q2, hq2, hq23⟩ := countS_nat 60 p8 (fun l hl => hA10.len l hl)
    obtain ⟨p9, hp9⟩ : ∃ p, (countS 60 p8).2 = p := ⟨_, rfl⟩
    rw [hp9] at hA10
    rw [hq2]
    go_upto_block 2 with fail
    go_cut [6, 7] from 47 to 75 (fun _ _ wr => ∃ (va : Value), At B wr br (altsS q2 p9).2 ∧ Stir br w wr ∧ wr.heap[w.heap.size]? = some (Obj.cells #[.int .i64 0, .int .i64 0, .int .i64 0, .int .i64 0, .int .i64 0, .string ⟨#[]⟩, .slice none 0 0, .slice none 0 0] 54 (0, 0)) ∧ wr.heap[bx]? = some (Obj.cells #[.int .i64 p1.1, .int .i64 p2.1, .int .i64 p3.1, .int .i64 p4.1, .int .i64 p5.1, .string p6.1, vv, va] 54 (0, 0)) ∧ wr.ownsRow (bx + 1) 57 2 vv V8.length (vCells V8) ∧ wr.ownsRow (bx + 1) 59 4 va (altsS q2 p9).1.length (aCells (altsS q2 p9).1))
    case first =>
      go_wp2_with fail
      go_loopw [6, 7] (fun nv _ wr => ∃ (k : Nat) (s : St) (vs : List (Int × Int × Int × Int)) (va : Value), nv = .int .i64 (k : Int) ∧ At B wr br s ∧ Stir br w wr ∧ wr.heap[w.heap.size]? = some (Obj.cells #[.int .i64 0, .int .i64 0, .int .i64 0, .int .i64 0, .int .i64 0, .string ⟨#[]⟩, .slice none 0 0, .slice none 0 0] 54 (0, 0)) ∧ wr.heap[bx]? = some (Obj.cells #[.int .i64 p1.1, .int .i64 p2.1, .int .i64 p3.1, .int .i64 p4.1, .int .i64 p5.1, .string p6.1, vv, va] 54 (0, 0)) ∧ wr.ownsRow (bx + 1) 57 2 vv V8.length (vCells V8) ∧ wr.ownsRow (bx + 1) 59 4 va vs.length (aCells vs) ∧ Veil (vs ++ (altsS k s).1 = (altsS q2 p9).1 ∧ (altsS k s).2 = (altsS q2 p9).2) ∧ vs.length + k ≤ 3000) (fun nv _ _ => (RowKit.intOf nv).toNat)
      case atStart => exact ⟨q2, p9, [], .slice none 0 0, rfl, hA10, hS10, hk10, hkx10, ho10, World.ownsRow_nil _ _ _ _, ⟨rfl, rfl⟩, by simpa using hq23⟩
      case round =>
        obtain ⟨k, s, vs, va, rfl, hA, hS, hk, hkx, hvv, hown, hV, hle⟩ := hrel
        clear hA10 hS10 hk10 hkx10 ho10
        obtain ⟨v, er, hb, hx⟩ := hA.rd
        obtain ⟨r0, r1, rf⟩ := rd_cells hb
        cases k with
        | zero =>
          go_wp2
          go_meet
          case rel =>
            have h1 : vs = (altsS q2 p9).1 := by rw [← hV.out.1, alts0, List.append_nil]
            have h2 : s = (altsS q2 p9).2 := by rw [← hV.out.2, alts0]
            rw [← h1, ← h2]
            exact ⟨va, hA, hS, hk, hkx, hvv, hown⟩
        | succ k =>
          rcases hx with ⟨l, rfl, rfl, hB⟩ | ⟨rfl, ⟨te, pe, rfl⟩, _⟩
          rotate_left
          · go_wp2
            go_meet
            case rel =>
              have h1 : vs = (altsS q2 p9).1 := by rw [← hV.out.1, alts_none, List.append_nil]
              have h2 : none = (altsS q2 p9).2 := by rw [← hV.out.2, alts_none]
              rw [← h1, ← h2]
              exact ⟨va, hA, hS, hk, hkx, hvv, hown⟩
          · clear hB hb
            have hbr := hA.lo
            go_wp2_with fail
            go_at_call 19
            refine (in_call 1 3 br (some l) wr hA).mono ?_
            rintro e y1 ⟨rfl, gA1, gS1⟩
            have gx1 := keep_stir hkx (by omega) gS1
            have gk1 := keep_stir hk (by omega) gS1
            have gv1 := own_stir hvv (by omega) gS1
            have go1 := own_stir hown (by omega) gS1
            replace gS1 := hS.trans gS1
            clear hA hS hk hkx hvv hown r0 r1 rf
            obtain ⟨i1, hi1⟩ : ∃ p, altA l = p := ⟨_, rfl⟩
            rw [show inS 1 3 (some l) = i1 from hi1] at gA1 ⊢
            go_wp2_with fail
            go_at_call 19
            refine (in_call 0 262144 br i1.2 y1 gA1).mono ?_
            rintro e y2 ⟨rfl, gA2, gS2⟩
            have gx2 := keep_stir gx1 (by omega) gS2
            have gk2 := keep_stir gk1 (by omega) gS2
            have gv2 := own_stir gv1 (by omega) gS2
            have go2 := own_stir go1 (by omega) gS2
            replace gS2 := gS1.trans gS2
            clear gA1 gS1 gk1 gx1 gv1 go1
            obtain ⟨i2, hi2⟩ : ∃ p, inS 0 262144 i1.2 = p := ⟨_, rfl⟩
            rw [show inS 0 262144 i1.2 = i2 from hi2] at gA2 ⊢
            go_wp2_with fail
            go_at_call 19
            refine (in_call 0 262144 br i2.2 y2 gA2).mono ?_
            rintro e y3 ⟨rfl, gA3, gS3⟩
            have gx3 := keep_stir gx2 (by omega) gS3
            have gk3 := keep_stir gk2 (by omega) gS3
            have gv3 := own_stir gv2 (by omega) gS3
            have go3 := own_stir go2 (by omega) gS3
            replace gS3 := gS2.trans gS3
            clear gA2 gS2 gk2 gx2 gv2 go2
            obtain ⟨i3, hi3⟩ : ∃ p, inS 0 262144 i2.2 = p := ⟨_, rfl⟩
            rw [show inS 0 262144 i2.2 = i3 from hi3] at gA3 ⊢
            have hna : va.ownBlock ≠ some y3.heap.size := fun e => by have := (go3.lt _ e).2; omega
            have hnv : vv.ownBlock ≠ some y3.heap.size := fun e => by have := (gv3.lt _ e).2; omega
            have gz : y3.heap.size ≤ (y3.alloc (Obj.cells #[.int .i64 i1.1, .int .i64 i2.1, .int .i64 i3.1, .int .i64 0] 59)).heap.size := by simp
            have gbx : bx < y3.heap.size := (Array.getElem?_eq_some_iff.1 gx3).1
            have gw4 : (y3.alloc (Obj.cells #[.int .i64 i1.1, .int .i64 i2.1, .int .i64 i3.1, .int .i64 0] 59)).heap[y3.heap.size]? = some (Obj.cells #[.int .i64 i1.1, .int .i64 i2.1, .int .i64 i3.1, .int .i64 0] 59 (0, 0)) := heap_alloc_new y3 _
            have gx4 := (Lib.alloc_old y3 (Obj.cells #[.int .i64 i1.1, .int .i64 i2.1, .int .i64 i3.1, .int .i64 0] 59) _ gbx).trans gx3
            have gk4 := (Lib.alloc_old y3 (Obj.cells #[.int .i64 i1.1, .int .i64 i2.1, .int .i64 i3.1, .int .i64 0] 59) w.heap.size (by omega)).trans gk3
            have gA4 : At B (y3.alloc (Obj.cells #[.int .i64 i1.1, .int .i64 i2.1, .int .i64 i3.1, .int .i64 0] 59)) br i3.2 := gA3.keep gz fun k hk => Below.heap_alloc _ _ _ (by have := gA3.sz; omega)
            have gS4 : Stir br w (y3.alloc (Obj.cells #[.int .i64 i1.1, .int .i64 i2.1, .int .i64 i3.1, .int .i64 0] 59)) := gS3.trans (.of ((Below.refl _ y3).alloc (Nat.le_refl _) _))
            have go4 := go3.alloc (Obj.cells #[.int .i64 i1.1, .int .i64 i2.1, .int .i64 i3.1, .int .i64 0] 59)
            have gv4 := gv3.alloc (Obj.cells #[.int .i64 i1.1, .int .i64 i2.1, .int .i64 i3.1, .int .i64 0] 59)
            go_wp2_with fail
            generalize y3.alloc (Obj.cells #[.int .i64 i1.1, .int .i64 i2.1, .int .i64 i3.1, .int .i64 0] 59) = y4 at gz gw4 gx4 gk4 gA4 gS4 go4 gv4 ⊢
            generalize y3.heap.size = bv at gz gbx gw4 hna hnv ⊢
            clear gA3 gS3 gk3 gx3 go3 gv3
            go_at_call 25
            refine (num_call br i3.2 y4 gA4).mono ?_
            rintro e y5 ⟨rfl, gA5, gS5⟩
            have gw5 := keep_stir gw4 (by omega) gS5
            have gx5 := keep_stir gx4 (by omega) gS5
            have gk5 := keep_stir gk4 (by omega) gS5
            have go5 := own_stir go4 (by omega) gS5
            have gv5 := own_stir gv4 (by omega) gS5
            replace gS5 := gS4.trans gS5
            clear gA4 gS4 gw4 gx4 gk4 go4 gv4
            obtain ⟨i4, hi4⟩ : ∃ p, numS i3.2 = p := ⟨_, rfl⟩
            rw [hi4] at gA5 ⊢
            obtain ⟨x0, x1, x2, x3, x4, x5, x6, x7, xf⟩ := ins_cells gx5
            obtain ⟨v0, v1, v2, v3, vf⟩ := alt_cells gw5
            have gbv : bv < y5.heap.size := (Array.getElem?_eq_some_iff.1 gw5).1
            have z1 : ¬ bx = bv := by omega
            have z2 : ¬ bv = bx := by omega
            obtain ⟨iV, hiV, hzV, hsV, hbV⟩ := info_parts infoA
            have go6 := (own_put (o := 3) go5 hna (.int .i64 i4.1)).alloc (Obj.cells #[.int .i64 i1.1, .int .i64 i2.1, .int .i64 i3.1, .int .i64 i4.1] 59)
            have gv6 := (own_put (o := 3) gv5 hnv (.int .i64 i4.1)).alloc (Obj.cells #[.int .i64 i1.1, .int .i64 i2.1, .int .i64 i3.1, .int .i64 i4.1] 59)
            have gA6 := (at_put (o := 3) gA5 (by omega : B ≤ bv) (.int .i64 i4.1)).keep (w' := (y5.setCell ⟨bv, 3, none⟩ (.int .i64 i4.1)).alloc (Obj.cells #[.int .i64 i1.1, .int .i64 i2.1, .int .i64 i3.1, .int .i64 i4.1] 59)) (by simp) fun k hk => Below.heap_alloc _ _ _ (by have := gA5.sz; simp [World.setCell]; omega)
            have gS6 := (stir_put (o := 3) gS5 (by omega : w.heap.size ≤ bv) (.int .i64 i4.1)).trans (Stir.of ((Below.refl _ _).alloc (Nat.le_refl _) (Obj.cells #[.int .i64 i1.1, .int .i64 i2.1, .int .i64 i3.1, .int .i64 i4.1] 59)))
            have gx6 := (Lib.alloc_old (y5.setCell ⟨bv, 3, none⟩ (.int .i64 i4.1)) (Obj.cells #[.int .i64 i1.1, .int .i64 i2.1, .int .i64 i3.1, .int .i64 i4.1] 59) bx (by simp [World.setCell]; omega)).trans (put_other (o := 3) gx5 z1 (.int .i64 i4.1))
            have gk6 := (Lib.alloc_old (y5.setCell ⟨bv, 3, none⟩ (.int .i64 i4.1)) (Obj.cells #[.int .i64 i1.1, .int .i64 i2.1, .int .i64 i3.1, .int .i64 i4.1] 59) w.heap.size (by simp [World.setCell]; omega)).trans (put_other (o := 3) gk5 (by omega) (.int .i64 i4.1))
            have gt6 : ((y5.setCell ⟨bv, 3, none⟩ (.int .i64 i4.1)).alloc (Obj.cells #[.int .i64 i1.1, .int .i64 i2.1, .int .i64 i3.1, .int .i64 i4.1] 59)).heap[y5.heap.size]? = some (Obj.cells #[.int .i64 i1.1, .int .i64 i2.1, .int .i64 i3.1, .int .i64 i4.1] 59 (0, 0)) := by
              have := heap_alloc_new (y5.setCell ⟨bv, 3, none⟩ (.int .i64 i4.1)) (Obj.cells #[.int .i64 i1.1, .int .i64 i2.1, .int .i64 i3.1, .int .i64 i4.1] 59)
              simpa [World.setCell] using this
            go_wp2_with (at_builtin; refine wpList_append_own _ rfl _ _ 52 rfl (bx + 1) 59 iV (.agg #[.int .i64 0, .int .i64 0, .int .i64 0, .int .i64 0]) 4 32 Tryd.underlying52 hiV hzV hsV hbV rfl (by decide) _ _ _ rfl go6 ⟨y5.heap.size, 0, none⟩ 1 1 [.int .i64 i1.1, .int .i64 i2.1, .int .i64 i3.1, .int .i64 i4.1] rfl rfl ?c1 ?c2 ?c3 ?c4 ?c5 ?_)
            case c1 =>
              intro j u hj
              have hadd : (⟨y5.heap.size, 0, none⟩ : Addr).add j = ⟨y5.heap.size, j, none⟩ := by unfold Addr.add; split <;> simp_all
              rw [hadd, Lib.cell_of_heap gt6]
              simpa using hj
            case c2 =>
              intro u hu
              simp at hu
              rcases hu with rfl | rfl | rfl | rfl <;> rfl
            case c3 => unfold maxLen; omega
            case c4 => omega
            case c5 => simp [World.setCell]; omega
            intro v' y7 hown' hgrow _
            have hrow : ∀ k, va.ownBlock = some k → bx + 1 ≤ k := fun k e => (go6.lt k e).1
            have gv7 := gv6.kept hgrow (own_apart gv6 go6 (by decide))
            have gA7 := gA6.keep hgrow.size fun k hk => hgrow.block k (by have := gA6.sz; omega) (fun e => by have := hrow k e.symm; omega)
            have gS7 : Stir br w y7 := ⟨hgrow.os.trans gS6.os, hgrow.tape.trans gS6.tape, hgrow.output.trans gS6.output, Nat.le_trans gS6.size hgrow.size, fun k hk hn => (hgrow.block k (Nat.lt_of_lt_of_le hk gS6.size) (fun e => by have := hrow k e.symm; omega)).trans (gS6.block k hk hn)⟩
            have gx7 := (hgrow.block bx (Array.getElem?_eq_some_iff.1 gx6).1 (fun e => by have := hrow bx e.symm; omega)).trans gx6
            have gk7 := (hgrow.block w.heap.size (Array.getElem?_eq_some_iff.1 gk6).1 (fun e => by have := hrow _ e.symm; omega)).trans gk6
            obtain ⟨s0, s1, s2, s3, s4, s5, s6, s7, sf⟩ := ins_cells gx7
            obtain ⟨ao, n', cap, rfl⟩ : ∃ ao n' cap, v' = .slice ao n' cap := by
              rcases hown'.2 with ⟨hv, _⟩ | ⟨g, cap, cur, hv, _⟩
              · exact ⟨_, _, _, hv⟩
              · exact ⟨_, _, _, hv⟩
            clear gA6 gS6 gx6 gk6 gt6 go6 gv6 gA5 gS5 gx5 gk5 go5 gv5 gw5 x0 x1 x2 x3 x4 x5 x6 x7 xf v0 v1 v2 v3 vf
            go_wp2_with fail
            have hVal : Veil ((vs ++ [(i1.1, i2.1, i3.1, i4.1)]) ++ (altsS k i4.2).1 = (altsS q2 p9).1 ∧ (altsS k i4.2).2 = (altsS q2 p9).2) := by
              have e2 : altB l = i2 := by unfold altB; rw [hi1]; exact hi2
              have e3 : altC l = i3 := by unfold altC; rw [e2]; exact hi3
              have e4 : altD l = i4 := by unfold altD; rw [e3]; exact hi4
              have h1 := hV.out
              rw [alts_some, hi1, e2, e3, e4] at h1
              exact ⟨by rw [List.append_assoc]; exact h1.1, h1.2⟩
            have hlen : (vs ++ [(i1.1, i2.1, i3.1, i4.1)]).length = vs.length + 1 := by simp
            have hcel : aCells (vs ++ [(i1.1, i2.1, i3.1, i4.1)]) = aCells vs ++ [.int .i64 i1.1, .int .i64 i2.1, .int .i64 i3.1, .int .i64 i4.1] := by simp [aCells]
            refine ⟨⟨k, i4.2, vs ++ [(i1.1, i2.1, i3.1, i4.1)], .slice ao n' cap, rfl, at_put gA7 (by omega) _, stir_put gS7 (by omega) _, put_other gk7 (by omega) _, put7 gx7 _, ownsRow_setCell_below gv7 (Nat.lt_succ_self bx) _, ?_, hVal, by rw [hlen]; omega⟩, by simp [RowKit.intOf]⟩
            rw [hlen, hcel]
            exact ownsRow_setCell_below hown' (Nat.lt_succ_self bx) _
    case rest =>
      obtain ⟨va, hC1, hC2, hC3, hC4, hC5, hC6⟩ := hcut
      obtain ⟨x0, x1, x2, x3, x4, x5, x6, x7, xf⟩ := ins_cells hC4
      obtain ⟨d0, d1, d2, d3, d4, d5, d6, d7, df⟩ := ins_cells hC3
      obtain ⟨ao, n1, c1, rfl⟩ : ∃ ao n' cap, vv = .slice ao n' cap := by
        rcases hC5.2 with ⟨hv, _⟩ | ⟨g, cap, cur, hv, _⟩
        · exact ⟨_, _, _, hv⟩
        · exact ⟨_, _, _, hv⟩
      obtain ⟨bo, n2, c2, rfl⟩ : ∃ ao n' cap, va = .slice ao n' cap := by
        rcases hC6.2 with ⟨hv, _⟩ | ⟨g, cap, cur, hv, _⟩
        · exact ⟨_, _, _, hv⟩
        · exact ⟨_, _, _, hv⟩
      go_wp2
      have hq := stored8 (.int .i64 p1.1) (.int .i64 p2.1) (.int .i64 p3.1) (.int .i64 p4.1) (.int .i64 p5.1) (.string p6.1) (.slice ao n1 c1) (.slice bo n2 c2) hC3
      have e1 : ins1 st = p1 := hp1
      have e2 : ins2 st = p2 := by unfold ins2; rw [e1]; exact hp2
      have e3 : ins3 st = p3 := by unfold ins3; rw [e2]; exact hp3
      have e4 : ins4 st = p4 := by unfold ins4; rw [e3]; exact hp4
      have e5 : ins5 st = p5 := by unfold ins5; rw [e4]; exact hp5
      have e6 : ins6 st = p6 := by unfold ins6; rw [e5]; exact hp6
      have e7 : ins7 st = countS 262144 p6.2 := by unfold ins7; rw [e6]
      have e8 : ins8 st = valsS q p7 := by unfold ins8; rw [e7, hq0, hp7, Int.toNat_natCast]
      have e9 : ins9 st = countS 60 p8 := by unfold ins9; rw [e8, hp8]
      have e10 : ins10 st = altsS q2 p9 := by unfold ins10; rw [e9, hq2, hp9, Int.toNat_natCast]
      have es : insS st = (⟨p1.1, p2.1, p3.1, p4.1, p5.1, p6.1, V8, (altsS q2 p9).1⟩, (altsS q2 p9).2) := by
        unfold insS
        rw [e1, e2, e3, e4, e5, e6, e8, e10, hV8]
      rw [es]
      refine bodyPost_ret (results_cell_row rfl _ _ _ _ _ _ _ rfl hq Tryd.underlying54 rfl (by kernel_rfl)) rfl ⟨_, rfl, ?_, ?_, _, _, rfl, ?_, ?_⟩
      · exact at_put (at_put (at_put (at_put (at_put (at_put (at_put (at_put hC1 hsz _) hsz _) hsz _) hsz _) hsz _) hsz _) hsz _) hsz _
      · exact stir_put (stir_put (stir_put (stir_put (stir_put (stir_put (stir_put (stir_put hC2 (Nat.le_refl _) _) (Nat.le_refl _) _) (Nat.le_refl _) _) (Nat.le_refl _) _) (Nat.le_refl _) _) (Nat.le_refl _) _) (Nat.le_refl _) _) (Nat.le_refl _) _
      · exact own_base (own_put_base (own_put_base (own_put_base (own_put_base (own_put_base (own_put_base (own_put_base (own_put_base hC5 (by omega) _) (by omega) _) (by omega) _) (by omega) _) (by omega) _) (by omega) _) (by omega) _) (by omega) _) (by omega)
      · exact own_base (own_put_base (own_put_base (own_put_base (own_put_base (own_put_base (own_put_base (own_put_base (own_put_base hC6 (by omega) _) (by omega) _) (by omega) _) (by omega) _) (by omega) _) (by omega) _) (by omega) _) (by omega) _) (by omega)
end Go.Proofs.YtfdkdghhdigfbaaDoor
