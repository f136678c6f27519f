/- The law ObsFloats, walked. -/
import Derived.Test.YtnggflfjmgbncaaDoorTo6
import Derived.Test.YtnggflfjmgbncaaDoorTw
import Derived.Deep.QuietTactic
import Derived.BigQuiet
namespace Go.Proofs.YtnggflfjmgbncaaDoor
open Go Go.RowKit Go.Sort Go.Lib Ieee Ev.Fl
set_option maxRecDepth 100000

/-- An observation without parts lies in a block. -/
def ObsAt (w : World) (b : Nat) (k n : Int) : Prop := w.heap[b]? = some (.cells #[.int .i64 k, .int .i64 n, .string ⟨#[]⟩, .slice none 0 0] 42 (0, 0))
theorem ObsAt.lt {w : World} {b : Nat} {k n : Int} (h : ObsAt w b k n) : b < w.heap.size := (Array.getElem?_eq_some_iff.1 h).1
theorem ObsAt.below {w w' : World} {b : Nat} {k n : Int} (h : ObsAt w b k n) (hb : Below w.heap.size w w') : ObsAt w' b k n := (hb.block _ h.lt).trans h
theorem ObsAt.alloc {w : World} {b : Nat} {k n : Int} (h : ObsAt w b k n) (o : Obj) : ObsAt (w.alloc o) b k n := (Lib.alloc_old w o b h.lt).trans h
theorem ObsAt.new (w : World) (k n : Int) : ObsAt (w.alloc (.cells #[.int .i64 k, .int .i64 n, .string ⟨#[]⟩, .slice none 0 0] 42)) w.heap.size k n := heap_alloc_new w _
theorem ObsAt.cells {w : World} {b : Nat} {k n : Int} (h : ObsAt w b k n) :
    w.cell? ⟨b, 0, none⟩ = some (.int .i64 k) ∧ w.cell? ⟨b, 1, none⟩ = some (.int .i64 n) ∧ w.cell? ⟨b, 2, none⟩ = some (.string ⟨#[]⟩) ∧ w.cell? ⟨b, 3, none⟩ = some (.slice none 0 0) ∧ ∀ j, w.frozen? ⟨b, j, none⟩ = false := obs_cells h

theorem region_lit {P : Program} {C : World → Prop} {id : Nat} {Q : Exit → Act → World → Prop} {a : Act} {w : World} {l : List Oper} (hC : C { w with drawn := w.drawn + 1 }) (hm : P.follows .mixedOrders = true) (hB : Region.lexB .any l.toArray = true)
    (h : wpQuiet P l.toArray C (fun a' => ∀ w', C w' → Q .normal a' w') l a) : (Code.region id l.toArray true).wp P Q a w :=
  wp_region_quiet (C := C) hm hB hC (by simpa using h)

/-- The worlds that the law's last statement goes through. -/
structure Good (w0 : World) (b0 b1 b2 b3 b4 b5 : Nat) (xa xb : Int) (w : World) : Prop where
  env : Env w
  old : Below w0.heap.size w0 w
  o0 : ObsAt w b0 2 xa
  o1 : ObsAt w b1 2 xb
  o2 : ObsAt w b2 1 xa
  o3 : ObsAt w b3 2 xa
  o4 : ObsAt w b4 1 xa
  o5 : ObsAt w b5 2 9218868437227405313
theorem Good.step {w0 : World} {b0 b1 b2 b3 b4 b5 : Nat} {xa xb : Int} {w w' : World} (h : Good w0 b0 b1 b2 b3 b4 b5 xa xb w) (hb : Below w.heap.size w w') : Good w0 b0 b1 b2 b3 b4 b5 xa xb w' :=
  ⟨h.env.below hb, h.old.trans (hb.mono h.old.size), h.o0.below hb, h.o1.below hb, h.o2.below hb, h.o3.below hb, h.o4.below hb, h.o5.below hb⟩
theorem Good.drew1 {w0 : World} {b0 b1 b2 b3 b4 b5 : Nat} {xa xb : Int} {w : World} (h : Good w0 b0 b1 b2 b3 b4 b5 xa xb w) : Good w0 b0 b1 b2 b3 b4 b5 xa xb { w with drawn := w.drawn + 1 } :=
  h.step ⟨rfl, rfl, rfl, Nat.le_refl _, fun _ _ => rfl⟩
structure TW (w0 : World) (b0 b1 b2 b3 b4 b5 : Nat) (xa xb : Int) where
  w : World
  good : Good w0 b0 b1 b2 b3 b4 b5 xa xb w
theorem t_gives {w0 : World} {b0 b1 b2 b3 b4 b5 : Nat} {xa xb : Int} {f : Nat} {args : Array Value} {v : Value} (x : TW w0 b0 b1 b2 b3 b4 b5 xa xb) (h : Gives f args v) :
    Calls Tryd.prog f args x.w fun e w' => e = .returned v ∧ ∃ y : TW w0 b0 b1 b2 b3 b4 b5 xa xb, w' = y.w :=
  (h x.w x.good.env).mono fun _ w' ⟨he, hb⟩ => ⟨he, ⟨w', x.good.step hb⟩, rfl⟩
theorem same_is (k n : Int) : Gives 24 #[.agg #[.int .i64 k, .int .i64 n, .string ⟨#[]⟩, .slice none 0 0], .agg #[.int .i64 k, .int .i64 n, .string ⟨#[]⟩, .slice none 0 0]] (.bool true) := fun w _ => by
  have := same_leaf k n k n w
  rwa [beq_self_eq_true, beq_self_eq_true] at this
theorem same_two (n m : Int) {S : Bool} (h : (n == m) = S) : Gives 24 #[.agg #[.int .i64 2, .int .i64 n, .string ⟨#[]⟩, .slice none 0 0], .agg #[.int .i64 2, .int .i64 m, .string ⟨#[]⟩, .slice none 0 0]] (.bool S) := fun w _ => by
  have := same_leaf 2 n 2 m w
  rw [h] at this
  exact this
theorem same_not (n : Int) : Gives 24 #[.agg #[.int .i64 2, .int .i64 n, .string ⟨#[]⟩, .slice none 0 0], .agg #[.int .i64 1, .int .i64 n, .string ⟨#[]⟩, .slice none 0 0]] (.bool false) := fun w _ => same_leaf 2 n 1 n w

set_option maxHeartbeats 6400000 in
theorem floats_walk (a b ca cb xa xb : Int) (ta tb sa : ByteArray) (S : Bool) (w0 : World) (hE : Env w0) (hf : Calls Tryd.prog 21 #[] w0 fun e w' => e = .returned (.bool true) ∧ Below w0.heap.size w0 w')
    (hca : Gives 16 #[.int .u64 a] (.int .u64 ca)) (hcb : Gives 16 #[.int .u64 b] (.int .u64 cb)) (hxa : wrap64 ca = xa) (hxb : wrap64 cb = xb)
    (hta : Gives 23 #[.agg #[.int .i64 2, .int .i64 xa, .string ⟨#[]⟩, .slice none 0 0]] (.string ta)) (htb : Gives 23 #[.agg #[.int .i64 2, .int .i64 xb, .string ⟨#[]⟩, .slice none 0 0]] (.string tb)) (hsa : Gives 23 #[.agg #[.int .i64 1, .int .i64 xa, .string ⟨#[]⟩, .slice none 0 0]] (.string sa))
    (hpa : Gives 22 #[.string ta] (.tuple #[.agg #[.int .i64 2, .int .i64 xa, .string ⟨#[]⟩, .slice none 0 0], .nilIface])) (hpz : Gives 22 #[.string sa] (.tuple #[.agg #[.int .i64 1, .int .i64 xa, .string ⟨#[]⟩, .slice none 0 0], .nilIface]))
    (hv : Gives 25 #[.agg #[.int .i64 2, .int .i64 xa, .string ⟨#[]⟩, .slice none 0 0]] (.bool true)) (hbad : Gives 25 #[.agg #[.int .i64 2, .int .i64 9218868437227405313, .string ⟨#[]⟩, .slice none 0 0]] (.bool false))
    (hS1 : (xa == xb) = S) (hS2 : (ca == cb) = S) (hS3 : (ta.toList == tb.toList) = S) (hS4 : (ta.toList == sa.toList) = false) :
    Calls Tryd.prog 4 #[.int .u64 a, .int .u64 b] w0 fun e w' => e = .returned (.bool true) ∧ Below w0.heap.size w0 w' := by
  have hbb0 := Below.refl w0.heap.size w0
  go_enter Tryd.func4, Tryd.ntmps4
  go_wp2_with fail
  go_at_call 21
  refine hf.mono ?_
  rintro e w1 ⟨rfl, hb1⟩
  have hbb1 : Below w0.heap.size w0 w1 := hbb0.trans (hb1.mono hbb0.size)
  clear hb1 
  go_wp2_with fail
  go_at_call 16
  refine (hca _ (hE.below hbb1)).mono ?_
  rintro e w2 ⟨rfl, hb2⟩
  have hbb2 : Below w0.heap.size w0 w2 := hbb1.trans (hb2.mono hbb1.size)
  clear hb2 
  go_wp2_with fail
  go_at_call 16
  refine (hcb _ (hE.below hbb2)).mono ?_
  rintro e w3 ⟨rfl, hb3⟩
  have hbb3 : Below w0.heap.size w0 w3 := hbb2.trans (hb3.mono hbb2.size)
  clear hb3 
  have hbb4 : Below w0.heap.size w0 (((w3.alloc (Obj.cells #[.int .i64 2, .int .i64 xa, .string ⟨#[]⟩, .slice none 0 0] 42)).alloc (Obj.cells #[.int .i64 2, .int .i64 xb, .string ⟨#[]⟩, .slice none 0 0] 42)).alloc (Obj.cells #[.int .i64 1, .int .i64 xa, .string ⟨#[]⟩, .slice none 0 0] 42)) := (((hbb3.alloc (by have := hbb3.size; simp; try omega) _).alloc (by have := hbb3.size; simp; try omega) _).alloc (by have := hbb3.size; simp; try omega) _)
  have q4_0 : ObsAt (((w3.alloc (Obj.cells #[.int .i64 2, .int .i64 xa, .string ⟨#[]⟩, .slice none 0 0] 42)).alloc (Obj.cells #[.int .i64 2, .int .i64 xb, .string ⟨#[]⟩, .slice none 0 0] 42)).alloc (Obj.cells #[.int .i64 1, .int .i64 xa, .string ⟨#[]⟩, .slice none 0 0] 42)) (w3.heap.size) 2 xa := by
    have h := ObsAt.new w3 (2) (xa)
    have h := h
    exact ((h.alloc (Obj.cells #[.int .i64 2, .int .i64 xb, .string ⟨#[]⟩, .slice none 0 0] 42)).alloc (Obj.cells #[.int .i64 1, .int .i64 xa, .string ⟨#[]⟩, .slice none 0 0] 42))
  have q4_1 : ObsAt (((w3.alloc (Obj.cells #[.int .i64 2, .int .i64 xa, .string ⟨#[]⟩, .slice none 0 0] 42)).alloc (Obj.cells #[.int .i64 2, .int .i64 xb, .string ⟨#[]⟩, .slice none 0 0] 42)).alloc (Obj.cells #[.int .i64 1, .int .i64 xa, .string ⟨#[]⟩, .slice none 0 0] 42)) (w3.heap.size + 1) 2 xb := by
    have h := ObsAt.new (w3.alloc (Obj.cells #[.int .i64 2, .int .i64 xa, .string ⟨#[]⟩, .slice none 0 0] 42)) (2) (xb)
    rw [show (w3.alloc (Obj.cells #[.int .i64 2, .int .i64 xa, .string ⟨#[]⟩, .slice none 0 0] 42)).heap.size = w3.heap.size + 1 by simp] at h
    exact (h.alloc (Obj.cells #[.int .i64 1, .int .i64 xa, .string ⟨#[]⟩, .slice none 0 0] 42))
  have q4_2 : ObsAt (((w3.alloc (Obj.cells #[.int .i64 2, .int .i64 xa, .string ⟨#[]⟩, .slice none 0 0] 42)).alloc (Obj.cells #[.int .i64 2, .int .i64 xb, .string ⟨#[]⟩, .slice none 0 0] 42)).alloc (Obj.cells #[.int .i64 1, .int .i64 xa, .string ⟨#[]⟩, .slice none 0 0] 42)) (w3.heap.size + 1 + 1) 1 xa := by
    have h := ObsAt.new ((w3.alloc (Obj.cells #[.int .i64 2, .int .i64 xa, .string ⟨#[]⟩, .slice none 0 0] 42)).alloc (Obj.cells #[.int .i64 2, .int .i64 xb, .string ⟨#[]⟩, .slice none 0 0] 42)) (1) (xa)
    rw [show ((w3.alloc (Obj.cells #[.int .i64 2, .int .i64 xa, .string ⟨#[]⟩, .slice none 0 0] 42)).alloc (Obj.cells #[.int .i64 2, .int .i64 xb, .string ⟨#[]⟩, .slice none 0 0] 42)).heap.size = w3.heap.size + 1 + 1 by simp] at h
    exact h
  obtain ⟨c4_00, c4_01, c4_02, c4_03, c4_04⟩ := q4_0.cells
  obtain ⟨c4_10, c4_11, c4_12, c4_13, c4_14⟩ := q4_1.cells
  obtain ⟨c4_20, c4_21, c4_22, c4_23, c4_24⟩ := q4_2.cells
  go_wp2_with fail
  generalize (((w3.alloc (Obj.cells #[.int .i64 2, .int .i64 xa, .string ⟨#[]⟩, .slice none 0 0] 42)).alloc (Obj.cells #[.int .i64 2, .int .i64 xb, .string ⟨#[]⟩, .slice none 0 0] 42)).alloc (Obj.cells #[.int .i64 1, .int .i64 xa, .string ⟨#[]⟩, .slice none 0 0] 42)) = w4 at hbb4 q4_0 q4_1 q4_2 c4_00 c4_01 c4_02 c4_03 c4_04 c4_10 c4_11 c4_12 c4_13 c4_14 c4_20 c4_21 c4_22 c4_23 c4_24 ⊢
  go_wp2_with fail
  go_at_call 23
  refine (hta _ (hE.below hbb4)).mono ?_
  rintro e w5 ⟨rfl, hb5⟩
  have hbb5 : Below w0.heap.size w0 w5 := hbb4.trans (hb5.mono hbb4.size)
  have q5_0 := q4_0.below hb5
  have q5_1 := q4_1.below hb5
  have q5_2 := q4_2.below hb5
  clear hb5 c4_00 c4_01 c4_02 c4_03 c4_04 c4_10 c4_11 c4_12 c4_13 c4_14 c4_20 c4_21 c4_22 c4_23 c4_24 q4_0 q4_1 q4_2
  obtain ⟨c5_00, c5_01, c5_02, c5_03, c5_04⟩ := q5_0.cells
  obtain ⟨c5_10, c5_11, c5_12, c5_13, c5_14⟩ := q5_1.cells
  obtain ⟨c5_20, c5_21, c5_22, c5_23, c5_24⟩ := q5_2.cells
  go_wp2_with fail
  go_at_call 22
  refine (hpa _ (hE.below hbb5)).mono ?_
  rintro e w6 ⟨rfl, hb6⟩
  have hbb6 : Below w0.heap.size w0 w6 := hbb5.trans (hb6.mono hbb5.size)
  have q6_0 := q5_0.below hb6
  have q6_1 := q5_1.below hb6
  have q6_2 := q5_2.below hb6
  clear hb6 c5_00 c5_01 c5_02 c5_03 c5_04 c5_10 c5_11 c5_12 c5_13 c5_14 c5_20 c5_21 c5_22 c5_23 c5_24 q5_0 q5_1 q5_2
  obtain ⟨c6_00, c6_01, c6_02, c6_03, c6_04⟩ := q6_0.cells
  obtain ⟨c6_10, c6_11, c6_12, c6_13, c6_14⟩ := q6_1.cells
  obtain ⟨c6_20, c6_21, c6_22, c6_23, c6_24⟩ := q6_2.cells
  have hbb7 : Below w0.heap.size w0 (w6.alloc (Obj.cells #[.int .i64 2, .int .i64 xa, .string ⟨#[]⟩, .slice none 0 0] 42)) := (hbb6.alloc (by have := hbb6.size; simp; try omega) _)
  have q7_0 := (q6_0.alloc (Obj.cells #[.int .i64 2, .int .i64 xa, .string ⟨#[]⟩, .slice none 0 0] 42))
  have q7_1 := (q6_1.alloc (Obj.cells #[.int .i64 2, .int .i64 xa, .string ⟨#[]⟩, .slice none 0 0] 42))
  have q7_2 := (q6_2.alloc (Obj.cells #[.int .i64 2, .int .i64 xa, .string ⟨#[]⟩, .slice none 0 0] 42))
  have q7_3 : ObsAt (w6.alloc (Obj.cells #[.int .i64 2, .int .i64 xa, .string ⟨#[]⟩, .slice none 0 0] 42)) (w6.heap.size) 2 xa := by
    have h := ObsAt.new w6 (2) (xa)
    have h := h
    exact h
  clear c6_00 c6_01 c6_02 c6_03 c6_04 c6_10 c6_11 c6_12 c6_13 c6_14 c6_20 c6_21 c6_22 c6_23 c6_24 q6_0 q6_1 q6_2
  obtain ⟨c7_00, c7_01, c7_02, c7_03, c7_04⟩ := q7_0.cells
  obtain ⟨c7_10, c7_11, c7_12, c7_13, c7_14⟩ := q7_1.cells
  obtain ⟨c7_20, c7_21, c7_22, c7_23, c7_24⟩ := q7_2.cells
  obtain ⟨c7_30, c7_31, c7_32, c7_33, c7_34⟩ := q7_3.cells
  go_wp2_with fail
  generalize (w6.alloc (Obj.cells #[.int .i64 2, .int .i64 xa, .string ⟨#[]⟩, .slice none 0 0] 42)) = w7 at hbb7 q7_0 q7_1 q7_2 q7_3 c7_00 c7_01 c7_02 c7_03 c7_04 c7_10 c7_11 c7_12 c7_13 c7_14 c7_20 c7_21 c7_22 c7_23 c7_24 c7_30 c7_31 c7_32 c7_33 c7_34 ⊢
  go_wp2_with fail
  go_at_call 23
  refine (hsa _ (hE.below hbb7)).mono ?_
  rintro e w8 ⟨rfl, hb8⟩
  have hbb8 : Below w0.heap.size w0 w8 := hbb7.trans (hb8.mono hbb7.size)
  have q8_0 := q7_0.below hb8
  have q8_1 := q7_1.below hb8
  have q8_2 := q7_2.below hb8
  have q8_3 := q7_3.below hb8
  clear hb8 c7_00 c7_01 c7_02 c7_03 c7_04 c7_10 c7_11 c7_12 c7_13 c7_14 c7_20 c7_21 c7_22 c7_23 c7_24 c7_30 c7_31 c7_32 c7_33 c7_34 q7_0 q7_1 q7_2 q7_3
  obtain ⟨c8_00, c8_01, c8_02, c8_03, c8_04⟩ := q8_0.cells
  obtain ⟨c8_10, c8_11, c8_12, c8_13, c8_14⟩ := q8_1.cells
  obtain ⟨c8_20, c8_21, c8_22, c8_23, c8_24⟩ := q8_2.cells
  obtain ⟨c8_30, c8_31, c8_32, c8_33, c8_34⟩ := q8_3.cells
  go_wp2_with fail
  go_at_call 22
  refine (hpz _ (hE.below hbb8)).mono ?_
  rintro e w9 ⟨rfl, hb9⟩
  have hbb9 : Below w0.heap.size w0 w9 := hbb8.trans (hb9.mono hbb8.size)
  have q9_0 := q8_0.below hb9
  have q9_1 := q8_1.below hb9
  have q9_2 := q8_2.below hb9
  have q9_3 := q8_3.below hb9
  clear hb9 c8_00 c8_01 c8_02 c8_03 c8_04 c8_10 c8_11 c8_12 c8_13 c8_14 c8_20 c8_21 c8_22 c8_23 c8_24 c8_30 c8_31 c8_32 c8_33 c8_34 q8_0 q8_1 q8_2 q8_3
  obtain ⟨c9_00, c9_01, c9_02, c9_03, c9_04⟩ := q9_0.cells
  obtain ⟨c9_10, c9_11, c9_12, c9_13, c9_14⟩ := q9_1.cells
  obtain ⟨c9_20, c9_21, c9_22, c9_23, c9_24⟩ := q9_2.cells
  obtain ⟨c9_30, c9_31, c9_32, c9_33, c9_34⟩ := q9_3.cells
  have hbb10 : Below w0.heap.size w0 ((w9.alloc (Obj.cells #[.int .i64 1, .int .i64 xa, .string ⟨#[]⟩, .slice none 0 0] 42)).alloc (Obj.cells #[.int .i64 2, .int .i64 9218868437227405313, .string ⟨#[]⟩, .slice none 0 0] 42)) := ((hbb9.alloc (by have := hbb9.size; simp; try omega) _).alloc (by have := hbb9.size; simp; try omega) _)
  have q10_0 := ((q9_0.alloc (Obj.cells #[.int .i64 1, .int .i64 xa, .string ⟨#[]⟩, .slice none 0 0] 42)).alloc (Obj.cells #[.int .i64 2, .int .i64 9218868437227405313, .string ⟨#[]⟩, .slice none 0 0] 42))
  have q10_1 := ((q9_1.alloc (Obj.cells #[.int .i64 1, .int .i64 xa, .string ⟨#[]⟩, .slice none 0 0] 42)).alloc (Obj.cells #[.int .i64 2, .int .i64 9218868437227405313, .string ⟨#[]⟩, .slice none 0 0] 42))
  have q10_2 := ((q9_2.alloc (Obj.cells #[.int .i64 1, .int .i64 xa, .string ⟨#[]⟩, .slice none 0 0] 42)).alloc (Obj.cells #[.int .i64 2, .int .i64 9218868437227405313, .string ⟨#[]⟩, .slice none 0 0] 42))
  have q10_3 := ((q9_3.alloc (Obj.cells #[.int .i64 1, .int .i64 xa, .string ⟨#[]⟩, .slice none 0 0] 42)).alloc (Obj.cells #[.int .i64 2, .int .i64 9218868437227405313, .string ⟨#[]⟩, .slice none 0 0] 42))
  have q10_4 : ObsAt ((w9.alloc (Obj.cells #[.int .i64 1, .int .i64 xa, .string ⟨#[]⟩, .slice none 0 0] 42)).alloc (Obj.cells #[.int .i64 2, .int .i64 9218868437227405313, .string ⟨#[]⟩, .slice none 0 0] 42)) (w9.heap.size) 1 xa := by
    have h := ObsAt.new w9 (1) (xa)
    have h := h
    exact (h.alloc (Obj.cells #[.int .i64 2, .int .i64 9218868437227405313, .string ⟨#[]⟩, .slice none 0 0] 42))
  have q10_5 : ObsAt ((w9.alloc (Obj.cells #[.int .i64 1, .int .i64 xa, .string ⟨#[]⟩, .slice none 0 0] 42)).alloc (Obj.cells #[.int .i64 2, .int .i64 9218868437227405313, .string ⟨#[]⟩, .slice none 0 0] 42)) (w9.heap.size + 1) 2 9218868437227405313 := by
    have h := ObsAt.new (w9.alloc (Obj.cells #[.int .i64 1, .int .i64 xa, .string ⟨#[]⟩, .slice none 0 0] 42)) (2) (9218868437227405313)
    rw [show (w9.alloc (Obj.cells #[.int .i64 1, .int .i64 xa, .string ⟨#[]⟩, .slice none 0 0] 42)).heap.size = w9.heap.size + 1 by simp] at h
    exact h
  clear c9_00 c9_01 c9_02 c9_03 c9_04 c9_10 c9_11 c9_12 c9_13 c9_14 c9_20 c9_21 c9_22 c9_23 c9_24 c9_30 c9_31 c9_32 c9_33 c9_34 q9_0 q9_1 q9_2 q9_3
  obtain ⟨c10_00, c10_01, c10_02, c10_03, c10_04⟩ := q10_0.cells
  obtain ⟨c10_10, c10_11, c10_12, c10_13, c10_14⟩ := q10_1.cells
  obtain ⟨c10_20, c10_21, c10_22, c10_23, c10_24⟩ := q10_2.cells
  obtain ⟨c10_30, c10_31, c10_32, c10_33, c10_34⟩ := q10_3.cells
  obtain ⟨c10_40, c10_41, c10_42, c10_43, c10_44⟩ := q10_4.cells
  obtain ⟨c10_50, c10_51, c10_52, c10_53, c10_54⟩ := q10_5.cells
  go_wp2_with fail
  generalize ((w9.alloc (Obj.cells #[.int .i64 1, .int .i64 xa, .string ⟨#[]⟩, .slice none 0 0] 42)).alloc (Obj.cells #[.int .i64 2, .int .i64 9218868437227405313, .string ⟨#[]⟩, .slice none 0 0] 42)) = w10 at hbb10 q10_0 q10_1 q10_2 q10_3 q10_4 q10_5 c10_00 c10_01 c10_02 c10_03 c10_04 c10_10 c10_11 c10_12 c10_13 c10_14 c10_20 c10_21 c10_22 c10_23 c10_24 c10_30 c10_31 c10_32 c10_33 c10_34 c10_40 c10_41 c10_42 c10_43 c10_44 c10_50 c10_51 c10_52 c10_53 c10_54 ⊢
  go_wp2_with fail
  clear c10_00 c10_01 c10_02 c10_03 c10_04 c10_10 c10_11 c10_12 c10_13 c10_14 c10_20 c10_21 c10_22 c10_23 c10_24 c10_30 c10_31 c10_32 c10_33 c10_34 c10_40 c10_41 c10_42 c10_43 c10_44 c10_50 c10_51 c10_52 c10_53 c10_54
  have tg : Good w0 (w3.heap.size) (w3.heap.size + 1) (w3.heap.size + 1 + 1) (w6.heap.size) (w9.heap.size) (w9.heap.size + 1) xa xb w10 := ⟨hE.below hbb10, hbb10, q10_0, q10_1, q10_2, q10_3, q10_4, q10_5⟩
  have hne : Nonempty (TW w0 (w3.heap.size) (w3.heap.size + 1) (w3.heap.size + 1 + 1) (w6.heap.size) (w9.heap.size) (w9.heap.size + 1) xa xb) := ⟨⟨w10, tg⟩⟩
  have u00 : ∀ x : (TW w0 (w3.heap.size) (w3.heap.size + 1) (w3.heap.size + 1 + 1) (w6.heap.size) (w9.heap.size) (w9.heap.size + 1) xa xb), x.w.cell? ⟨w3.heap.size, 0, none⟩ = some (.int .i64 (2)) := fun x => x.good.o0.cells.1
  have u01 : ∀ x : (TW w0 (w3.heap.size) (w3.heap.size + 1) (w3.heap.size + 1 + 1) (w6.heap.size) (w9.heap.size) (w9.heap.size + 1) xa xb), x.w.cell? ⟨w3.heap.size, 1, none⟩ = some (.int .i64 (xa)) := fun x => x.good.o0.cells.2.1
  have u02 : ∀ x : (TW w0 (w3.heap.size) (w3.heap.size + 1) (w3.heap.size + 1 + 1) (w6.heap.size) (w9.heap.size) (w9.heap.size + 1) xa xb), x.w.cell? ⟨w3.heap.size, 2, none⟩ = some (.string ⟨#[]⟩) := fun x => x.good.o0.cells.2.2.1
  have u03 : ∀ x : (TW w0 (w3.heap.size) (w3.heap.size + 1) (w3.heap.size + 1 + 1) (w6.heap.size) (w9.heap.size) (w9.heap.size + 1) xa xb), x.w.cell? ⟨w3.heap.size, 3, none⟩ = some (.slice none 0 0) := fun x => x.good.o0.cells.2.2.2.1
  have u10 : ∀ x : (TW w0 (w3.heap.size) (w3.heap.size + 1) (w3.heap.size + 1 + 1) (w6.heap.size) (w9.heap.size) (w9.heap.size + 1) xa xb), x.w.cell? ⟨w3.heap.size + 1, 0, none⟩ = some (.int .i64 (2)) := fun x => x.good.o1.cells.1
  have u11 : ∀ x : (TW w0 (w3.heap.size) (w3.heap.size + 1) (w3.heap.size + 1 + 1) (w6.heap.size) (w9.heap.size) (w9.heap.size + 1) xa xb), x.w.cell? ⟨w3.heap.size + 1, 1, none⟩ = some (.int .i64 (xb)) := fun x => x.good.o1.cells.2.1
  have u12 : ∀ x : (TW w0 (w3.heap.size) (w3.heap.size + 1) (w3.heap.size + 1 + 1) (w6.heap.size) (w9.heap.size) (w9.heap.size + 1) xa xb), x.w.cell? ⟨w3.heap.size + 1, 2, none⟩ = some (.string ⟨#[]⟩) := fun x => x.good.o1.cells.2.2.1
  have u13 : ∀ x : (TW w0 (w3.heap.size) (w3.heap.size + 1) (w3.heap.size + 1 + 1) (w6.heap.size) (w9.heap.size) (w9.heap.size + 1) xa xb), x.w.cell? ⟨w3.heap.size + 1, 3, none⟩ = some (.slice none 0 0) := fun x => x.good.o1.cells.2.2.2.1
  have u20 : ∀ x : (TW w0 (w3.heap.size) (w3.heap.size + 1) (w3.heap.size + 1 + 1) (w6.heap.size) (w9.heap.size) (w9.heap.size + 1) xa xb), x.w.cell? ⟨w3.heap.size + 1 + 1, 0, none⟩ = some (.int .i64 (1)) := fun x => x.good.o2.cells.1
  have u21 : ∀ x : (TW w0 (w3.heap.size) (w3.heap.size + 1) (w3.heap.size + 1 + 1) (w6.heap.size) (w9.heap.size) (w9.heap.size + 1) xa xb), x.w.cell? ⟨w3.heap.size + 1 + 1, 1, none⟩ = some (.int .i64 (xa)) := fun x => x.good.o2.cells.2.1
  have u22 : ∀ x : (TW w0 (w3.heap.size) (w3.heap.size + 1) (w3.heap.size + 1 + 1) (w6.heap.size) (w9.heap.size) (w9.heap.size + 1) xa xb), x.w.cell? ⟨w3.heap.size + 1 + 1, 2, none⟩ = some (.string ⟨#[]⟩) := fun x => x.good.o2.cells.2.2.1
  have u23 : ∀ x : (TW w0 (w3.heap.size) (w3.heap.size + 1) (w3.heap.size + 1 + 1) (w6.heap.size) (w9.heap.size) (w9.heap.size + 1) xa xb), x.w.cell? ⟨w3.heap.size + 1 + 1, 3, none⟩ = some (.slice none 0 0) := fun x => x.good.o2.cells.2.2.2.1
  have u30 : ∀ x : (TW w0 (w3.heap.size) (w3.heap.size + 1) (w3.heap.size + 1 + 1) (w6.heap.size) (w9.heap.size) (w9.heap.size + 1) xa xb), x.w.cell? ⟨w6.heap.size, 0, none⟩ = some (.int .i64 (2)) := fun x => x.good.o3.cells.1
  have u31 : ∀ x : (TW w0 (w3.heap.size) (w3.heap.size + 1) (w3.heap.size + 1 + 1) (w6.heap.size) (w9.heap.size) (w9.heap.size + 1) xa xb), x.w.cell? ⟨w6.heap.size, 1, none⟩ = some (.int .i64 (xa)) := fun x => x.good.o3.cells.2.1
  have u32 : ∀ x : (TW w0 (w3.heap.size) (w3.heap.size + 1) (w3.heap.size + 1 + 1) (w6.heap.size) (w9.heap.size) (w9.heap.size + 1) xa xb), x.w.cell? ⟨w6.heap.size, 2, none⟩ = some (.string ⟨#[]⟩) := fun x => x.good.o3.cells.2.2.1
  have u33 : ∀ x : (TW w0 (w3.heap.size) (w3.heap.size + 1) (w3.heap.size + 1 + 1) (w6.heap.size) (w9.heap.size) (w9.heap.size + 1) xa xb), x.w.cell? ⟨w6.heap.size, 3, none⟩ = some (.slice none 0 0) := fun x => x.good.o3.cells.2.2.2.1
  have u40 : ∀ x : (TW w0 (w3.heap.size) (w3.heap.size + 1) (w3.heap.size + 1 + 1) (w6.heap.size) (w9.heap.size) (w9.heap.size + 1) xa xb), x.w.cell? ⟨w9.heap.size, 0, none⟩ = some (.int .i64 (1)) := fun x => x.good.o4.cells.1
  have u41 : ∀ x : (TW w0 (w3.heap.size) (w3.heap.size + 1) (w3.heap.size + 1 + 1) (w6.heap.size) (w9.heap.size) (w9.heap.size + 1) xa xb), x.w.cell? ⟨w9.heap.size, 1, none⟩ = some (.int .i64 (xa)) := fun x => x.good.o4.cells.2.1
  have u42 : ∀ x : (TW w0 (w3.heap.size) (w3.heap.size + 1) (w3.heap.size + 1 + 1) (w6.heap.size) (w9.heap.size) (w9.heap.size + 1) xa xb), x.w.cell? ⟨w9.heap.size, 2, none⟩ = some (.string ⟨#[]⟩) := fun x => x.good.o4.cells.2.2.1
  have u43 : ∀ x : (TW w0 (w3.heap.size) (w3.heap.size + 1) (w3.heap.size + 1 + 1) (w6.heap.size) (w9.heap.size) (w9.heap.size + 1) xa xb), x.w.cell? ⟨w9.heap.size, 3, none⟩ = some (.slice none 0 0) := fun x => x.good.o4.cells.2.2.2.1
  have u50 : ∀ x : (TW w0 (w3.heap.size) (w3.heap.size + 1) (w3.heap.size + 1 + 1) (w6.heap.size) (w9.heap.size) (w9.heap.size + 1) xa xb), x.w.cell? ⟨w9.heap.size + 1, 0, none⟩ = some (.int .i64 (2)) := fun x => x.good.o5.cells.1
  have u51 : ∀ x : (TW w0 (w3.heap.size) (w3.heap.size + 1) (w3.heap.size + 1 + 1) (w6.heap.size) (w9.heap.size) (w9.heap.size + 1) xa xb), x.w.cell? ⟨w9.heap.size + 1, 1, none⟩ = some (.int .i64 (9218868437227405313)) := fun x => x.good.o5.cells.2.1
  have u52 : ∀ x : (TW w0 (w3.heap.size) (w3.heap.size + 1) (w3.heap.size + 1 + 1) (w6.heap.size) (w9.heap.size) (w9.heap.size + 1) xa xb), x.w.cell? ⟨w9.heap.size + 1, 2, none⟩ = some (.string ⟨#[]⟩) := fun x => x.good.o5.cells.2.2.1
  have u53 : ∀ x : (TW w0 (w3.heap.size) (w3.heap.size + 1) (w3.heap.size + 1 + 1) (w6.heap.size) (w9.heap.size) (w9.heap.size + 1) xa xb), x.w.cell? ⟨w9.heap.size + 1, 3, none⟩ = some (.slice none 0 0) := fun x => x.good.o5.cells.2.2.2.1
  refine region_lit (C := fun w => ∃ x : (TW w0 (w3.heap.size) (w3.heap.size + 1) (w3.heap.size + 1 + 1) (w6.heap.size) (w9.heap.size) (w9.heap.size + 1) xa xb), w = x.w) ⟨⟨_, tg.drew1⟩, rfl⟩ (by kernel_rfl) (by kernel_rfl) ?_
  clear tg hbb10 q10_0 q10_1 q10_2 q10_3 q10_4 q10_5
  repeat (go_big_quiet_step (first
    | (go_at_call 24; with_reducible exact t_gives _ (same_is 2 xa))
    | (go_at_call 24; with_reducible exact t_gives _ (same_is 1 xa))
    | (go_at_call 24; with_reducible exact t_gives _ (same_two xa xb hS1))
    | (go_at_call 24; with_reducible exact t_gives _ (same_not xa))
    | (go_at_call 23; with_reducible exact t_gives _ hta)
    | (go_at_call 23; with_reducible exact t_gives _ htb)
    | (go_at_call 23; with_reducible exact t_gives _ hsa)
    | (go_at_call 25; with_reducible exact t_gives _ hbad)
    | (go_at_call 25; with_reducible exact t_gives _ hv)))
  refine wpQuiet_nil ?_
  rintro _ ⟨x, rfl⟩
  go_wp2
  go_ret
  exact ⟨rfl, x.good.old⟩
end Go.Proofs.YtnggflfjmgbncaaDoor
