/- A code's bytes, walked. -/
import Derived.Test.YtfdkdghhdigfbaaDoorCi
import Derived.Deep.DrawnRows
namespace Go.Proofs.YtfdkdghhdigfbaaDoor
open Go Go.RowKit
set_option maxRecDepth 100000
attribute [local go_sem ↓] Go.wp_at_zero Go.wp_at_succ

theorem Puts.cell {C : Nat} {w wr : World} (hP : Puts C w wr) (hC : w.heap.size = C) (g o : Nat) (hg : g < C) : wr.cell? ⟨g, o, none⟩ = w.cell? ⟨g, o, none⟩ := by
  unfold World.cell?
  rw [hP.block g (by omega) (.inl hg)]

theorem i64 {n : Int} (h : -9223372036854775808 ≤ n ∧ n ≤ 9223372036854775807) : I64 n := h
theorem flatstep' {α : Type} (f : α → List Int) (l : List α) (j : Nat) (h : j < l.length) : (l.drop j).flatMap f = f l[j] ++ (l.drop (j + 1)).flatMap f := flatstep f l j h
theorem hnew2 (w : World) (o p : Obj) : ((w.alloc o).alloc p).heap[w.heap.size + 1]? = some p := by simpa using heap_alloc_new (w.alloc o) p
theorem hnew2d (w : World) (o p : Obj) : ((w.alloc o).alloc p).drew.heap[w.heap.size + 1]? = some p := hnew2 w o p
theorem hold2 (w : World) (o p : Obj) : ((w.alloc o).alloc p).heap[w.heap.size]? = some o := (Lib.alloc_old _ _ _ (by simp)).trans (heap_alloc_new _ _)
theorem hold2d (w : World) (o p : Obj) : ((w.alloc o).alloc p).drew.heap[w.heap.size]? = some o := hold2 w o p
theorem hnewd (w : World) (o : Obj) : (w.alloc o).drew.heap[w.heap.size]? = some o := heap_alloc_new w o
theorem puts1 (a : Int) (ha : I64 a) (g c C : Nat) (vb : Value) (l : List Int) (w : World) (hg : w.heap[g]? = some (.cells #[.int .i64 a] 3 (0, 0))) (ho : w.ownsRow C 5 1 vb l.length (bCells l)) (hC : C ≤ w.heap.size) (hl : (l ++ putsL [a]).length ≤ 100000000000000) :
    Calls Tryd.prog 15 #[vb, .slice (some ⟨g, 0, none⟩) 1 c] w fun e w' => ∃ vb', e = .returned vb' ∧ w'.ownsRow C 5 1 vb' (l ++ putsL [a]).length (bCells (l ++ putsL [a])) ∧ Puts C w w' :=
  puts_call [a] (fun n hn => by simp at hn; subst hn; exact ha) (by simp) g c #[.int .i64 a] rfl C vb l w hg ho hC hl
theorem puts2 (a b : Int) (ha : I64 a) (hb : I64 b) (g c C : Nat) (vb : Value) (l : List Int) (w : World) (hg : w.heap[g]? = some (.cells #[.int .i64 a, .int .i64 b] 3 (0, 0))) (ho : w.ownsRow C 5 1 vb l.length (bCells l)) (hC : C ≤ w.heap.size) (hl : (l ++ putsL [a, b]).length ≤ 100000000000000) :
    Calls Tryd.prog 15 #[vb, .slice (some ⟨g, 0, none⟩) 2 c] w fun e w' => ∃ vb', e = .returned vb' ∧ w'.ownsRow C 5 1 vb' (l ++ putsL [a, b]).length (bCells (l ++ putsL [a, b])) ∧ Puts C w w' :=
  puts_call [a, b] (fun n hn => by simp at hn; rcases hn with rfl | rfl <;> assumption) (by simp) g c #[.int .i64 a, .int .i64 b] rfl C vb l w hg ho hC hl
theorem puts3 (a b d : Int) (ha : I64 a) (hb : I64 b) (hd : I64 d) (g c C : Nat) (vb : Value) (l : List Int) (w : World) (hg : w.heap[g]? = some (.cells #[.int .i64 a, .int .i64 b, .int .i64 d] 3 (0, 0))) (ho : w.ownsRow C 5 1 vb l.length (bCells l)) (hC : C ≤ w.heap.size) (hl : (l ++ putsL [a, b, d]).length ≤ 100000000000000) :
    Calls Tryd.prog 15 #[vb, .slice (some ⟨g, 0, none⟩) 3 c] w fun e w' => ∃ vb', e = .returned vb' ∧ w'.ownsRow C 5 1 vb' (l ++ putsL [a, b, d]).length (bCells (l ++ putsL [a, b, d])) ∧ Puts C w w' :=
  puts_call [a, b, d] (fun n hn => by simp at hn; rcases hn with rfl | rfl | rfl <;> assumption) (by simp) g c #[.int .i64 a, .int .i64 b, .int .i64 d] rfl C vb l w hg ho hC hl
theorem puts4 (a b d f : Int) (ha : I64 a) (hb : I64 b) (hd : I64 d) (hf : I64 f) (g c C : Nat) (vb : Value) (l : List Int) (w : World) (hg : w.heap[g]? = some (.cells #[.int .i64 a, .int .i64 b, .int .i64 d, .int .i64 f] 3 (0, 0))) (ho : w.ownsRow C 5 1 vb l.length (bCells l)) (hC : C ≤ w.heap.size) (hl : (l ++ putsL [a, b, d, f]).length ≤ 100000000000000) :
    Calls Tryd.prog 15 #[vb, .slice (some ⟨g, 0, none⟩) 4 c] w fun e w' => ∃ vb', e = .returned vb' ∧ w'.ownsRow C 5 1 vb' (l ++ putsL [a, b, d, f]).length (bCells (l ++ putsL [a, b, d, f])) ∧ Puts C w w' :=
  puts_call [a, b, d, f] (fun n hn => by simp at hn; rcases hn with rfl | rfl | rfl | rfl <;> assumption) (by simp) g c #[.int .i64 a, .int .i64 b, .int .i64 d, .int .i64 f] rfl C vb l w hg ho hC hl

set_option maxHeartbeats 16000000 in
theorem bytes_call (D : CodeD) (hF : FitD D) (w : World) (bc : Nat) (vt vf vi : Value) (hc : Cells w w.heap.size bc D vt vf vi) (hl : (bytesF D).length ≤ 100000000000000) :
    Calls Tryd.prog 10 #[.pointer (some ⟨bc, 0, none⟩)] w fun e w' => ∃ vb, e = .returned vb ∧ w'.ownsRow w.heap.size 5 1 vb (bytesF D).length (bCells (bytesF D)) ∧ Puts w.heap.size w w' := by
  obtain ⟨T, hT⟩ : ∃ T, bytesF D = T := ⟨_, rfl⟩
  rw [hT] at hl ⊢
  obtain ⟨C, hC⟩ : ∃ C, w.heap.size = C := ⟨_, rfl⟩
  rw [hC] at hc ⊢
  obtain ⟨tao, tcap, rfl, _, ht⟩ := hc.tags'
  obtain ⟨fao, fcap, rfl, _, hf⟩ := hc.funs'
  obtain ⟨iao, icap, rfl, _, hi⟩ := hc.ins'
  have k0 := hc.c0
  have k1 := hc.c1
  have k2 := hc.c2
  have k3 := hc.c3
  have hlo := hc.lo
  have n1 := hF.tl
  have n2 := hF.fl
  have n3 := hF.il
  have hmn := hF.main
  go_enter Tryd.func10, Tryd.ntmps10
  go_wp2_with fail

  have hown0 : ((w.alloc (Obj.cells #[.int .u8 71] 5)).alloc (Obj.cells #[.int .i64 (D.tags.length : Int)] 3)).ownsRow C 5 1 (.slice (some ⟨C, 0, none⟩) 1 1) [(71 : Int)].length (bCells [71]) := by
    refine World.ownsRow.alloc ⟨rfl, .inr ⟨C, 1, #[.int .u8 71], rfl, Nat.le_refl _, ?_, Nat.le_refl _, by unfold maxLen; omega, rfl, rfl⟩⟩ _
    rw [← hC]
    exact heap_alloc_new w _
  have hP0 : Puts C w ((w.alloc (Obj.cells #[.int .u8 71] 5)).alloc (Obj.cells #[.int .i64 (D.tags.length : Int)] 3)) := (Puts.alloc C w _).trans (Puts.alloc C _ _)
  have hg0 : ((w.alloc (Obj.cells #[.int .u8 71] 5)).alloc (Obj.cells #[.int .i64 (D.tags.length : Int)] 3)).heap[C + 1]? = some (.cells #[.int .i64 (D.tags.length : Int)] 3 (0, 0)) := by
    have := heap_alloc_new (w.alloc (Obj.cells #[.int .u8 71] 5)) (Obj.cells #[.int .i64 (D.tags.length : Int)] 3)
    simpa [hC] using this
  generalize (w.alloc (Obj.cells #[.int .u8 71] 5)).alloc (Obj.cells #[.int .i64 (D.tags.length : Int)] 3) = w0 at hown0 hP0 hg0 ⊢
  have hV0 : Veil ([71] ++ (putsL [(D.tags.length : Int)] ++ (D.tags.flatMap tagBy ++ (putsL [(D.funs.length : Int)] ++ (D.funs.flatMap funBy ++ (putsL [D.main, (D.ins.length : Int)] ++ D.ins.flatMap insBy))))) = T) := ⟨hT⟩
  go_at_call 15
  refine (puts_call [(D.tags.length : Int)] (fun n hn => by simp at hn; subst hn; exact (i64 (by omega))) (by simp) (C + 1) 1 #[.int .i64 (D.tags.length : Int)] rfl C (.slice (some ⟨C, 0, none⟩) 1 1) [71] w0 hg0 hown0 (by have := hP0.size; omega) (bound hV0.out hl)).mono ?_
  rintro e w1 ⟨v1, rfl, hown1, hP1⟩
  replace hP1 := hP0.trans hP1
  have hV1 : Veil (([71] ++ putsL [(D.tags.length : Int)]) ++ (D.tags.flatMap tagBy ++ (putsL [(D.funs.length : Int)] ++ (D.funs.flatMap funBy ++ (putsL [D.main, (D.ins.length : Int)] ++ D.ins.flatMap insBy)))) = T) := ⟨by rw [List.append_assoc]; exact hV0.out⟩
  clear hown0 hP0 hg0 hV0 hT
  generalize ([71] ++ putsL [(D.tags.length : Int)]) = l1 at hown1 hV1
  obtain ⟨R1, hR1⟩ : ∃ R, putsL [(D.funs.length : Int)] ++ (D.funs.flatMap funBy ++ (putsL [D.main, (D.ins.length : Int)] ++ D.ins.flatMap insBy)) = R := ⟨_, rfl⟩
  rw [hR1] at hV1
  have q0 := (hP1.cell hC bc 0 hlo).trans k0
  go_upto_block 0 with fail
  go_cut [3, 5, 27] from 28 to 45 (fun vb _ _ wr => ∃ l', wr.ownsRow C 5 1 vb l'.length (bCells l') ∧ Puts C w wr ∧ Veil (l' ++ R1 = T))
  case first =>
    go_wp2_with fail
    go_loopw [3, 5, 27] (fun vb _ vi wr => ∃ (j : Nat) (l' : List Int), vi = .int .i64 (j : Int) ∧ j ≤ D.tags.length ∧ wr.ownsRow C 5 1 vb l'.length (bCells l') ∧ Veil (l' ++ ((D.tags.drop j).flatMap tagBy ++ R1) = T) ∧ Puts C w wr) (fun _ _ vi _ => 10000 - (RowKit.intOf vi).toNat)
    case atStart => exact ⟨0, l1, rfl, Nat.zero_le _, hown1, hV1, hP1⟩
    case round =>
      obtain ⟨j, l', rfl, hj, hown, hV, hP⟩ := hrel
      clear hown1 hV1 hP1 q0
      by_cases hx : j < D.tags.length
      · obtain ⟨g, rfl, hgC, d0, d1, d2, d3⟩ := ht j hx
        have hfit := hF.tags _ (List.getElem_mem hx)
        have hV2 := hV.out
        rw [flatstep tagBy D.tags j hx] at hV2
        generalize D.tags[j] = tg at hfit hV2 d0 d1 d2 d3
        obtain ⟨kind, name, fn, nn⟩ := tg
        have b0 := hfit.kind
        have b1 := hfit.name
        have b2 := hfit.fn
        have b3 := hfit.n
        dsimp only at d0 d1 d2 d3 b0 b1 b2 b3
        rw [← hP.cell hC _ _ hgC] at d0 d1 d2 d3
        have hj0 : (0 : Int) ≤ (j : Int) := by omega
        have hj1 : (j : Int) < (D.tags.length : Int) := by omega
        clear hc ht hf hi k0 k1 k2 k3
        go_wp2_with fail
        have hsz0 := hP.size
        have gw0 : (wr.alloc (Obj.cells #[.int .i64 kind, .string name, .int .i64 fn, .int .i64 nn] 47)).heap[wr.heap.size]? = some (Obj.cells #[.int .i64 kind, .string name, .int .i64 fn, .int .i64 nn] 47 (0, 0)) := heap_alloc_new wr _
        have go0 := hown.alloc (Obj.cells #[.int .i64 kind, .string name, .int .i64 fn, .int .i64 nn] 47)
        have gP0 := hP.trans (Puts.alloc C wr (Obj.cells #[.int .i64 kind, .string name, .int .i64 fn, .int .i64 nn] 47))
        generalize wr.alloc (Obj.cells #[.int .i64 kind, .string name, .int .i64 fn, .int .i64 nn] 47) = y0 at gw0 go0 gP0 ⊢
        generalize wr.heap.size = bv at gw0 ⊢
        obtain ⟨p0, p1, p2, p3, _⟩ := cells4 gw0
        have m1 : (l' ++ putsL [kind]).length ≤ 100000000000000 := bound (r := textB name ++ putsL [fn, nn] ++ ((D.tags.drop (j + 1)).flatMap tagBy ++ R1)) (by rw [← hV2]; simp [tagBy]) hl
        have m2 : ((l' ++ putsL [kind]) ++ textB name).length ≤ 100000000000000 := bound (r := putsL [fn, nn] ++ ((D.tags.drop (j + 1)).flatMap tagBy ++ R1)) (by rw [← hV2]; simp [tagBy]) hl
        have m3 : (((l' ++ putsL [kind]) ++ textB name) ++ putsL [fn, nn]).length ≤ 100000000000000 := bound (r := ((D.tags.drop (j + 1)).flatMap tagBy ++ R1)) (by rw [← hV2]; simp [tagBy]) hl
        have hV3 : Veil ((((l' ++ putsL [kind]) ++ textB name) ++ putsL [fn, nn]) ++ ((D.tags.drop (j + 1)).flatMap tagBy ++ R1) = T) := ⟨by rw [← hV2]; simp [tagBy]⟩
        have hsz1 := gP0.size
        clear d0 d1 d2 d3 hown hP hV hV2 hfit
        go_region_held3 (fun w' => w'.cell? ⟨bv, 0, none⟩ = some (.int .i64 kind) ∧ w'.cell? ⟨bv, 1, none⟩ = some (.string name) ∧ w'.cell? ⟨bv, 2, none⟩ = some (.int .i64 fn) ∧ w'.cell? ⟨bv, 3, none⟩ = some (.int .i64 nn)) (go_keep)
          (first
            | ((go_at_call 15); (with_reducible refine (puts1 kind (i64 (by omega)) _ _ C _ l' _ (by first | exact heap_alloc_new _ _ | exact hnewd _ _ | exact hold2 _ _ _ | exact hold2d _ _ _ | exact hnew2 _ _ _ | exact hnew2d _ _ _) (by first | exact own_same (go0.alloc _) rfl | exact own_same ((go0.alloc _).alloc _) rfl) (by first | omega | (simp; omega)) m1).mono ?_); rintro e y1 ⟨u1, rfl, own1, hP1⟩; have gP1 : Puts C y0 y1 := Puts.trans (by first | exact Puts.same rfl rfl rfl rfl | exact (Puts.alloc C y0 _).trans (Puts.same rfl rfl rfl rfl) | exact ((Puts.alloc C y0 _).trans (Puts.alloc C _ _)).trans (Puts.same rfl rfl rfl rfl)) hP1; have hz1 := gP1.size; have gw1 := gP1.keep gw0 (by decide); obtain ⟨a0, a1, a2, a3, _⟩ := cells4 gw1)
            | ((go_at_call 16); (with_reducible refine (ptext_call name (by omega) C _ _ _ (by first | exact own1 | exact own1.alloc _) (by first | omega | (simp; omega)) m2).mono ?_); rintro e y2 ⟨u2, rfl, own2, hP2⟩; have gP2 : Puts C y1 y2 := Puts.trans (by first | exact Puts.same rfl rfl rfl rfl | exact (Puts.alloc C y1 _).trans (Puts.same rfl rfl rfl rfl)) hP2; have hz2 := gP2.size; have gw2 := gP2.keep gw1 (by decide); obtain ⟨b0, b1, b2, b3, _⟩ := cells4 gw2)
            | ((go_at_call 15); (with_reducible refine (puts2 fn nn (i64 (by omega)) (i64 (by omega)) _ _ C _ _ _ (by first | exact heap_alloc_new _ _ | exact hnewd _ _ | exact hP2.keep (heap_alloc_new _ _) (by decide) | exact hP2.keep (hnewd _ _) (by decide) | exact hP2.keep (hP1.keep (heap_alloc_new _ _) (by decide)) (by decide) | exact hP2.keep (hP1.keep (hnewd _ _) (by decide)) (by decide) | exact hP2.keep (hP1.keep (hold2 _ _ _) (by decide)) (by decide) | exact hP2.keep (hP1.keep (hold2d _ _ _) (by decide)) (by decide) | exact hP2.keep (hP1.keep (hnew2 _ _ _) (by decide)) (by decide) | exact hP2.keep (hP1.keep (hnew2d _ _ _) (by decide)) (by decide)) (by first | exact own2 | exact own2.alloc _) (by first | omega | (simp; omega)) m3).mono ?_); rintro e y3 ⟨u3, rfl, own3, hP3⟩; have gP3 : Puts C y2 y3 := Puts.trans (by first | exact Puts.same rfl rfl rfl rfl | exact (Puts.alloc C y2 _).trans (Puts.same rfl rfl rfl rfl)) hP3; have hz3 := gP3.size; have gw3 := gP3.keep gw2 (by decide); obtain ⟨c0, c1, c2, c3, _⟩ := cells4 gw3))
        all_goals
          go_wp2_with fail
          exact ⟨⟨j + 1, _, by simp, by omega, own3, hV3, ((gP0.trans gP1).trans gP2).trans gP3⟩, by simp [RowKit.intOf]; omega⟩
      · have hj2 : j = D.tags.length := by omega
        have hj3 : ¬ (j : Int) < (D.tags.length : Int) := by omega
        have e : Veil (l' ++ R1 = T) := ⟨by
          have := hV.out
          rw [hj2, List.drop_length] at this
          simpa using this⟩
        go_wp2
        go_meet
        case rel => exact ⟨l', hown, hP, e⟩
  case rest =>
    obtain ⟨l1, hown1, hP1, hV1⟩ := hcut
    rename World => w1
    subst hR1
    have q1 := (hP1.cell hC bc 1 hlo).trans k1
    have hs1 := hP1.size
    go_wp2_with fail
    go_at_call 15
    with_reducible refine (puts1 (D.funs.length : Int) (i64 (by omega)) _ _ C _ l1 _ (heap_alloc_new w1 _) (hown1.alloc _) (by first | omega | (simp; omega)) (bound hV1.out hl)).mono ?_
    rintro e w2 ⟨v2, rfl, hown2, hP2⟩
    replace hP2 := (hP1.trans (Puts.alloc C w1 _)).trans hP2
    have hV2 : Veil ((l1 ++ putsL [(D.funs.length : Int)]) ++ (D.funs.flatMap funBy ++ (putsL [D.main, (D.ins.length : Int)] ++ D.ins.flatMap insBy)) = T) := ⟨by rw [List.append_assoc]; exact hV1.out⟩
    clear hown1 hP1 hV1 q1 hs1
    generalize (l1 ++ putsL [(D.funs.length : Int)]) = l2 at hown2 hV2
    obtain ⟨R2, hR2⟩ : ∃ R, putsL [D.main, (D.ins.length : Int)] ++ D.ins.flatMap insBy = R := ⟨_, rfl⟩
    rw [hR2] at hV2
    have q1 := (hP2.cell hC bc 1 hlo).trans k1
    go_upto_block 2 with fail
    go_cut [3, 7, 59] from 60 to 72 (fun vb _ _ wr => ∃ l', wr.ownsRow C 5 1 vb l'.length (bCells l') ∧ Puts C w wr ∧ Veil (l' ++ R2 = T))
    case first =>
      go_wp2_with fail
      go_loopw [3, 7, 59] (fun vb _ vi wr => ∃ (j : Nat) (l' : List Int), vi = .int .i64 (j : Int) ∧ j ≤ D.funs.length ∧ wr.ownsRow C 5 1 vb l'.length (bCells l') ∧ Veil (l' ++ ((D.funs.drop j).flatMap funBy ++ R2) = T) ∧ Puts C w wr) (fun _ _ vi _ => 10000 - (RowKit.intOf vi).toNat)
      case atStart => exact ⟨0, l2, rfl, Nat.zero_le _, hown2, hV2, hP2⟩
      case round =>
        obtain ⟨j, l', rfl, hj, hown, hV, hP⟩ := hrel
        clear hown2 hV2 hP2 q1
        by_cases hx : j < D.funs.length
        · obtain ⟨g, rfl, hgC, d0, d1, d2⟩ := hf j hx
          have hfit := hF.funs _ (List.getElem_mem hx)
          have hV2 := hV.out
          rw [flatstep funBy D.funs j hx] at hV2
          generalize D.funs[j] = tg at hfit hV2 d0 d1 d2
          obtain ⟨pn, rn, an⟩ := tg
          have b0 := hfit.params
          have b1 := hfit.regs
          have b2 := hfit.at'
          dsimp only at d0 d1 d2 b0 b1 b2
          rw [← hP.cell hC _ _ hgC] at d0 d1 d2
          have hj0 : (0 : Int) ≤ (j : Int) := by omega
          have hj1 : (j : Int) < (D.funs.length : Int) := by omega
          have hV3 : Veil ((l' ++ putsL [pn, rn, an]) ++ ((D.funs.drop (j + 1)).flatMap funBy ++ R2) = T) := ⟨by rw [← hV2]; simp [funBy]⟩
          have m1 : (l' ++ putsL [pn, rn, an]).length ≤ 100000000000000 := bound (r := ((D.funs.drop (j + 1)).flatMap funBy ++ R2)) (by rw [← hV2]; simp [funBy]) hl
          have hsz0 := hP.size
          have hne : ¬ g = wr.heap.size := by omega
          have hfr : ((wr.alloc (Obj.cells #[.int .i64 pn, .int .i64 rn, .int .i64 an] 50)).alloc (Obj.cells #[.int .i64 pn, .int .i64 rn, .int .i64 an] 3)).heap[wr.heap.size + 1]? = some (Obj.cells #[.int .i64 pn, .int .i64 rn, .int .i64 an] 3 (0, 0)) := by
            have := heap_alloc_new (wr.alloc (Obj.cells #[.int .i64 pn, .int .i64 rn, .int .i64 an] 50)) (Obj.cells #[.int .i64 pn, .int .i64 rn, .int .i64 an] 3)
            simpa using this
          clear hc ht hf hi k0 k1 k2 k3 hV hV2 hfit
          go_wp2_with fail
          go_at_call 15
          with_reducible refine (puts3 pn rn an (i64 (by omega)) (i64 (by omega)) (i64 (by omega)) (wr.heap.size + 1) _ C _ l' _ hfr ((hown.alloc _).alloc _) (by first | omega | (simp; omega)) m1).mono ?_
          rintro e w3 ⟨v3, rfl, hown3, hP3⟩
          go_wp2_with fail
          exact ⟨⟨j + 1, _, by simp, by omega, hown3, hV3, ((hP.trans (Puts.alloc C wr _)).trans (Puts.alloc C _ _)).trans hP3⟩, by simp [RowKit.intOf]; omega⟩
        · have hj2 : j = D.funs.length := by omega
          have hj3 : ¬ (j : Int) < (D.funs.length : Int) := by omega
          have e : Veil (l' ++ R2 = T) := ⟨by
            have := hV.out
            rw [hj2, List.drop_length] at this
            simpa using this⟩
          go_wp2
          go_meet
          case rel => exact ⟨l', hown, hP, e⟩
    case rest =>
      obtain ⟨l2, hown2, hP2, hV2⟩ := hcut
      rename World => y0
      subst hR2
      have gz0 := hP2.size
      have q2 := (hP2.cell hC bc 2 hlo).trans k2
      have q3 := (hP2.cell hC bc 3 hlo).trans k3
      have m1 : (l2 ++ putsL [D.main, (D.ins.length : Int)]).length ≤ 100000000000000 := bound hV2.out hl
      go_upto_region 13 with fail
      go_cut [3] from 73 to 85 (fun vb wr => ∃ l', wr.ownsRow C 5 1 vb l'.length (bCells l') ∧ Puts C w wr ∧ Veil (l' ++ D.ins.flatMap insBy = T))
      case first =>
        go_region_held3 (fun w' => w'.cell? ⟨bc, 2, none⟩ = some (.slice iao D.ins.length icap) ∧ w'.cell? ⟨bc, 3, none⟩ = some (.int .i64 D.main)) (go_keep)
          (((go_at_call 15); (with_reducible refine (puts2 D.main (D.ins.length : Int) (i64 (by omega)) (i64 (by omega)) _ _ C _ _ _ (by first | exact heap_alloc_new _ _ | exact hnewd _ _) (by first | exact own_same hown2 rfl | exact own_same (hown2.alloc _) rfl | exact own_same ((hown2.alloc _).alloc _) rfl) (by first | omega | (simp; omega)) m1).mono ?_); rintro e y1 ⟨u1, rfl, own1, hP1⟩; have gP1 : Puts C y0 y1 := Puts.trans (by first | exact Puts.same rfl rfl rfl rfl | exact (Puts.alloc C y0 _).trans (Puts.same rfl rfl rfl rfl) | exact ((Puts.alloc C y0 _).trans (Puts.alloc C _ _)).trans (Puts.same rfl rfl rfl rfl)) hP1; have hz1 := gP1.size; have c2_1 := ((hP2.trans gP1).cell hC bc 2 hlo).trans k2; have c3_1 := ((hP2.trans gP1).cell hC bc 3 hlo).trans k3))
        all_goals
          go_wp2_with fail
          go_meet
          case rel => exact ⟨_, own1, hP2.trans gP1, ⟨by rw [List.append_assoc]; exact hV2.out⟩⟩
      case rest =>
        obtain ⟨l3, hown3, hP3, hV3⟩ := hcut
        rename World => w3
        clear hown2 hP2 hV2 m1 q3 gz0
        have q2 := (hP3.cell hC bc 2 hlo).trans k2
        go_wp2_with fail
        go_loopw [3, 9, 11, 13, 90] (fun vb _ _ _ vi wr => ∃ (j : Nat) (l' : List Int), vi = .int .i64 (j : Int) ∧ j ≤ D.ins.length ∧ wr.ownsRow C 5 1 vb l'.length (bCells l') ∧ Veil (l' ++ (D.ins.drop j).flatMap insBy = T) ∧ Puts C w wr) (fun _ _ _ _ vi _ => 10000 - (RowKit.intOf vi).toNat)
        case atStart => exact ⟨0, l3, rfl, Nat.zero_le _, hown3, hV3, hP3⟩
        case round =>
          obtain ⟨j, l', rfl, hj, hown, hV, hP⟩ := hrel
          clear hown3 hV3 hP3 q2
          by_cases hx : j < D.ins.length
          · obtain ⟨g, vv, va, rfl, hgC, ⟨d0, d1, d2, d3, d4, d5, d6, d7⟩, hvv, hva⟩ := hi j hx
            have hfit := hF.ins _ (List.getElem_mem hx)
            have hV2 := hV.out
            rw [flatstep' insBy D.ins j hx] at hV2
            generalize D.ins[j] = x at hfit hV2 d0 d1 d2 d3 d4 d5 d6 d7 hvv hva
            obtain ⟨op, dst, tag, fn, nn, prim, vals, alts⟩ := x
            have f0 := hfit.op
            have f1 := hfit.dst
            have f2 := hfit.tag
            have f3 := hfit.fn
            have f4 := hfit.n
            have f5 := hfit.prim
            have f6 := hfit.vl
            have f7 := hfit.al
            have hfv : Veil (∀ v ∈ vals, (0 ≤ v.1 ∧ v.1 ≤ 2) ∧ I64 v.2) := ⟨hfit.vals⟩
            have hfa : Veil (∀ a ∈ alts, (0 ≤ a.1 ∧ a.1 ≤ 3) ∧ (0 ≤ a.2.1 ∧ a.2.1 ≤ 262144) ∧ (0 ≤ a.2.2.1 ∧ a.2.2.1 ≤ 262144) ∧ I64 a.2.2.2) := ⟨hfit.alts⟩
            dsimp only at d0 d1 d2 d3 d4 d5 d6 d7 f0 f1 f2 f3 f4 f5 f6 f7 hvv hva
            obtain ⟨vao, vcap, rfl, hvv⟩ := hvv
            obtain ⟨aao, acap, rfl, hva⟩ := hva
            rw [← hP.cell hC _ _ hgC] at d0 d1 d2 d3 d4 d5 d6 d7
            have hj0 : (0 : Int) ≤ (j : Int) := by omega
            have hj1 : (j : Int) < (D.ins.length : Int) := by omega
            replace hvv := Veil.mk hvv
            replace hva := Veil.mk hva
            obtain ⟨R, hR⟩ : ∃ R, (D.ins.drop (j + 1)).flatMap insBy = R := ⟨_, rfl⟩
            rw [hR] at hV2
            have hVx : Veil (l' ++ (putsL [op, dst, tag, fn] ++ (putL nn ++ (textB prim ++ (putsL [(vals.length : Int)] ++ (vals.flatMap valBy ++ (putsL [(alts.length : Int)] ++ (alts.flatMap altBy ++ R))))))) = T) := ⟨by rw [← hV2]; simp [insBy]⟩
            replace hR := Veil.mk hR
            clear hc ht hf hi k0 k1 k2 k3 hV hV2 hfit
            go_upto_region 17 with fail
            have hsz0 := hP.size
            have gw0 : (wr.alloc (Obj.cells #[.int .i64 op, .int .i64 dst, .int .i64 tag, .int .i64 fn, .int .i64 nn, .string prim, .slice vao vals.length vcap, .slice aao alts.length acap] 54)).heap[wr.heap.size]? = some (Obj.cells #[.int .i64 op, .int .i64 dst, .int .i64 tag, .int .i64 fn, .int .i64 nn, .string prim, .slice vao vals.length vcap, .slice aao alts.length acap] 54 (0, 0)) := heap_alloc_new wr _
            have go0 := hown.alloc (Obj.cells #[.int .i64 op, .int .i64 dst, .int .i64 tag, .int .i64 fn, .int .i64 nn, .string prim, .slice vao vals.length vcap, .slice aao alts.length acap] 54)
            have gP0 := hP.trans (Puts.alloc C wr (Obj.cells #[.int .i64 op, .int .i64 dst, .int .i64 tag, .int .i64 fn, .int .i64 nn, .string prim, .slice vao vals.length vcap, .slice aao alts.length acap] 54))
            have hbv : C ≤ wr.heap.size := by omega
            generalize wr.alloc (Obj.cells #[.int .i64 op, .int .i64 dst, .int .i64 tag, .int .i64 fn, .int .i64 nn, .string prim, .slice vao vals.length vcap, .slice aao alts.length acap] 54) = y0 at gw0 go0 gP0 ⊢
            generalize wr.heap.size = bv at gw0 hbv ⊢
            clear d0 d1 d2 d3 d4 d5 d6 d7 hown hP
            obtain ⟨p0, p1, p2, p3, p4, p5, p6, p7, _⟩ := ins_cells gw0
            have m1 : (l' ++ putsL [op, dst, tag, fn]).length ≤ 100000000000000 := bound hVx.out hl
            have hV1 : Veil ((l' ++ putsL [op, dst, tag, fn]) ++ (putL nn ++ (textB prim ++ (putsL [(vals.length : Int)] ++ (vals.flatMap valBy ++ (putsL [(alts.length : Int)] ++ (alts.flatMap altBy ++ R)))))) = T) := ⟨by rw [List.append_assoc]; exact hVx.out⟩
            have m2 : ((l' ++ putsL [op, dst, tag, fn]) ++ putL nn).length ≤ 100000000000000 := bound hV1.out hl
            have hV2 : Veil (((l' ++ putsL [op, dst, tag, fn]) ++ putL nn) ++ (textB prim ++ (putsL [(vals.length : Int)] ++ (vals.flatMap valBy ++ (putsL [(alts.length : Int)] ++ (alts.flatMap altBy ++ R))))) = T) := ⟨by rw [List.append_assoc]; exact hV1.out⟩
            have f4' : -9223372036854775808 ≤ nn ∧ nn ≤ 9223372036854775807 := f4
            have gz0 := gP0.size
            clear hVx hV1
            go_cut [3] from 94 to 108 (fun vb wr => ∃ l', wr.ownsRow C 5 1 vb l'.length (bCells l') ∧ Puts C w wr ∧ wr.heap[bv]? = some (.cells #[.int .i64 op, .int .i64 dst, .int .i64 tag, .int .i64 fn, .int .i64 nn, .string prim, .slice vao vals.length vcap, .slice aao alts.length acap] 54 (0, 0)) ∧ Veil (l' ++ (textB prim ++ (putsL [(vals.length : Int)] ++ (vals.flatMap valBy ++ (putsL [(alts.length : Int)] ++ (alts.flatMap altBy ++ R))))) = T))
            case first =>
              go_region_held3 (fun w' => w'.cell? ⟨bv, 0, none⟩ = some (.int .i64 op) ∧ w'.cell? ⟨bv, 1, none⟩ = some (.int .i64 dst) ∧ w'.cell? ⟨bv, 2, none⟩ = some (.int .i64 tag) ∧ w'.cell? ⟨bv, 3, none⟩ = some (.int .i64 fn) ∧ w'.cell? ⟨bv, 4, none⟩ = some (.int .i64 nn)) (go_keep)
                (first
                  | ((go_at_call 15); (with_reducible refine (puts4 op dst tag fn (i64 (by omega)) (i64 (by omega)) (i64 (by omega)) (i64 (by omega)) _ _ C _ l' _ (by first | exact heap_alloc_new _ _ | exact hnewd _ _ | exact (Lib.alloc_old _ _ _ (by simp)).trans (heap_alloc_new _ _)) (by first | exact own_same go0 rfl | exact own_same (go0.alloc _) rfl | exact own_same ((go0.alloc _).alloc _) rfl) (by first | omega | (simp; omega)) m1).mono ?_); rintro e y1 ⟨u1, rfl, own1, hQ1⟩; have gQ1 : Puts C y0 y1 := Puts.trans (by first | exact Puts.same rfl rfl rfl rfl | exact (Puts.alloc C y0 _).trans (Puts.same rfl rfl rfl rfl) | exact ((Puts.alloc C y0 _).trans (Puts.alloc C _ _)).trans (Puts.same rfl rfl rfl rfl)) hQ1; have hz1 := gQ1.size; have gw1 := gQ1.keep gw0 (by decide); obtain ⟨a0, a1, a2, a3, a4, a5, a6, a7, _⟩ := ins_cells gw1)
                  | ((go_at_call 17); (with_reducible refine (put_call nn f4' C _ _ _ (by first | exact own1 | exact own_same own1 rfl) (by first | omega | (simp; omega)) m2).mono ?_); rintro e y2 ⟨u2, rfl, own2, hQ2⟩; have gQ2 : Puts C y1 y2 := Puts.trans (by first | exact Puts.same rfl rfl rfl rfl | exact (Puts.alloc C y1 _).trans (Puts.same rfl rfl rfl rfl) | exact ((Puts.alloc C y1 _).trans (Puts.alloc C _ _)).trans (Puts.same rfl rfl rfl rfl)) hQ2; have hz2 := gQ2.size; have gw2 := gQ2.keep gw1 (by decide); obtain ⟨b0, b1, b2, b3, b4, b5, b6, b7, _⟩ := ins_cells gw2))
              all_goals
                go_wp2_with fail
                go_meet
                case rel => exact ⟨_, own2, (gP0.trans gQ1).trans gQ2, gw2, hV2⟩
            case rest =>
              clear m1 m2 hV2 f4' gz0 gw0 go0 gP0 p0 p1 p2 p3 p4 p5 p6 p7
              obtain ⟨l4, go4, gP4, gw4, hV4⟩ := hcut
              rename World => y3
              obtain ⟨p0, p1, p2, p3, p4, p5, p6, p7, _⟩ := ins_cells gw4
              have m1 : (l4 ++ textB prim).length ≤ 100000000000000 := bound hV4.out hl
              have hV1 : Veil ((l4 ++ textB prim) ++ (putsL [(vals.length : Int)] ++ (vals.flatMap valBy ++ (putsL [(alts.length : Int)] ++ (alts.flatMap altBy ++ R)))) = T) := ⟨by rw [List.append_assoc]; exact hV4.out⟩
              have m2 : ((l4 ++ textB prim) ++ putsL [(vals.length : Int)]).length ≤ 100000000000000 := bound hV1.out hl
              have hV2 : Veil (((l4 ++ textB prim) ++ putsL [(vals.length : Int)]) ++ (vals.flatMap valBy ++ (putsL [(alts.length : Int)] ++ (alts.flatMap altBy ++ R))) = T) := ⟨by rw [List.append_assoc]; exact hV1.out⟩
              have gz3 := gP4.size
              clear hV1 hV4
              go_upto_region 18 with fail
              go_cut [3] from 108 to 117 (fun vb wr => ∃ l', wr.ownsRow C 5 1 vb l'.length (bCells l') ∧ Puts C w wr ∧ wr.heap[bv]? = some (.cells #[.int .i64 op, .int .i64 dst, .int .i64 tag, .int .i64 fn, .int .i64 nn, .string prim, .slice vao vals.length vcap, .slice aao alts.length acap] 54 (0, 0)) ∧ Veil (l' ++ (vals.flatMap valBy ++ (putsL [(alts.length : Int)] ++ (alts.flatMap altBy ++ R))) = T))
              case first =>
                go_region_held3 (fun w' => w'.cell? ⟨bv, 5, none⟩ = some (.string prim) ∧ w'.cell? ⟨bv, 6, none⟩ = some (.slice vao vals.length vcap)) (go_keep)
                  (first
                    | ((go_at_call 16); (with_reducible refine (ptext_call prim (by omega) C _ _ _ (by first | exact own_same go4 rfl | exact own_same (go4.alloc _) rfl | exact own_same ((go4.alloc _).alloc _) rfl) (by first | omega | (simp; omega)) m1).mono ?_); rintro e y4 ⟨u1, rfl, own1, hQ1⟩; have gQ1 : Puts C y3 y4 := Puts.trans (by first | exact Puts.same rfl rfl rfl rfl | exact (Puts.alloc C y3 _).trans (Puts.same rfl rfl rfl rfl) | exact ((Puts.alloc C y3 _).trans (Puts.alloc C _ _)).trans (Puts.same rfl rfl rfl rfl)) hQ1; have hz1 := gQ1.size; have gw5 := gQ1.keep gw4 (by decide); obtain ⟨a0, a1, a2, a3, a4, a5, a6, a7, _⟩ := ins_cells gw5)
                    | ((go_at_call 15); (with_reducible refine (puts1 (vals.length : Int) (i64 (by omega)) _ _ C _ _ _ (by first | exact heap_alloc_new _ _ | exact hnewd _ _ | exact hQ1.keep (heap_alloc_new _ _) (by decide) | exact hQ1.keep (hnewd _ _) (by decide)) (by first | exact own1 | exact own_same own1 rfl | exact own1.alloc _ | exact own_same (own1.alloc _) rfl) (by first | omega | (simp; omega)) m2).mono ?_); rintro e y5 ⟨u2, rfl, own2, hQ2⟩; have gQ2 : Puts C y4 y5 := Puts.trans (by first | exact Puts.same rfl rfl rfl rfl | exact (Puts.alloc C y4 _).trans (Puts.same rfl rfl rfl rfl) | exact ((Puts.alloc C y4 _).trans (Puts.alloc C _ _)).trans (Puts.same rfl rfl rfl rfl)) hQ2; have hz2 := gQ2.size; have gw6 := gQ2.keep gw5 (by decide); obtain ⟨b0, b1, b2, b3, b4, b5, b6, b7, _⟩ := ins_cells gw6))
                all_goals
                  go_wp2_with fail
                  go_meet
                  case rel => exact ⟨_, own2, (gP4.trans gQ1).trans gQ2, gw6, hV2⟩
              case rest =>
                clear m1 m2 hV2 gz3 gw4 go4 gP4 p0 p1 p2 p3 p4 p5 p6 p7
                obtain ⟨l5, go5, gP5, gw5, hV5⟩ := hcut
                rename World => y4
                obtain ⟨_, _, _, _, _, _, p6, _, _⟩ := ins_cells gw5
                go_upto_block 6 with fail
                go_cut [3, 11, 120] from 121 to 133 (fun vb _ _ wr => ∃ l', wr.ownsRow C 5 1 vb l'.length (bCells l') ∧ Puts C w wr ∧ wr.heap[bv]? = some (.cells #[.int .i64 op, .int .i64 dst, .int .i64 tag, .int .i64 fn, .int .i64 nn, .string prim, .slice vao vals.length vcap, .slice aao alts.length acap] 54 (0, 0)) ∧ Veil (l' ++ (putsL [(alts.length : Int)] ++ (alts.flatMap altBy ++ R)) = T))
                case first =>
                  go_wp2_with fail
                  go_loopw [3, 11, 120] (fun vb _ vi wr => ∃ (k : Nat) (l' : List Int), vi = .int .i64 (k : Int) ∧ k ≤ vals.length ∧ wr.ownsRow C 5 1 vb l'.length (bCells l') ∧ Veil (l' ++ ((vals.drop k).flatMap valBy ++ (putsL [(alts.length : Int)] ++ (alts.flatMap altBy ++ R))) = T) ∧ Puts C w wr ∧ wr.heap[bv]? = some (.cells #[.int .i64 op, .int .i64 dst, .int .i64 tag, .int .i64 fn, .int .i64 nn, .string prim, .slice vao vals.length vcap, .slice aao alts.length acap] 54 (0, 0))) (fun _ _ vi _ => 10000 - (RowKit.intOf vi).toNat)
                  case atStart => exact ⟨0, l5, rfl, Nat.zero_le _, go5, hV5, gP5, gw5⟩
                  case round =>
                    obtain ⟨k, l7, rfl, hk, hown, hV, hP, gwk⟩ := hrel
                    clear go5 hV5 gP5 gw5 p6
                    by_cases hkx : k < vals.length
                    · obtain ⟨g', rfl, hgC', e0, e1⟩ := hvv.out k hkx
                      have hfx := hfv.out vals[k] (List.getElem_mem hkx)
                      have hV2 := hV.out
                      rw [flatstep' valBy vals k hkx] at hV2
                      rw [← hP.cell hC _ _ hgC'] at e0 e1
                      generalize vals[k] = v at hfx hV2 e0 e1
                      obtain ⟨vk, vn⟩ := v
                      dsimp only at e0 e1 hfx
                      obtain ⟨hfx0, hfx1⟩ := hfx
                      have hfx1' : -9223372036854775808 ≤ vn ∧ vn ≤ 9223372036854775807 := hfx1
                      have hk0 : (0 : Int) ≤ (k : Int) := by omega
                      have hk1 : (k : Int) < (vals.length : Int) := by omega
                      obtain ⟨Rv, hRv⟩ : ∃ Rv, (vals.drop (k + 1)).flatMap valBy ++ (putsL [(alts.length : Int)] ++ (alts.flatMap altBy ++ R)) = Rv := ⟨_, rfl⟩
                      have hV0 : Veil (l7 ++ (putsL [vk] ++ (putL vn ++ Rv)) = T) := ⟨by rw [← hV2, ← hRv]; simp [valBy]⟩
                      replace hRv := Veil.mk hRv
                      have m1 : (l7 ++ putsL [vk]).length ≤ 100000000000000 := bound hV0.out hl
                      have hV1 : Veil ((l7 ++ putsL [vk]) ++ (putL vn ++ Rv) = T) := ⟨by rw [List.append_assoc]; exact hV0.out⟩
                      have m2 : ((l7 ++ putsL [vk]) ++ putL vn).length ≤ 100000000000000 := bound hV1.out hl
                      have hV3 : Veil (((l7 ++ putsL [vk]) ++ putL vn) ++ ((vals.drop (k + 1)).flatMap valBy ++ (putsL [(alts.length : Int)] ++ (alts.flatMap altBy ++ R))) = T) := ⟨by rw [hRv.out, List.append_assoc]; exact hV1.out⟩
                      clear hV hV2 hV0 hV1
                      go_upto_region 22 with fail
                      have hszk := hP.size
                      have gx0 : (wr.alloc (Obj.cells #[.int .i64 vk, .int .i64 vn] 57)).heap[wr.heap.size]? = some (Obj.cells #[.int .i64 vk, .int .i64 vn] 57 (0, 0)) := heap_alloc_new wr _
                      have go0 := hown.alloc (Obj.cells #[.int .i64 vk, .int .i64 vn] 57)
                      have gP0 := hP.trans (Puts.alloc C wr (Obj.cells #[.int .i64 vk, .int .i64 vn] 57))
                      have gw0 := (Puts.alloc C wr (Obj.cells #[.int .i64 vk, .int .i64 vn] 57)).keep gwk (by decide)
                      generalize wr.alloc (Obj.cells #[.int .i64 vk, .int .i64 vn] 57) = y0 at gx0 go0 gP0 gw0 ⊢
                      generalize wr.heap.size = bx at gx0 ⊢
                      have gz0 := gP0.size
                      obtain ⟨p0, p1, _⟩ := val_cells gx0
                      clear e0 e1 hown hP gwk
                      go_region_held3 (fun w' => w'.cell? ⟨bx, 0, none⟩ = some (.int .i64 vk) ∧ w'.cell? ⟨bx, 1, none⟩ = some (.int .i64 vn)) (go_keep)
                        (first
                          | ((go_at_call 15); (with_reducible refine (puts1 vk (i64 (by omega)) _ _ C _ l7 _ (by first | exact heap_alloc_new _ _ | exact hnewd _ _ | exact (Lib.alloc_old _ _ _ (by simp)).trans (heap_alloc_new _ _)) (by first | exact own_same go0 rfl | exact own_same (go0.alloc _) rfl | exact own_same ((go0.alloc _).alloc _) rfl) (by first | omega | (simp; omega)) m1).mono ?_); rintro e y1 ⟨u1, rfl, own1, hQ1⟩; have gQ1 : Puts C y0 y1 := Puts.trans (by first | exact Puts.same rfl rfl rfl rfl | exact (Puts.alloc C y0 _).trans (Puts.same rfl rfl rfl rfl) | exact ((Puts.alloc C y0 _).trans (Puts.alloc C _ _)).trans (Puts.same rfl rfl rfl rfl)) hQ1; have hz1 := gQ1.size; have gx1 := gQ1.keep gx0 (by decide); obtain ⟨a0, a1, _⟩ := val_cells gx1)
                          | ((go_at_call 17); (with_reducible refine (put_call vn hfx1' C _ _ _ (by first | exact own1 | exact own_same own1 rfl) (by first | omega | (simp; omega)) m2).mono ?_); rintro e y2 ⟨u2, rfl, own2, hQ2⟩; have gQ2 : Puts C y1 y2 := Puts.trans (by first | exact Puts.same rfl rfl rfl rfl | exact (Puts.alloc C y1 _).trans (Puts.same rfl rfl rfl rfl) | exact ((Puts.alloc C y1 _).trans (Puts.alloc C _ _)).trans (Puts.same rfl rfl rfl rfl)) hQ2; have hz2 := gQ2.size; have gx2 := gQ2.keep gx1 (by decide); obtain ⟨b0, b1, _⟩ := val_cells gx2))
                      all_goals
                        go_wp2_with fail
                        exact ⟨⟨k + 1, _, by simp, by omega, own2, hV3, (gP0.trans gQ1).trans gQ2, gQ2.keep (gQ1.keep gw0 (by decide)) (by decide)⟩, by simp [RowKit.intOf]; omega⟩
                    · have hk2 : k = vals.length := by omega
                      have hk3 : ¬ (k : Int) < (vals.length : Int) := by omega
                      have e : Veil (l7 ++ (putsL [(alts.length : Int)] ++ (alts.flatMap altBy ++ R)) = T) := ⟨by
                        have := hV.out
                        rw [hk2, List.drop_length] at this
                        simpa using this⟩
                      go_wp2
                      go_meet
                      case rel => exact ⟨l7, hown, hP, gwk, e⟩
                case rest =>
                  clear go5 hV5 gP5 gw5 p6
                  obtain ⟨l6, go6, gP6, gw6, hV6⟩ := hcut
                  rename World => y5
                  obtain ⟨_, _, _, _, _, _, _, p7, _⟩ := ins_cells gw6
                  have m1 : (l6 ++ putsL [(alts.length : Int)]).length ≤ 100000000000000 := bound hV6.out hl
                  have hV7 : Veil ((l6 ++ putsL [(alts.length : Int)]) ++ (alts.flatMap altBy ++ R) = T) := ⟨by rw [List.append_assoc]; exact hV6.out⟩
                  have gz5 := gP6.size
                  clear hV6
                  go_wp2_with fail
                  go_at_call 15
                  with_reducible refine (puts1 (alts.length : Int) (i64 (by omega)) _ _ C _ l6 _ (heap_alloc_new y5 _) (go6.alloc _) (by first | omega | (simp; omega)) m1).mono ?_
                  rintro e y6 ⟨v7, rfl, go7, hQ7⟩
                  have gQ7 := (Puts.alloc C y5 _).trans hQ7
                  have gP7 := gP6.trans gQ7
                  have gw7 := gQ7.keep gw6 (by decide)
                  clear m1 gz5 go6 gP6 gw6 hQ7 gQ7 p7
                  generalize l6 ++ putsL [(alts.length : Int)] = l7 at go7 hV7
                  obtain ⟨_, _, _, _, _, _, _, p7, _⟩ := ins_cells gw7
                  go_wp2_with fail
                  go_loopw [3, 13, 142] (fun vb _ vi wr => ∃ (k : Nat) (l' : List Int), vi = .int .i64 (k : Int) ∧ k ≤ alts.length ∧ wr.ownsRow C 5 1 vb l'.length (bCells l') ∧ Veil (l' ++ ((alts.drop k).flatMap altBy ++ R) = T) ∧ Puts C w wr) (fun _ _ vi _ => 10000 - (RowKit.intOf vi).toNat)
                  case atStart => exact ⟨0, l7, rfl, Nat.zero_le _, go7, hV7, gP7⟩
                  case round =>
                    obtain ⟨k, l8, rfl, hk, hown, hV, hP⟩ := hrel
                    clear go7 hV7 gP7 gw7 p7
                    by_cases hkx : k < alts.length
                    · obtain ⟨g', rfl, hgC', e0, e1, e2, e3⟩ := hva.out k hkx
                      have hfx := hfa.out alts[k] (List.getElem_mem hkx)
                      have hV2 := hV.out
                      rw [flatstep' altBy alts k hkx] at hV2
                      rw [← hP.cell hC _ _ hgC'] at e0 e1 e2 e3
                      generalize alts[k] = v at hfx hV2 e0 e1 e2 e3
                      obtain ⟨at', ag, ao, an⟩ := v
                      dsimp only at e0 e1 e2 e3 hfx
                      obtain ⟨hfx0, hfx1, hfx2, hfx3⟩ := hfx
                      have hfx3' : -9223372036854775808 ≤ an ∧ an ≤ 9223372036854775807 := hfx3
                      have hk0 : (0 : Int) ≤ (k : Int) := by omega
                      have hk1 : (k : Int) < (alts.length : Int) := by omega
                      obtain ⟨Rv, hRv⟩ : ∃ Rv, (alts.drop (k + 1)).flatMap altBy ++ R = Rv := ⟨_, rfl⟩
                      have hV0 : Veil (l8 ++ (putsL [at', ag, ao] ++ (putL an ++ Rv)) = T) := ⟨by rw [← hV2, ← hRv]; simp [altBy]⟩
                      replace hRv := Veil.mk hRv
                      have m1 : (l8 ++ putsL [at', ag, ao]).length ≤ 100000000000000 := bound hV0.out hl
                      have hV1 : Veil ((l8 ++ putsL [at', ag, ao]) ++ (putL an ++ Rv) = T) := ⟨by rw [List.append_assoc]; exact hV0.out⟩
                      have m2 : ((l8 ++ putsL [at', ag, ao]) ++ putL an).length ≤ 100000000000000 := bound hV1.out hl
                      have hV3 : Veil (((l8 ++ putsL [at', ag, ao]) ++ putL an) ++ ((alts.drop (k + 1)).flatMap altBy ++ R) = T) := ⟨by rw [hRv.out, List.append_assoc]; exact hV1.out⟩
                      clear hV hV2 hV0 hV1
                      go_upto_region 28 with fail
                      have hszk := hP.size
                      have gx0 : (wr.alloc (Obj.cells #[.int .i64 at', .int .i64 ag, .int .i64 ao, .int .i64 an] 59)).heap[wr.heap.size]? = some (Obj.cells #[.int .i64 at', .int .i64 ag, .int .i64 ao, .int .i64 an] 59 (0, 0)) := heap_alloc_new wr _
                      have go0 := hown.alloc (Obj.cells #[.int .i64 at', .int .i64 ag, .int .i64 ao, .int .i64 an] 59)
                      have gP0 := hP.trans (Puts.alloc C wr (Obj.cells #[.int .i64 at', .int .i64 ag, .int .i64 ao, .int .i64 an] 59))
                      generalize wr.alloc (Obj.cells #[.int .i64 at', .int .i64 ag, .int .i64 ao, .int .i64 an] 59) = y0 at gx0 go0 gP0 ⊢
                      generalize wr.heap.size = bx at gx0 ⊢
                      have gz0 := gP0.size
                      obtain ⟨p0, p1, p2, p3, _⟩ := alt_cells gx0
                      clear e0 e1 e2 e3 hown hP
                      go_region_held3 (fun w' => w'.cell? ⟨bx, 0, none⟩ = some (.int .i64 at') ∧ w'.cell? ⟨bx, 1, none⟩ = some (.int .i64 ag) ∧ w'.cell? ⟨bx, 2, none⟩ = some (.int .i64 ao) ∧ w'.cell? ⟨bx, 3, none⟩ = some (.int .i64 an)) (go_keep)
                        (first
                          | ((go_at_call 15); (with_reducible refine (puts3 at' ag ao (i64 (by omega)) (i64 (by omega)) (i64 (by omega)) _ _ C _ l8 _ (by first | exact heap_alloc_new _ _ | exact hnewd _ _ | exact (Lib.alloc_old _ _ _ (by simp)).trans (heap_alloc_new _ _)) (by first | exact own_same go0 rfl | exact own_same (go0.alloc _) rfl | exact own_same ((go0.alloc _).alloc _) rfl) (by first | omega | (simp; omega)) m1).mono ?_); rintro e y1 ⟨u1, rfl, own1, hQ1⟩; have gQ1 : Puts C y0 y1 := Puts.trans (by first | exact Puts.same rfl rfl rfl rfl | exact (Puts.alloc C y0 _).trans (Puts.same rfl rfl rfl rfl) | exact ((Puts.alloc C y0 _).trans (Puts.alloc C _ _)).trans (Puts.same rfl rfl rfl rfl)) hQ1; have hz1 := gQ1.size; have gx1 := gQ1.keep gx0 (by decide); obtain ⟨a0, a1, a2, a3, _⟩ := alt_cells gx1)
                          | ((go_at_call 17); (with_reducible refine (put_call an hfx3' C _ _ _ (by first | exact own1 | exact own_same own1 rfl) (by first | omega | (simp; omega)) m2).mono ?_); rintro e y2 ⟨u2, rfl, own2, hQ2⟩; have gQ2 : Puts C y1 y2 := Puts.trans (by first | exact Puts.same rfl rfl rfl rfl | exact (Puts.alloc C y1 _).trans (Puts.same rfl rfl rfl rfl) | exact ((Puts.alloc C y1 _).trans (Puts.alloc C _ _)).trans (Puts.same rfl rfl rfl rfl)) hQ2; have hz2 := gQ2.size; have gx2 := gQ2.keep gx1 (by decide); obtain ⟨b0, b1, b2, b3, _⟩ := alt_cells gx2))
                      all_goals
                        go_wp2_with fail
                        exact ⟨⟨k + 1, _, by simp, by omega, own2, hV3, (gP0.trans gQ1).trans gQ2⟩, by simp [RowKit.intOf]; omega⟩
                    · have hk2 : k = alts.length := by omega
                      have hk3 : ¬ (k : Int) < (alts.length : Int) := by omega
                      have e : Veil (l8 ++ (D.ins.drop (j + 1)).flatMap insBy = T) := ⟨by
                        have := hV.out
                        rw [hk2, List.drop_length, ← hR.out] at this
                        simpa using this⟩
                      go_wp2
                      exact ⟨⟨j + 1, l8, by simp, by omega, hown, e, hP⟩, by simp [RowKit.intOf]; omega⟩
          · have hj2 : j = D.ins.length := by omega
            have hj3 : ¬ (j : Int) < (D.ins.length : Int) := by omega
            have e : l' = T := by
              have := hV.out
              rw [hj2, List.drop_length] at this
              simpa using this
            rw [e] at hown
            go_wp2
            go_ret
            exact ⟨_, rfl, hown, hP⟩
end Go.Proofs.YtfdkdghhdigfbaaDoor
