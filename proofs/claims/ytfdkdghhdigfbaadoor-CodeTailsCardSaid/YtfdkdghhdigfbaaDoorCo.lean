/- Whether an instruction may be: walked. -/
import Derived.Test.YtfdkdghhdigfbaaDoorCn
namespace Go.Proofs.YtfdkdghhdigfbaaDoor
open Go Go.RowKit
set_option maxRecDepth 100000

def badA (D : CodeD) (x : InsD) (regs : Int) : Bool :=
  decide (¬ valsF D x = (x.vals.length : Int)) || (decide (max regs 1 ≤ x.dst) || (decide (x.n < 0) || decide (¬ (0 < x.alts.length ↔ x.op = 9))))
def okVal (D : CodeD) (x : InsD) (regs : Int) (v : Int × Int) : Bool :=
  if v.1 = 0 then decide (0 ≤ v.2) && decide (v.2 < regs) else bareF D x
def okAlt (D : CodeD) (fr tt : Int) (a : Int × Int × Int × Int) : Bool :=
  decide (fr ≤ a.2.2.1) && (decide (a.2.2.1 < tt) && (!decide (a.1 = 1) || decide (a.2.1 < (D.tags.length : Int))))
def rightInsF (D : CodeD) (x : InsD) (regs fr tt : Int) : Bool :=
  !badA D x regs && (x.vals.all (okVal D x regs) && (x.alts.all (okAlt D fr tt) && (decide (0 < regs) || (endsF x.op || decide (x.op = 3)))))

theorem all_false {α : Type} {p : α → Bool} {l : List α} {j : Nat} (h : j < l.length) (hp : p l[j] = false) : l.all p = false := by
  rw [List.all_eq_false]
  exact ⟨l[j], List.getElem_mem h, by rw [hp]; decide⟩
theorem all_step {α : Type} {p : α → Bool} {l : List α} {j : Nat} (h : j < l.length) (h0 : (l.take j).all p = true) (hp : p l[j] = true) : (l.take (j + 1)).all p = true := by
  rw [List.take_succ_eq_append_getElem h, List.all_append, h0]
  simp [hp]

theorem vals_tag {D : CodeD} {x : InsD} (h1 : x.op = 1) (h : valsF D x = (x.vals.length : Int)) : x.tag.toNat < D.tags.length := by
  apply Classical.byContradiction
  intro hn
  unfold valsF at h
  rw [if_pos h1, List.getElem?_eq_none (Nat.le_of_not_lt hn)] at h
  simp only at h
  omega


theorem region_lit {P : Program} {C : World → Prop} {id : Nat} {Q : Exit → Act → World → Prop} {a : Act} {w : World} {l : List Oper} (hC : C { w with drawn := w.drawn + 1 }) (hm : P.follows .mixedOrders = true) (hB : Region.lexB .any l.toArray = true)
    (h : wpQuiet P l.toArray C (fun a' => ∀ w', C w' → Q .normal a' w') l a) : (Code.region id l.toArray true).wp P Q a w :=
  wp_region_quiet (C := C) hm hB hC (by simpa using h)
theorem cell_hold {w w0 : World} {C g o : Nat} (h : ∀ k, k < C → w0.heap[k]? = w.heap[k]?) (hg : g < C) : w0.cell? ⟨g, o, none⟩ = w.cell? ⟨g, o, none⟩ := by
  unfold World.cell?
  rw [h g hg]
/-- Worlds in which what lay in a world below a bound lies still. -/
structure BW (B : Nat) (w0 : World) where
  w : World
  ok : Below B w0 w
  sz : w0.heap.size ≤ w.heap.size
theorem BW.start (B : Nat) (w0 : World) : ∃ x : BW B w0, ({ w0 with drawn := w0.drawn + 1 } : World) = x.w := ⟨⟨{ w0 with drawn := w0.drawn + 1 }, ⟨rfl, rfl, rfl, Nat.le_refl _, fun _ _ => rfl⟩, Nat.le_refl _⟩, rfl⟩
theorem BW.call {B : Nat} {w0 : World} (hB : B ≤ w0.heap.size) (x : BW B w0) {f : Nat} {args : Array Value} {v : Value} (h : Calls Tryd.prog f args x.w fun e w' => e = .returned v ∧ Below x.w.heap.size x.w w') :
    Calls Tryd.prog f args x.w fun e w' => e = .returned v ∧ ∃ y : BW B w0, w' = y.w :=
  h.mono fun _ w' ⟨he, hb⟩ => ⟨he, ⟨w', x.ok.trans (hb.mono (Nat.le_trans hB x.sz)), Nat.le_trans x.sz hb.size⟩, rfl⟩
theorem BW.cell {B : Nat} {w0 : World} (x : BW B w0) {g o : Nat} {v : Value} (hg : g < B) (h : w0.cell? ⟨g, o, none⟩ = some v) : x.w.cell? ⟨g, o, none⟩ = some v := (x.ok.cell (p := ⟨g, o, none⟩) hg).trans h

set_option maxHeartbeats 16000000 in
theorem rightIns_call (D : CodeD) (hF : FitD D) (hT : TagsOk D) (x : InsD) (hx : FitIns x) (vv va : Value) (regs fr tt : Int) (_hr1 : 0 ≤ regs ∧ regs ≤ 524288) (_hr2 : 0 ≤ fr ∧ fr ≤ 262144) (_hr3 : 0 ≤ tt ∧ tt ≤ 262144) (w : World) (C bc : Nat) (vt vf vi : Value) (hc : Cells w C bc D vt vf vi) (hC : C ≤ w.heap.size) (hvv : ValsAt w C vv x.vals) (hva : AltsAt w C va x.alts) :
    Calls Tryd.prog 24 #[.pointer (some ⟨bc, 0, none⟩), insV x vv va, .int .i64 regs, .int .i64 fr, .int .i64 tt] w fun e w' => e = .returned (.bool (rightInsF D x regs fr tt)) ∧ Below w.heap.size w w' := by
  have hxx := hx
  obtain ⟨vao, vcap, rfl, hvv⟩ := hvv
  obtain ⟨aao, acap, rfl, hva⟩ := hva
  obtain ⟨X, hX⟩ : ∃ X, x = X := ⟨_, rfl⟩
  obtain ⟨V, hV⟩ : ∃ V, valsF D x = V := ⟨_, rfl⟩
  obtain ⟨G, hG⟩ : ∃ G, rightInsF D x regs fr tt = G := ⟨_, rfl⟩
  obtain ⟨bt, hbt⟩ : ∃ b, w.heap.size = b := ⟨_, rfl⟩
  rw [hG, hbt]
  have hv26 : ∀ w1, C ≤ w1.heap.size → (∀ k, k < C → w1.heap[k]? = w.heap[k]?) → Calls Tryd.prog 26 #[.pointer (some ⟨bc, 0, none⟩), insV x (.slice vao x.vals.length vcap) (.slice aao x.alts.length acap)] w1 fun e w' => e = .returned (.int .i64 V) ∧ Below w1.heap.size w1 w' := fun w1 h1 h2 => by
    rw [← hV]
    exact vals_call D hF hT x hx vao vcap _ w1 C bc vt vf vi (hc.keep h2) h1
  have hb27 : (x.op = 1 → x.tag.toNat < D.tags.length) → ∀ w1, C ≤ w1.heap.size → (∀ k, k < C → w1.heap[k]? = w.heap[k]?) → Calls Tryd.prog 27 #[.pointer (some ⟨bc, 0, none⟩), insV x (.slice vao x.vals.length vcap) (.slice aao x.alts.length acap)] w1 fun e w' => e = .returned (.bool (bareF D x)) ∧ Below w1.heap.size w1 w' := fun hk w1 h1 h2 => bare_call D hF x hx hk _ _ w1 C bc vt vf vi (hc.keep h2) h1
  obtain ⟨tao, tcap, htv, _, _⟩ := hc.tags'
  have q0 := hc.c0
  rw [htv] at q0
  have hlo := hc.lo
  have n1 := hF.tl
  have kv := hx.vl
  have ka := hx.al
  have hfv : Veil (∀ v ∈ x.vals, (0 ≤ v.1 ∧ v.1 ≤ 2) ∧ I64 v.2) := ⟨hx.vals⟩
  have hfa : Veil (∀ a ∈ x.alts, (0 ≤ a.1 ∧ a.1 ≤ 3) ∧ (0 ≤ a.2.1 ∧ a.2.1 ≤ 262144) ∧ (0 ≤ a.2.2.1 ∧ a.2.2.1 ≤ 262144) ∧ I64 a.2.2.2) := ⟨hx.alts⟩
  have f0 := hx.op
  have f1 := hx.dst
  have f4 := hx.n
  obtain ⟨op, dst, tag, fn, nn, prim, vals, alts⟩ := x
  dsimp only at hv26 hb27 kv ka hfv hfa f0 f1 f4 hvv hva
  have f4a : -9223372036854775808 ≤ nn := f4.1
  have f4b : nn ≤ 9223372036854775807 := f4.2
  clear f4
  have hB : Below bt w (w.alloc (Obj.cells #[.int .i64 op, .int .i64 dst, .int .i64 tag, .int .i64 fn, .int .i64 nn, .string prim, .slice vao vals.length vcap, .slice aao alts.length acap] 54)) := (Below.refl _ w).alloc (Nat.le_of_eq hbt.symm) _
  have hnw := heap_alloc_new w (Obj.cells #[.int .i64 op, .int .i64 dst, .int .i64 tag, .int .i64 fn, .int .i64 nn, .string prim, .slice vao vals.length vcap, .slice aao alts.length acap] 54)
  have hsz : (w.alloc (Obj.cells #[.int .i64 op, .int .i64 dst, .int .i64 tag, .int .i64 fn, .int .i64 nn, .string prim, .slice vao vals.length vcap, .slice aao alts.length acap] 54)).heap.size = bt + 1 := by simp [hbt]
  rw [hbt] at hnw hC
  obtain ⟨p0, p1, p2, p3, p4, p5, p6, p7, _⟩ := ins_cells hnw
  have q0' := (cell_old (o := Obj.cells #[.int .i64 op, .int .i64 dst, .int .i64 tag, .int .i64 fn, .int .i64 nn, .string prim, .slice vao vals.length vcap, .slice aao alts.length acap] 54) (j := 0) (Nat.lt_of_lt_of_le hlo (by omega))).trans q0
  replace hV := Veil.mk hV
  replace hX := Veil.mk hX
  replace hG := Veil.mk hG
  replace hv26 := Veil.mk hv26
  replace hb27 := Veil.mk hb27
  replace hvv := Veil.mk hvv
  replace hva := Veil.mk hva
  replace hT := Veil.mk hT
  clear hc q0 hxx hx hF htv
  unfold insV
  go_enter Tryd.func24, Tryd.ntmps24
  go_upto_region 1 with fail
  generalize w.alloc (Obj.cells #[.int .i64 op, .int .i64 dst, .int .i64 tag, .int .i64 fn, .int .i64 nn, .string prim, .slice vao vals.length vcap, .slice aao alts.length acap] 54) = w0 at hB p0 p1 p2 p3 p4 p5 p6 p7 q0' hsz hnw ⊢
  have hold : Veil (∀ k, k < C → w0.heap[k]? = w.heap[k]?) := ⟨fun k hk => hB.block k (by omega)⟩
  have hnl : ¬ V = (vals.length : Int) → (V != (vals.length : Int)) = true := fun h => by simp [h]
  go_cut [43] from 15 to 44 (fun c wr => ∃ b, c = .bool b ∧ Veil (badA D ⟨op, dst, tag, fn, nn, prim, vals, alts⟩ regs = b) ∧ Below (bt + 1) w0 wr)
  case first =>
    have c26 : ∀ y : BW (bt + 1) w0, Calls Tryd.prog 26 #[.pointer (some ⟨bc, 0, none⟩), .agg #[.int .i64 op, .int .i64 dst, .int .i64 tag, .int .i64 fn, .int .i64 nn, .string prim, .slice vao vals.length vcap, .slice aao alts.length acap]] y.w fun e w' => e = .returned (.int .i64 V) ∧ ∃ z : BW (bt + 1) w0, w' = z.w := fun y => BW.call (by omega) y (hv26.out y.w (by have := y.sz; omega) fun k hk => (y.ok.block k (by omega)).trans (hold.out k hk))
    have u0 : ∀ y : BW (bt + 1) w0, y.w.cell? ⟨bt, 0, none⟩ = some (.int .i64 op) := fun y => y.cell (Nat.lt_succ_self _) p0
    have u1 : ∀ y : BW (bt + 1) w0, y.w.cell? ⟨bt, 1, none⟩ = some (.int .i64 dst) := fun y => y.cell (Nat.lt_succ_self _) p1
    have u2 : ∀ y : BW (bt + 1) w0, y.w.cell? ⟨bt, 2, none⟩ = some (.int .i64 tag) := fun y => y.cell (Nat.lt_succ_self _) p2
    have u3 : ∀ y : BW (bt + 1) w0, y.w.cell? ⟨bt, 3, none⟩ = some (.int .i64 fn) := fun y => y.cell (Nat.lt_succ_self _) p3
    have u4 : ∀ y : BW (bt + 1) w0, y.w.cell? ⟨bt, 4, none⟩ = some (.int .i64 nn) := fun y => y.cell (Nat.lt_succ_self _) p4
    have u5 : ∀ y : BW (bt + 1) w0, y.w.cell? ⟨bt, 5, none⟩ = some (.string prim) := fun y => y.cell (Nat.lt_succ_self _) p5
    have u6 : ∀ y : BW (bt + 1) w0, y.w.cell? ⟨bt, 6, none⟩ = some (.slice vao vals.length vcap) := fun y => y.cell (Nat.lt_succ_self _) p6
    have u7 : ∀ y : BW (bt + 1) w0, y.w.cell? ⟨bt, 7, none⟩ = some (.slice aao alts.length acap) := fun y => y.cell (Nat.lt_succ_self _) p7
    haveI : Nonempty (BW (bt + 1) w0) := ⟨⟨w0, Below.refl _ _, Nat.le_refl _⟩⟩
    clear p0 p1 p2 p3 p4 p5 p6 p7 q0'
    by_cases h1 : V = (vals.length : Int)
    · subst h1
      have hb0 := hV.out
      by_cases h2 : max regs 1 ≤ dst
      · have hb : Veil (badA D ⟨op, dst, tag, fn, nn, prim, vals, alts⟩ regs = true) := ⟨by simp [badA, h2]⟩
        clear hb0
        clear hnl hV
        refine region_lit (C := fun w => ∃ x : BW (bt + 1) w0, w = x.w) (BW.start _ _) (by kernel_rfl) (by kernel_rfl) ?_
        repeat (go_big_quiet_step ((go_at_call 26; with_reducible exact c26 _)))
        refine wpQuiet_nil ?_
        rintro _ ⟨y, rfl⟩
        go_wp2
        go_meet
        case rel =>
          exact ⟨_, rfl, ⟨by rw [hb.out]; first | done | rfl | (simp; done) | (simp; rfl)⟩, y.ok⟩
      · have h2' : decide (max regs 1 ≤ dst) = false := by simpa using h2
        by_cases h3 : nn < 0
        · have hb : Veil (badA D ⟨op, dst, tag, fn, nn, prim, vals, alts⟩ regs = true) := ⟨by simp [badA, h3]⟩
          clear hb0 h2
          clear hnl hV
          refine region_lit (C := fun w => ∃ x : BW (bt + 1) w0, w = x.w) (BW.start _ _) (by kernel_rfl) (by kernel_rfl) ?_
          repeat (go_big_quiet_step ((go_at_call 26; with_reducible exact c26 _)))
          refine wpQuiet_nil ?_
          rintro _ ⟨y, rfl⟩
          go_wp2
          go_meet
          case rel =>
            exact ⟨_, rfl, ⟨by rw [hb.out]; first | done | rfl | (simp; done) | (simp; rfl)⟩, y.ok⟩
        · have h3' : decide (nn < 0) = false := by simpa using h3
          have hb : Veil (badA D ⟨op, dst, tag, fn, nn, prim, vals, alts⟩ regs = (decide (0 < (alts.length : Int)) != (op == 9))) := ⟨by
            have hb1 : badA D ⟨op, dst, tag, fn, nn, prim, vals, alts⟩ regs = decide (¬ (0 < alts.length ↔ op = 9)) := by simp [badA, hb0, h2, h3]
            rw [hb1, show decide (0 < (alts.length : Int)) = decide (0 < alts.length) from decide_eq_decide.2 (by omega)]
            by_cases a1 : 0 < alts.length <;> by_cases a2 : op = 9 <;> simp [a1, a2]⟩
          clear hb0 h2 h3
          clear hnl hV
          refine region_lit (C := fun w => ∃ x : BW (bt + 1) w0, w = x.w) (BW.start _ _) (by kernel_rfl) (by kernel_rfl) ?_
          repeat (go_big_quiet_step ((go_at_call 26; with_reducible exact c26 _)))
          refine wpQuiet_nil ?_
          rintro _ ⟨y, rfl⟩
          go_wp2
          go_meet
          case rel =>
            exact ⟨_, rfl, ⟨by rw [hb.out]; first | done | rfl | (simp; done) | (simp; rfl)⟩, y.ok⟩
    · have hb : Veil (badA D ⟨op, dst, tag, fn, nn, prim, vals, alts⟩ regs = true) := ⟨by
        have := hV.out
        simp [badA, this, h1]⟩
      have h1' := hnl h1
      clear hnl hV
      refine region_lit (C := fun w => ∃ x : BW (bt + 1) w0, w = x.w) (BW.start _ _) (by kernel_rfl) (by kernel_rfl) ?_
      repeat (go_big_quiet_step ((go_at_call 26; with_reducible exact c26 _)))
      refine wpQuiet_nil ?_
      rintro _ ⟨y, rfl⟩
      go_wp2
      go_meet
      case rel =>
        exact ⟨_, rfl, ⟨by rw [hb.out]; first | done | rfl | (simp; done) | (simp; rfl)⟩, y.ok⟩
  case rest =>
    obtain ⟨b, rfl, hb, hbw⟩ := hcut
    rename World => w1
    clear hnl hv26
    cases b with
    | true =>
      go_wp2
      go_ret
      refine ⟨?_, hB.trans (hbw.mono (Nat.le_succ _))⟩
      rw [← hG.out]
      simp [rightInsF, hb.out]
    | false =>
      have hk : Veil (op = 1 → tag.toNat < D.tags.length) := ⟨fun h => vals_tag (D := D) (x := ⟨op, dst, tag, fn, nn, prim, vals, alts⟩) h (by
        have := hb.out
        simp only [badA, Bool.or_eq_false_iff, decide_eq_false_iff_not, Classical.not_not] at this
        exact this.1)⟩
      have hz1 : bt + 1 ≤ w1.heap.size := by have := hbw.size; omega
      have p6' := (hbw.cell (p := ⟨bt, 6, none⟩) (Nat.lt_succ_self _)).trans p6
      go_upto_block 0 with fail
      go_cut [12, 47] from 48 to 77 (fun _ _ wr => Below (bt + 1) w0 wr ∧ Veil (vals.all (okVal D ⟨op, dst, tag, fn, nn, prim, vals, alts⟩ regs) = true))
      case first =>
        go_wp2_with fail
        go_loopw [12, 47] (fun _ vi wr => ∃ j : Nat, vi = .int .i64 (j : Int) ∧ j ≤ vals.length ∧ Veil ((vals.take j).all (okVal D ⟨op, dst, tag, fn, nn, prim, vals, alts⟩ regs) = true) ∧ Below (bt + 1) w0 wr) (fun _ vi _ => 10000 - (RowKit.intOf vi).toNat)
        case atStart => exact ⟨0, rfl, Nat.zero_le _, ⟨rfl⟩, hbw⟩
        case round =>
          obtain ⟨j, rfl, hj, hV1, hbr⟩ := hrel
          clear hbw hz1 p6'
          by_cases hx : j < vals.length
          · obtain ⟨g', rfl, hgC, e0, e1⟩ := hvv.out j hx
            have hfx := hfv.out vals[j] (List.getElem_mem hx)
            have hstep : Veil (okVal D ⟨op, dst, tag, fn, nn, prim, vals, alts⟩ regs vals[j] = true → (vals.take (j + 1)).all (okVal D ⟨op, dst, tag, fn, nn, prim, vals, alts⟩ regs) = true) := ⟨fun h => all_step hx hV1.out h⟩
            have hfail : Veil (okVal D ⟨op, dst, tag, fn, nn, prim, vals, alts⟩ regs vals[j] = false → vals.all (okVal D ⟨op, dst, tag, fn, nn, prim, vals, alts⟩ regs) = false) := ⟨fun h => all_false hx h⟩
            rw [← cell_hold hold.out hgC, ← hbr.cell (p := ⟨g', _, none⟩) (show g' < bt + 1 by omega)] at e0 e1
            generalize vals[j] = v at hfx e0 e1 hstep hfail
            obtain ⟨vk, vn⟩ := v
            dsimp only at hfx e0 e1
            obtain ⟨⟨hf1, hf2⟩, hf3⟩ := hfx
            have hf3a : -9223372036854775808 ≤ vn := hf3.1
            have hf3b : vn ≤ 9223372036854775807 := hf3.2
            clear hf3
            have hj0 : (0 : Int) ≤ (j : Int) := by omega
            have hj1 : (j : Int) < (vals.length : Int) := by omega
            have hzr : bt + 1 ≤ wr.heap.size := by have := hbr.size; omega
            have hbn : Below (bt + 1) w0 (wr.alloc (Obj.cells #[.int .i64 vk, .int .i64 vn] 57)) := hbr.alloc hzr _
            have hzn : (wr.alloc (Obj.cells #[.int .i64 vk, .int .i64 vn] 57)).heap.size = wr.heap.size + 1 := by simp
            have p0' := (hbn.cell (p := ⟨bt, 0, none⟩) (Nat.lt_succ_self _)).trans p0
            have p1' := (hbn.cell (p := ⟨bt, 1, none⟩) (Nat.lt_succ_self _)).trans p1
            have p2' := (hbn.cell (p := ⟨bt, 2, none⟩) (Nat.lt_succ_self _)).trans p2
            have p3' := (hbn.cell (p := ⟨bt, 3, none⟩) (Nat.lt_succ_self _)).trans p3
            have p4' := (hbn.cell (p := ⟨bt, 4, none⟩) (Nat.lt_succ_self _)).trans p4
            have p5' := (hbn.cell (p := ⟨bt, 5, none⟩) (Nat.lt_succ_self _)).trans p5
            have p6' := (hbn.cell (p := ⟨bt, 6, none⟩) (Nat.lt_succ_self _)).trans p6
            have p7' := (hbn.cell (p := ⟨bt, 7, none⟩) (Nat.lt_succ_self _)).trans p7
            obtain ⟨n0, n1, _⟩ := val_cells (heap_alloc_new wr (Obj.cells #[.int .i64 vk, .int .i64 vn] 57))
            clear p0 p1 p2 p3 p4 p5 p6 p7 q0'
            go_upto_region 6 with fail
            clear e0 e1
            generalize wr.alloc (Obj.cells #[.int .i64 vk, .int .i64 vn] 57) = w2 at hbn hzn p0' p1' p2' p3' p4' p5' p6' p7' n0 n1 ⊢
            generalize wr.heap.size = bx at hzn hzr n0 n1 ⊢
            by_cases hv0 : vk = 0
            · subst hv0
              by_cases h1 : vn < 0
              · have hbad : okVal D ⟨op, dst, tag, fn, nn, prim, vals, alts⟩ regs ((0 : Int), vn) = false := by
                  have : ¬ 0 ≤ vn := by omega
                  simp [okVal, this]
                have hbad2 := Veil.mk (hfail.out hbad)
                clear hbad
                go_wp2_with fail
                go_ret
                refine ⟨?_, hB.trans (hbn.mono (Nat.le_succ _))⟩
                rw [← hG.out]
                simp [rightInsF, hbad2.out]
              · have h1' : decide (vn < 0) = false := by simpa using h1
                by_cases h2 : regs ≤ vn
                · have hbad : okVal D ⟨op, dst, tag, fn, nn, prim, vals, alts⟩ regs ((0 : Int), vn) = false := by
                    have : ¬ vn < regs := by omega
                    simp [okVal, this]
                  have hbad2 := Veil.mk (hfail.out hbad)
                  clear hbad
                  go_wp2_with fail
                  go_ret
                  refine ⟨?_, hB.trans (hbn.mono (Nat.le_succ _))⟩
                  rw [← hG.out]
                  simp [rightInsF, hbad2.out]
                · have h2' : decide (regs ≤ vn) = false := by simpa using h2
                  have hgood : okVal D ⟨op, dst, tag, fn, nn, prim, vals, alts⟩ regs ((0 : Int), vn) = true := by
                    have h3 : 0 ≤ vn := by omega
                    have h4 : vn < regs := by omega
                    simp [okVal, h3, h4]
                  have hgood2 := Veil.mk (hstep.out hgood)
                  clear hgood
                  go_wp2_with fail
                  exact ⟨⟨j + 1, by simp, by omega, hgood2, hbn⟩, by simp [RowKit.intOf]; omega⟩
            · have hv0' : (vk == 0) = false := by simpa using hv0
              have hv0'' : (vk != 0) = true := by simpa using hv0
              obtain ⟨bb, hbb⟩ : ∃ bb, bareF D ⟨op, dst, tag, fn, nn, prim, vals, alts⟩ = bb := ⟨_, rfl⟩
              have hcall := hb27.out hk.out w2 (by omega) (fun k hk => (hbn.block k (by omega)).trans (hold.out k hk))
              rw [hbb] at hcall
              replace hcall := Veil.mk hcall
              cases bb with
              | true =>
                have hgood : okVal D ⟨op, dst, tag, fn, nn, prim, vals, alts⟩ regs (vk, vn) = true := by simp [okVal, hv0, hbb]
                have hgood2 := Veil.mk (hstep.out hgood)
                clear hgood hbb
                go_wp2_with (go_at_call 27; refine hcall.out.mono ?_; rintro e w3 ⟨rfl, hb3⟩)
                exact ⟨⟨j + 1, by simp, by omega, hgood2, hbn.trans (hb3.mono (by omega))⟩, by simp [RowKit.intOf]; omega⟩
              | false =>
                have hbad : okVal D ⟨op, dst, tag, fn, nn, prim, vals, alts⟩ regs (vk, vn) = false := by simp [okVal, hv0, hbb]
                have hbad2 := Veil.mk (hfail.out hbad)
                clear hbad hbb
                go_wp2_with (go_at_call 27; refine hcall.out.mono ?_; rintro e w3 ⟨rfl, hb3⟩)
                go_ret
                refine ⟨?_, hB.trans ((hbn.trans (hb3.mono (by omega))).mono (Nat.le_succ _))⟩
                rw [← hG.out]
                simp [rightInsF, hbad2.out]
          · have hj2 : j = vals.length := by omega
            have hj3 : ¬ (j : Int) < (vals.length : Int) := by omega
            have e : Veil (vals.all (okVal D ⟨op, dst, tag, fn, nn, prim, vals, alts⟩ regs) = true) := ⟨by
              have := hV1.out
              rwa [hj2, List.take_length] at this⟩
            go_wp2
            go_meet
            case rel => exact ⟨hbr, e⟩
      case rest =>
        clear hbw hz1 p6' hb27 hk
        obtain ⟨hbw, hvok⟩ := hcut
        rename World => w2
        have hz1 : bt + 1 ≤ w2.heap.size := by have := hbw.size; omega
        have p7' := (hbw.cell (p := ⟨bt, 7, none⟩) (Nat.lt_succ_self _)).trans p7
        go_upto_block 2 with fail
        go_cut [14, 80] from 81 to 110 (fun _ _ wr => Below (bt + 1) w0 wr ∧ Veil (alts.all (okAlt D fr tt) = true))
        case first =>
          go_wp2_with fail
          go_loopw [14, 80] (fun _ vi wr => ∃ j : Nat, vi = .int .i64 (j : Int) ∧ j ≤ alts.length ∧ Veil ((alts.take j).all (okAlt D fr tt) = true) ∧ Below (bt + 1) w0 wr) (fun _ vi _ => 10000 - (RowKit.intOf vi).toNat)
          case atStart => exact ⟨0, rfl, Nat.zero_le _, ⟨rfl⟩, hbw⟩
          case round =>
            obtain ⟨j, rfl, hj, hV1, hbr⟩ := hrel
            clear hbw hz1 p7'
            by_cases hx : j < alts.length
            · obtain ⟨g', rfl, hgC, e0, e1, e2, e3⟩ := hva.out j hx
              have hfx := hfa.out alts[j] (List.getElem_mem hx)
              have hstep : Veil (okAlt D fr tt alts[j] = true → (alts.take (j + 1)).all (okAlt D fr tt) = true) := ⟨fun h => all_step hx hV1.out h⟩
              have hfail : Veil (okAlt D fr tt alts[j] = false → alts.all (okAlt D fr tt) = false) := ⟨fun h => all_false hx h⟩
              rw [← cell_hold hold.out hgC, ← hbr.cell (p := ⟨g', _, none⟩) (show g' < bt + 1 by omega)] at e0 e1 e2 e3
              generalize alts[j] = v at hfx e0 e1 e2 e3 hstep hfail
              obtain ⟨at', ag, ao, an⟩ := v
              dsimp only at hfx e0 e1 e2 e3
              obtain ⟨⟨hf1, hf2⟩, ⟨hf3, hf4⟩, ⟨hf5, hf6⟩, hf7⟩ := hfx
              have hf7a : -9223372036854775808 ≤ an := hf7.1
              have hf7b : an ≤ 9223372036854775807 := hf7.2
              clear hf7
              have hj0 : (0 : Int) ≤ (j : Int) := by omega
              have hj1 : (j : Int) < (alts.length : Int) := by omega
              have hzr : bt + 1 ≤ wr.heap.size := by have := hbr.size; omega
              have hbn : Below (bt + 1) w0 (wr.alloc (Obj.cells #[.int .i64 at', .int .i64 ag, .int .i64 ao, .int .i64 an] 59)) := hbr.alloc hzr _
              have q0'' := (hbn.cell (p := ⟨bc, 0, none⟩) (show bc < bt + 1 by omega)).trans q0'
              obtain ⟨n0, n1, n2, n3, _⟩ := alt_cells (heap_alloc_new wr (Obj.cells #[.int .i64 at', .int .i64 ag, .int .i64 ao, .int .i64 an] 59))
              clear p0 p1 p2 p3 p4 p5 p6 p7 q0'
              go_upto_region 12 with fail
              clear e0 e1 e2 e3
              generalize wr.alloc (Obj.cells #[.int .i64 at', .int .i64 ag, .int .i64 ao, .int .i64 an] 59) = w3 at hbn q0'' n0 n1 n2 n3 ⊢
              generalize wr.heap.size = bx at hzr n0 n1 n2 n3 ⊢
              by_cases h1 : ao < fr
              · have hbad2 := Veil.mk (hfail.out (by have h0 : ¬ fr ≤ ao := (by omega); simp [okAlt, h0]))
                go_wp2_with fail
                go_quiet (fail)
                go_wp2
                go_ret
                refine ⟨?_, hB.trans ((below_drewN hbn _).mono (Nat.le_succ _))⟩
                rw [← hG.out]
                simp [rightInsF, hbad2.out]
              have h1' : decide (ao < fr) = false := by simpa using h1
              by_cases h2 : tt ≤ ao
              · have hbad2 := Veil.mk (hfail.out (by have h0 : ¬ ao < tt := (by omega); simp [okAlt, h0]))
                go_wp2_with fail
                go_quiet (fail)
                go_wp2
                go_ret
                refine ⟨?_, hB.trans ((below_drewN hbn _).mono (Nat.le_succ _))⟩
                rw [← hG.out]
                simp [rightInsF, hbad2.out]
              have h2' : decide (tt ≤ ao) = false := by simpa using h2
              have g1 : fr ≤ ao := by omega
              have g2 : ao < tt := by omega
              by_cases h3 : at' = 1
              · subst h3
                by_cases h4 : (D.tags.length : Int) ≤ ag
                · have hbad2 := Veil.mk (hfail.out (by have h0 : ¬ ag < (D.tags.length : Int) := (by omega); simp [okAlt, h0]))
                  go_wp2_with fail
                  go_quiet (fail)
                  go_wp2
                  go_ret
                  refine ⟨?_, hB.trans ((below_drewN hbn _).mono (Nat.le_succ _))⟩
                  rw [← hG.out]
                  simp [rightInsF, hbad2.out]
                · have h4' : decide ((D.tags.length : Int) ≤ ag) = false := by simpa using h4
                  have hgood2 := Veil.mk (hstep.out (by have h0 : ag < (D.tags.length : Int) := (by omega); simp [okAlt, g1, g2, h0]))
                  go_wp2_with fail
                  go_quiet (fail)
                  go_wp2
                  exact ⟨⟨j + 1, by simp, by omega, hgood2, below_drewN hbn _⟩, by simp [RowKit.intOf]; omega⟩
              · have h3' : (at' == 1) = false := by simpa using h3
                have hgood2 := Veil.mk (hstep.out (by simp [okAlt, g1, g2, h3]))
                go_wp2_with fail
                go_quiet (fail)
                go_wp2
                exact ⟨⟨j + 1, by simp, by omega, hgood2, below_drewN hbn _⟩, by simp [RowKit.intOf]; omega⟩
            · have hj2 : j = alts.length := by omega
              have hj3 : ¬ (j : Int) < (alts.length : Int) := by omega
              have e : Veil (alts.all (okAlt D fr tt) = true) := ⟨by
                have := hV1.out
                rwa [hj2, List.take_length] at this⟩
              go_wp2
              go_meet
              case rel => exact ⟨hbr, e⟩
        case rest =>
          clear hbw hz1 p7'
          obtain ⟨hbw, haok⟩ := hcut
          rename World => w3
          have p0' := (hbw.cell (p := ⟨bt, 0, none⟩) (Nat.lt_succ_self _)).trans p0
          have hr : rightInsF D ⟨op, dst, tag, fn, nn, prim, vals, alts⟩ regs fr tt = (decide (0 < regs) || (endsF op || decide (op = 3))) := by simp [rightInsF, hb.out, hvok.out, haok.out]
          replace hr := Veil.mk hr
          clear p0 p1 p2 p3 p4 p5 p6 p7 q0'
          by_cases h1 : 0 < regs
          · go_wp2
            go_ret
            refine ⟨?_, hB.trans (hbw.mono (Nat.le_succ _))⟩
            rw [← hG.out, hr.out]
            simp [h1]
          · have h1' : decide (0 < regs) = false := by simpa using h1
            have hcall := ends_call op w3
            obtain ⟨be, hbe⟩ : ∃ b, endsF op = b := ⟨_, rfl⟩
            rw [hbe] at hcall
            replace hcall := Veil.mk hcall
            replace hr : Veil (rightInsF D ⟨op, dst, tag, fn, nn, prim, vals, alts⟩ regs fr tt = (be || decide (op = 3))) := ⟨by rw [hr.out, hbe, h1']; rfl⟩
            clear hbe
            cases be with
            | true =>
              go_wp2_with (go_at_call 23; refine hcall.out.mono ?_; rintro e w3 ⟨rfl, rfl⟩)
              go_ret
              refine ⟨?_, hB.trans (hbw.mono (Nat.le_succ _))⟩
              rw [← hG.out, hr.out]
              simp
            | false =>
              go_wp2_with (go_at_call 23; refine hcall.out.mono ?_; rintro e w3 ⟨rfl, rfl⟩)
              go_ret
              refine ⟨?_, hB.trans (hbw.mono (Nat.le_succ _))⟩
              rw [← hG.out, hr.out]
              first | rfl | (simp; done) | (simp; rfl)
end Go.Proofs.YtfdkdghhdigfbaaDoor
