/- Whether a code names only what is there: walked. -/
import Derived.Test.YtfdkdghhdigfbaaDoorCo
namespace Go.Proofs.YtfdkdghhdigfbaaDoor
open Go Go.RowKit
set_option maxRecDepth 100000

def headBad (D : CodeD) : Bool :=
  decide (D.funs.length = 0) || (decide (D.ins.length = 0) || (match D.funs[D.main.toNat]? with | none => true | some f => decide (0 < f.params)))
def toF (D : CodeD) (i : Nat) : Int := match D.funs[i + 1]? with | none => (D.ins.length : Int) | some f => f.at'
def lastEnds (D : CodeD) (T : Int) : Bool := match D.ins[(T - 1).toNat]? with | none => false | some x => endsF x.op
def badFun (D : CodeD) (i : Nat) (f : FunD) : Bool :=
  (decide (i = 0) && decide (0 < f.at')) || (decide (toF D i ≤ f.at') || (decide ((D.ins.length : Int) < toF D i) || (decide (f.regs < f.params) || (decide (f.params + toF D i - f.at' < f.regs) || !lastEnds D (toF D i)))))
def insOk (D : CodeD) (i : Nat) (f : FunD) (x : InsD) : Bool := rightInsF D x f.regs f.at' (toF D i)
def okFun (D : CodeD) (i : Nat) : Bool := match D.funs[i]? with
  | none => false
  | some f => !badFun D i f && ((D.ins.take (toF D i).toNat).drop f.at'.toNat).all (insOk D i f)
def rightF (D : CodeD) : Bool := !headBad D && (D.tags.all (rightTagF D) && (List.range D.funs.length).all (okFun D))

theorem range_false {p : Nat → Bool} {n j : Nat} (h : j < n) (hp : p j = false) : (List.range n).all p = false := by
  rw [List.all_eq_false]
  exact ⟨j, List.mem_range.2 h, by rw [hp]; decide⟩
theorem range_step {p : Nat → Bool} {j : Nat} (h0 : (List.range j).all p = true) (hp : p j = true) : (List.range (j + 1)).all p = true := by
  rw [List.range_succ, List.all_append, h0]
  simp [hp]
theorem tags_ok {D : CodeD} (h : D.tags.all (rightTagF D) = true) : TagsOk D := by
  intro t ht hk
  have h1 := List.all_eq_true.1 h t ht
  unfold rightTagF at h1
  rw [if_neg (by omega), if_neg (by omega), if_pos hk] at h1
  apply Classical.byContradiction
  intro hn
  rw [List.getElem?_eq_none (Nat.le_of_not_lt hn)] at h1
  simp at h1

set_option maxHeartbeats 16000000 in
theorem right_call (D : CodeD) (hF : FitD D) (w : World) (C bc : Nat) (vt vf vi : Value) (hc : Cells w C bc D vt vf vi) (hC : C ≤ w.heap.size) :
    Calls Tryd.prog 13 #[.pointer (some ⟨bc, 0, none⟩)] w fun e w' => e = .returned (.bool (rightF D)) ∧ Below w.heap.size w w' := by
  obtain ⟨bt, hbt⟩ : ∃ b, w.heap.size = b := ⟨_, rfl⟩
  rw [hbt] at hC ⊢
  obtain ⟨G, hG⟩ : ∃ G, rightF D = G := ⟨_, rfl⟩
  rw [hG]
  have keepC : Veil (∀ wr : World, (∀ k, k < bt → wr.heap[k]? = w.heap[k]?) → Cells wr C bc D vt vf vi) := ⟨fun wr h => hc.keep fun k hk => h k (by omega)⟩
  obtain ⟨tao, tcap, rfl, htcap, ht⟩ := hc.tags'
  obtain ⟨fao, fcap, rfl, hfcap, hf⟩ := hc.funs'
  obtain ⟨iao, icap, rfl, hicap, hi⟩ := hc.ins'
  have q0 := hc.c0
  have q1 := hc.c1
  have q2 := hc.c2
  have q3 := hc.c3
  have hlo := hc.lo
  have n1 := hF.tl
  have n2 := hF.fl
  have n3 := hF.il
  obtain ⟨main, hmain⟩ := Int.eq_ofNat_of_zero_le hF.main.1
  rw [hmain] at q3
  have hFV : Veil (FitD D) := ⟨hF⟩
  replace ht := Veil.mk ht
  replace hf := Veil.mk hf
  replace hi := Veil.mk hi
  replace hG := Veil.mk hG
  have hB0 := Below.refl bt w
  have hhead : Veil (headBad D = (decide (D.funs.length = 0) || (decide (D.ins.length = 0) || (match D.funs[main]? with | none => true | some f => decide (0 < f.params))))) := ⟨by unfold headBad; rw [hmain]; rfl⟩
  replace hmain := Veil.mk hmain
  clear hc hF
  go_enter Tryd.func13, Tryd.ntmps13
  go_upto_region 1 with fail
  go_cut [49] from 10 to 50 (fun c wr => ∃ b, c = .bool b ∧ Veil (headBad D = b) ∧ Below bt w wr)
  case first =>
    by_cases h1 : D.funs.length = 0
    · have h1' : ((D.funs.length : Int) == 0) = true := by simp [h1]
      have hb : Veil (headBad D = true) := ⟨by rw [hhead.out]; simp [h1]⟩
      clear hhead h1
      go_quiet (fail)
      go_wp2
      go_meet
      case rel => exact ⟨_, rfl, ⟨by rw [hb.out]; first | done | rfl | (simp; done) | (simp; rfl)⟩, below_drewN hB0 _⟩
    have h1' : ((D.funs.length : Int) == 0) = false := by simp; simpa using h1
    by_cases h2 : D.ins.length = 0
    · have h2' : ((D.ins.length : Int) == 0) = true := by simp [h2]
      have hb : Veil (headBad D = true) := ⟨by rw [hhead.out]; simp [h2]⟩
      clear hhead h2
      go_quiet (fail)
      go_wp2
      go_meet
      case rel => exact ⟨_, rfl, ⟨by rw [hb.out]; first | done | rfl | (simp; done) | (simp; rfl)⟩, below_drewN hB0 _⟩
    have h2' : ((D.ins.length : Int) == 0) = false := by simp; simpa using h2
    by_cases h3 : main < D.funs.length
    · obtain ⟨g, rfl, hgC, e0, e1, e2⟩ := hf.out main h3
      have h4 : (main : Int) < (D.funs.length : Int) := by omega
      have h4' : decide ((D.funs.length : Int) ≤ (main : Int)) = false := by simp; omega
      have hb : Veil (headBad D = decide (0 < D.funs[main].params)) := ⟨by rw [hhead.out]; simp [h1, h2, List.getElem?_eq_getElem h3]⟩
      generalize D.funs[main].params = pn at e0 hb
      clear hhead h1 h2
      go_quiet (fail)
      go_wp2
      go_meet
      case rel => exact ⟨_, rfl, ⟨by rw [hb.out]; first | done | rfl | (simp; done) | (simp; rfl) | (simp; intro; omega)⟩, below_drewN hB0 _⟩
    · have h4 : ¬ (main : Int) < (D.funs.length : Int) := by omega
      have h4' : decide ((D.funs.length : Int) ≤ (main : Int)) = true := by simp; omega
      have hb : Veil (headBad D = true) := ⟨by rw [hhead.out]; simp [List.getElem?_eq_none (Nat.le_of_not_lt h3)]⟩
      clear hhead h1 h2
      go_quiet (fail)
      go_wp2
      go_meet
      case rel => exact ⟨_, rfl, ⟨by rw [hb.out]; first | done | rfl | (simp; done) | (simp; rfl)⟩, below_drewN hB0 _⟩
  case rest =>
    obtain ⟨b, rfl, hb, hbw⟩ := hcut
    rename World => w1
    clear hhead hB0
    cases b with
    | true =>
      go_wp2
      go_ret
      exact ⟨by rw [← hG.out]; simp [rightF, hb.out], hbw⟩
    | false =>
      have q0' := (hbw.cell (p := ⟨bc, 0, none⟩) (show bc < bt by omega)).trans q0
      go_upto_block 0 with fail
      go_cut [4, 55] from 56 to 64 (fun _ _ wr => Below bt w wr ∧ Veil (D.tags.all (rightTagF D) = true))
      case first =>
        go_wp2_with fail
        go_loopw [4, 55] (fun _ vi wr => ∃ j : Nat, vi = .int .i64 (j : Int) ∧ j ≤ D.tags.length ∧ Veil ((D.tags.take j).all (rightTagF D) = true) ∧ Below bt w wr) (fun _ vi _ => 10000 - (RowKit.intOf vi).toNat)
        case atStart => exact ⟨0, rfl, Nat.zero_le _, ⟨rfl⟩, hbw⟩
        case round =>
          obtain ⟨j, rfl, hj, hV1, hbr⟩ := hrel
          clear hbw q0'
          by_cases hx : j < D.tags.length
          · obtain ⟨g, rfl, hgC, e0, e1, e2, e3⟩ := ht.out j hx
            have hfx := hFV.out.tags _ (List.getElem_mem hx)
            have hstep : Veil (rightTagF D D.tags[j] = true → (D.tags.take (j + 1)).all (rightTagF D) = true) := ⟨fun h => all_step hx hV1.out h⟩
            have hfail : Veil (rightTagF D D.tags[j] = false → D.tags.all (rightTagF D) = false) := ⟨fun h => all_false hx h⟩
            rw [← hbr.cell (p := ⟨g, _, none⟩) (show g < bt by omega)] at e0 e1 e2 e3
            have hcall0 : ∀ w2, bt ≤ w2.heap.size → (∀ k, k < bt → w2.heap[k]? = w.heap[k]?) → Calls Tryd.prog 22 #[.pointer (some ⟨bc, 0, none⟩), tagV D.tags[j]] w2 fun e w' => e = .returned (.bool (rightTagF D D.tags[j])) ∧ Below w2.heap.size w2 w' := fun w2 h1 h2 => rightTag_call D hFV.out D.tags[j] hfx w2 C bc _ _ _ (keepC.out w2 h2) (by omega)
            generalize D.tags[j] = tg at e0 e1 e2 e3 hfx hstep hfail hcall0
            obtain ⟨tk, tn, tf, tq⟩ := tg
            dsimp only at e0 e1 e2 e3
            have hj0 : (0 : Int) ≤ (j : Int) := by omega
            have hj1 : (j : Int) < (D.tags.length : Int) := by omega
            have hzr : bt ≤ wr.heap.size := by have := hbr.size; omega
            have hbn : Below bt w (wr.alloc (Obj.cells #[.int .i64 tk, .string tn, .int .i64 tf, .int .i64 tq] 47)) := hbr.alloc hzr _
            have hzn : (wr.alloc (Obj.cells #[.int .i64 tk, .string tn, .int .i64 tf, .int .i64 tq] 47)).heap.size = wr.heap.size + 1 := by simp
            have hcall := hcall0 (wr.alloc (Obj.cells #[.int .i64 tk, .string tn, .int .i64 tf, .int .i64 tq] 47)) (by omega) (fun k hk => hbn.block k hk)
            obtain ⟨bb, hbb⟩ : ∃ bb, rightTagF D ⟨tk, tn, tf, tq⟩ = bb := ⟨_, rfl⟩
            rw [hbb] at hcall
            replace hcall := Veil.mk hcall
            clear hcall0
            cases bb with
            | true =>
              have hgood := Veil.mk (hstep.out hbb)
              clear hbb
              go_wp2_with (go_at_call 22; refine hcall.out.mono ?_; rintro e w3 ⟨rfl, hb3⟩)
              exact ⟨⟨j + 1, by simp, by omega, hgood, hbn.trans (hb3.mono (by omega))⟩, by simp [RowKit.intOf]; omega⟩
            | false =>
              have hbad := Veil.mk (hfail.out hbb)
              clear hbb
              go_wp2_with (go_at_call 22; refine hcall.out.mono ?_; rintro e w3 ⟨rfl, hb3⟩)
              go_ret
              exact ⟨by rw [← hG.out]; simp [rightF, hbad.out], hbn.trans (hb3.mono (by omega))⟩
          · have hj2 : j = D.tags.length := by omega
            have hj3 : ¬ (j : Int) < (D.tags.length : Int) := by omega
            have e : Veil (D.tags.all (rightTagF D) = true) := ⟨by
              have := hV1.out
              rwa [hj2, List.take_length] at this⟩
            go_wp2
            go_meet
            case rel => exact ⟨hbr, e⟩
      case rest =>
        clear hbw q0'
        obtain ⟨hbw, htok⟩ := hcut
        rename World => w2
        have hTO : Veil (TagsOk D) := ⟨tags_ok htok.out⟩
        have q1' := (hbw.cell (p := ⟨bc, 1, none⟩) (show bc < bt by omega)).trans q1
        go_wp2_with fail
        go_loopw [5, 6, 7, 9, 69] (fun _ _ _ _ vi wr => ∃ j : Nat, vi = .int .i64 (j : Int) ∧ j ≤ D.funs.length ∧ Veil ((List.range j).all (okFun D) = true) ∧ Below bt w wr) (fun _ _ _ _ vi _ => 10000 - (RowKit.intOf vi).toNat)
        case atStart => exact ⟨0, rfl, Nat.zero_le _, ⟨rfl⟩, hbw⟩
        case round =>
          obtain ⟨j, rfl, hj, hV1, hbr⟩ := hrel
          clear hbw q1'
          by_cases hx : j < D.funs.length
          · obtain ⟨g, rfl, hgC, e0, e1, e2⟩ := hf.out j hx
            have hfx := hFV.out.funs _ (List.getElem_mem hx)
            have hstep : Veil (okFun D j = true → (List.range (j + 1)).all (okFun D) = true) := ⟨fun h => range_step hV1.out h⟩
            have hfail : Veil (okFun D j = false → (List.range D.funs.length).all (okFun D) = false) := ⟨fun h => range_false hx h⟩
            have hok : Veil (okFun D j = (!badFun D j D.funs[j] && ((D.ins.take (toF D j).toNat).drop D.funs[j].at'.toNat).all (insOk D j D.funs[j]))) := ⟨by unfold okFun; rw [List.getElem?_eq_getElem hx]⟩
            have hnext : Veil (∀ h : j + 1 < D.funs.length, toF D j = D.funs[j + 1].at' ∧ 0 ≤ D.funs[j + 1].at' ∧ D.funs[j + 1].at' ≤ 262144 ∧ w.cell? ⟨g, (j + 1) * 3 + 2, none⟩ = some (.int .i64 D.funs[j + 1].at')) := ⟨fun h => by
              obtain ⟨g2, hg2, _, _, _, h2⟩ := hf.out (j + 1) h
              have hh := (hFV.out.funs _ (List.getElem_mem h)).at'
              cases hg2
              exact ⟨by unfold toF; rw [List.getElem?_eq_getElem h], hh.1, hh.2, h2⟩⟩
            have hnone : Veil (¬ j + 1 < D.funs.length → toF D j = (D.ins.length : Int)) := ⟨fun h => by unfold toF; rw [List.getElem?_eq_none (Nat.le_of_not_lt h)]⟩
            rw [← hbr.cell (p := ⟨g, _, none⟩) (show g < bt by omega)] at e0 e1 e2
            generalize D.funs[j] = ff at e0 e1 e2 hfx hok
            obtain ⟨pn, rn, an⟩ := ff
            have f1 := hfx.params
            have f2 := hfx.regs
            have f3 := hfx.at'
            dsimp only at e0 e1 e2 f1 f2 f3
            have hj0 : (0 : Int) ≤ (j : Int) := by omega
            have hj1 : (j : Int) < (D.funs.length : Int) := by omega
            have hzr : bt ≤ wr.heap.size := by have := hbr.size; omega
            have hbn : Below bt w (wr.alloc (Obj.cells #[.int .i64 pn, .int .i64 rn, .int .i64 an] 50)) := hbr.alloc hzr _
            have hzn : (wr.alloc (Obj.cells #[.int .i64 pn, .int .i64 rn, .int .i64 an] 50)).heap.size = wr.heap.size + 1 := by simp
            obtain ⟨n0, n1', n2', _⟩ := cells3 (heap_alloc_new wr (Obj.cells #[.int .i64 pn, .int .i64 rn, .int .i64 an] 50))
            have q0' := (hbn.cell (p := ⟨bc, 0, none⟩) (show bc < bt by omega)).trans q0
            have q1' := (hbn.cell (p := ⟨bc, 1, none⟩) (show bc < bt by omega)).trans q1
            have q2' := (hbn.cell (p := ⟨bc, 2, none⟩) (show bc < bt by omega)).trans q2
            clear q0 q1 q2 q3
            go_upto_region 12 with fail
            clear e0 e1 e2
            generalize wr.alloc (Obj.cells #[.int .i64 pn, .int .i64 rn, .int .i64 an] 50) = w3 at hbn hzn n0 n1' n2' q0' q1' q2' ⊢
            generalize wr.heap.size = fb at hzr hzn n0 n1' n2' ⊢
            obtain ⟨T, hT⟩ : ∃ T, toF D j = T := ⟨_, rfl⟩
            have hTb : 0 ≤ T ∧ T ≤ 262144 := by
              by_cases h : j + 1 < D.funs.length
              · have := hnext.out h
                omega
              · have := hnone.out h
                omega
            go_upto_if 86 with fail
            go_cut [7] from 86 to 96 (fun v wx => v = .int .i64 T ∧ wx = w3)
            case first =>
              by_cases h : j + 1 < D.funs.length
              · obtain ⟨h1, _, _, h2⟩ := hnext.out h
                rw [hT] at h1
                rw [← hbn.cell (p := ⟨g, _, none⟩) (show g < bt by omega), ← h1] at h2
                replace h1 := Veil.mk h1
                have h3 : (j : Int) + 1 < (D.funs.length : Int) := by omega
                have h4 : (0 : Int) ≤ (j : Int) + 1 := by omega
                have h5 : ((j : Int) + 1).toNat = j + 1 := by omega
                replace hT := Veil.mk hT
                go_wp2_with fail
                go_meet
                case rel => exact ⟨rfl, rfl⟩
              · have h1 := hnone.out h
                rw [hT] at h1
                have h3 : ¬ (j : Int) + 1 < (D.funs.length : Int) := by omega
                replace h1 := Veil.mk h1
                replace hT := Veil.mk hT
                go_wp2_with fail
                go_meet
                case rel => exact ⟨by rw [h1.out], rfl⟩
            case rest =>
              obtain ⟨rfl, rfl⟩ := hcut
              rename World => w3
              replace hT := Veil.mk hT
              go_upto_region 15 with fail
              go_cut [149] from 96 to 150 (fun c wx => ∃ b, c = .bool b ∧ Veil (badFun D j ⟨pn, rn, an⟩ = b) ∧ wx = w3)
              case first =>
                have hkeep := hstep
                clear hstep hfail hok hnext hnone
                by_cases a1 : j = 0
                · have a1' : ((j : Int) == 0) = true := by simp [a1]
                  replace a1 := Veil.mk a1
                  by_cases a2 : 0 < an
                  · have hb5 : Veil (badFun D j ⟨pn, rn, an⟩ = true) := ⟨by unfold badFun; rw [hT.out]; simp [a1.out, a2]⟩
                    go_wp2_with fail
                    go_meet
                    case rel => exact ⟨_, rfl, hb5, rfl⟩
                  have a2' : decide (0 < an) = false := by simpa using a2
                  by_cases a3 : T ≤ an
                  · have hb5 : Veil (badFun D j ⟨pn, rn, an⟩ = true) := ⟨by unfold badFun; rw [hT.out]; simp [a3]⟩
                    go_wp2_with fail
                    go_meet
                    case rel => exact ⟨_, rfl, hb5, rfl⟩
                  have a3' : decide (T ≤ an) = false := by simpa using a3
                  by_cases a4 : (D.ins.length : Int) < T
                  · have hb5 : Veil (badFun D j ⟨pn, rn, an⟩ = true) := ⟨by unfold badFun; rw [hT.out]; simp [a4]⟩
                    go_wp2_with fail
                    go_meet
                    case rel => exact ⟨_, rfl, hb5, rfl⟩
                  have a4' : decide ((D.ins.length : Int) < T) = false := by simpa using a4
                  by_cases a5 : rn < pn
                  · have hb5 : Veil (badFun D j ⟨pn, rn, an⟩ = true) := ⟨by unfold badFun; rw [hT.out]; simp [a5]⟩
                    go_wp2_with fail
                    go_meet
                    case rel => exact ⟨_, rfl, hb5, rfl⟩
                  have a5' : decide (rn < pn) = false := by simpa using a5
                  by_cases a6 : pn + T - an < rn
                  · have hb5 : Veil (badFun D j ⟨pn, rn, an⟩ = true) := ⟨by unfold badFun; rw [hT.out]; simp [a6]⟩
                    go_wp2_with fail
                    go_meet
                    case rel => exact ⟨_, rfl, hb5, rfl⟩
                  have a6' : decide (pn + T - an < rn) = false := by simpa using a6
                  have hb5 : Veil (badFun D j ⟨pn, rn, an⟩ = !lastEnds D T) := ⟨by unfold badFun; rw [hT.out]; simp [a3, a4, a5, a6, a2]⟩
                  obtain ⟨q, rfl⟩ : ∃ q : Nat, T = (q : Int) + 1 := ⟨(T - 1).toNat, by omega⟩
                  have hq : q < D.ins.length := by omega
                  have hq' : (q : Int) < (D.ins.length : Int) := by omega
                  obtain ⟨gi, _, _, rfl, hgi, ⟨o0, _⟩, _⟩ := hi.out q hq
                  rw [← hbn.cell (p := ⟨gi, _, none⟩) (show gi < bt by omega)] at o0
                  have hle : lastEnds D ((q : Int) + 1) = endsF D.ins[q].op := by unfold lastEnds; rw [show (((q : Int) + 1 - 1).toNat) = q by omega, List.getElem?_eq_getElem hq]
                  rw [hle] at hb5
                  clear hle
                  generalize D.ins[q].op = lop at o0 hb5
                  have hcall := ends_call lop w3
                  obtain ⟨be, hbe⟩ : ∃ b, endsF lop = b := ⟨_, rfl⟩
                  rw [hbe] at hcall hb5
                  replace hcall := Veil.mk hcall
                  clear hbe
                  cases be with
                  | true =>
                    go_wp2_with (go_at_call 23; refine hcall.out.mono ?_; rintro e w4 ⟨rfl, hw4⟩; subst hw4)
                    go_meet
                    case rel => exact ⟨_, rfl, hb5, rfl⟩
                  | false =>
                    go_wp2_with (go_at_call 23; refine hcall.out.mono ?_; rintro e w4 ⟨rfl, hw4⟩; subst hw4)
                    go_meet
                    case rel => exact ⟨_, rfl, hb5, rfl⟩
                · have a1' : ((j : Int) == 0) = false := by simpa using a1
                  by_cases a3 : T ≤ an
                  · have hb5 : Veil (badFun D j ⟨pn, rn, an⟩ = true) := ⟨by unfold badFun; rw [hT.out]; simp [a3]⟩
                    go_wp2_with fail
                    go_meet
                    case rel => exact ⟨_, rfl, hb5, rfl⟩
                  have a3' : decide (T ≤ an) = false := by simpa using a3
                  by_cases a4 : (D.ins.length : Int) < T
                  · have hb5 : Veil (badFun D j ⟨pn, rn, an⟩ = true) := ⟨by unfold badFun; rw [hT.out]; simp [a4]⟩
                    go_wp2_with fail
                    go_meet
                    case rel => exact ⟨_, rfl, hb5, rfl⟩
                  have a4' : decide ((D.ins.length : Int) < T) = false := by simpa using a4
                  by_cases a5 : rn < pn
                  · have hb5 : Veil (badFun D j ⟨pn, rn, an⟩ = true) := ⟨by unfold badFun; rw [hT.out]; simp [a5]⟩
                    go_wp2_with fail
                    go_meet
                    case rel => exact ⟨_, rfl, hb5, rfl⟩
                  have a5' : decide (rn < pn) = false := by simpa using a5
                  by_cases a6 : pn + T - an < rn
                  · have hb5 : Veil (badFun D j ⟨pn, rn, an⟩ = true) := ⟨by unfold badFun; rw [hT.out]; simp [a6]⟩
                    go_wp2_with fail
                    go_meet
                    case rel => exact ⟨_, rfl, hb5, rfl⟩
                  have a6' : decide (pn + T - an < rn) = false := by simpa using a6
                  have hb5 : Veil (badFun D j ⟨pn, rn, an⟩ = !lastEnds D T) := ⟨by unfold badFun; rw [hT.out]; simp [a3, a4, a5, a6, a1]⟩
                  obtain ⟨q, rfl⟩ : ∃ q : Nat, T = (q : Int) + 1 := ⟨(T - 1).toNat, by omega⟩
                  have hq : q < D.ins.length := by omega
                  have hq' : (q : Int) < (D.ins.length : Int) := by omega
                  obtain ⟨gi, _, _, rfl, hgi, ⟨o0, _⟩, _⟩ := hi.out q hq
                  rw [← hbn.cell (p := ⟨gi, _, none⟩) (show gi < bt by omega)] at o0
                  have hle : lastEnds D ((q : Int) + 1) = endsF D.ins[q].op := by unfold lastEnds; rw [show (((q : Int) + 1 - 1).toNat) = q by omega, List.getElem?_eq_getElem hq]
                  rw [hle] at hb5
                  clear hle
                  generalize D.ins[q].op = lop at o0 hb5
                  have hcall := ends_call lop w3
                  obtain ⟨be, hbe⟩ : ∃ b, endsF lop = b := ⟨_, rfl⟩
                  rw [hbe] at hcall hb5
                  replace hcall := Veil.mk hcall
                  clear hbe
                  cases be with
                  | true =>
                    go_wp2_with (go_at_call 23; refine hcall.out.mono ?_; rintro e w4 ⟨rfl, hw4⟩; subst hw4)
                    go_meet
                    case rel => exact ⟨_, rfl, hb5, rfl⟩
                  | false =>
                    go_wp2_with (go_at_call 23; refine hcall.out.mono ?_; rintro e w4 ⟨rfl, hw4⟩; subst hw4)
                    go_meet
                    case rel => exact ⟨_, rfl, hb5, rfl⟩
              case rest =>
                obtain ⟨b5, rfl, hb5, rfl⟩ := hcut
                rename World => w3
                cases b5 with
                | true =>
                  have hfalse := Veil.mk (hfail.out (by rw [hok.out, hb5.out]; rfl))
                  go_wp2
                  go_ret
                  exact ⟨by rw [← hG.out]; simp [rightF, hfalse.out], hbn⟩
                | false =>
                  have hun := hb5.out
                  unfold badFun at hun
                  rw [hT.out] at hun
                  simp only [Bool.or_eq_false_iff, decide_eq_false_iff_not] at hun
                  obtain ⟨_, g1, g2, g3, _, _⟩ := hun
                  obtain ⟨p, rfl⟩ := Int.eq_ofNat_of_zero_le f3.1
                  obtain ⟨q, rfl⟩ := Int.eq_ofNat_of_zero_le hTb.1
                  have hpq : p < q := by omega
                  have hql : q ≤ D.ins.length := by omega
                  obtain ⟨L, hL⟩ : ∃ L, (D.ins.take q).drop p = L := ⟨_, rfl⟩
                  have hLl : L.length = q - p := by rw [← hL]; simp; omega
                  have hLg : ∀ k (h : k < L.length), L[k] = D.ins[p + k]'(by omega) := fun k h => by subst hL; simp
                  have hel : Veil (∀ k (h : k < L.length), FitIns L[k] ∧ ∃ g vv va, iao = some ⟨g, 0, none⟩ ∧ g < C ∧ (w.cell? ⟨g, p * 8 + k * 8, none⟩ = some (.int .i64 L[k].op) ∧ w.cell? ⟨g, p * 8 + k * 8 + 1, none⟩ = some (.int .i64 L[k].dst) ∧ w.cell? ⟨g, p * 8 + k * 8 + 2, none⟩ = some (.int .i64 L[k].tag) ∧ w.cell? ⟨g, p * 8 + k * 8 + 3, none⟩ = some (.int .i64 L[k].fn) ∧ w.cell? ⟨g, p * 8 + k * 8 + 4, none⟩ = some (.int .i64 L[k].n) ∧ w.cell? ⟨g, p * 8 + k * 8 + 5, none⟩ = some (.string L[k].prim) ∧ w.cell? ⟨g, p * 8 + k * 8 + 6, none⟩ = some vv ∧ w.cell? ⟨g, p * 8 + k * 8 + 7, none⟩ = some va) ∧ ValsAt w C vv L[k].vals ∧ AltsAt w C va L[k].alts) := ⟨fun k h => by
                    rw [hLg k h, show p * 8 + k * 8 = (p + k) * 8 by omega]
                    exact ⟨hFV.out.ins _ (List.getElem_mem _), hi.out (p + k) (by omega)⟩⟩
                  have hokL : Veil (okFun D j = L.all (insOk D j ⟨pn, rn, (p : Int)⟩)) := ⟨by rw [hok.out, hb5.out, hT.out]; simp only [Int.toNat_natCast, hL]; rfl⟩
                  have hins : ∀ x, insOk D j ⟨pn, rn, (p : Int)⟩ x = rightInsF D x rn (p : Int) (q : Int) := fun x => by unfold insOk; rw [hT.out]
                  replace hins := Veil.mk hins
                  obtain ⟨gi, vv0, va0, rfl, hgi, hjunk⟩ := hi.out p (by omega)
                  have hgi' := hgi
                  clear hjunk
                  clear hb5 hok hL hLg g3 vv0 va0 hnext hnone
                  have hpq' : (p : Int) ≤ (q : Int) := by omega
                  have hqc : (q : Int) ≤ (icap : Int) := by omega
                  have hqc' : q ≤ icap := by omega
                  have hpc : p < icap := by omega
                  go_wp2_with fail
                  go_quiet (fail)
                  have hbq : Below bt w (w3.drewN nq) := below_drewN hbn nq
                  have hfq : (w3.drewN nq).heap.size = fb + 1 := hzn
                  have n1q : (w3.drewN nq).cell? ⟨fb, 1, none⟩ = some (.int .i64 rn) := n1'
                  have n2q : (w3.drewN nq).cell? ⟨fb, 2, none⟩ = some (.int .i64 (p : Int)) := n2'
                  generalize w3.drewN nq = w4 at hbq hfq n1q n2q ⊢
                  clear hbn hzn n0 n1' n2' q0' q1' q2'
                  go_wp2_with fail
                  go_loopw [9, 159] (fun _ vi wr => ∃ k : Nat, vi = .int .i64 (k : Int) ∧ k ≤ L.length ∧ Veil ((L.take k).all (insOk D j ⟨pn, rn, (p : Int)⟩) = true) ∧ Below (fb + 1) w4 wr) (fun _ vi _ => 10000 - (RowKit.intOf vi).toNat)
                  case atStart => exact ⟨0, rfl, Nat.zero_le _, ⟨rfl⟩, Below.refl _ _⟩
                  case round =>
                    obtain ⟨k, rfl, hk, hV2, hbk⟩ := hrel
                    have hbtk : Below bt w wr := hbq.trans (hbk.mono (by omega))
                    by_cases hkx : k < L.length
                    · obtain ⟨hfk, g2, vv, va, hg2, hgC2, ⟨x0, x1, x2, x3, x4, x5, x6, x7⟩, hvv, hva⟩ := hel.out k hkx
                      cases hg2
                      have hstep2 : Veil (insOk D j ⟨pn, rn, (p : Int)⟩ L[k] = true → (L.take (k + 1)).all (insOk D j ⟨pn, rn, (p : Int)⟩) = true) := ⟨fun h => all_step hkx hV2.out h⟩
                      have hfail2 : Veil (insOk D j ⟨pn, rn, (p : Int)⟩ L[k] = false → L.all (insOk D j ⟨pn, rn, (p : Int)⟩) = false) := ⟨fun h => all_false hkx h⟩
                      rw [← hbtk.cell (p := ⟨gi, _, none⟩) (show gi < bt by omega)] at x0 x1 x2 x3 x4 x5 x6 x7
                      have hcall0 : ∀ w5, bt ≤ w5.heap.size → (∀ k, k < bt → w5.heap[k]? = w.heap[k]?) → Calls Tryd.prog 24 #[.pointer (some ⟨bc, 0, none⟩), insV L[k] vv va, .int .i64 rn, .int .i64 (p : Int), .int .i64 (q : Int)] w5 fun e w' => e = .returned (.bool (insOk D j ⟨pn, rn, (p : Int)⟩ L[k])) ∧ Below w5.heap.size w5 w' := fun w5 h1 h2 => by
                        rw [hins.out]
                        exact rightIns_call D hFV.out hTO.out L[k] hfk vv va rn (p : Int) (q : Int) (by omega) (by omega) (by omega) w5 C bc _ _ _ (keepC.out w5 h2) (by omega) (hvv.keep fun k hk => h2 k (by omega)) (hva.keep fun k hk => h2 k (by omega))
                      obtain ⟨vao, vcap, rfl, hvj⟩ := hvv
                      obtain ⟨aao, acap, rfl, haj⟩ := hva
                      clear hvj haj
                      generalize L[k] = x at hfk x0 x1 x2 x3 x4 x5 x6 x7 hstep2 hfail2 hcall0
                      clear hfk
                      obtain ⟨op, dst, tag, fn, nn, prim, vals, alts⟩ := x
                      dsimp only at x0 x1 x2 x3 x4 x5 x6 x7
                      have hk0 : (0 : Int) ≤ (k : Int) := by omega
                      have hk1 : (k : Int) < (L.length : Int) := by omega
                      have hk2 : (k : Int) < ((q - p : Nat) : Int) := by omega
                      have hk3 : (k : Int) < (q : Int) - (p : Int) := by omega
                      have hzk : fb + 1 ≤ wr.heap.size := by have := hbk.size; omega
                      have hbm : Below (fb + 1) w4 (wr.alloc (Obj.cells #[.int .i64 op, .int .i64 dst, .int .i64 tag, .int .i64 fn, .int .i64 nn, .string prim, .slice vao vals.length vcap, .slice aao alts.length acap] 54)) := hbk.alloc hzk _
                      have hzm : (wr.alloc (Obj.cells #[.int .i64 op, .int .i64 dst, .int .i64 tag, .int .i64 fn, .int .i64 nn, .string prim, .slice vao vals.length vcap, .slice aao alts.length acap] 54)).heap.size = wr.heap.size + 1 := by simp
                      have hbtm : Below bt w (wr.alloc (Obj.cells #[.int .i64 op, .int .i64 dst, .int .i64 tag, .int .i64 fn, .int .i64 nn, .string prim, .slice vao vals.length vcap, .slice aao alts.length acap] 54)) := hbq.trans (hbm.mono (by omega))
                      have n1k := (hbm.cell (p := ⟨fb, 1, none⟩) (Nat.lt_succ_self _)).trans n1q
                      have n2k := (hbm.cell (p := ⟨fb, 2, none⟩) (Nat.lt_succ_self _)).trans n2q
                      obtain ⟨y0, y1, y2, y3, y4, y5, y6, y7, _⟩ := ins_cells (heap_alloc_new wr (Obj.cells #[.int .i64 op, .int .i64 dst, .int .i64 tag, .int .i64 fn, .int .i64 nn, .string prim, .slice vao vals.length vcap, .slice aao alts.length acap] 54))
                      have hcall := hcall0 (wr.alloc (Obj.cells #[.int .i64 op, .int .i64 dst, .int .i64 tag, .int .i64 fn, .int .i64 nn, .string prim, .slice vao vals.length vcap, .slice aao alts.length acap] 54)) (by omega) (fun k hk => hbtm.block k hk)
                      obtain ⟨bb, hbb⟩ : ∃ bb, insOk D j ⟨pn, rn, (p : Int)⟩ ⟨op, dst, tag, fn, nn, prim, vals, alts⟩ = bb := ⟨_, rfl⟩
                      rw [hbb] at hcall
                      replace hcall := Veil.mk hcall
                      clear hcall0
                      cases bb with
                      | true =>
                        have hgood := Veil.mk (hstep2.out hbb)
                        clear hbb
                        go_wp2_with (go_at_call 24; refine hcall.out.mono ?_; rintro e w6 ⟨rfl, hb6⟩)
                        exact ⟨⟨k + 1, by simp, by omega, hgood, hbm.trans (hb6.mono (by omega))⟩, by simp [RowKit.intOf]; omega⟩
                      | false =>
                        have hfalse := Veil.mk (hfail.out (by rw [hokL.out]; exact hfail2.out hbb))
                        clear hbb
                        go_wp2_with (go_at_call 24; refine hcall.out.mono ?_; rintro e w6 ⟨rfl, hb6⟩)
                        go_ret
                        exact ⟨by rw [← hG.out]; simp [rightF, hfalse.out], hbtm.trans (hb6.mono (by omega))⟩
                    · have hk2 : k = L.length := by omega
                      have e : Veil (okFun D j = true) := ⟨by rw [hokL.out]; have := hV2.out; rwa [hk2, List.take_length] at this⟩
                      have e2 := Veil.mk (hstep.out e.out)
                      have hk3 : ¬ (k : Int) < (q : Int) - (p : Int) := by omega
                      have hk4 : ¬ (k : Int) < ((q - p : Nat) : Int) := by omega
                      go_wp2
                      exact ⟨⟨j + 1, by simp, by omega, e2, hbtk⟩, by simp [RowKit.intOf]; omega⟩
          · have hj2 : j = D.funs.length := by omega
            have hj3 : ¬ (j : Int) < (D.funs.length : Int) := by omega
            have e : Veil ((List.range D.funs.length).all (okFun D) = true) := ⟨by rw [← hj2]; exact hV1.out⟩
            go_wp2
            go_ret
            exact ⟨by rw [← hG.out]; simp only [rightF, hb.out, htok.out, e.out]; rfl, hbr⟩
end Go.Proofs.YtfdkdghhdigfbaaDoor
