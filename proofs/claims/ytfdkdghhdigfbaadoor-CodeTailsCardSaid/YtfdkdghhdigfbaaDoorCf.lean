/- All of a code is read. -/
import Derived.Test.YtfdkdghhdigfbaaDoorCe
import Derived.Deep.RegionLaw
namespace Go.Proofs.YtfdkdghhdigfbaaDoor
open Go Go.RowKit
set_option maxRecDepth 100000

set_option maxHeartbeats 16000000 in
theorem all_call {B : Nat} (st : St) (br : Nat) (w : World) (h : At B w br st) : Calls Tryd.prog 12 #[.pointer (some ⟨br, 0, none⟩)] w fun e w' => ∃ vt vf vi, e = .returned (.pointer (some ⟨w.heap.size, 0, none⟩)) ∧ Going B br w w' w.heap.size #[vt, vf, vi, .int .i64 (allS st).1.main] (allS st).2 ∧ w'.ownsRow (w.heap.size + 1) 47 4 vt (allS st).1.tags.length (tCells (allS st).1.tags) ∧ w'.ownsRow (w.heap.size + 1) 50 3 vf (allS st).1.funs.length (fCells (allS st).1.funs) ∧ InsAll w' (w.heap.size + 1) vi (allS st).1.ins := by
  have hlo := h.lo
  have hsz := h.sz
  obtain ⟨bc, hbc⟩ : ∃ bc, w.heap.size = bc := ⟨_, rfl⟩
  rw [hbc]
  go_enter Tryd.func12, Tryd.ntmps12
  go_wp2_with fail
  have hG0 : Going B br w (w.alloc (Obj.cells #[.slice none 0 0, .slice none 0 0, .slice none 0 0, .int .i64 0] 45)) bc #[.slice none 0 0, .slice none 0 0, .slice none 0 0, .int .i64 0] st :=
    ⟨h.keep (by simp) fun k hk => Below.heap_alloc _ _ _ (by omega), .of ((Below.refl _ w).alloc (Nat.le_refl _) _), by rw [← hbc]; exact heap_alloc_new w _, by omega, hsz⟩
  generalize w.alloc (Obj.cells #[.slice none 0 0, .slice none 0 0, .slice none 0 0, .int .i64 0] 45) = w0 at hG0 ⊢
  go_at_call 18
  refine (count_call 262144 br st w0 hG0.at').mono ?_
  rintro e w1 ⟨rfl, hA1, hS1⟩
  have hG1 := hG0.call hA1 hS1
  clear hG0 hA1 hS1
  obtain ⟨q, hq0, hq3⟩ := countS_nat 262144 st (fun l hl => hG1.at'.len l hl)
  obtain ⟨s1, hs1⟩ : ∃ p, (countS 262144 st).2 = p := ⟨_, rfl⟩
  rw [hs1] at hG1
  rw [hq0]
  go_upto_block 0 with fail
  go_cut [4, 5] from 11 to 45 (fun _ _ wr => ∃ (vt : Value), Going B br w wr bc #[vt, .slice none 0 0, .slice none 0 0, .int .i64 0] (tagsS q s1).2 ∧ wr.ownsRow (bc + 1) 47 4 vt (tagsS q s1).1.length (tCells (tagsS q s1).1))
  case first =>
    go_wp2_with fail
    go_loopw [4, 5] (fun nv _ wr => ∃ (k : Nat) (s : St) (vs : List TagD) (vt : Value), nv = .int .i64 (k : Int) ∧ Going B br w wr bc #[vt, .slice none 0 0, .slice none 0 0, .int .i64 0] s ∧ wr.ownsRow (bc + 1) 47 4 vt vs.length (tCells vs) ∧ Veil (vs ++ (tagsS k s).1 = (tagsS q s1).1 ∧ (tagsS k s).2 = (tagsS q s1).2) ∧ vs.length + k ≤ 3000) (fun nv _ _ => (RowKit.intOf nv).toNat)
    case atStart => exact ⟨q, s1, [], .slice none 0 0, rfl, hG1, World.ownsRow_nil _ _ _ _, ⟨rfl, rfl⟩, by simpa using hq3⟩
    case round =>
      obtain ⟨k, s, vs, vt, rfl, hG, hown, hV, hle⟩ := hrel
      clear hG1
      obtain ⟨v, er, hb, hx⟩ := hG.at'.rd
      obtain ⟨r0, r1, rf⟩ := rd_cells hb
      cases k with
      | zero =>
        go_wp2
        go_meet
        case rel =>
          have h1 : vs = (tagsS q s1).1 := by rw [← hV.out.1, tags0, List.append_nil]
          have h2 : s = (tagsS q s1).2 := by rw [← hV.out.2, tags0]
          rw [← h1, ← h2]
          exact ⟨vt, hG, hown⟩
      | succ k =>
        rcases hx with ⟨l, rfl, rfl, hB⟩ | ⟨rfl, ⟨te, pe, rfl⟩, _⟩
        rotate_left
        · go_wp2
          go_meet
          case rel =>
            have h1 : vs = (tagsS q s1).1 := by rw [← hV.out.1, tags_none, List.append_nil]
            have h2 : none = (tagsS q s1).2 := by rw [← hV.out.2, tags_none]
            rw [← h1, ← h2]
            exact ⟨vt, hG, hown⟩
        · clear hB hb
          go_wp2_with fail
          go_at_call 19
          refine (in_call 1 6 br (some l) wr hG.at').mono ?_
          rintro e y1 ⟨rfl, gA1, gS1⟩
          have gG1 := hG.call gA1 gS1
          have go1 := own_stir hown (by omega) gS1
          clear hG hown gA1 gS1 r0 r1 rf
          obtain ⟨i1, hi1⟩ : ∃ p, inS 1 6 (some l) = p := ⟨_, rfl⟩
          rw [hi1] at gG1 ⊢
          have hna : vt.ownBlock ≠ some y1.heap.size := fun e => by have := (go1.lt _ e).2; omega
          have gbc : bc < y1.heap.size := (Array.getElem?_eq_some_iff.1 gG1.c).1
          have gw2 : (y1.alloc (Obj.cells #[.int .i64 i1.1, .string ⟨#[]⟩, .int .i64 0, .int .i64 0] 47)).heap[y1.heap.size]? = some (Obj.cells #[.int .i64 i1.1, .string ⟨#[]⟩, .int .i64 0, .int .i64 0] 47 (0, 0)) := heap_alloc_new y1 _
          have gG2 := gG1.alloc (Obj.cells #[.int .i64 i1.1, .string ⟨#[]⟩, .int .i64 0, .int .i64 0] 47)
          have go2 := go1.alloc (Obj.cells #[.int .i64 i1.1, .string ⟨#[]⟩, .int .i64 0, .int .i64 0] 47)
          go_wp2_with fail
          generalize y1.alloc (Obj.cells #[.int .i64 i1.1, .string ⟨#[]⟩, .int .i64 0, .int .i64 0] 47) = y2 at gw2 gG2 go2 ⊢
          generalize y1.heap.size = bv at gbc gw2 hna ⊢
          clear gG1 go1
          go_at_call 20
          refine (text_call br i1.2 y2 gG2.at').mono ?_
          rintro e y3 ⟨rfl, gA3, gS3⟩
          have gG3 := gG2.call gA3 gS3
          have go3 := own_stir go2 (by omega) gS3
          have gw3 := keep_stir gw2 (by have := gG2.lo; have := gG2.sz; omega) gS3
          clear gG2 go2 gw2 gA3 gS3
          obtain ⟨i2, hi2⟩ : ∃ p, textS i1.2 = p := ⟨_, rfl⟩
          rw [hi2] at gG3 ⊢
          obtain ⟨v0, v1, v2, v3, vf⟩ := cells4 gw3
          go_wp2_with fail
          have gG4 := gG3.put 1 gbc (.string i2.1)
          have go4 := own_put (o := 1) go3 hna (.string i2.1)
          have gw4 := (put4 gw3 (.string i2.1)).1
          generalize y3.setCell ⟨bv, 1, none⟩ (.string i2.1) = y4 at gG4 go4 gw4 ⊢
          clear gG3 go3 gw3 v0 v1 v2 v3 vf
          go_at_call 19
          refine (in_call 0 262144 br i2.2 y4 gG4.at').mono ?_
          rintro e y5 ⟨rfl, gA5, gS5⟩
          have gG5 := gG4.call gA5 gS5
          have go5 := own_stir go4 (by omega) gS5
          have gw5 := keep_stir gw4 (by have := gG4.lo; have := gG4.sz; omega) gS5
          clear gG4 go4 gw4 gA5 gS5
          obtain ⟨i3, hi3⟩ : ∃ p, inS 0 262144 i2.2 = p := ⟨_, rfl⟩
          rw [hi3] at gG5 ⊢
          go_wp2_with fail
          go_at_call 19
          refine (in_call 0 60 br i3.2 y5 gG5.at').mono ?_
          rintro e y6 ⟨rfl, gA6, gS6⟩
          have gG6 := gG5.call gA6 gS6
          have go6 := own_stir go5 (by omega) gS6
          have gw6 := keep_stir gw5 (by have := gG5.lo; have := gG5.sz; omega) gS6
          clear gG5 go5 gw5 gA6 gS6
          obtain ⟨i4, hi4⟩ : ∃ p, inS 0 60 i3.2 = p := ⟨_, rfl⟩
          rw [hi4] at gG6 ⊢
          obtain ⟨v0, v1, v2, v3, vf⟩ := cells4 gw6
          go_wp2_with fail
          have gG7 := gG6.put 2 gbc (.int .i64 i3.1)
          have go7 := own_put (o := 2) go6 hna (.int .i64 i3.1)
          have gw7 := (put4 gw6 (.int .i64 i3.1)).2.1
          generalize y6.setCell ⟨bv, 2, none⟩ (.int .i64 i3.1) = y7 at gG7 go7 gw7 ⊢
          have gG8 := gG7.put 3 gbc (.int .i64 i4.1)
          have go8 := own_put (o := 3) go7 hna (.int .i64 i4.1)
          have gw8 := (put4 gw7 (.int .i64 i4.1)).2.2
          generalize y7.setCell ⟨bv, 3, none⟩ (.int .i64 i4.1) = y8 at gG8 go8 gw8 ⊢
          clear gG6 go6 gw6 v0 v1 v2 v3 vf gG7 go7 gw7
          obtain ⟨iV, hiV, hzV, hsV, hbV⟩ := info_parts infoT
          obtain ⟨vl, vn, vc, rfl⟩ : ∃ ao n' cap, vt = .slice ao n' cap := by
            rcases go8.2 with ⟨hv, _⟩ | ⟨g, cap, cur, hv, _⟩
            · exact ⟨_, _, _, hv⟩
            · exact ⟨_, _, _, hv⟩
          obtain ⟨v0, v1, v2, v3, vf⟩ := cells4 gw8
          obtain ⟨c0, c1, c2, c3, cf⟩ := cells4 gG8.c
          have gf0 := cf 0
          have ne1 : some bc ≠ (Value.slice vl vn vc).ownBlock := fun e => by have := (go8.lt bc e.symm).1; omega
          have ne2 : some bv ≠ (Value.slice vl vn vc).ownBlock := fun e => hna e.symm
          have lbc : bc < y8.heap.size := (Array.getElem?_eq_some_iff.1 gG8.c).1
          have lbv : bv < y8.heap.size := (Array.getElem?_eq_some_iff.1 gw8).1
          have frz : ∀ o : Obj, (y8.alloc o).drew.frozen? ⟨bc, 0, none⟩ = false := fun o =>
            (World.frozen?_of_block (w := y8) (w' := (y8.alloc o).drew) (a := ⟨bc, 0, none⟩) (Lib.alloc_old y8 o bc lbc)).trans gf0
          clear cf vf c1 c2 c3
          go_wp2_with fail
          have hrow : ∀ k, (Value.slice vl vn vc).ownBlock = some k → bc < k := fun k e => (go8.lt k e).1
          go_region_law ((refine step_append_lies _ (by rfl) _ _ _ (by rfl) (bc + 1) 47 iV _ 4 40 Tryd.underlying41 hiV hzV hsV hbV rfl (by omega) (.slice vl vn vc) vs.length (tCells vs) (by rfl) (own_same (go8.alloc (Obj.cells #[.int .i64 i1.1, .string i2.1, .int .i64 i3.1, .int .i64 i4.1] 47)) rfl) ⟨y8.heap.size, 0, none⟩ 1 1 [.int .i64 i1.1, .string i2.1, .int .i64 i3.1, .int .i64 i4.1] (by rfl) (by rfl) (World.news_of_block (cs := #[.int .i64 i1.1, .string i2.1, .int .i64 i3.1, .int .i64 i4.1]) (t := 47) (fr := (0, 0)) (heap_alloc_new y8 _)) (by simp [Value.oneCell']) (by omega) (by unfold maxLen; omega) (by omega) (by simp; omega) (y8.heap.size + 1) (by simp) ?_; intro gg cap z1 hown1 hgrow hat hlt; have gG9 : Going B br w z1 bc #[.slice vl vn vc, .slice none 0 0, .slice none 0 0, .int .i64 0] i4.2 := (gG8.alloc (Obj.cells #[.int .i64 i1.1, .string i2.1, .int .i64 i3.1, .int .i64 i4.1] 47)).grown2 hgrow hrow rfl rfl rfl rfl; obtain ⟨k0, k1, k2, k3, kf⟩ := cells4 gG9.c))
          all_goals
            obtain ⟨k0, k1, k2, k3, kf⟩ := cells4 gG9.c
            go_wp2_with fail
            have hVal : Veil ((vs ++ [(⟨i1.1, i2.1, i3.1, i4.1⟩ : TagD)]) ++ (tagsS k i4.2).1 = (tagsS q s1).1 ∧ (tagsS k i4.2).2 = (tagsS q s1).2) := by
              have e1 : tagA l = i1 := hi1
              have e2 : tagB l = i2 := by unfold tagB; rw [e1]; exact hi2
              have e3 : tagC l = i3 := by unfold tagC; rw [e2]; exact hi3
              have e4 : tagE l = i4 := by unfold tagE; rw [e3]; exact hi4
              have h1 := hV.out
              rw [tags_some, e1, e2, e3, e4] at h1
              exact ⟨by rw [List.append_assoc]; exact h1.1, h1.2⟩
            have hlen : (vs ++ [(⟨i1.1, i2.1, i3.1, i4.1⟩ : TagD)]).length = vs.length + 1 := by simp
            have hcel : tCells (vs ++ [(⟨i1.1, i2.1, i3.1, i4.1⟩ : TagD)]) = tCells vs ++ [.int .i64 i1.1, .string i2.1, .int .i64 i3.1, .int .i64 i4.1] := by simp [tCells]
            refine ⟨⟨k, i4.2, vs ++ [⟨i1.1, i2.1, i3.1, i4.1⟩], .slice (some ⟨gg, 0, none⟩) (vs.length + 1) cap, rfl, gG9.putc 0 _, ?_, hVal, by rw [hlen]; omega⟩, by simp [RowKit.intOf]⟩
            rw [hlen, hcel]
            exact ownsRow_setCell_below hown1 (Nat.lt_succ_self bc) _
  case rest =>
    obtain ⟨vt, hG1, hvt1⟩ := hcut
    have d1 : all1 st = ((q : Int), s1) := by
      have h1 : (all1 st).1 = (q : Int) := hq0
      have h2 : (all1 st).2 = s1 := hs1
      rw [← h1, ← h2]
    have d2 : all2 st = tagsS q s1 := by unfold all2; rw [d1, Int.toNat_natCast]
    clear hq0 hs1 hq3
    obtain ⟨T, s2, hT⟩ : ∃ T s2, tagsS q s1 = (T, s2) := ⟨_, _, rfl⟩
    rw [hT] at hG1 hvt1 d2
    dsimp only at hG1 hvt1
    clear hT d1
    go_wp2_with fail
    go_at_call 18
    refine (count_call 262144 br s2 _ hG1.at').mono ?_
    rintro e w2 ⟨rfl, hA2, hS2⟩
    have hG2 := hG1.call hA2 hS2
    have hvt2 := own_stir hvt1 (by omega) hS2
    clear hG1 hvt1 hA2 hS2
    obtain ⟨q2, hq0, hq3⟩ := countS_nat 262144 s2 (fun l hl => hG2.at'.len l hl)
    obtain ⟨s3, hs3⟩ : ∃ p, (countS 262144 s2).2 = p := ⟨_, rfl⟩
    rw [hs3] at hG2
    rw [hq0]
    go_upto_block 2 with fail
    go_cut [6, 7] from 46 to 77 (fun _ _ wr => ∃ (vf : Value), Going B br w wr bc #[vt, vf, .slice none 0 0, .int .i64 0] (funsS q2 s3).2 ∧ wr.ownsRow (bc + 1) 47 4 vt T.length (tCells T) ∧ wr.ownsRow (bc + 1) 50 3 vf (funsS q2 s3).1.length (fCells (funsS q2 s3).1))
    case first =>
      go_wp2_with fail
      go_loopw [6, 7] (fun nv _ wr => ∃ (k : Nat) (s : St) (vs : List FunD) (vf : Value), nv = .int .i64 (k : Int) ∧ Going B br w wr bc #[vt, vf, .slice none 0 0, .int .i64 0] s ∧ wr.ownsRow (bc + 1) 47 4 vt T.length (tCells T) ∧ wr.ownsRow (bc + 1) 50 3 vf vs.length (fCells vs) ∧ Veil (vs ++ (funsS k s).1 = (funsS q2 s3).1 ∧ (funsS k s).2 = (funsS q2 s3).2) ∧ vs.length + k ≤ 3000) (fun nv _ _ => (RowKit.intOf nv).toNat)
      case atStart => exact ⟨q2, s3, [], .slice none 0 0, rfl, hG2, hvt2, World.ownsRow_nil _ _ _ _, ⟨rfl, rfl⟩, by simpa using hq3⟩
      case round =>
        obtain ⟨k, s, vs, vf, rfl, hG, hvt, hown, hV, hle⟩ := hrel
        clear hG2 hvt2
        obtain ⟨v, er, hb, hx⟩ := hG.at'.rd
        obtain ⟨r0, r1, rf⟩ := rd_cells hb
        cases k with
        | zero =>
          go_wp2
          go_meet
          case rel =>
            have h1 : vs = (funsS q2 s3).1 := by rw [← hV.out.1, funs0, List.append_nil]
            have h2 : s = (funsS q2 s3).2 := by rw [← hV.out.2, funs0]
            rw [← h1, ← h2]
            exact ⟨vf, hG, hvt, hown⟩
        | succ k =>
          rcases hx with ⟨l, rfl, rfl, hB⟩ | ⟨rfl, ⟨te, pe, rfl⟩, _⟩
          rotate_left
          · go_wp2
            go_meet
            case rel =>
              have h1 : vs = (funsS q2 s3).1 := by rw [← hV.out.1, funs_none, List.append_nil]
              have h2 : none = (funsS q2 s3).2 := by rw [← hV.out.2, funs_none]
              rw [← h1, ← h2]
              exact ⟨vf, hG, hvt, hown⟩
          · clear hB hb
            go_wp2_with fail
            go_at_call 19
            refine (in_call 0 262144 br (some l) wr hG.at').mono ?_
            rintro e y1 ⟨rfl, gA1, gS1⟩
            have gG1 := hG.call gA1 gS1
            have go1 := own_stir hown (by omega) gS1
            have gt1 := own_stir hvt (by omega) gS1
            clear hG hown hvt gA1 gS1 r0 r1 rf
            obtain ⟨i1, hi1⟩ : ∃ p, inS 0 262144 (some l) = p := ⟨_, rfl⟩
            rw [hi1] at gG1 ⊢
            have hna : vf.ownBlock ≠ some y1.heap.size := fun e => by have := (go1.lt _ e).2; omega
            have hnt : vt.ownBlock ≠ some y1.heap.size := fun e => by have := (gt1.lt _ e).2; omega
            have gbc : bc < y1.heap.size := (Array.getElem?_eq_some_iff.1 gG1.c).1
            have gw2 : (y1.alloc (Obj.cells #[.int .i64 i1.1, .int .i64 0, .int .i64 0] 50)).heap[y1.heap.size]? = some (Obj.cells #[.int .i64 i1.1, .int .i64 0, .int .i64 0] 50 (0, 0)) := heap_alloc_new y1 _
            have gG2 := gG1.alloc (Obj.cells #[.int .i64 i1.1, .int .i64 0, .int .i64 0] 50)
            have go2 := go1.alloc (Obj.cells #[.int .i64 i1.1, .int .i64 0, .int .i64 0] 50)
            have gt2 := gt1.alloc (Obj.cells #[.int .i64 i1.1, .int .i64 0, .int .i64 0] 50)
            go_wp2_with fail
            generalize y1.alloc (Obj.cells #[.int .i64 i1.1, .int .i64 0, .int .i64 0] 50) = y2 at gw2 gG2 go2 gt2 ⊢
            generalize y1.heap.size = bv at gbc gw2 hna hnt ⊢
            clear gG1 go1 gt1
            go_at_call 19
            refine (in_call 0 524288 br i1.2 y2 gG2.at').mono ?_
            rintro e y5 ⟨rfl, gA5, gS5⟩
            have gG5 := gG2.call gA5 gS5
            have go5 := own_stir go2 (by omega) gS5
            have gt5 := own_stir gt2 (by omega) gS5
            have gw5 := keep_stir gw2 (by have := gG2.lo; have := gG2.sz; omega) gS5
            clear gG2 go2 gt2 gw2 gA5 gS5
            obtain ⟨i3, hi3⟩ : ∃ p, inS 0 524288 i1.2 = p := ⟨_, rfl⟩
            rw [hi3] at gG5 ⊢
            go_wp2_with fail
            go_at_call 19
            refine (in_call 0 262144 br i3.2 y5 gG5.at').mono ?_
            rintro e y6 ⟨rfl, gA6, gS6⟩
            have gG6 := gG5.call gA6 gS6
            have go6 := own_stir go5 (by omega) gS6
            have gt6 := own_stir gt5 (by omega) gS6
            have gw6 := keep_stir gw5 (by have := gG5.lo; have := gG5.sz; omega) gS6
            clear gG5 go5 gt5 gw5 gA6 gS6
            obtain ⟨i4, hi4⟩ : ∃ p, inS 0 262144 i3.2 = p := ⟨_, rfl⟩
            rw [hi4] at gG6 ⊢
            obtain ⟨v0, v1, v2, vq⟩ := cells3 gw6
            go_wp2_with fail
            have gG7 := gG6.put 1 gbc (.int .i64 i3.1)
            have go7 := own_put (o := 1) go6 hna (.int .i64 i3.1)
            have gt7 := own_put (o := 1) gt6 hnt (.int .i64 i3.1)
            have gw7 := (put3 gw6 (.int .i64 i3.1)).1
            generalize y6.setCell ⟨bv, 1, none⟩ (.int .i64 i3.1) = y7 at gG7 go7 gt7 gw7 ⊢
            have gG8 := gG7.put 2 gbc (.int .i64 i4.1)
            have go8 := own_put (o := 2) go7 hna (.int .i64 i4.1)
            have gt8 := own_put (o := 2) gt7 hnt (.int .i64 i4.1)
            have gw8 := (put3 gw7 (.int .i64 i4.1)).2
            generalize y7.setCell ⟨bv, 2, none⟩ (.int .i64 i4.1) = y8 at gG8 go8 gt8 gw8 ⊢
            clear gG6 go6 gt6 gw6 v0 v1 v2 vq gG7 go7 gt7 gw7
            obtain ⟨iV, hiV, hzV, hsV, hbV⟩ := info_parts infoF
            obtain ⟨vl, vn, vc, rfl⟩ : ∃ ao n' cap, vf = .slice ao n' cap := by
              rcases go8.2 with ⟨hv, _⟩ | ⟨g, cap, cur, hv, _⟩
              · exact ⟨_, _, _, hv⟩
              · exact ⟨_, _, _, hv⟩
            obtain ⟨v0, v1, v2, vq⟩ := cells3 gw8
            obtain ⟨c0, c1, c2, c3, cf⟩ := cells4 gG8.c
            have lbc : bc < y8.heap.size := (Array.getElem?_eq_some_iff.1 gG8.c).1
            have lbv : bv < y8.heap.size := (Array.getElem?_eq_some_iff.1 gw8).1
            clear cf vq c0 c2 c3
            go_wp2_with fail
            have hrow : ∀ k, (Value.slice vl vn vc).ownBlock = some k → bc < k := fun k e => (go8.lt k e).1
            go_region_law ((refine step_append_lies _ (by rfl) _ _ _ (by rfl) (bc + 1) 50 iV _ 3 24 Tryd.underlying42 hiV hzV hsV hbV rfl (by omega) (.slice vl vn vc) vs.length (fCells vs) (by rfl) (own_same (go8.alloc (Obj.cells #[.int .i64 i1.1, .int .i64 i3.1, .int .i64 i4.1] 50)) rfl) ⟨y8.heap.size, 0, none⟩ 1 1 [.int .i64 i1.1, .int .i64 i3.1, .int .i64 i4.1] (by rfl) (by rfl) (World.news_of_block (cs := #[.int .i64 i1.1, .int .i64 i3.1, .int .i64 i4.1]) (t := 50) (fr := (0, 0)) (heap_alloc_new y8 _)) (by simp [Value.oneCell']) (by omega) (by unfold maxLen; omega) (by omega) (by simp; omega) (y8.heap.size + 1) (by simp) ?_; intro gg cap z1 hown1 hgrow hat hlt; have gG9 : Going B br w z1 bc #[vt, .slice vl vn vc, .slice none 0 0, .int .i64 0] i4.2 := (gG8.alloc (Obj.cells #[.int .i64 i1.1, .int .i64 i3.1, .int .i64 i4.1] 50)).grown2 hgrow hrow rfl rfl rfl rfl; have gt9 := own_grown2 (gt8.alloc (Obj.cells #[.int .i64 i1.1, .int .i64 i3.1, .int .i64 i4.1] 50)) hgrow rfl (go8.alloc (Obj.cells #[.int .i64 i1.1, .int .i64 i3.1, .int .i64 i4.1] 50)) (by decide); obtain ⟨k0, k1, k2, k3, kf⟩ := cells4 gG9.c))
            all_goals
              obtain ⟨k0, k1, k2, k3, kf⟩ := cells4 gG9.c
              go_wp2_with fail
              have hVal : Veil ((vs ++ [(⟨i1.1, i3.1, i4.1⟩ : FunD)]) ++ (funsS k i4.2).1 = (funsS q2 s3).1 ∧ (funsS k i4.2).2 = (funsS q2 s3).2) := by
                have e1 : funA l = i1 := hi1
                have e3 : funB l = i3 := by unfold funB; rw [e1]; exact hi3
                have e4 : funC l = i4 := by unfold funC; rw [e3]; exact hi4
                have h1 := hV.out
                rw [funs_some, e1, e3, e4] at h1
                exact ⟨by rw [List.append_assoc]; exact h1.1, h1.2⟩
              have hlen : (vs ++ [(⟨i1.1, i3.1, i4.1⟩ : FunD)]).length = vs.length + 1 := by simp
              have hcel : fCells (vs ++ [(⟨i1.1, i3.1, i4.1⟩ : FunD)]) = fCells vs ++ [.int .i64 i1.1, .int .i64 i3.1, .int .i64 i4.1] := by simp [fCells]
              refine ⟨⟨k, i4.2, vs ++ [⟨i1.1, i3.1, i4.1⟩], .slice (some ⟨gg, 0, none⟩) (vs.length + 1) cap, rfl, gG9.putc 1 _, ownsRow_setCell_below gt9 (Nat.lt_succ_self bc) _, ?_, hVal, by rw [hlen]; omega⟩, by simp [RowKit.intOf]⟩
              rw [hlen, hcel]
              exact ownsRow_setCell_below hown1 (Nat.lt_succ_self bc) _
    case rest =>
      obtain ⟨vf, hG1, hvt1, hvf1⟩ := hcut
      have d3 : all3 st = ((q2 : Int), s3) := by
        have h1 : (all3 st).1 = (q2 : Int) := by unfold all3; rw [d2]; exact hq0
        have h2 : (all3 st).2 = s3 := by unfold all3; rw [d2]; exact hs3
        rw [← h1, ← h2]
      have d4 : all4 st = funsS q2 s3 := by unfold all4; rw [d3, Int.toNat_natCast]
      clear hq0 hs3 hq3
      obtain ⟨F, s4, hF⟩ : ∃ T s2, funsS q2 s3 = (T, s2) := ⟨_, _, rfl⟩
      rw [hF] at hG1 hvf1 d4
      dsimp only at hG1 hvf1
      clear hF d3
      go_wp2_with fail
      go_at_call 19
      refine (in_call 0 262144 br s4 _ hG1.at').mono ?_
      rintro e w2 ⟨rfl, hA2, hS2⟩
      have hG2 := hG1.call hA2 hS2
      have hvt2 := own_stir hvt1 (by omega) hS2
      have hvf2 := own_stir hvf1 (by omega) hS2
      clear hG1 hvt1 hvf1 hA2 hS2
      obtain ⟨⟨mn, s5⟩, d5⟩ : ∃ p, inS 0 262144 s4 = p := ⟨_, rfl⟩
      rw [d5] at hG2 ⊢
      dsimp only at hG2 ⊢
      obtain ⟨c0, c1, c2, c3, cf⟩ := cells4 hG2.c
      go_wp2_with fail
      have hG3 := hG2.putc 3 (.int .i64 mn)
      have hvt3 := own_put_base (o := 3) hvt2 (Nat.lt_succ_self bc) (.int .i64 mn)
      have hvf3 := own_put_base (o := 3) hvf2 (Nat.lt_succ_self bc) (.int .i64 mn)
      generalize w2.setCell ⟨bc, 3, none⟩ (.int .i64 mn) = w3 at hG3 hvt3 hvf3 ⊢
      clear hG2 hvt2 hvf2 c0 c1 c2 c3 cf
      go_at_call 18
      refine (count_call 262144 br s5 w3 hG3.at').mono ?_
      rintro e w4 ⟨rfl, hA4, hS4⟩
      have hG4 := hG3.call hA4 hS4
      have hvt4 := own_stir hvt3 (by omega) hS4
      have hvf4 := own_stir hvf3 (by omega) hS4
      clear hG3 hvt3 hvf3 hA4 hS4
      obtain ⟨q3, hq0, hq3⟩ := countS_nat 262144 s5 (fun l hl => hG4.at'.len l hl)
      obtain ⟨s6, hs6⟩ : ∃ p, (countS 262144 s5).2 = p := ⟨_, rfl⟩
      rw [hs6] at hG4
      rw [hq0]
      go_upto_block 4 with fail
      go_cut [8] from 83 to 106 (fun _ wr => ∃ (vi : Value) (css : List (List Value)), Going B br w wr bc #[vt, vf, vi, .int .i64 mn] (allIns q3 s6).2 ∧ wr.ownsRow (bc + 1) 47 4 vt T.length (tCells T) ∧ wr.ownsRow (bc + 1) 50 3 vf F.length (fCells F) ∧ wr.ownsRow (bc + 1) 54 8 vi (allIns q3 s6).1.length css.flatten ∧ css.length = (allIns q3 s6).1.length ∧ Nest wr (bc + 1) (allIns q3 s6).1 css)
      case first =>
        go_wp2_with fail
        go_loopw [8] (fun nv wr => ∃ (k : Nat) (s : St) (vs : List InsD) (vi : Value) (css : List (List Value)), nv = .int .i64 (k : Int) ∧ Going B br w wr bc #[vt, vf, vi, .int .i64 mn] s ∧ wr.ownsRow (bc + 1) 47 4 vt T.length (tCells T) ∧ wr.ownsRow (bc + 1) 50 3 vf F.length (fCells F) ∧ wr.ownsRow (bc + 1) 54 8 vi vs.length css.flatten ∧ css.length = vs.length ∧ Nest wr (bc + 1) vs css ∧ Veil (vs ++ (allIns k s).1 = (allIns q3 s6).1 ∧ (allIns k s).2 = (allIns q3 s6).2) ∧ vs.length + k ≤ 3000) (fun nv _ => (RowKit.intOf nv).toNat)
        case atStart => exact ⟨q3, s6, [], .slice none 0 0, [], rfl, hG4, hvt4, hvf4, World.ownsRow_nil _ _ _ _, rfl, (fun i x cs h _ => by simp at h), ⟨rfl, rfl⟩, by simpa using hq3⟩
        case round =>
          obtain ⟨k, s, vs, vi, css, rfl, hG, hvt, hvf, hown, hcl, hN, hV, hle⟩ := hrel
          clear hG4 hvt4 hvf4
          obtain ⟨v, er, hb, hx⟩ := hG.at'.rd
          obtain ⟨r0, r1, rf⟩ := rd_cells hb
          cases k with
          | zero =>
            go_wp2
            go_meet
            case rel =>
              have h1 : vs = (allIns q3 s6).1 := by rw [← hV.out.1, alli0, List.append_nil]
              have h2 : s = (allIns q3 s6).2 := by rw [← hV.out.2, alli0]
              rw [← h1, ← h2]
              exact ⟨vi, css, hG, hvt, hvf, hown, hcl, hN⟩
          | succ k =>
            rcases hx with ⟨l, rfl, rfl, hB⟩ | ⟨rfl, ⟨te, pe, rfl⟩, _⟩
            rotate_left
            · go_wp2
              go_meet
              case rel =>
                have h1 : vs = (allIns q3 s6).1 := by rw [← hV.out.1, alli_none, List.append_nil]
                have h2 : none = (allIns q3 s6).2 := by rw [← hV.out.2, alli_none]
                rw [← h1, ← h2]
                exact ⟨vi, css, hG, hvt, hvf, hown, hcl, hN⟩
            · clear hB hb
              go_wp2_with fail
              obtain ⟨iV, hiV, hzV, hsV, hbV⟩ := info_parts infoI
              obtain ⟨c0, c1, c2, c3, cf⟩ := cells4 hG.c
              clear r0 r1 rf c0 c1 c3 cf
              obtain ⟨vl, vn, vc, rfl⟩ : ∃ ao n' cap, vi = .slice ao n' cap := by
                rcases hown.2 with ⟨hv, _⟩ | ⟨g, cap, cur, hv, _⟩
                · exact ⟨_, _, _, hv⟩
                · exact ⟨_, _, _, hv⟩
              have hbr : br < bc + 1 := by omega
              have hAt := hG.at'
              have hrow : ∀ k, (Value.slice vl vn vc).ownBlock = some k → bc < k := fun k e => (hown.lt k e).1
              go_region_law (first
                | (go_simp; go_at_call 21; refine (ins_call (some l) br wr.drew (at_same (w' := wr.drew) hAt rfl)).mono ?_; rintro e y1 ⟨cs, rfl, gA1, gS1, hI⟩; have gG1 := (hG.same (w' := wr.drew) rfl rfl rfl rfl).call gA1 gS1; have go1 := own_stir (own_same (w' := wr.drew) hown rfl) hbr gS1; obtain ⟨d0, d1, d2, d3, df⟩ := cells4 gG1.c; have lbc : bc < y1.heap.size := (Array.getElem?_eq_some_iff.1 gG1.c).1; have lne : ¬ bc = y1.heap.size := Nat.ne_of_lt lbc; obtain ⟨uv, ua, rfl, hI1, hI2⟩ := hI; obtain ⟨ua1, ua2, ua3, rfl⟩ := own_form hI1; obtain ⟨ub1, ub2, ub3, rfl⟩ := own_form hI2)
                | ((refine step_append_lies _ (by rfl) _ _ _ (by rfl) (bc + 1) 54 iV _ 8 104 Tryd.underlying43 hiV hzV hsV hbV rfl (by omega) (.slice vl vn vc) vs.length css.flatten (by rfl) (own_same (go1.alloc (Obj.cells #[.int .i64 (insS (some l)).1.op, .int .i64 (insS (some l)).1.dst, .int .i64 (insS (some l)).1.tag, .int .i64 (insS (some l)).1.fn, .int .i64 (insS (some l)).1.n, .string (insS (some l)).1.prim, .slice ua1 ua2 ua3, .slice ub1 ub2 ub3] 54)) rfl) ⟨y1.heap.size, 0, none⟩ 1 1 [.int .i64 (insS (some l)).1.op, .int .i64 (insS (some l)).1.dst, .int .i64 (insS (some l)).1.tag, .int .i64 (insS (some l)).1.fn, .int .i64 (insS (some l)).1.n, .string (insS (some l)).1.prim, .slice ua1 ua2 ua3, .slice ub1 ub2 ub3] (by rfl) (by rfl) (World.news_of_block (cs := #[.int .i64 (insS (some l)).1.op, .int .i64 (insS (some l)).1.dst, .int .i64 (insS (some l)).1.tag, .int .i64 (insS (some l)).1.fn, .int .i64 (insS (some l)).1.n, .string (insS (some l)).1.prim, .slice ua1 ua2 ua3, .slice ub1 ub2 ub3]) (t := 54) (fr := (0, 0)) (heap_alloc_new y1 _)) (by simp [Value.oneCell']) (by omega) (by unfold maxLen; omega) (by omega) (by simp; omega) (y1.heap.size + 1) (by simp) ?_; intro gg cap z1 hown1 hgrow hat hlt; have gG9 := (gG1.alloc (Obj.cells #[.int .i64 (insS (some l)).1.op, .int .i64 (insS (some l)).1.dst, .int .i64 (insS (some l)).1.tag, .int .i64 (insS (some l)).1.fn, .int .i64 (insS (some l)).1.n, .string (insS (some l)).1.prim, .slice ua1 ua2 ua3, .slice ub1 ub2 ub3] 54)).grown2 hgrow hrow rfl rfl rfl rfl; obtain ⟨k0, k1, k2, k3, kf⟩ := cells4 gG9.c)))
              all_goals
                obtain ⟨k0, k1, k2, k3, kf⟩ := cells4 gG9.c
                go_wp2_with fail
                have hsz2 : bc + 1 ≤ wr.heap.size := (Array.getElem?_eq_some_iff.1 hG.c).1
                have gt9 := own_grown2 ((own_stir (own_same (w' := wr.drew) hvt rfl) hbr gS1).alloc (Obj.cells #[.int .i64 (insS (some l)).1.op, .int .i64 (insS (some l)).1.dst, .int .i64 (insS (some l)).1.tag, .int .i64 (insS (some l)).1.fn, .int .i64 (insS (some l)).1.n, .string (insS (some l)).1.prim, .slice ua1 ua2 ua3, .slice ub1 ub2 ub3] 54)) hgrow rfl (go1.alloc (Obj.cells #[.int .i64 (insS (some l)).1.op, .int .i64 (insS (some l)).1.dst, .int .i64 (insS (some l)).1.tag, .int .i64 (insS (some l)).1.fn, .int .i64 (insS (some l)).1.n, .string (insS (some l)).1.prim, .slice ua1 ua2 ua3, .slice ub1 ub2 ub3] 54)) (by decide)
                have gf9 := own_grown2 ((own_stir (own_same (w' := wr.drew) hvf rfl) hbr gS1).alloc (Obj.cells #[.int .i64 (insS (some l)).1.op, .int .i64 (insS (some l)).1.dst, .int .i64 (insS (some l)).1.tag, .int .i64 (insS (some l)).1.fn, .int .i64 (insS (some l)).1.n, .string (insS (some l)).1.prim, .slice ua1 ua2 ua3, .slice ub1 ub2 ub3] 54)) hgrow rfl (go1.alloc (Obj.cells #[.int .i64 (insS (some l)).1.op, .int .i64 (insS (some l)).1.dst, .int .i64 (insS (some l)).1.tag, .int .i64 (insS (some l)).1.fn, .int .i64 (insS (some l)).1.n, .string (insS (some l)).1.prim, .slice ua1 ua2 ua3, .slice ub1 ub2 ub3] 54)) (by decide)
                have hN1 : Nest z1 (bc + 1) vs css := hN.map fun x cs h => insrep_grown2 (go1.alloc (Obj.cells #[.int .i64 (insS (some l)).1.op, .int .i64 (insS (some l)).1.dst, .int .i64 (insS (some l)).1.tag, .int .i64 (insS (some l)).1.fn, .int .i64 (insS (some l)).1.n, .string (insS (some l)).1.prim, .slice ua1 ua2 ua3, .slice ub1 ub2 ub3] 54)) (by decide) hgrow rfl (insrep_alloc (Obj.cells #[.int .i64 (insS (some l)).1.op, .int .i64 (insS (some l)).1.dst, .int .i64 (insS (some l)).1.tag, .int .i64 (insS (some l)).1.fn, .int .i64 (insS (some l)).1.n, .string (insS (some l)).1.prim, .slice ua1 ua2 ua3, .slice ub1 ub2 ub3] 54) (insrep_stir (insrep_same (w' := wr.drew) rfl h) hbr gS1))
                have hI : InsRep z1 (bc + 1) (insS (some l)).1 [.int .i64 (insS (some l)).1.op, .int .i64 (insS (some l)).1.dst, .int .i64 (insS (some l)).1.tag, .int .i64 (insS (some l)).1.fn, .int .i64 (insS (some l)).1.n, .string (insS (some l)).1.prim, .slice ua1 ua2 ua3, .slice ub1 ub2 ub3] := insrep_grown2 (go1.alloc (Obj.cells #[.int .i64 (insS (some l)).1.op, .int .i64 (insS (some l)).1.dst, .int .i64 (insS (some l)).1.tag, .int .i64 (insS (some l)).1.fn, .int .i64 (insS (some l)).1.n, .string (insS (some l)).1.prim, .slice ua1 ua2 ua3, .slice ub1 ub2 ub3] 54)) (by decide) hgrow rfl (insrep_alloc (Obj.cells #[.int .i64 (insS (some l)).1.op, .int .i64 (insS (some l)).1.dst, .int .i64 (insS (some l)).1.tag, .int .i64 (insS (some l)).1.fn, .int .i64 (insS (some l)).1.n, .string (insS (some l)).1.prim, .slice ua1 ua2 ua3, .slice ub1 ub2 ub3] 54) (insrep_base ⟨_, _, rfl, hI1, hI2⟩ hsz2))
                have hN2 := (hN1.snoc hcl hI).map fun x cs h => insrep_put (o := 2) (Nat.lt_succ_self bc) (.slice (some ⟨gg, 0, none⟩) (vs.length + 1) cap) h
                have hVal : Veil ((vs ++ [(insS (some l)).1]) ++ (allIns k (insS (some l)).2).1 = (allIns q3 s6).1 ∧ (allIns k (insS (some l)).2).2 = (allIns q3 s6).2) := by
                  have h1 := hV.out
                  rw [alli_some] at h1
                  exact ⟨by rw [List.append_assoc]; exact h1.1, h1.2⟩
                have hlen : (vs ++ [(insS (some l)).1]).length = vs.length + 1 := by simp
                have hcel : (css ++ [([.int .i64 (insS (some l)).1.op, .int .i64 (insS (some l)).1.dst, .int .i64 (insS (some l)).1.tag, .int .i64 (insS (some l)).1.fn, .int .i64 (insS (some l)).1.n, .string (insS (some l)).1.prim, .slice ua1 ua2 ua3, .slice ub1 ub2 ub3] : List Value)]).flatten = css.flatten ++ [.int .i64 (insS (some l)).1.op, .int .i64 (insS (some l)).1.dst, .int .i64 (insS (some l)).1.tag, .int .i64 (insS (some l)).1.fn, .int .i64 (insS (some l)).1.n, .string (insS (some l)).1.prim, .slice ua1 ua2 ua3, .slice ub1 ub2 ub3] := by simp
                refine ⟨⟨k, (insS (some l)).2, vs ++ [(insS (some l)).1], .slice (some ⟨gg, 0, none⟩) (vs.length + 1) cap, css ++ [[.int .i64 (insS (some l)).1.op, .int .i64 (insS (some l)).1.dst, .int .i64 (insS (some l)).1.tag, .int .i64 (insS (some l)).1.fn, .int .i64 (insS (some l)).1.n, .string (insS (some l)).1.prim, .slice ua1 ua2 ua3, .slice ub1 ub2 ub3]], rfl, gG9.putc 2 _, own_put_base gt9 (Nat.lt_succ_self bc) _, own_put_base gf9 (Nat.lt_succ_self bc) _, ?_, by simp [hcl], hN2, hVal, by rw [hlen]; omega⟩, by simp [RowKit.intOf]⟩
                rw [hlen, hcel]
                exact own_put_base hown1 (Nat.lt_succ_self bc) _
      case rest =>
        obtain ⟨vi, css, hG5, hvt5, hvf5, hvi5, hcl5, hN5⟩ := hcut
        go_wp2
        go_ret
        have e5 : all5 st = (mn, s5) := by unfold all5; rw [d4]; exact d5
        have e6 : all6 st = ((q3 : Int), s6) := by
          have h1 : (all6 st).1 = (q3 : Int) := by unfold all6; rw [e5]; exact hq0
          have h2 : (all6 st).2 = s6 := by unfold all6; rw [e5]; exact hs6
          rw [← h1, ← h2]
        have e7 : all7 st = allIns q3 s6 := by unfold all7; rw [e6, Int.toNat_natCast]
        have es : allS st = (⟨T, F, (allIns q3 s6).1, mn⟩, (allIns q3 s6).2) := by
          unfold allS
          rw [d2, d4, e5, e7]
        rw [es]
        exact ⟨vt, vf, vi, rfl, hG5, hvt5, hvf5, css, hcl5, hvi5, hN5⟩
end Go.Proofs.YtfdkdghhdigfbaaDoor
