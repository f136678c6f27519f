/- The law FoldPrim: its answers joined; the row. -/
import Derived.Test.YtokiabfhdicfoaaPFoldPrimd
import Derived.ProofKit
import Derived.HandedShaped
import Derived.Carry
import Derived.ChangeOld
import Derived.Deep.Slices
import Derived.Deep.Fields
import Derived.ChangeSame
namespace Go.Proofs.Ytokiabfhdicfoaa.foldPrim
open Go Go.RowKit Ev Go.ChangeShapes Go.WideShapes Go.ChangeAt Go.Deep
open Go.ChangeMaps (open_string shut_string)
set_option maxRecDepth 100000

theorem laidOut : laidOutB Try.prog = true := by kernel_rfl

/-! ### The slice that came in -/

section
variable {H : Type} {enc : TypeId × Value → H} {P : Program} {w : World} {base : Nat} {spare : Nat → Bool} {held : Bool}
theorem open_slice_fields {t e : TypeId} {fs : Array Field} {fuel : Nat} {cs : List Value} {x : DataW H × List MemPlace} (ht : P.underlying t = some (.slice e)) (he : P.underlying e = some (.struct fs))
    (hone : oneCellFields P fs = true) (hC : P.cellsOf e = fs.size) (h : DataW.trod enc P w base spare held fuel t cs = some x) :
    (cs = [.slice none 0 0] ∧ x = (.nil, [])) ∨
    ∃ (a : Addr) (len cap m : Nat), cs = [.slice (some a) len cap] ∧ len ≤ cap ∧ cap ≤ maxLen ∧ m = (if spare a.block then cap else len) ∧
      ∀ i, i < m → ∃ (ys : List (DataW H × List MemPlace)) (n : Nat), ys.length = fs.size ∧
        ∀ (j : Nat) (f : Field), fs[j]? = some f → ∃ (v : Value) (y : DataW H × List MemPlace), w.cell? (a.add (i * fs.size + j)) = some v ∧ ys[j]? = some y ∧ DataW.trod enc P w base spare held n f.type [v] = some y := by
  rcases open_slice ht h with h0 | ⟨a, len, cap, m, n, D, Pl, hcs, hb, hl, hm, hmm, hx, hi⟩
  · exact .inl h0
  · refine .inr ⟨a, len, cap, m, hcs, hl, hm, hmm, fun i him => ?_⟩
    obtain ⟨cs', hc, ht'⟩ := hi i him
    rw [hC] at hc
    obtain ⟨ys, n', hn', hy, hlen, hyl, hf⟩ := DataW.trod_struct he ht'
    obtain ⟨_, hcl, hat⟩ := World.cells?_some hc
    refine ⟨ys, n', hyl, fun j f hj => ?_⟩
    obtain ⟨ho, hk⟩ := hone_of hone j f hj
    have hjl : j < fs.size := (Array.getElem?_eq_some_iff.1 hj).1
    have hcell := hat j hjl
    have hv : cs'[j]? = some (cs'[j]'(by omega)) := List.getElem?_eq_getElem (by omega)
    have h1 := hf j f hj
    rw [ho, hk] at h1
    have hone' : (cs'.drop j).take 1 = [cs'[j]'(by omega)] := by
      rw [List.drop_eq_getElem_cons (by omega)]
      rfl
    rw [hone'] at h1
    have hys : ys[j]? = some (ys[j]'(by omega)) := List.getElem?_eq_getElem (by omega)
    refine ⟨_, _, ?_, hys, h1.trans hys⟩
    rw [← Go.Deep.add_add, hcell, hv]
end

/-- What the law is told of the slice. -/
def IsSl (W : World) (a : Option Addr) (len cap : Nat) : Prop :=
  (a = none ∧ len = 0 ∧ cap = 0) ∨ ∃ x, a = some x ∧ len ≤ cap ∧ cap ≤ 9223372036854775807 ∧
    ∀ i, i < cap → ∃ (k : Int) (s : ByteArray) (n : Int), W.cell? (x.add (i * 3)) = some (.int .i64 k) ∧ W.cell? (x.add (i * 3 + 1)) = some (.string s) ∧ s.size ≤ 9223372036854775807 ∧ W.cell? (x.add (i * 3 + 2)) = some (.int .i64 n)

theorem isSl_of {H : Type} {enc : TypeId × Value → H} {W : World} {held : Bool} {a : Option Addr} {len cap : Nat} {d : DataW H} {p : List MemPlace}
    (h : DataW.Trod enc Try.prog W 0 (fun _ => true) held 22 (.slice a len cap) d p) : IsSl W a len cap := by
  obtain ⟨fuel, hf⟩ := h
  rcases open_slice_fields Try.underlying22 Try.underlying25 (by kernel_rfl) (by kernel_rfl) hf with ⟨hcs, _⟩ | ⟨x, l, c, m, hcs, hl, hm, hmm, hi⟩
  · simp [Value.cells] at hcs
    exact .inl hcs
  · simp [Value.cells] at hcs
    obtain ⟨rfl, rfl, rfl⟩ := hcs
    refine .inr ⟨x, rfl, hl, hm, fun i hic => ?_⟩
    rw [if_pos rfl] at hmm
    obtain ⟨ys, n, _, hf⟩ := hi i (by omega)
    obtain ⟨v0, y0, c0, _, t0⟩ := hf 0 _ rfl
    obtain ⟨v1, y1, c1, _, t1⟩ := hf 1 _ rfl
    obtain ⟨v2, y2, c2, _, t2⟩ := hf 2 _ rfl
    obtain ⟨k, e0, _, _⟩ := DataW.trod_int Try.underlying3 t0
    obtain ⟨s, e1, _, hs⟩ := DataW.trod_string Try.underlying9 t1
    obtain ⟨b, e2, _, _⟩ := DataW.trod_int Try.underlying2 t2
    obtain rfl := (List.cons.inj e0).1
    obtain rfl := (List.cons.inj e1).1
    obtain rfl := (List.cons.inj e2).1
    exact ⟨k, s, b, c0, c1, hs, c2⟩

theorem add_block (x : Addr) (k : Nat) : (x.add k).block = x.block := by
  unfold Addr.add; split <;> rfl
theorem add_off (x : Addr) (k : Nat) : (x.add k).off = x.off + k := by
  unfold Addr.add; split <;> simp_all
theorem add_zero (x : Addr) : x.add 0 = x := rfl

theorem row_at {W : World} {x : Addr} {C : Array Value} {et : TypeId} {fz : Nat × Nat} (hb : W.heap[x.block]? = some (.cells C et fz)) {k : Nat} {u : Value} (h : W.cell? (x.add k) = some u) : C[x.off + k]? = some u := by
  obtain ⟨_, C', et', fz', h1, h2⟩ := row_of_cell h
  rw [add_block, hb] at h1
  rw [add_off] at h2
  injection Option.some.inj h1 with e
  rw [e]
  exact h2

theorem el_ok {sy : Sy} {φ : Phi} {q : Orc} (hq : QOk sy q) (i : Nat) {C : Array Value} {o : Nat} (hz : (sy.t (i + 1)).size ≤ 9223372036854775807)
    (c0 : C[o]? = some (.int .i64 (sy.a (2 * i)))) (c1 : C[o + 1]? = some (.string (sy.t (i + 1)))) (c2 : C[o + 2]? = some (.int .i64 (sy.a (2 * i + 1)))) :
    (el i q).length = 3 ∧ ∀ (j : Nat) (v : V), (el i q)[j]? = some v → v.flat = true ∧ ∃ u, C[o + j]? = some u ∧ VR sy φ v u := by
  refine ⟨rfl, fun j v h => ?_⟩
  match j, h with
  | 0, h => obtain rfl := Option.some.inj h; exact ⟨rfl, _, c0, .x _ _ (.y _ _ (.e 0 _ q hq))⟩
  | 1, h => obtain rfl := Option.some.inj h; exact ⟨rfl, _, c1, .x _ _ (.y _ _ (.us (i + 1) 0 9223372036854775807 [] ⟨Nat.zero_le _, hz⟩ (fun x h => by cases h)))⟩
  | 2, h => obtain rfl := Option.some.inj h; exact ⟨rfl, _, c2, .x _ _ (.y _ _ (.e 0 _ q hq))⟩
  | j + 3, h => exact absurd h (by simp [el])

/-! ### The answers -/

abbrev Ans (W : World) (name : ByteArray) (a : Option Addr) (len cap : Nat) : Prop :=
  Calls Try.prog 3 #[.string name, .slice a len cap] W fun e W' => e = .returned (.bool true) ∧ Keeps (fun k => k < W.heap.size) W W'

noncomputable abbrev sU (name : ByteArray) (len : Nat) : Sy := syOf [] (fun _ => 0) (fun j => match j with | 0 => name | _ => dummy len)

theorem ul_ok {φ : Phi} (name : ByteArray) {len lo hi : Nat} (h : lo ≤ len ∧ len ≤ hi) (a : Option Addr) (cap : Nat) : VR (sU name len) φ (.x (.y (.ul 9 lo hi))) (.slice a len cap) := by
  have e : ((sU name len).t 9).size = len := dummy_size len
  have := YR.ul (sy := sU name len) (φ := φ) 9 lo hi a cap (by rw [e]; exact h)
  rw [e] at this
  exact .x _ _ (.y _ _ this)

theorem viaU {W : World} (hg : 1 ≤ W.heap.size) {name : ByteArray} {a : Option Addr} {len cap lo hi : Nat} {l : List (Nat × Nat)} {p q : Nat} (h : runU lo hi l p q = true)
    (hn : lo ≤ name.size ∧ name.size ≤ hi) (hw : ∀ x ∈ l, ¬ (name.data.toList.length = x.1 ∧ enc name.data.toList = x.2)) (hl : p ≤ len ∧ len ≤ q) : Ans W name a len cap :=
  call_trueS (sy := sU name len) (C := CC) rfl mixed (fun _ => .nil) h (rel_none hg)
    (.cons _ _ _ _ (.x _ _ (.y _ _ (.us 0 lo hi l hn hw))) (.cons _ _ _ _ (ul_ok name hl a cap) .nil))

theorem viaD {W : World} (hg : 1 ≤ W.heap.size) {name : ByteArray} {a : Option Addr} {len cap n c : Nat} {p q : Nat} (h : runD n c p q = true)
    (h1 : name.data.toList.length = n) (h2 : enc name.data.toList = c) (hl : p ≤ len ∧ len ≤ q) : Ans W name a len cap :=
  call_trueS (sy := sU name len) (C := CC) rfl mixed (fun _ => .nil) h (rel_none hg)
    (.cons _ _ _ _ (.s _ _ _ h1 h2) (.cons _ _ _ _ (ul_ok name hl a cap) .nil))

theorem viaE {W : World} (hg : 1 ≤ W.heap.size) {name : ByteArray} {x : Addr} {cap n c m : Nat} (hm : m = 1 ∨ m = 2)
    (h : ∀ (a b c' d : Int) (gr : Nat → Nat) (tx : Nat → ByteArray), ∃ q, QOk (sy a b c' d gr tx) q ∧ runE n c m q = true)
    (h1 : name.data.toList.length = n) (h2 : enc name.data.toList = c) (hmc : m ≤ cap)
    (hi : ∀ i, i < cap → ∃ (k : Int) (s : ByteArray) (n : Int), W.cell? (x.add (i * 3)) = some (.int .i64 k) ∧ W.cell? (x.add (i * 3 + 1)) = some (.string s) ∧ s.size ≤ 9223372036854775807 ∧ W.cell? (x.add (i * 3 + 2)) = some (.int .i64 n)) :
    Ans W name (some x) m cap := by
  obtain ⟨k0, s0, n0, a0, a1, z0, a2⟩ := hi 0 (by omega)
  obtain ⟨hsp, C, et, fz, hb, hc0⟩ := row_of_cell a0
  rw [add_block] at hb
  rw [show 0 * 3 = 0 from rfl, add_zero] at hsp
  have hex : x = ⟨x.block, x.off, none⟩ := by
    cases x with
    | mk b o s => cases hsp; rfl
  obtain ⟨kl, sl, nl, _, _, _, al⟩ := hi (cap - 1) (by omega)
  have hlast := (Array.getElem?_eq_some_iff.1 (row_at hb al)).1
  obtain ⟨k1, s1, n1, hz1, hrest⟩ : ∃ (k1 : Int) (s1 : ByteArray) (n1 : Int), s1.size ≤ 9223372036854775807 ∧ (m = 2 → C[x.off + (1 * 3)]? = some (.int .i64 k1) ∧ C[x.off + (1 * 3 + 1)]? = some (.string s1) ∧ C[x.off + (1 * 3 + 2)]? = some (.int .i64 n1)) := by
    rcases hm with rfl | rfl
    · exact ⟨0, s0, 0, z0, fun h => by omega⟩
    · obtain ⟨k1, s1, n1, b0, b1, z1, b2⟩ := hi 1 (by omega)
      exact ⟨k1, s1, n1, z1, fun _ => ⟨row_at hb b0, row_at hb b1, row_at hb b2⟩⟩
  have r0 := row_at hb a0
  have r1 := row_at hb a1
  have r2 := row_at hb a2
  obtain ⟨q, hq, ht⟩ := h k0 n0 k1 n1 (fun _ => 0) (fun j => match j with | 1 => s0 | _ => s1)
  have hroom : x.off + (C.size - x.off) = C.size := by omega
  have hrel := rel_row (sy := sy k0 n0 k1 n1 (fun _ => 0) (fun j => match j with | 1 => s0 | _ => s1)) (es := 3) (n := m) (t := tr m q) hg ⟨x.block, x.off, C.size - x.off⟩ hb hroom (by omega) (by show 3 * m ≤ C.size - x.off; omega) (fun i him => by
    rcases hm with rfl | rfl
    · obtain rfl : i = 0 := by omega
      have := el_ok (φ := phiA (sy k0 n0 k1 n1 (fun _ => 0) (fun j => match j with | 1 => s0 | _ => s1)) (some ⟨x.block, x.off, C.size - x.off⟩)) hq 0 (C := C) (o := x.off + 0 * 3) z0 r0 r1 r2
      exact ⟨el 0 q, rfl, this.1, fun j v hj => by
        have := this.2 j v hj
        rw [Nat.add_assoc] at this
        exact this⟩
    · match i, him with
      | 0, _ =>
        have := el_ok (φ := phiA (sy k0 n0 k1 n1 (fun _ => 0) (fun j => match j with | 1 => s0 | _ => s1)) (some ⟨x.block, x.off, C.size - x.off⟩)) hq 0 (C := C) (o := x.off + 0 * 3) z0 r0 r1 r2
        exact ⟨el 0 q, rfl, this.1, fun j v hj => by
          have := this.2 j v hj
          rw [Nat.add_assoc] at this
          exact this⟩
      | 1, _ =>
        obtain ⟨b0, b1, b2⟩ := hrest rfl
        have := el_ok (φ := phiA (sy k0 n0 k1 n1 (fun _ => 0) (fun j => match j with | 1 => s0 | _ => s1)) (some ⟨x.block, x.off, C.size - x.off⟩)) hq 1 (C := C) (o := x.off + 1 * 3) hz1 b0 b1 b2
        exact ⟨el 1 q, rfl, this.1, fun j v hj => by
          have := this.2 j v hj
          rw [Nat.add_assoc] at this
          exact this⟩
      | i + 2, h => exact absurd h (by omega))
  rw [hex]
  refine call_trueS (C := CC) rfl mixed (fun _ => .nil) ht hrel (.cons _ _ _ _ (.s _ _ _ h1 h2) (.cons _ _ _ _ (.sl 1 0 m m 3 false ⟨x.block, x.off, C.size - x.off⟩ x.off cap ?_ (.inr rfl) ?_ hmc ?_) .nil))
  · show phiA _ _ glob = _
    unfold phiA
    rw [if_neg (by omega), if_pos rfl]
  · show 0 + cap * 3 ≤ C.size - x.off
    omega
  · rw [if_neg (by decide)]; exact hmc

theorem answers {W : World} (hg : 1 ≤ W.heap.size) (name : ByteArray) (hn : name.size ≤ 9223372036854775807) (a : Option Addr) (len cap : Nat) (hl : IsSl W a len cap) : Ans W name a len cap := by
  have hlen : len ≤ 9223372036854775807 := by
    rcases hl with ⟨_, rfl, _⟩ | ⟨x, _, h1, h2, _⟩ <;> omega
  by_cases h5 : 4 < len
  · exact viaU hg uA ⟨Nat.zero_le _, hn⟩ (fun x h => by cases h) ⟨h5, hlen⟩
  by_cases h20 : 20 < name.size
  · exact viaU hg uB ⟨h20, hn⟩ (fun x h => by cases h) ⟨Nat.zero_le _, by omega⟩
  by_cases hw : ∀ x ∈ ne, ¬ (name.data.toList.length = x.1 ∧ enc name.data.toList = x.2)
  · by_cases h0 : len = 0
    · exact viaU hg uC0 ⟨Nat.zero_le _, by omega⟩ hw ⟨by omega, by omega⟩
    · exact viaU hg uC1 ⟨Nat.zero_le _, by omega⟩ hw ⟨by omega, by omega⟩
  have word : ∀ (n c m : Nat), m = 1 ∨ m = 2 → runD n c 0 (m - 1) = true → runD n c (m + 1) 4 = true → (∀ (a b c' d : Int) (gr : Nat → Nat) (tx : Nat → ByteArray), ∃ q, QOk (sy a b c' d gr tx) q ∧ runE n c m q = true) →
      name.data.toList.length = n → enc name.data.toList = c → Ans W name a len cap := fun n c m hm lo hi all h1 h2 => by
    by_cases e : len = m
    · subst e
      rcases hl with ⟨_, rfl, _⟩ | ⟨x, rfl, h3, _, h4⟩
      · omega
      · exact viaE hg hm all h1 h2 h3 h4
    · by_cases hlt : len < m
      · exact viaD hg lo h1 h2 ⟨Nat.zero_le _, by omega⟩
      · exact viaD hg hi h1 h2 ⟨by omega, by omega⟩
  obtain ⟨x, hx, h1, h2⟩ : ∃ x, x ∈ ne ∧ name.data.toList.length = x.1 ∧ enc name.data.toList = x.2 := by
    simpa [Classical.not_forall, Classical.not_imp, Classical.not_not] using hw
  simp only [ne, List.mem_cons, List.not_mem_nil, or_false] at hx
  rcases hx with rfl | rfl | rfl | rfl | rfl | rfl | rfl | rfl | rfl | rfl | rfl | rfl | rfl | rfl | rfl | rfl
  · exact word 1 43 2 (by omega) lo0 hi0 all0 h1 h2
  · exact word 1 45 2 (by omega) lo1 hi1 all1 h1 h2
  · exact word 1 42 2 (by omega) lo2 hi2 all2 h1 h2
  · exact word 3 6580598 2 (by omega) lo3 hi3 all3 h1 h2
  · exact word 3 7171940 2 (by omega) lo4 hi4 all4 h1 h2
  · exact word 1 60 2 (by omega) lo5 hi5 all5 h1 h2
  · exact word 1 61 2 (by omega) lo6 hi6 all6 h1 h2
  · exact word 2 26155 2 (by omega) lo7 hi7 all7 h1 h2
  · exact word 2 26157 2 (by omega) lo8 hi8 all8 h1 h2
  · exact word 2 26154 2 (by omega) lo9 hi9 all9 h1 h2
  · exact word 2 26159 2 (by omega) lo10 hi10 all10 h1 h2
  · exact word 2 26172 2 (by omega) lo11 hi11 all11 h1 h2
  · exact word 2 26173 2 (by omega) lo12 hi12 all12 h1 h2
  · exact word 5 439905902964 1 (by omega) lo13 hi13 all13 h1 h2
  · exact word 5 512853240933 1 (by omega) lo14 hi14 all14 h1 h2
  · exact word 3 7562609 2 (by omega) lo15 hi15 all15 h1 h2

/-! ### The row -/

theorem lifted (os : Os) (started : os.Started) (H : Type) (enc : TypeId × Value → H) :
    ReturnsInHanded {} Try.checked os 3 .any (Rows.foldPrimSpec.pre6 enc Try.prog Try.f3 Rows.foldPrimRow.domain false) (Rows.foldPrimSpec.post enc Try.prog Try.f3 false true false false) := by
  refine returnsInHanded_of_change_shaped (C := Try.checked) own started (by kernel_rfl) Try.func3
    (ChangeSpec.witness6 (enc := enc) (C := Try.checked) false ⟨#[], #[.string ByteArray.empty, .slice none 0 0], []⟩ 8 (by kernel_rfl) (by kernel_rfl) (by kernel_rfl) (by kernel_rfl)) ?_
  intro W base args ds gs before hval0 hW hcnd _ hsh _
  have hval : ∀ (j : Nat) t v, Try.f3.params[j]? = some t → args[j]? = some v → Value.okWide Try.prog W .any base t v := hval0
  have hW' := hW
  obtain ⟨p, q, hA0, hV, rfl, hfz, hnd⟩ := hW
  have hA : DataW.TrodAll enc Try.prog W 0 (fun _ => true) true Try.f3.params.toList args.toList ds p := hA0
  rw [Try.params3] at hA hval
  obtain ⟨v0, v1, d0, d1, p0, p1, rfl, rfl, rfl, h0, h1⟩ := trodAll_two hA
  obtain ⟨rfl, rfl⟩ := trodVars_none hV
  obtain ⟨name, rfl, rfl, rfl, wn⟩ := open_string Try.underlying9 (hval 0 9 v0 rfl rfl) h0
  obtain ⟨a, len, cap, rfl⟩ := okWide_slice Try.underlying22 (hval 1 22 v1 rfl rfl)
  have lt : ∀ x ∈ p1, x.block < W.heap.size := by obtain ⟨m, hm⟩ := h1; exact DataW.trod_lt m _ _ _ hm
  clear hA0 hval0
  refine (answers (big_heap hsh) name wn a len cap (isSl_of h1)).mono fun e W' ⟨he, hk⟩ => ?_
  subst he
  have bel : Below W.heap.size W W' := ⟨hk.os, hk.tape, hk.output, hk.size, hk.block⟩
  exact ⟨_, rfl, _, _, _, [], _, [], hW', trodAll_mk1 (shut_bool Try.underlying4 _), trodAll_cons_mk (shut_string Try.underlying9 wn) (trodAll_cons_mk (Below.trod laidOut (by kernel_rfl) (of_decide_eq_true (by kernel_rfl)) h1 bel lt) trodAll_mk0), rfl, bel.frame _, fun h => by cases h⟩

theorem said_holds : Rows.FoldPrimSaid :=
  OpenClaim.holds_of_wide 3 Try.f3 rfl rfl rfl rfl rfl rfl rfl ⟨rfl, rfl, rfl, rfl, rfl⟩ rfl rfl rfl rfl rfl (by kernel_rfl) Try.func3 (by kernel_rfl)
    (of_decide_eq_true (by kernel_rfl)) (by unfold Func.isWrapper; first | (rw [if_pos (by decide +kernel)]; kernel_rfl) | (rw [if_neg (by decide +kernel)]; exact ⟨rfl, rfl⟩))
    (fun os started H enc _ => lifted os started H enc)
#print axioms said_holds
end Go.Proofs.Ytokiabfhdicfoaa.foldPrim
