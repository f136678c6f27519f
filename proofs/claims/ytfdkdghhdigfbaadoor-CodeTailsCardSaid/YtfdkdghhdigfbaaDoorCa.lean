/- What is read: bytes, until the first error; a number. -/
import Derived.Test.YtfdkdghhdigfbaaDoorRows
import Derived.Laws.Cover2
import Derived.Laws.Cover3
import Derived.Laws.Bits64b
import Derived.WalkKit
import Derived.Below
import Derived.Lib.Builder
import Derived.LoopTactic
import Derived.RegionTactic
import Derived.ChangeAlike
namespace Go.Proofs.YtfdkdghhdigfbaaDoor
open Go Go.RowKit
set_option maxRecDepth 100000

/-- The world has gone on: what was there is as it was, but for one block. -/
structure Stir (br : Nat) (w w' : World) : Prop where
  os : w'.os = w.os
  tape : w'.tape = w.tape
  output : w'.output = w.output
  size : w.heap.size ≤ w'.heap.size
  block : ∀ k, k < w.heap.size → k ≠ br → w'.heap[k]? = w.heap[k]?
theorem Stir.refl (br : Nat) (w : World) : Stir br w w := ⟨rfl, rfl, rfl, Nat.le_refl _, fun _ _ _ => rfl⟩
theorem Stir.trans {br : Nat} {a b c : World} (h : Stir br a b) (k : Stir br b c) : Stir br a c :=
  ⟨k.os.trans h.os, k.tape.trans h.tape, k.output.trans h.output, Nat.le_trans h.size k.size, fun i hi hb => (k.block i (Nat.lt_of_lt_of_le hi h.size) hb).trans (h.block i hi hb)⟩
theorem Stir.of {br : Nat} {a b : World} (h : Below a.heap.size a b) : Stir br a b := ⟨h.os, h.tape, h.output, h.size, fun k hk _ => h.block k hk⟩
theorem Stir.set (br o : Nat) (w : World) (v : Value) : Stir br w (w.setCell ⟨br, o, none⟩ v) := by
  refine ⟨rfl, rfl, rfl, ?_, fun k _ hb => Below.heap_setCell _ _ _ _ (fun e => hb (by simpa using e))⟩
  simp [World.setCell]

/-- What the calls ask of the package variables. -/
def Env (w : World) : Prop := 3 ≤ w.heap.size ∧ ∀ g, g < 3 → ∃ te pe, w.cell? ⟨g, 0, none⟩ = some (.iface te pe)
theorem Env.stir {br : Nat} {w w' : World} (h : Env w) (hb : 3 ≤ br) (hs : Stir br w w') : Env w' := by
  refine ⟨Nat.le_trans h.1 hs.size, fun g hg => ?_⟩
  have hk := hs.block g (by have := h.1; omega) (by omega)
  obtain ⟨te, pe, hc⟩ := h.2 g hg
  refine ⟨te, pe, ?_⟩
  unfold World.cell? at hc ⊢
  rw [hk]
  exact hc

/-- Bytes that are still to be read; none: there was an error. -/
abbrev St := Option (List UInt8)

/-- A slice of these bytes. -/
def BsAt (B : Nat) (w : World) (br : Nat) (v : Value) (l : List UInt8) : Prop :=
  ∃ g o cap : Nat, v = .slice (some ⟨g, o, none⟩) l.length cap ∧ l.length ≤ cap ∧ g ≠ br ∧ g < B ∧ ∀ j (h : j < l.length), w.cell? ⟨g, o + j, none⟩ = some (.int .u8 (l[j].toNat : Int))
theorem BsAt.keep {B : Nat} {w w' : World} {br : Nat} {v : Value} {l : List UInt8} (h : BsAt B w br v l) (hs : ∀ k, k < B → k ≠ br → w'.heap[k]? = w.heap[k]?) : BsAt B w' br v l := by
  obtain ⟨g, o, cap, h1, h2, h3, h4, h5⟩ := h
  refine ⟨g, o, cap, h1, h2, h3, h4, fun j hj => ?_⟩
  have := h5 j hj
  unfold World.cell? at this ⊢
  rw [hs g h4 h3]
  exact this
theorem BsAt.stir {B : Nat} {w w' : World} {br : Nat} {v : Value} {l : List UInt8} (h : BsAt B w br v l) (hB : B ≤ w.heap.size) (hs : Stir br w w') : BsAt B w' br v l :=
  h.keep fun k hk hb => hs.block k (Nat.lt_of_lt_of_le hk hB) hb

/-- The reader. -/
structure At (B : Nat) (w : World) (br : Nat) (st : St) : Prop where
  env : Env w
  hi : 3 ≤ br
  lo : br < B
  sz : B ≤ w.heap.size
  rd : ∃ v er, w.heap[br]? = some (.cells #[v, er] 38 (0, 0)) ∧ ((∃ l, st = some l ∧ er = .nilIface ∧ BsAt B w br v l) ∨ (st = none ∧ (∃ te pe, er = .iface te pe) ∧ ∃ l, BsAt B w br v l))
  len : ∀ l, st = some l → l.length ≤ 3000

/-- What is there below B stays. -/
theorem At.keep {B : Nat} {w w' : World} {br : Nat} {st : St} (h : At B w br st) (hz : w.heap.size ≤ w'.heap.size) (hs : ∀ k, k < B → w'.heap[k]? = w.heap[k]?) : At B w' br st := by
  obtain ⟨v, er, hb, hx⟩ := h.rd
  have hlo := h.lo
  have hhi := h.hi
  refine ⟨⟨Nat.le_trans h.env.1 hz, fun g hg => ?_⟩, h.hi, h.lo, Nat.le_trans h.sz hz, ⟨v, er, (hs br hlo).trans hb, ?_⟩, h.len⟩
  · obtain ⟨te, pe, hc⟩ := h.env.2 g hg
    refine ⟨te, pe, ?_⟩
    unfold World.cell? at hc ⊢
    rw [hs g (by omega)]
    exact hc
  · rcases hx with ⟨l, h1, h2, h3⟩ | ⟨h1, h2, l, h3⟩
    · exact .inl ⟨l, h1, h2, h3.keep fun k hk _ => hs k hk⟩
    · exact .inr ⟨h1, h2, l, h3.keep fun k hk _ => hs k hk⟩

theorem num_none {B : Nat} (br : Nat) (w : World) (h : At B w br none) : Calls Tryd.prog 25 #[.pointer (some ⟨br, 0, none⟩)] w fun e w' => e = .returned (.int .i64 0) ∧ w' = w := by
  obtain ⟨v, er, hb, hx⟩ := h.rd
  rcases hx with ⟨l, h1, _⟩ | ⟨_, ⟨te, pe, rfl⟩, _⟩
  · cases h1
  have c0 : w.cell? ⟨br, 0, none⟩ = some v := by rw [Lib.cell_of_heap hb]; rfl
  have c1 : w.cell? ⟨br, 1, none⟩ = some (.iface te pe) := by rw [Lib.cell_of_heap hb]; rfl
  go_enter Tryd.func25, Tryd.ntmps25
  go_wp2
  go_loop [3, 4] (fun x i => x = .int .u64 0 ∧ i = .int .i64 0) (fun _ _ => 0)
  case atStart => exact ⟨rfl, rfl⟩
  case round =>
    obtain ⟨rfl, rfl⟩ := hrel
    go_wp2
    go_ret
    exact ⟨rfl, rfl⟩

theorem set0 {w : World} {br : Nat} {v er : Value} (hb : w.heap[br]? = some (.cells #[v, er] 38 (0, 0))) (u : Value) : (w.setCell ⟨br, 0, none⟩ u).heap[br]? = some (.cells #[u, er] 38 (0, 0)) := by
  simp [World.setCell, Array.getElem?_modify, hb]
theorem set1 {w : World} {br : Nat} {v er : Value} (hb : w.heap[br]? = some (.cells #[v, er] 38 (0, 0))) (u : Value) : (w.setCell ⟨br, 1, none⟩ u).heap[br]? = some (.cells #[v, u] 38 (0, 0)) := by
  simp [World.setCell, Array.getElem?_modify, hb]

theorem At.err {B : Nat} {w : World} {br : Nat} {v : Value} {l : List UInt8} (hE : Env w) (hi : 3 ≤ br) (lo : br < B) (sz : B ≤ w.heap.size) (hb : w.heap[br]? = some (.cells #[v, .nilIface] 38 (0, 0))) (hv : BsAt B w br v l) (te : TypeId) (pe : Value) :
    At B (w.setCell ⟨br, 1, none⟩ (.iface te pe)) br none :=
  have hs := Stir.set br 1 w (.iface te pe)
  ⟨hE.stir hi hs, hi, lo, Nat.le_trans sz hs.size, ⟨_, _, set1 hb _, .inr ⟨rfl, ⟨te, pe, rfl⟩, l, hv.stir sz hs⟩⟩, fun _ h => by cases h⟩

theorem BsAt.tail {B : Nat} {w : World} {br g o cap : Nat} {c : UInt8} {r : List UInt8} (h1 : r.length + 1 ≤ cap) (h2 : g ≠ br) (h3 : g < B) (h4 : ∀ j (h : j < (c :: r).length), w.cell? ⟨g, o + j, none⟩ = some (.int .u8 ((c :: r)[j].toNat : Int))) :
    (cap = 1 → BsAt B w br (.slice (some ⟨g, o, none⟩) r.length 0) r) ∧ (1 < cap → BsAt B w br (.slice (some ⟨g, o + 1, none⟩) r.length (cap - 1)) r) := by
  refine ⟨fun h => ?_, fun h => ?_⟩
  · have hr : r = [] := List.length_eq_zero_iff.1 (by omega)
    subst hr
    exact ⟨g, o, 0, rfl, Nat.le_refl _, h2, h3, fun j hj => absurd hj (Nat.not_lt_zero _)⟩
  · refine ⟨g, o + 1, cap - 1, rfl, by omega, h2, h3, fun j hj => ?_⟩
    have := h4 (j + 1) (by simp; omega)
    rw [show o + 1 + j = o + (j + 1) by omega, this]
    rfl

theorem At.next {B : Nat} {w : World} {br : Nat} {v u : Value} {r : List UInt8} (hE : Env w) (hi : 3 ≤ br) (lo : br < B) (sz : B ≤ w.heap.size) (hb : w.heap[br]? = some (.cells #[v, .nilIface] 38 (0, 0))) (hu : BsAt B w br u r) (hr : r.length ≤ 3000) :
    At B (w.setCell ⟨br, 0, none⟩ u) br (some r) :=
  have hs := Stir.set br 0 w u
  ⟨hE.stir hi hs, hi, lo, Nat.le_trans sz hs.size, ⟨_, _, set0 hb _, .inl ⟨r, rfl, rfl, hu.stir sz hs⟩⟩, fun l h => by cases h; exact hr⟩

def nX (X c : Int) (i : Nat) : Int := bits .or .u64 X (IntKind.u64.wrap (IntKind.u64.wrap (bits .and .u8 c 127) * 2 ^ (7 * i)))
def nZ (X : Int) : Int := bits .xor .i64 (wrap64 (X / 2)) (wrap64 (-wrap64 (bits .and .u64 X 1)))
/-- A number, from its i-th byte on. -/
def numL : Nat → Int → List UInt8 → Option (Int × List UInt8)
  | _, _, [] => none
  | i, X, c :: r => if (i = 9 ∧ 1 < c.toNat) ∨ (0 < i ∧ c.toNat = 0) then none else if c.toNat < 128 then some (nZ (nX X c.toNat i), r) else numL (i + 1) (nX X c.toNat i) r
def numS : St → Int × St
  | none => (0, none)
  | some l => match numL 0 0 l with
    | none => (0, none)
    | some (n, r) => (n, some r)

/-- What a walk is not to look at. -/
structure Veil (p : Prop) : Prop where
  out : p

/-- What the reader's block gives a walk. -/
theorem rd_cells {w : World} {br : Nat} {v er : Value} (h : w.heap[br]? = some (.cells #[v, er] 38 (0, 0))) : w.cell? ⟨br, 0, none⟩ = some v ∧ w.cell? ⟨br, 1, none⟩ = some er ∧ ∀ j, w.frozen? ⟨br, j, none⟩ = false :=
  ⟨by rw [Lib.cell_of_heap h]; rfl, by rw [Lib.cell_of_heap h]; rfl, Lib.frozen_of_heap h⟩

/-- What a number's reading leaves. -/
def NumPost (B br : Nat) (w : World) (R : Option (Int × List UInt8)) (e : Ending) (w' : World) : Prop :=
  Stir br w w' ∧ match R with
    | none => e = .returned (.int .i64 0) ∧ At B w' br none
    | some (n, r) => e = .returned (.int .i64 n) ∧ At B w' br (some r)

theorem nX9 (X c : Int) : nX X c 9 = bits .or .u64 X (IntKind.u64.wrap (IntKind.u64.wrap (bits .and .u8 c 127) * 9223372036854775808)) := by
  unfold nX
  rw [show (2 : Int) ^ (7 * 9) = 9223372036854775808 by decide]
theorem numL_bad {i : Nat} {X : Int} {b : UInt8} {r : List UInt8} {R : Option (Int × List UInt8)} (h : numL i X (b :: r) = R) (hb : (i = 9 ∧ (1 : Int) < (b.toNat : Int)) ∨ (0 < i ∧ (b.toNat : Int) = 0)) : R = none := by
  rw [← h]
  unfold numL
  rw [if_pos (by omega)]
theorem numL_end {i : Nat} {X : Int} {b : UInt8} {r : List UInt8} {R : Option (Int × List UInt8)} (h : numL i X (b :: r) = R) (hb : ¬ ((i = 9 ∧ (1 : Int) < (b.toNat : Int)) ∨ (0 < i ∧ (b.toNat : Int) = 0))) (hc : (b.toNat : Int) < 128) : R = some (nZ (nX X b.toNat i), r) := by
  rw [← h]
  unfold numL
  rw [if_neg (by omega), if_pos (by omega)]
theorem numL_more {i : Nat} {X : Int} {b : UInt8} {r : List UInt8} {R : Option (Int × List UInt8)} (h : numL i X (b :: r) = R) (hb : ¬ ((i = 9 ∧ (1 : Int) < (b.toNat : Int)) ∨ (0 < i ∧ (b.toNat : Int) = 0))) (hc : (128 : Int) ≤ (b.toNat : Int)) : numL (i + 1) (nX X b.toNat i) r = R := by
  rw [← h]
  conv => rhs; unfold numL
  rw [if_neg (by omega), if_neg (by omega)]

set_option maxHeartbeats 2000000 in
theorem num_some {B : Nat} (br : Nat) (l : List UInt8) (w : World) (h : At B w br (some l)) :
    Calls Tryd.prog 25 #[.pointer (some ⟨br, 0, none⟩)] w (NumPost B br w (numL 0 0 l)) := by
  obtain ⟨R, hR⟩ : ∃ R, numL 0 0 l = R := ⟨_, rfl⟩
  rw [hR]
  go_enter Tryd.func25, Tryd.ntmps25
  go_wp2
  go_loopw [3, 4, 5] (fun x j _ wr => ∃ (X : Int) (i : Nat) (l' : List UInt8), x = .int .u64 X ∧ j = .int .i64 (i : Int) ∧ i ≤ 9 ∧ At B wr br (some l') ∧ Stir br w wr ∧ Veil (numL i X l' = R)) (fun _ j _ _ => 10 - (RowKit.intOf j).toNat)
  case atStart => exact ⟨0, 0, l, rfl, rfl, by decide, h, Stir.refl _ _, ⟨hR⟩⟩
  case round =>
    obtain ⟨X, i, l', rfl, rfl, hi, hA, hS, hV⟩ := hrel
    clear h hR
    have hl' := hA.len _ rfl
    obtain ⟨v, er, hb, hx⟩ := hA.rd
    rcases hx with ⟨l2, h1, rfl, hB⟩ | ⟨h1, _⟩
    rotate_left
    · cases h1
    obtain rfl := Option.some.inj h1
    obtain ⟨b0, b1, bf⟩ := rd_cells hb
    have hB2 := hB
    obtain ⟨g, o, cap, rfl, hcap, hg, hgs, hc⟩ := hB2
    have hE := hA.env
    have hbr := hA.hi
    have hlo := hA.lo
    have hsz := hA.sz
    have z1 : ¬ br = 1 := by omega
    have z2 : ¬ 1 = br := by omega
    have z3 : ¬ br = 0 := by omega
    have z4 : ¬ 0 = br := by omega
    obtain ⟨t0, p0, e0⟩ := hE.2 0 (by decide)
    obtain ⟨t1, p1, e1⟩ := hE.2 1 (by decide)
    cases l' with
    | nil =>
      clear hc
      go_wp2
      go_ret
      have hn : R = none := by rw [← hV.out]; rfl
      rw [hn]
      exact ⟨hS.trans (Stir.set br 1 wr _), rfl, hA.env.1 |> fun _ => At.err hE hbr hlo hsz hb hB t0 p0⟩
    | cons b r =>
      have d := hc 0 (by simp)
      have hT := BsAt.tail (c := b) (r := r) (by simpa using hcap) hg hgs hc
      have hlen : (b :: r).length = r.length + 1 := rfl
      have hbyte : (b.toNat : Int) ≤ 255 := by have := UInt8.toNat_lt b; omega
      have hbyte0 : 0 ≤ (b.toNat : Int) := by omega
      rw [hlen] at b0 hl' hcap
      simp only [Nat.add_zero, List.getElem_cons_zero] at d
      obtain ⟨c, hcv⟩ : ∃ c : Int, (b.toNat : Int) = c := ⟨_, rfl⟩
      have hW : Veil (((i = 9 ∧ 1 < c) ∨ (0 < i ∧ c = 0) → R = none) ∧ (¬ ((i = 9 ∧ 1 < c) ∨ (0 < i ∧ c = 0)) → c < 128 → R = some (nZ (nX X c i), r)) ∧ (¬ ((i = 9 ∧ 1 < c) ∨ (0 < i ∧ c = 0)) → 128 ≤ c → numL (i + 1) (nX X c i) r = R)) := by
        rw [← hcv]
        exact ⟨numL_bad hV.out, numL_end hV.out, numL_more hV.out⟩
      rw [hcv] at d hbyte hbyte0
      clear hcv hV hc hlen hA
      obtain ⟨u, hu, hk⟩ : ∃ u, BsAt B wr br u r ∧ ((cap = 1 ∧ u = .slice (some ⟨g, o, none⟩) r.length 0) ∨ (1 < cap ∧ u = .slice (some ⟨g, o + 1, none⟩) r.length (cap - 1))) := by
        rcases Nat.lt_or_ge 1 cap with h | h
        · exact ⟨_, hT.2 h, .inr ⟨h, rfl⟩⟩
        · exact ⟨_, hT.1 (by omega), .inl ⟨by omega, rfl⟩⟩
      clear hT hB
      have hN := At.next hE hbr hlo hsz hb hu (by omega)
      have hS1 := hS.trans (Stir.set br 0 wr u)
      have hF := At.err hN.env hbr hlo hN.sz (set0 hb u) (hu.stir hsz (Stir.set br 0 wr u)) t1 p1
      have hS2 := hS1.trans (Stir.set br 1 _ (.iface t1 p1))
      clear hu hb hE
      rcases hk with ⟨hcap1, rfl⟩ | ⟨hcap1, rfl⟩
      all_goals
      · by_cases hi9 : i = 9
        all_goals
        · go_wp2
          all_goals (try simp only [beq_iff_eq, beq_eq_false_iff_ne] at *)
          all_goals first
            | (go_ret
               have hR := hW.out.1 (by omega)
               rw [hR]
               exact ⟨hS2, rfl, hF⟩)
            | (go_ret
               have hR := hW.out.2.1 (by omega) (by omega)
               rw [hR]
               first
                 | exact ⟨hS1, rfl, hN⟩
                 | (rw [hi9, nX9]
                    exact ⟨hS1, rfl, hN⟩))
            | (exact ⟨⟨_, i + 1, r, rfl, by simp, by omega, hN, hS1, ⟨hW.out.2.2 (by omega) (by omega)⟩⟩, by simp [RowKit.intOf]; omega⟩)

/-- A number is read. -/
theorem num_call {B : Nat} (br : Nat) (st : St) (w : World) (h : At B w br st) : Calls Tryd.prog 25 #[.pointer (some ⟨br, 0, none⟩)] w fun e w' => e = .returned (.int .i64 (numS st).1) ∧ At B w' br (numS st).2 ∧ Stir br w w' := by
  cases st with
  | none => exact (num_none br w h).mono fun e w' ⟨h1, h2⟩ => by subst h2; exact ⟨h1, h, Stir.refl _ _⟩
  | some l =>
    refine (num_some br l w h).mono fun e w' ⟨h1, h2⟩ => ?_
    have e1 : numS (some l) = (match numL 0 0 l with
      | none => (0, none)
      | some (n, r) => (n, some r)) := rfl
    rw [e1]
    cases hn : numL 0 0 l with
    | none => rw [hn] at h2; exact ⟨h2.1, h2.2, h1⟩
    | some p => rw [hn] at h2; exact ⟨h2.1, h2.2, h1⟩
end Go.Proofs.YtfdkdghhdigfbaaDoor
