/- flo.Text in the evaluator: of a number that is not told, but known to have a text so long. -/
import Derived.Test.YtcecklededfccaaGreatDoorTy
namespace Go.Proofs.YtcecklededfccaaGreatDoor
open Go Go.RowKit Ev
set_option maxRecDepth 100000

/-- The numbers of a table of bytes, as they lie. -/
noncomputable def rowB (k : Nat) (l : List V) (r : List Nat) : Bool := match l, r with
  | [], [] => true
  | .i k' (.ofNat m) :: l, x :: r => ifB (Nat.beq k' k) (ifB (Nat.beq m x) (rowB k l r) false) false
  | _, _ => false

noncomputable def rowAt (k n g0 : Nat) (r : List Nat) (s : S) : Bool := match s.heap.get g0 with
  | some (.cells es m t _ _) => ifB (Nat.beq es n) (ifB (Nat.beq m 1) (match t.get 0 with
    | some l => rowB k l r
    | none => false) false) false
  | _ => false

theorem rowB_sound {sy : Sy} {φ : Phi} {k : Nat} : ∀ {l : List V} {r : List Nat} {us : List Value}, rowB k l r = true → VRs sy φ l us → us = r.map fun x : Nat => Value.int (kd k) (x : Int)
  | [], [], _, _, .nil => rfl
  | .i k' (.ofNat m) :: l, x :: r, _, h, .cons _ u _ us h1 hs => by
    have h : ifB (Nat.beq k' k) (ifB (Nat.beq m x) (rowB k l r) false) false = true := by rw [rowB] at h; exact h
    obtain ⟨e1, hb⟩ := ifB_and h
    obtain ⟨e2, ht⟩ := ifB_and hb
    have e1 := Nat.eq_of_beq_eq_true e1
    have e2 := Nat.eq_of_beq_eq_true e2
    subst e1 e2
    cases h1
    rw [rowB_sound ht hs]
    rfl
  | [], _ :: _, _, h, _ => by simp [rowB] at h
  | v :: l, [], _, h, _ => by simp [rowB] at h
  | .i k' (.negSucc m) :: l, x :: r, _, h, _ => by simp [rowB] at h
  | .b _ :: l, x :: r, _, h, _ => by simp [rowB] at h
  | .s _ _ :: l, x :: r, _, h, _ => by simp [rowB] at h
  | .p _ _ :: l, x :: r, _, h, _ => by simp [rowB] at h
  | .sl _ _ _ _ _ _ :: l, x :: r, _, h, _ => by simp [rowB] at h
  | .ag _ :: l, x :: r, _, h, _ => by simp [rowB] at h
  | .x _ :: l, x :: r, _, h, _ => by simp [rowB] at h

theorem rowAt_sound {sy : Sy} {N0 : Nat → Prop} {φ : Phi} {s : S} {w : World} {k n g0 : Nat} {r : List Nat} (hr : Rel sy N0 φ s w) (h : rowAt k n g0 r s = true) (hg : g0 < glob) (hsz : sy.gr g0 = n) :
    ∃ (cs : Array Value) (e : TypeId) (f : Nat × Nat), w.heap[g0]? = some (.cells cs e f) ∧ cs.toList = r.map fun x : Nat => Value.int (kd k) (x : Int) := by
  unfold rowAt at h
  split at h
  · rename_i es m t ro str hb
    obtain ⟨e1, h'⟩ := ifB_and h
    clear h
    obtain ⟨e2, h⟩ := ifB_and h'
    clear h'
    obtain rfl := Nat.eq_of_beq_eq_true e1
    obtain rfl := Nat.eq_of_beq_eq_true e2
    split at h
    · rename_i l hl
      obtain ⟨L, hL, hB, _⟩ := hr.cell _ _ _ _ _ _ hb
      rw [hr.gl g0 hg] at hL
      obtain rfl := Option.some.inj hL
      obtain ⟨et, he⟩ := hB.shape
      obtain ⟨l', h1, h2, h3⟩ := hB.elem 0 (by omega)
      rw [hl] at h1
      obtain rfl := Option.some.inj h1
      rw [hsz] at he
      have he : w.shape? g0 = some (et, 0 + es) := he
      unfold World.shape? at he
      split at he
      · rename_i cs e f hh
        obtain ⟨rfl, hs⟩ := Prod.mk.inj (Option.some.inj he)
        refine ⟨cs, _, f, hh, ?_⟩
        refine rowB_sound (sy := sy) (φ := φ) h (VRs.of_get (h2.trans (by rw [← Array.length_toList] at hs; simpa using hs.symm)) fun j v hj => ?_)
        obtain ⟨_, u, h4, h5⟩ := h3 j v hj
        refine ⟨u, ?_, h5⟩
        unfold World.cell? at h4
        simp only [hh, Option.isSome_none, Bool.false_eq_true, if_false] at h4
        rw [Array.getElem?_toList]
        simpa using h4
      · cases he
    · cases h
  · cases h

noncomputable def deB : List Nat := Lib.deBruijn64tab
noncomputable def pwB : List Nat := (List.range 20).map fun i => 10 ^ i

/-- 'T': the number whose text is asked; 'd': how long that is. -/
noncomputable def floOv (g2 g3 : Nat) (deL pwL : List Nat) (T : Tm) (d : Nat) (vs : List V) (s : S) : Option V := match vs with
  | [.x (.y (.e 2 t _))] => ifB (beqTm t T) (ifB (rowAt 1 64 g2 deL s) (ifB (rowAt 2 20 g3 pwL s) (some (.x (.y (.tx d)))) none) none) none
  | _ => none

theorem floOv_calls {sy : Sy} {N0 : Nat → Prop} {T : Tm} {d a : Nat} {deL pwL : List Nat} (hde : deL = Lib.deBruijn64tab) (hpw : (pwL.map fun x : Nat => (x : Int)) = Lib.pow10Tab) (hg2 : sy.gr 13 = 64) (hg3 : sy.gr 11 = 20)
    (hT : den sy T = (a : Int)) (ha : a < 18446744073709551616) (hd : (textOf a).data.toList.length = d) :
    ∀ vs v s, floOv 13 11 deL pwL T d vs s = some v → ∀ φ w (args : Array Value), Rel sy N0 φ s w → VRs sy φ vs args.toList →
      Calls Tryz.prog 235 args w fun e w' => ∃ V', e = .returned V' ∧ Ext sy N0 φ s w φ s w' ∧ VR sy φ v V' := by
  intro vs v s hf φ w args hr hva
  unfold floOv at hf
  split at hf
  · rename_i t q
    obtain ⟨l⟩ := args
    cases hva with
    | cons _ u1 _ r1 h1 hs =>
      cases hs
      cases h1 with
      | x _ _ h1 =>
        cases h1 with
        | y _ _ h1 =>
          cases h1 with
          | e _ _ _ hq =>
            obtain ⟨e1, hf⟩ := ifB_some' hf
            obtain ⟨e2, hf⟩ := ifB_some' hf
            obtain ⟨e3, hf⟩ := ifB_some' (x := some (V.x (.y (.tx d)))) hf
            obtain rfl := Option.some.inj hf
            obtain rfl := beqTm_eq e1
            obtain ⟨c2, y2, f2, b2, l2⟩ := rowAt_sound hr e2 (by decide) hg2
            obtain ⟨c3, y3, f3, b3, l3⟩ := rowAt_sound hr e3 (by decide) hg3
            have hT2 : TabAt 13 Lib.deBruijn64tab w := fun j hj => by
              have hc : c2[j]? = (c2.toList)[j]? := by simp
              have e : w.cell? ⟨13, j, none⟩ = c2[j]? := by unfold World.cell?; simp [b2]
              rw [e, hc, l2, hde, List.getElem?_map, List.getElem?_eq_getElem hj, List.getD_eq_getElem?_getD, List.getElem?_eq_getElem hj]
              rfl
            have hT3 : Lib.TabIs Tryz.prog w "internal/strconv.uint64pow10" .u64 Lib.pow10Tab := by
              unfold Lib.TabIs World.var?
              have hg : Tryz.prog.globalNamed "internal/strconv.uint64pow10" = some 11 := by kernel_rfl
              rw [hg]
              simp only [Option.bind_some, b3]
              congr 1
              apply Array.toList_inj.1
              rw [l3, ← hpw, List.map_map]
              rfl
            have hv : Value.int (kd 2) (den sy t) = .int .u64 (a : Int) := by rw [hT]; rfl
            rw [hv]
            refine (text a ha w hT2 hT3).mono fun e w' ⟨he, hb⟩ => ⟨_, he, ⟨fun _ _ h => h, fun _ _ => rfl, Nat.le_refl _, rfl, fun _ _ x h1 h2 => ⟨x, h1, h2⟩, ⟨hb.os, hb.tape, hb.output, hb.size, fun i hi => hb.block i (hr.n0 i hi)⟩, hr.kept hb.size hb.block⟩, .x _ _ (.y _ _ (.tx _ _ hd))⟩
  · cases hf
end Go.Proofs.YtcecklededfccaaGreatDoor
