/- THE LAW CodeTails: whatever the bytes, and the number, it answers true, and leaves what was there. The package variables that it lists lie as the text of the program lays them. -/
import Derived.Test.YtfdkdghhdigfbaaDoorCv
import Derived.Test.YtfdkdghhdigfbaaDoorK
import Derived.Carry
import Derived.Test.YtfdkdghhdigfbaaDoorCards
import Derived.Test.YtfdkdghhdigfbaaDoorTie
import Derived.LaidMore
import Derived.OpenShut
import Derived.Stop.Joined
import Derived.SevenTiedAt
import Derived.ChangeMaps5
import Derived.Lib.SlBytesRowKit
namespace Go.Proofs.YtfdkdghhdigfbaaDoor.codeTails
open Go Go.RowKit Ev
set_option maxRecDepth 1000000
open Go.ChangeShapes Go.WideShapes Go.ChangeAt Go.WideMaps Go.WideElems
def its : List Ev.Item := [.sent 0 [105, 116, 32, 101, 110, 100, 115, 32, 116, 111, 111, 32, 101, 97, 114, 108, 121], .sent 1 [110, 111, 116, 32, 97, 115, 32, 105, 116, 32, 104, 97, 115, 32, 116, 111, 32, 98, 101], .sent 2 [97, 32, 110, 117, 109, 98, 101, 114, 32, 111, 117, 116, 32, 111, 102, 32, 105, 116, 115, 32, 114, 97, 110, 103, 101]]

theorem sent_cell {W : World} {g : Nat} {text : List UInt8} {m : List (Nat × Nat)} (h : ItemOk W 77 (.sent g text) m) : ∃ te pe, W.cell? ⟨g, 0, none⟩ = some (.iface te pe) := by
  obtain ⟨b, off, s, C, C2, et, et2, h1, h2, _⟩ := h
  subst h2
  exact ⟨77, .pointer (some ⟨b, off, none⟩), by unfold World.cell?; simp [h1]⟩
theorem its_ok {W : World} (hL : laidMet Tryd.prog Rows.codeTailsRow.laid W) : ∃ ms, AllOk W 77 its ms ∧ ms.flatten.Nodup :=
  laid_all (tp := 77) (its := its) hL ⟨sentFn (n := "gristmill/api.ErrEnd") (by kernel_rfl) (by kernel_rfl), sentFn (n := "gristmill/api.ErrShape") (by kernel_rfl) (by kernel_rfl), sentFn (n := "gristmill/api.ErrRange") (by kernel_rfl) (by kernel_rfl), trivial⟩
theorem env_of {W : World} (hL : laidMet Tryd.prog Rows.codeTailsRow.laid W) (hS : W.ShapedOpen Tryd.prog) : Env W := by
  obtain ⟨ms, hok, _⟩ := its_ok hL
  obtain ⟨_, _, h0⟩ := allOk_get hok 0 _ rfl
  obtain ⟨_, _, h1⟩ := allOk_get hok 1 _ rfl
  obtain ⟨_, _, h2⟩ := allOk_get hok 2 _ rfl
  refine ⟨big_heap hS, fun g hg => ?_⟩
  rcases g with _ | _ | _ | g
  · exact sent_cell h0
  · exact sent_cell h1
  · exact sent_cell h2
  · omega

theorem laidOut : laidOutB Tryd.prog = true := by kernel_rfl
/-- An argument of bytes, opened. -/
theorem arg_of {H : Type} {enc : TypeId × Value → H} {W : World} {a0 : Option Addr} {len cap : Nat} {d0 : DataW H} {p : List MemPlace} (h0 : DataW.Trod enc Tryd.prog W 0 (fun _ => true) true 22 (.slice a0 len cap) d0 p) :
    ∃ l : List UInt8, l.length = len ∧ ArgB W.heap.size W (.slice a0 len cap) l ∧ (a0 = none → cap = 0) := by
  obtain ⟨xs, hx, hc, hb, _, hr, hnone⟩ := Go.RowKit.opened_bytes Tryd.underlying22 Tryd.underlying5 (by kernel_rfl) h0
  refine ⟨xs.map fun x => UInt8.ofNat x.toNat, by simp [hx], ⟨a0, cap, by simp [hx], by simp [hx]; exact hc, fun hn => ?_⟩, hnone⟩
  obtain ⟨g, o, e, h1⟩ := hb (by
    rw [← hx]
    apply Nat.pos_of_ne_zero
    intro h
    have := List.length_eq_zero_iff.1 h
    subst this
    exact hn rfl)
  have hlen : 0 < len := by
    rw [← hx]
    apply Nat.pos_of_ne_zero
    intro h
    have := List.length_eq_zero_iff.1 h
    subst this
    exact hn rfl
  have hg : g < W.heap.size := by
    have h2 := h1 0 hlen
    unfold World.cell? at h2
    cases h3 : W.heap[g]? with
    | none => rw [h3] at h2; simp at h2
    | some b => exact (Array.getElem?_eq_some_iff.1 h3).1
  refine ⟨g, o, e, hg, fun j hj => ?_⟩
  have hj' : j < xs.length := by simpa using hj
  rw [h1 j (by omega), List.getD_eq_getElem?_getD, List.getElem?_eq_getElem hj']
  have hrj := hr _ (List.getElem_mem hj')
  simp only [Option.getD_some, List.getElem_map, UInt8.toNat_ofNat']
  rw [show (2 : Nat) ^ 8 = 256 from rfl]
  congr 2
  omega

theorem door_met (os : Os) (args : Array Value) : laidMetH Tryd.prog Rows.codeTailsRow.laid ((World.doorLaid Tryd.prog 1000 os).forCall (fun _ _ => 0) ⟨#[], args, []⟩).memory :=
  laidMetH_of_parts3 (fuel := 8) (laidMet_of_run' 8 (by kernel_rfl) (by kernel_rfl)) (by kernel_rfl) (by kernel_rfl)
theorem lifted (os : Os) (started : os.Started) (H : Type) (enc : TypeId × Value → H) :
    ReturnsInHanded {} Tryd.checked os 3 .any (fun w args => (Rows.codeTailsSpec.pre enc Tryd.prog Tryd.f3 [] false w args ∧ laidMetH Tryd.prog Rows.codeTailsRow.laid w) ∧ sizedMet enc Tryd.prog Tryd.f3 (OpenSpec.ofChange Rows.codeTailsSpec) false w args)
      (Rows.codeTailsSpec.post enc Tryd.prog Tryd.f3 false true false false) := by
  refine lift_shaped (C := Tryd.checked) (X := fun w _ => laidMetH Tryd.prog Rows.codeTailsRow.laid w) (fun _ _ _ hh h => h.of_heap hh) own started (by kernel_rfl) Tryd.func3
    (ChangeSpec.witness_shaped (enc := enc) (C := Tryd.checked) (os := os) (X := fun w _ => laidMetH Tryd.prog Rows.codeTailsRow.laid w) false (World.doorLaid Tryd.prog 1000 os) #[.slice none 0 0, .slice none 0 0, .int .i64 0] 8 rfl (World.shaped_of_RefB (by kernel_rfl) (by kernel_rfl)) (by kernel_rfl) (by kernel_rfl) (by kernel_rfl) (door_met os _)) ?_
  intro W base args ds gs before hval0 hW _ _ hL hS
  rw [MakeChecks.laidMetH_plain _ _ _ (by kernel_rfl)] at hL
  have hval : ∀ (j : Nat) t v, Tryd.f3.params[j]? = some t → args[j]? = some v → Value.okWide Tryd.prog W .any base t v := hval0
  have hW' := hW
  obtain ⟨p, q, hA0, hV, rfl, hfz, hnd⟩ := hW
  have hA : DataW.TrodAll enc Tryd.prog W 0 (fun _ => true) true Tryd.f3.params.toList args.toList ds p := hA0
  rw [Tryd.params3] at hA hval
  obtain ⟨v0, v1, v2, d0, d1, d2, p0, p1, p2, rfl, rfl, rfl, h0, h1, h2⟩ := trodAll_three hA
  obtain ⟨rfl, rfl⟩ := trodVars_none hV
  obtain ⟨a, len, cap, rfl⟩ := okWide_slice Tryd.underlying22 (hval 0 22 v0 rfl rfl)
  obtain ⟨b, blen, bcap, rfl⟩ := okWide_slice Tryd.underlying22 (hval 1 22 v1 rfl rfl)
  obtain ⟨n, rfl, rfl, rfl, wn⟩ := open_int Tryd.underlying3 (hval 2 3 v2 rfl rfl) h2
  have lt0 : ∀ x ∈ p0, x.block < W.heap.size := by obtain ⟨m, hm⟩ := h0; exact DataW.trod_lt m _ _ _ hm
  have lt1 : ∀ x ∈ p1, x.block < W.heap.size := by obtain ⟨m, hm⟩ := h1; exact DataW.trod_lt m _ _ _ hm
  clear hA0 hval0
  obtain ⟨l, hlen, harg, _⟩ := arg_of h0
  obtain ⟨m, hmlen, hmarg, hmn⟩ := arg_of h1
  subst hlen
  subst hmlen
  refine (tails_walk l m a b cap bcap n W (env_of hL hS) harg hmarg hmn (fun n k w h1 h2 => number_any n k w h1 h2)).mono fun e W' ⟨he, bel⟩ => ?_
  subst he
  exact ⟨_, rfl, _, _, _, [], _, [], hW', trodAll_mk1 (shut_bool Tryd.underlying4 _), trodAll_cons_mk (Below.trod laidOut (by kernel_rfl) (of_decide_eq_true (by kernel_rfl)) h0 bel lt0) (trodAll_cons_mk (Below.trod laidOut (by kernel_rfl) (of_decide_eq_true (by kernel_rfl)) h1 bel lt1) (trodAll_cons_mk (shut_int Tryd.underlying3 wn) trodAll_mk0)), rfl, bel.frame _, fun h => by cases h⟩

theorem said : Rows.CodeTailsSaid :=
  OpenClaim.holds_of_wide 3 Tryd.f3 rfl rfl rfl rfl rfl rfl rfl ⟨rfl, rfl, rfl, rfl, rfl⟩ rfl rfl rfl rfl rfl (by kernel_rfl) Tryd.func3 (by kernel_rfl)
    (of_decide_eq_true (by kernel_rfl)) (by unfold Func.isWrapper; first | (rw [if_pos (by decide +kernel)]; kernel_rfl) | (rw [if_neg (by decide +kernel)]; exact ⟨rfl, rfl⟩))
    (fun os started H enc _ => lifted os started H enc)
theorem card_holds : Rows.CodeTailsCardSaid :=
  Claim7.holds_tied_plain_at .later [] Rows.codeTailsCard.laidKinds true Rows.codeTailsCard.stood.harness false
    said (fun _ h => by cases h) (by kernel_rfl) (fun _ h => by cases h) codeTails_row_tie rfl ⟨rfl, rfl⟩ (by kernel_rfl) rfl
    (fun f fn hf hfn => by
      obtain rfl : f = 3 := Option.some.inj ((show Tryd.prog.funcNamed "gristmill/gristmilllaw23.CodeTails" = some 3 by kernel_rfl).symm.trans hf) |>.symm
      obtain rfl : fn = Tryd.f3 := (Option.some.inj (Tryd.func3.symm.trans hfn)).symm
      exact ⟨by kernel_rfl, fun j t ht => by
        rw [Tryd.params3] at ht
        have hm : t ∈ [22, 22, 3] := by simpa using Array.mem_of_getElem? ht
        have hall : ([22, 22, 3].all fun u => !Tryd.prog.wantsStandIn u) = true := by kernel_rfl
        exact (show Tryd.prog.wantsStandIn t = false by simpa using List.all_eq_true.1 hall t hm)⟩)
    (by kernel_rfl)
#print axioms card_holds
end Go.Proofs.YtfdkdghhdigfbaaDoor.codeTails
