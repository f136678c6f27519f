/- The law GenShows: a float whose bits are not told: what is known, ways. -/
import Derived.Test.YtcecklededfccaaGreatDoorPGenShowsa
import Derived.Test.YtcecklededfccaaGreatDoorGc
namespace Go.Proofs.YtcecklededfccaaGreatDoor.genShows
open Go Go.RowKit Ev
set_option maxRecDepth 1000000
def deL : List Nat := [0, 1, 56, 2, 57, 49, 28, 3, 61, 58, 42, 50, 38, 29, 17, 4, 62, 47, 59, 36, 45, 43, 51, 22, 53, 39, 33, 30, 24, 18, 12, 5, 63, 55, 48, 27, 60, 41, 37, 16, 46, 35, 44, 21, 52, 32, 23, 11, 54, 26, 40, 15, 34, 20, 31, 10, 25, 14, 19, 9, 13, 8, 7, 6]
def pwL : List Nat := [1, 10, 100, 1000, 10000, 100000, 1000000, 10000000, 100000000, 1000000000, 10000000000, 100000000000, 1000000000000, 10000000000000, 100000000000000, 1000000000000000, 10000000000000000, 100000000000000000, 1000000000000000000, 10000000000000000000]
noncomputable def nt : Tm := (.o 0 (.o 176 (.v 1) (.c (.ofNat 1000))) (.c (.ofNat 1000)))
noncomputable def xt : Tm := .o 112 nt (.c (.ofNat 40))
noncomputable def tt : Tm := .o 146 xt xt
noncomputable def qt : Orc := [(⟨1, (.o 176 (.v 1) (.c (.ofNat 1000))), (.c (.ofNat 0))⟩, true), (⟨3, (.o 146 (.o 112 (.o 0 (.o 176 (.v 1) (.c (.ofNat 1000))) (.c (.ofNat 1000))) (.c (.ofNat 40))) (.o 112 (.o 0 (.o 176 (.v 1) (.c (.ofNat 1000))) (.c (.ofNat 1000))) (.c (.ofNat 40)))), (.c (.ofNat 0))⟩, false), (⟨0, (.o 50 (.o 130 (.o 146 (.o 112 (.o 0 (.o 176 (.v 1) (.c (.ofNat 1000))) (.c (.ofNat 1000))) (.c (.ofNat 40))) (.o 112 (.o 0 (.o 176 (.v 1) (.c (.ofNat 1000))) (.c (.ofNat 1000))) (.c (.ofNat 40)))) (.c (.ofNat 52))) (.c (.ofNat 2047))), (.c (.ofNat 2047))⟩, false), (⟨0, (.o 144 (.o 146 (.o 112 (.o 0 (.o 176 (.v 1) (.c (.ofNat 1000))) (.c (.ofNat 1000))) (.c (.ofNat 40))) (.o 112 (.o 0 (.o 176 (.v 1) (.c (.ofNat 1000))) (.c (.ofNat 1000))) (.c (.ofNat 40)))) (.o 146 (.o 112 (.o 0 (.o 176 (.v 1) (.c (.ofNat 1000))) (.c (.ofNat 1000))) (.c (.ofNat 40))) (.o 112 (.o 0 (.o 176 (.v 1) (.c (.ofNat 1000))) (.c (.ofNat 1000))) (.c (.ofNat 40))))), (.o 112 (.o 0 (.o 176 (.v 1) (.c (.ofNat 1000))) (.c (.ofNat 1000))) (.c (.ofNat 40)))⟩, true)]
noncomputable def nf : Tm := (.o 176 (.v 1) (.c (.ofNat 1000)))
noncomputable def xf : Tm := .o 112 nf (.c (.ofNat 40))
noncomputable def tf : Tm := .o 146 xf xf
noncomputable def qf : Orc := [(⟨1, (.o 176 (.v 1) (.c (.ofNat 1000))), (.c (.ofNat 0))⟩, false), (⟨3, (.o 146 (.o 112 (.o 176 (.v 1) (.c (.ofNat 1000))) (.c (.ofNat 40))) (.o 112 (.o 176 (.v 1) (.c (.ofNat 1000))) (.c (.ofNat 40)))), (.c (.ofNat 0))⟩, false), (⟨0, (.o 50 (.o 130 (.o 146 (.o 112 (.o 176 (.v 1) (.c (.ofNat 1000))) (.c (.ofNat 40))) (.o 112 (.o 176 (.v 1) (.c (.ofNat 1000))) (.c (.ofNat 40)))) (.c (.ofNat 52))) (.c (.ofNat 2047))), (.c (.ofNat 2047))⟩, false), (⟨0, (.o 144 (.o 146 (.o 112 (.o 176 (.v 1) (.c (.ofNat 1000))) (.c (.ofNat 40))) (.o 112 (.o 176 (.v 1) (.c (.ofNat 1000))) (.c (.ofNat 40)))) (.o 146 (.o 112 (.o 176 (.v 1) (.c (.ofNat 1000))) (.c (.ofNat 40))) (.o 112 (.o 176 (.v 1) (.c (.ofNat 1000))) (.c (.ofNat 40))))), (.o 112 (.o 176 (.v 1) (.c (.ofNat 1000))) (.c (.ofNat 40)))⟩, true)]
noncomputable def CX (T : Tm) (d : Nat) : Cx := ⟨Tryz.prog, kt, CC.ov.set 235 (floOv 13 11 deL pwL T d)⟩
noncomputable def runX (T : Tm) (q : Orc) (d : Nat) : Bool := isT ((ev (CX T d) 20000).call 3 [sm 0 6 1, .x (.y (.e 0 (.v 1) q))] s0)
theorem fmt_fn : FnOk Tryz.prog 235 := ⟨_, _, Tryz.func235, rfl, by kernel_rfl⟩
theorem ovx {av : List Int} {gr : Nat → Nat} (h2 : gr 13 = 64) (h3 : gr 11 = 20) {T : Tm} {d a : Nat} (hT : den (syOf av gr) T = (a : Int)) (ha : a < 18446744073709551616) (hd : (textOf a).data.toList.length = d) (N0 : Nat → Prop) :
    OvOk (syOf av gr) N0 Tryz.prog (CX T d).ov :=
  (ov_ok av gr h3 N0).set fmt_fn (floOv_calls (by decide) (by decide) h2 h3 hT ha hd)

theorem wrap_i64 (n : Nat) (h : n < 9223372036854775808) : (kd 0).wrap (n : Int) = (n : Int) := limT_wrap 0 n h
theorem e7 (x y : Int) : opDen 112 x y = (kd 0).wrap (x * 2 ^ (min y.toNat 64)) := rfl
theorem mn : min (Int.ofNat 40).toNat 64 = 40 := by decide
theorem shl40 (n : Nat) {m : Nat} (hm : (n : Int) * 1099511627776 = (m : Int)) (h : m < 9223372036854775808) : opDen 112 (n : Int) (Int.ofNat 40) = (m : Int) := by
  have e := e7 (n : Int) (Int.ofNat 40)
  rw [mn] at e
  have p : (2 : Int) ^ 40 = 1099511627776 := by decide
  rw [p, hm, wrap_i64 m h] at e
  exact e
theorem toi (m : Nat) (h : m < 9223372036854775808) : opDen 144 (m : Int) (m : Int) = (m : Int) := wrap_i64 m h
theorem to64 (m : Nat) (h : m < 18446744073709551616) : opDen 146 (m : Int) (m : Int) = (m : Int) := Ev.Fl.wrap_u64 m h
theorem no_nan (m : Nat) (h : m < 4503599627370496) (y : Int) : cdDen 3 (m : Int) y = false := Go.Proofs.YtcecklededfccaaGreatDoor.small_isn h
theorem no_exp (m : Nat) (h : m < 4503599627370496) : cdDen 0 (opDen 50 (opDen 130 (m : Int) (Int.ofNat 52)) (Int.ofNat 2047)) (Int.ofNat 2047) = false := by
  rw [Ev.Fl.cd_exp (by omega) rfl]
  rw [(small_rung h).1]
  exact decide_eq_false (by unfold Ev.Fl.inf; omega)

theorem known {sy : Sy} {nT : Tm} {n m : Nat} (hn : den sy nT = (n : Int)) (hm : (n : Int) * 1099511627776 = (m : Int)) (h : m < 4503599627370496) :
    den sy (.o 112 nT (.c (.ofNat 40))) = (m : Int) ∧ den sy (.o 146 (.o 112 nT (.c (.ofNat 40))) (.o 112 nT (.c (.ofNat 40)))) = (m : Int) := by
  have e1 : den sy (.o 112 nT (.c (.ofNat 40))) = (m : Int) := by
    show opDen 112 (den sy nT) (Int.ofNat 40) = _
    rw [hn, shl40 n hm (by omega)]
  refine ⟨e1, ?_⟩
  show opDen 146 (den sy (.o 112 nT (.c (.ofNat 40)))) (den sy (.o 112 nT (.c (.ofNat 40)))) = _
  rw [e1, to64 m (by omega)]

theorem knows {sy : Sy} {xT tT : Tm} {m : Nat} (h : m < 4503599627370496) (ex : den sy xT = (m : Int)) (et : den sy tT = (m : Int)) :
    cdDen 3 (den sy tT) (den sy (.c (.ofNat 0))) = false ∧ cdDen 0 (den sy (.o 50 (.o 130 tT (.c (.ofNat 52))) (.c (.ofNat 2047)))) (den sy (.c (.ofNat 2047))) = false ∧ cdDen 0 (den sy (.o 144 tT tT)) (den sy xT) = true := by
  refine ⟨?_, ?_, ?_⟩
  · rw [et]; exact no_nan m h _
  · show cdDen 0 (opDen 50 (opDen 130 (den sy tT) (Int.ofNat 52)) (Int.ofNat 2047)) (Int.ofNat 2047) = false
    rw [et]
    exact no_exp m h
  · show cdDen 0 (opDen 144 (den sy tT) (den sy tT)) (den sy xT) = true
    rw [et, ex, toi m (by omega)]
    exact beq_self_eq_true _
theorem okt {av : List Int} {gr : Nat → Nat} {m : Nat} (h : m < 4503599627370496) (ex : den (syOf av gr) xt = (m : Int)) (et : den (syOf av gr) tt = (m : Int)) (hneg : (av.getD 1 0).tmod 1000 < 0) : QOk (syOf av gr) qt := by
  obtain ⟨k1, k2, k3⟩ := knows h ex et
  have h1 : cdDen 1 (den (syOf av gr) (.o 176 (.v 1) (.c (.ofNat 1000)))) (den (syOf av gr) (.c (.ofNat 0))) = true := decide_eq_true hneg
  exact .cons h1 (.cons k1 (.cons k2 (.cons k3 .nil)))
theorem okf {av : List Int} {gr : Nat → Nat} {m : Nat} (h : m < 4503599627370496) (ex : den (syOf av gr) xf = (m : Int)) (et : den (syOf av gr) tf = (m : Int)) (hneg : ¬ (av.getD 1 0).tmod 1000 < 0) : QOk (syOf av gr) qf := by
  obtain ⟨k1, k2, k3⟩ := knows h ex et
  have h1 : cdDen 1 (den (syOf av gr) (.o 176 (.v 1) (.c (.ofNat 1000)))) (den (syOf av gr) (.c (.ofNat 0))) = false := decide_eq_false hneg
  exact .cons h1 (.cons k1 (.cons k2 (.cons k3 .nil)))
theorem tmod_lt (b : Int) : -1000 < b.tmod 1000 ∧ b.tmod 1000 < 1000 := by
  constructor
  · have := Int.lt_tmod_of_pos b (show (0 : Int) < 1000 by decide)
    omega
  · exact Int.tmod_lt_of_pos b (by decide)
theorem den_t {av : List Int} {gr : Nat → Nat} (hneg : (av.getD 1 0).tmod 1000 < 0) : ∃ n : Nat, n < 1000 ∧ den (syOf av gr) nt = (n : Int) := by
  obtain ⟨h1, h2⟩ := tmod_lt (av.getD 1 0)
  obtain ⟨n, hn⟩ : ∃ n : Nat, (av.getD 1 0).tmod 1000 + 1000 = (n : Int) := ⟨((av.getD 1 0).tmod 1000 + 1000).toNat, by omega⟩
  refine ⟨n, by omega, ?_⟩
  show (kd 0).wrap ((av.getD 1 0).tmod 1000 + 1000) = _
  rw [hn]
  exact wrap_i64 _ (by omega)
theorem den_f {av : List Int} {gr : Nat → Nat} (hneg : ¬ (av.getD 1 0).tmod 1000 < 0) : ∃ n : Nat, n < 1000 ∧ den (syOf av gr) nf = (n : Int) := by
  obtain ⟨h1, h2⟩ := tmod_lt (av.getD 1 0)
  exact ⟨((av.getD 1 0).tmod 1000).toNat, by omega, by show (av.getD 1 0).tmod 1000 = _; omega⟩
end Go.Proofs.YtcecklededfccaaGreatDoor.genShows
