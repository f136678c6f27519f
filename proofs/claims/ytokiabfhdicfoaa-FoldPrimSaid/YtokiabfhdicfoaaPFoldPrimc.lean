/- The law FoldPrim: what never holds together. -/
import Derived.Test.YtokiabfhdicfoaaPFoldPrima
import Derived.Test.YtokiabfhdicfoaaFlo
namespace Go.Proofs.Ytokiabfhdicfoaa.foldPrim
open Go Go.RowKit Ev
set_option maxRecDepth 1000000
open Ieee Ev.Fl
theorem ng3_0 (a b c d : Int) (gr : Nat → Nat) (tx : Nat → ByteArray)
    (h1 : cd a b c d gr tx 0 (.v 3) (.c (-1)) = true)
    (h2 : cd a b c d gr tx 0 (.o 160 (.v 1) (.v 3)) (.o 16 (.c (.ofNat 0)) (.v 1)) = false) : False := by
  change (d == -1) = true at h1
  have h1 := eq_of_beq h1
  subst h1
  change ((kd 0).wrap (b.tdiv (-1)) == (kd 0).wrap (0 - b)) = false at h2
  rw [Int.tdiv_neg, Int.tdiv_one, Int.zero_sub] at h2
  simp at h2
theorem ng4_0 (a b c d : Int) (gr : Nat → Nat) (tx : Nat → ByteArray)
    (h1 : cd a b c d gr tx 0 (.v 3) (.c (-1)) = true)
    (h2 : cd a b c d gr tx 0 (.o 176 (.v 1) (.v 3)) (.c (.ofNat 0)) = false) : False := by
  change (d == -1) = true at h1
  have h1 := eq_of_beq h1
  subst h1
  change (b.tmod (-1) == 0) = false at h2
  rw [Int.tmod_neg, Int.tmod_one] at h2
  simp at h2
theorem ng7_0 (a b c d : Int) (gr : Nat → Nat) (tx : Nat → ByteArray)
    (h1 : cd a b c d gr tx 3 (.o 256 (.o 146 (.v 1) (.v 1)) (.o 146 (.v 3) (.v 3))) (.c (.ofNat 0)) = false)
    (h2 : cd a b c d gr tx 0 (.o 50 (.o 130 (.o 370 (.o 256 (.o 146 (.v 1) (.v 1)) (.o 146 (.v 3) (.v 3))) (.o 256 (.o 146 (.v 1) (.v 1)) (.o 146 (.v 3) (.v 3)))) (.c (.ofNat 52))) (.c (.ofNat 2047))) (.c (.ofNat 2047)) = true)
    (h3 : cd a b c d gr tx 0 (.o 50 (.o 370 (.o 256 (.o 146 (.v 1) (.v 1)) (.o 146 (.v 3) (.v 3))) (.o 256 (.o 146 (.v 1) (.v 1)) (.o 146 (.v 3) (.v 3)))) (.c (.ofNat 4503599627370495))) (.c (.ofNat 0)) = false) : False := by
  change isn ((double.add (opDen 146 b b).toNat (opDen 146 d d).toNat).getD qnan) = false at h1
  change cdDen 0 (opDen 50 (opDen 130 ((((double.add (opDen 146 b b).toNat (opDen 146 d d).toNat).getD qnan : Nat)) : Int) (Int.ofNat 52)) (Int.ofNat 2047)) (Int.ofNat 2047) = true at h2
  change cdDen 0 (opDen 50 ((((double.add (opDen 146 b b).toNat (opDen 146 d d).toNat).getD qnan : Nat)) : Int) (Int.ofNat 4503599627370495)) (Int.ofNat 0) = false at h3
  have hy := ar_lt (o := double.add (opDen 146 b b).toNat (opDen 146 d d).toNat) (fun _ => Format.add_lt double)
  generalize (double.add (opDen 146 b b).toNat (opDen 146 d d).toNat).getD qnan = y at *
  exact cd_infs hy h1 h2 h3
theorem ng8_0 (a b c d : Int) (gr : Nat → Nat) (tx : Nat → ByteArray)
    (h1 : cd a b c d gr tx 3 (.o 272 (.o 146 (.v 1) (.v 1)) (.o 146 (.v 3) (.v 3))) (.c (.ofNat 0)) = false)
    (h2 : cd a b c d gr tx 0 (.o 50 (.o 130 (.o 370 (.o 272 (.o 146 (.v 1) (.v 1)) (.o 146 (.v 3) (.v 3))) (.o 272 (.o 146 (.v 1) (.v 1)) (.o 146 (.v 3) (.v 3)))) (.c (.ofNat 52))) (.c (.ofNat 2047))) (.c (.ofNat 2047)) = true)
    (h3 : cd a b c d gr tx 0 (.o 50 (.o 370 (.o 272 (.o 146 (.v 1) (.v 1)) (.o 146 (.v 3) (.v 3))) (.o 272 (.o 146 (.v 1) (.v 1)) (.o 146 (.v 3) (.v 3)))) (.c (.ofNat 4503599627370495))) (.c (.ofNat 0)) = false) : False := by
  change isn ((double.sub (opDen 146 b b).toNat (opDen 146 d d).toNat).getD qnan) = false at h1
  change cdDen 0 (opDen 50 (opDen 130 ((((double.sub (opDen 146 b b).toNat (opDen 146 d d).toNat).getD qnan : Nat)) : Int) (Int.ofNat 52)) (Int.ofNat 2047)) (Int.ofNat 2047) = true at h2
  change cdDen 0 (opDen 50 ((((double.sub (opDen 146 b b).toNat (opDen 146 d d).toNat).getD qnan : Nat)) : Int) (Int.ofNat 4503599627370495)) (Int.ofNat 0) = false at h3
  have hy := ar_lt (o := double.sub (opDen 146 b b).toNat (opDen 146 d d).toNat) (fun _ => Format.sub_lt double)
  generalize (double.sub (opDen 146 b b).toNat (opDen 146 d d).toNat).getD qnan = y at *
  exact cd_infs hy h1 h2 h3
theorem ng9_0 (a b c d : Int) (gr : Nat → Nat) (tx : Nat → ByteArray)
    (h1 : cd a b c d gr tx 3 (.o 288 (.o 146 (.v 1) (.v 1)) (.o 146 (.v 3) (.v 3))) (.c (.ofNat 0)) = false)
    (h2 : cd a b c d gr tx 0 (.o 50 (.o 130 (.o 370 (.o 288 (.o 146 (.v 1) (.v 1)) (.o 146 (.v 3) (.v 3))) (.o 288 (.o 146 (.v 1) (.v 1)) (.o 146 (.v 3) (.v 3)))) (.c (.ofNat 52))) (.c (.ofNat 2047))) (.c (.ofNat 2047)) = true)
    (h3 : cd a b c d gr tx 0 (.o 50 (.o 370 (.o 288 (.o 146 (.v 1) (.v 1)) (.o 146 (.v 3) (.v 3))) (.o 288 (.o 146 (.v 1) (.v 1)) (.o 146 (.v 3) (.v 3)))) (.c (.ofNat 4503599627370495))) (.c (.ofNat 0)) = false) : False := by
  change isn ((double.mul (opDen 146 b b).toNat (opDen 146 d d).toNat).getD qnan) = false at h1
  change cdDen 0 (opDen 50 (opDen 130 ((((double.mul (opDen 146 b b).toNat (opDen 146 d d).toNat).getD qnan : Nat)) : Int) (Int.ofNat 52)) (Int.ofNat 2047)) (Int.ofNat 2047) = true at h2
  change cdDen 0 (opDen 50 ((((double.mul (opDen 146 b b).toNat (opDen 146 d d).toNat).getD qnan : Nat)) : Int) (Int.ofNat 4503599627370495)) (Int.ofNat 0) = false at h3
  have hy := ar_lt (o := double.mul (opDen 146 b b).toNat (opDen 146 d d).toNat) (fun _ => Format.mul_lt double)
  generalize (double.mul (opDen 146 b b).toNat (opDen 146 d d).toNat).getD qnan = y at *
  exact cd_infs hy h1 h2 h3
theorem ng10_0 (a b c d : Int) (gr : Nat → Nat) (tx : Nat → ByteArray)
    (h1 : cd a b c d gr tx 3 (.o 304 (.o 146 (.v 1) (.v 1)) (.o 146 (.v 3) (.v 3))) (.c (.ofNat 0)) = false)
    (h2 : cd a b c d gr tx 0 (.o 50 (.o 130 (.o 370 (.o 304 (.o 146 (.v 1) (.v 1)) (.o 146 (.v 3) (.v 3))) (.o 304 (.o 146 (.v 1) (.v 1)) (.o 146 (.v 3) (.v 3)))) (.c (.ofNat 52))) (.c (.ofNat 2047))) (.c (.ofNat 2047)) = true)
    (h3 : cd a b c d gr tx 0 (.o 50 (.o 370 (.o 304 (.o 146 (.v 1) (.v 1)) (.o 146 (.v 3) (.v 3))) (.o 304 (.o 146 (.v 1) (.v 1)) (.o 146 (.v 3) (.v 3)))) (.c (.ofNat 4503599627370495))) (.c (.ofNat 0)) = false) : False := by
  change isn ((double.div (opDen 146 b b).toNat (opDen 146 d d).toNat).getD qnan) = false at h1
  change cdDen 0 (opDen 50 (opDen 130 ((((double.div (opDen 146 b b).toNat (opDen 146 d d).toNat).getD qnan : Nat)) : Int) (Int.ofNat 52)) (Int.ofNat 2047)) (Int.ofNat 2047) = true at h2
  change cdDen 0 (opDen 50 ((((double.div (opDen 146 b b).toNat (opDen 146 d d).toNat).getD qnan : Nat)) : Int) (Int.ofNat 4503599627370495)) (Int.ofNat 0) = false at h3
  have hy := ar_lt (o := double.div (opDen 146 b b).toNat (opDen 146 d d).toNat) (fun _ => Format.div_lt double)
  generalize (double.div (opDen 146 b b).toNat (opDen 146 d d).toNat).getD qnan = y at *
  exact cd_infs hy h1 h2 h3
theorem ng14_0 (a b c d : Int) (gr : Nat → Nat) (tx : Nat → ByteArray)
    (h1 : cd a b c d gr tx 3 (.o 320 (.o 146 (.v 1) (.v 1)) (.o 146 (.v 1) (.v 1))) (.c (.ofNat 0)) = true)
    (h2 : cd a b c d gr tx 1 (.o 144 (.o 50 (.o 130 (.o 146 (.v 1) (.v 1)) (.c (.ofNat 52))) (.c (.ofNat 2047))) (.o 50 (.o 130 (.o 146 (.v 1) (.v 1)) (.c (.ofNat 52))) (.c (.ofNat 2047)))) (.c (.ofNat 1023)) = true) : False := by
  have h1 := (c_NT b _).symm.trans h1
  have h2 := (c_L b).symm.trans h2
  have h2 := of_decide_eq_true h2
  have h3 : E (bit64 b) = 2047 := (wh_nan _ h1).1
  omega
theorem ng14_1 (a b c d : Int) (gr : Nat → Nat) (tx : Nat → ByteArray)
    (h1 : cd a b c d gr tx 3 (.o 320 (.o 146 (.v 1) (.v 1)) (.o 146 (.v 1) (.v 1))) (.c (.ofNat 0)) = true)
    (h2 : cd a b c d gr tx 2 (.c (.ofNat 1086)) (.o 144 (.o 50 (.o 130 (.o 146 (.v 1) (.v 1)) (.c (.ofNat 52))) (.c (.ofNat 2047))) (.o 50 (.o 130 (.o 146 (.v 1) (.v 1)) (.c (.ofNat 52))) (.c (.ofNat 2047)))) = false) : False := by
  have h1 := (c_NT b _).symm.trans h1
  have h2 := (c_H b).symm.trans h2
  have h2 := of_decide_eq_false h2
  have h3 : E (bit64 b) = 2047 := (wh_nan _ h1).1
  omega
theorem ng14_2 (a b c d : Int) (gr : Nat → Nat) (tx : Nat → ByteArray)
    (h1 : cd a b c d gr tx 3 (.o 320 (.o 146 (.v 1) (.v 1)) (.o 146 (.v 1) (.v 1))) (.c (.ofNat 0)) = true)
    (h2 : cd a b c d gr tx 0 (.o 146 (.v 1) (.v 1)) (.c (.ofNat 14114281232179134464)) = true) : False := by
  have h1 := (c_NT b _).symm.trans h1
  have h2 := (c_X b).symm.trans h2
  have h2 := of_decide_eq_true h2
  exact (wh_nan _ h1).2 h2
theorem ng14_3 (a b c d : Int) (gr : Nat → Nat) (tx : Nat → ByteArray)
    (h1 : cd a b c d gr tx 3 (.o 320 (.o 146 (.v 1) (.v 1)) (.o 146 (.v 1) (.v 1))) (.c (.ofNat 0)) = false)
    (h2 : cd a b c d gr tx 5 (.o 320 (.o 146 (.v 1) (.v 1)) (.o 146 (.v 1) (.v 1))) (.c (.ofNat 14114281232179134464)) = true)
    (h3 : cd a b c d gr tx 0 (.o 130 (.o 146 (.v 1) (.v 1)) (.c (.ofNat 63))) (.c (.ofNat 1)) = false) : False := by
  have h1 := (c_NT b _).symm.trans h1
  have h2 := (c_M b).symm.trans h2
  rw [h1] at h2
  simp at h2
  have h3 := (c_S b).symm.trans h3
  obtain ⟨g1, g2, g3⟩ := wh_mi _ (bit64_lt b) h1 h2
  change 1086 ≤ E (bit64 b) at g2
  rw [g1] at h3
  cases h3
theorem ng14_4 (a b c d : Int) (gr : Nat → Nat) (tx : Nat → ByteArray)
    (h1 : cd a b c d gr tx 3 (.o 320 (.o 146 (.v 1) (.v 1)) (.o 146 (.v 1) (.v 1))) (.c (.ofNat 0)) = false)
    (h2 : cd a b c d gr tx 5 (.o 320 (.o 146 (.v 1) (.v 1)) (.o 146 (.v 1) (.v 1))) (.c (.ofNat 14114281232179134464)) = true)
    (h3 : cd a b c d gr tx 1 (.o 144 (.o 50 (.o 130 (.o 146 (.v 1) (.v 1)) (.c (.ofNat 52))) (.c (.ofNat 2047))) (.o 50 (.o 130 (.o 146 (.v 1) (.v 1)) (.c (.ofNat 52))) (.c (.ofNat 2047)))) (.c (.ofNat 1023)) = true) : False := by
  have h1 := (c_NT b _).symm.trans h1
  have h2 := (c_M b).symm.trans h2
  rw [h1] at h2
  simp at h2
  have h3 := (c_L b).symm.trans h3
  have h3 := of_decide_eq_true h3
  obtain ⟨g1, g2, g3⟩ := wh_mi _ (bit64_lt b) h1 h2
  change 1086 ≤ E (bit64 b) at g2
  omega
theorem ng14_5 (a b c d : Int) (gr : Nat → Nat) (tx : Nat → ByteArray)
    (h1 : cd a b c d gr tx 3 (.o 320 (.o 146 (.v 1) (.v 1)) (.o 146 (.v 1) (.v 1))) (.c (.ofNat 0)) = false)
    (h2 : cd a b c d gr tx 5 (.o 320 (.o 146 (.v 1) (.v 1)) (.o 146 (.v 1) (.v 1))) (.c (.ofNat 14114281232179134464)) = true)
    (h3 : cd a b c d gr tx 2 (.c (.ofNat 1086)) (.o 144 (.o 50 (.o 130 (.o 146 (.v 1) (.v 1)) (.c (.ofNat 52))) (.c (.ofNat 2047))) (.o 50 (.o 130 (.o 146 (.v 1) (.v 1)) (.c (.ofNat 52))) (.c (.ofNat 2047)))) = false) : False := by
  have h1 := (c_NT b _).symm.trans h1
  have h2 := (c_M b).symm.trans h2
  rw [h1] at h2
  simp at h2
  have h3 := (c_H b).symm.trans h3
  have h3 := of_decide_eq_false h3
  obtain ⟨g1, g2, g3⟩ := wh_mi _ (bit64_lt b) h1 h2
  change 1086 ≤ E (bit64 b) at g2
  omega
theorem ng14_6 (a b c d : Int) (gr : Nat → Nat) (tx : Nat → ByteArray)
    (h1 : cd a b c d gr tx 3 (.o 320 (.o 146 (.v 1) (.v 1)) (.o 146 (.v 1) (.v 1))) (.c (.ofNat 0)) = false)
    (h2 : cd a b c d gr tx 5 (.o 320 (.o 146 (.v 1) (.v 1)) (.o 146 (.v 1) (.v 1))) (.c (.ofNat 14114281232179134464)) = true)
    (h3 : cd a b c d gr tx 0 (.o 146 (.v 1) (.v 1)) (.c (.ofNat 14114281232179134464)) = true) : False := by
  have h1 := (c_NT b _).symm.trans h1
  have h2 := (c_M b).symm.trans h2
  rw [h1] at h2
  simp at h2
  have h3 := (c_X b).symm.trans h3
  have h3 := of_decide_eq_true h3
  obtain ⟨g1, g2, g3⟩ := wh_mi _ (bit64_lt b) h1 h2
  change 1086 ≤ E (bit64 b) at g2
  exact g3 h3
theorem ng14_7 (a b c d : Int) (gr : Nat → Nat) (tx : Nat → ByteArray)
    (h1 : cd a b c d gr tx 3 (.o 320 (.o 146 (.v 1) (.v 1)) (.o 146 (.v 1) (.v 1))) (.c (.ofNat 0)) = false)
    (h2 : cd a b c d gr tx 8 (.o 320 (.o 146 (.v 1) (.v 1)) (.o 146 (.v 1) (.v 1))) (.c (.ofNat 4890909195324358656)) = true)
    (h3 : cd a b c d gr tx 0 (.o 130 (.o 146 (.v 1) (.v 1)) (.c (.ofNat 63))) (.c (.ofNat 1)) = true) : False := by
  have h1 := (c_NT b _).symm.trans h1
  have h2 := (c_T b).symm.trans h2
  rw [h1] at h2
  simp at h2
  have h3 := (c_S b).symm.trans h3
  obtain ⟨g1, g2⟩ := wh_tp _ h1 h2
  change 1086 ≤ E (bit64 b) at g2
  rw [g1] at h3
  cases h3
theorem ng14_8 (a b c d : Int) (gr : Nat → Nat) (tx : Nat → ByteArray)
    (h1 : cd a b c d gr tx 3 (.o 320 (.o 146 (.v 1) (.v 1)) (.o 146 (.v 1) (.v 1))) (.c (.ofNat 0)) = false)
    (h2 : cd a b c d gr tx 8 (.o 320 (.o 146 (.v 1) (.v 1)) (.o 146 (.v 1) (.v 1))) (.c (.ofNat 4890909195324358656)) = true)
    (h3 : cd a b c d gr tx 1 (.o 144 (.o 50 (.o 130 (.o 146 (.v 1) (.v 1)) (.c (.ofNat 52))) (.c (.ofNat 2047))) (.o 50 (.o 130 (.o 146 (.v 1) (.v 1)) (.c (.ofNat 52))) (.c (.ofNat 2047)))) (.c (.ofNat 1023)) = true) : False := by
  have h1 := (c_NT b _).symm.trans h1
  have h2 := (c_T b).symm.trans h2
  rw [h1] at h2
  simp at h2
  have h3 := (c_L b).symm.trans h3
  have h3 := of_decide_eq_true h3
  obtain ⟨g1, g2⟩ := wh_tp _ h1 h2
  change 1086 ≤ E (bit64 b) at g2
  omega
theorem ng14_9 (a b c d : Int) (gr : Nat → Nat) (tx : Nat → ByteArray)
    (h1 : cd a b c d gr tx 3 (.o 320 (.o 146 (.v 1) (.v 1)) (.o 146 (.v 1) (.v 1))) (.c (.ofNat 0)) = false)
    (h2 : cd a b c d gr tx 8 (.o 320 (.o 146 (.v 1) (.v 1)) (.o 146 (.v 1) (.v 1))) (.c (.ofNat 4890909195324358656)) = true)
    (h3 : cd a b c d gr tx 2 (.c (.ofNat 1086)) (.o 144 (.o 50 (.o 130 (.o 146 (.v 1) (.v 1)) (.c (.ofNat 52))) (.c (.ofNat 2047))) (.o 50 (.o 130 (.o 146 (.v 1) (.v 1)) (.c (.ofNat 52))) (.c (.ofNat 2047)))) = false) : False := by
  have h1 := (c_NT b _).symm.trans h1
  have h2 := (c_T b).symm.trans h2
  rw [h1] at h2
  simp at h2
  have h3 := (c_H b).symm.trans h3
  have h3 := of_decide_eq_false h3
  obtain ⟨g1, g2⟩ := wh_tp _ h1 h2
  change 1086 ≤ E (bit64 b) at g2
  omega
theorem ng14_10 (a b c d : Int) (gr : Nat → Nat) (tx : Nat → ByteArray)
    (h1 : cd a b c d gr tx 0 (.o 130 (.o 146 (.v 1) (.v 1)) (.c (.ofNat 63))) (.c (.ofNat 1)) = false)
    (h2 : cd a b c d gr tx 0 (.o 146 (.v 1) (.v 1)) (.c (.ofNat 14114281232179134464)) = true) : False := by
  have h1 := (c_S b).symm.trans h1
  have h2 := (c_X b).symm.trans h2
  have h2 := of_decide_eq_true h2
  rw [h2, of_mi.1] at h1
  cases h1
theorem ng14_11 (a b c d : Int) (gr : Nat → Nat) (tx : Nat → ByteArray)
    (h1 : cd a b c d gr tx 3 (.o 320 (.o 146 (.v 1) (.v 1)) (.o 146 (.v 1) (.v 1))) (.c (.ofNat 0)) = false)
    (h2 : cd a b c d gr tx 5 (.o 320 (.o 146 (.v 1) (.v 1)) (.o 146 (.v 1) (.v 1))) (.c (.ofNat 14114281232179134464)) = false)
    (h3 : cd a b c d gr tx 8 (.o 320 (.o 146 (.v 1) (.v 1)) (.o 146 (.v 1) (.v 1))) (.c (.ofNat 4890909195324358656)) = false)
    (h4 : cd a b c d gr tx 16 (.o 320 (.o 146 (.v 1) (.v 1)) (.o 146 (.v 1) (.v 1))) (.c (.ofNat 0)) = false) : False := by
  have h1 := (c_NT b _).symm.trans h1
  have h2 := (c_M b).symm.trans h2
  rw [h1] at h2
  simp at h2
  have h3 := (c_T b).symm.trans h3
  rw [h1] at h3
  simp at h3
  have h4 := (c_F b _).symm.trans h4
  obtain ⟨n, e1, e2, e3, e4, e5, e6, e7⟩ := wh_all b h1 (by omega) (by omega)
  rw [e2] at h4
  cases h4
theorem ng14_12 (a b c d : Int) (gr : Nat → Nat) (tx : Nat → ByteArray)
    (h1 : cd a b c d gr tx 3 (.o 320 (.o 146 (.v 1) (.v 1)) (.o 146 (.v 1) (.v 1))) (.c (.ofNat 0)) = false)
    (h2 : cd a b c d gr tx 5 (.o 320 (.o 146 (.v 1) (.v 1)) (.o 146 (.v 1) (.v 1))) (.c (.ofNat 14114281232179134464)) = false)
    (h3 : cd a b c d gr tx 8 (.o 320 (.o 146 (.v 1) (.v 1)) (.o 146 (.v 1) (.v 1))) (.c (.ofNat 4890909195324358656)) = false)
    (h4 : cd a b c d gr tx 1 (.o 144 (.o 50 (.o 130 (.o 146 (.v 1) (.v 1)) (.c (.ofNat 52))) (.c (.ofNat 2047))) (.o 50 (.o 130 (.o 146 (.v 1) (.v 1)) (.c (.ofNat 52))) (.c (.ofNat 2047)))) (.c (.ofNat 1023)) = true)
    (h5 : cd a b c d gr tx 0 (.o 352 (.o 320 (.o 146 (.v 1) (.v 1)) (.o 146 (.v 1) (.v 1))) (.o 320 (.o 146 (.v 1) (.v 1)) (.o 146 (.v 1) (.v 1)))) (.c (.ofNat 0)) = false) : False := by
  have h1 := (c_NT b _).symm.trans h1
  have h2 := (c_M b).symm.trans h2
  rw [h1] at h2
  simp at h2
  have h3 := (c_T b).symm.trans h3
  rw [h1] at h3
  simp at h3
  have h4 := (c_L b).symm.trans h4
  have h4 := of_decide_eq_true h4
  obtain ⟨n, e1, e2, e3, e4, e5, e6, e7⟩ := wh_all b h1 (by omega) (by omega)
  change (IT b == 0) = false at h5
  rw [e1, e3 h4] at h5
  revert h5
  cases sgn (bit64 b) <;> decide
theorem ng14_13 (a b c d : Int) (gr : Nat → Nat) (tx : Nat → ByteArray)
    (h1 : cd a b c d gr tx 3 (.o 320 (.o 146 (.v 1) (.v 1)) (.o 146 (.v 1) (.v 1))) (.c (.ofNat 0)) = false)
    (h2 : cd a b c d gr tx 5 (.o 320 (.o 146 (.v 1) (.v 1)) (.o 146 (.v 1) (.v 1))) (.c (.ofNat 14114281232179134464)) = false)
    (h3 : cd a b c d gr tx 8 (.o 320 (.o 146 (.v 1) (.v 1)) (.o 146 (.v 1) (.v 1))) (.c (.ofNat 4890909195324358656)) = false)
    (h4 : cd a b c d gr tx 2 (.c (.ofNat 1086)) (.o 144 (.o 50 (.o 130 (.o 146 (.v 1) (.v 1)) (.c (.ofNat 52))) (.c (.ofNat 2047))) (.o 50 (.o 130 (.o 146 (.v 1) (.v 1)) (.c (.ofNat 52))) (.c (.ofNat 2047)))) = true)
    (h5 : cd a b c d gr tx 0 (.o 146 (.v 1) (.v 1)) (.c (.ofNat 14114281232179134464)) = false) : False := by
  have h1 := (c_NT b _).symm.trans h1
  have h2 := (c_M b).symm.trans h2
  rw [h1] at h2
  simp at h2
  have h3 := (c_T b).symm.trans h3
  rw [h1] at h3
  simp at h3
  have h4 := (c_H b).symm.trans h4
  have h4 := of_decide_eq_true h4
  have h5 := (c_X b).symm.trans h5
  have h5 := of_decide_eq_false h5
  obtain ⟨n, e1, e2, e3, e4, e5, e6, e7⟩ := wh_all b h1 (by omega) (by omega)
  exact h5 (e4 h4)
theorem ng14_14 (a b c d : Int) (gr : Nat → Nat) (tx : Nat → ByteArray)
    (h1 : cd a b c d gr tx 3 (.o 320 (.o 146 (.v 1) (.v 1)) (.o 146 (.v 1) (.v 1))) (.c (.ofNat 0)) = false)
    (h2 : cd a b c d gr tx 5 (.o 320 (.o 146 (.v 1) (.v 1)) (.o 146 (.v 1) (.v 1))) (.c (.ofNat 14114281232179134464)) = false)
    (h3 : cd a b c d gr tx 8 (.o 320 (.o 146 (.v 1) (.v 1)) (.o 146 (.v 1) (.v 1))) (.c (.ofNat 4890909195324358656)) = false)
    (h4 : cd a b c d gr tx 0 (.o 146 (.v 1) (.v 1)) (.c (.ofNat 14114281232179134464)) = true)
    (h5 : cd a b c d gr tx 0 (.o 352 (.o 320 (.o 146 (.v 1) (.v 1)) (.o 146 (.v 1) (.v 1))) (.o 320 (.o 146 (.v 1) (.v 1)) (.o 146 (.v 1) (.v 1)))) (.c (-9223372036854775808)) = false) : False := by
  have h1 := (c_NT b _).symm.trans h1
  have h2 := (c_M b).symm.trans h2
  rw [h1] at h2
  simp at h2
  have h3 := (c_T b).symm.trans h3
  rw [h1] at h3
  simp at h3
  have h4 := (c_X b).symm.trans h4
  have h4 := of_decide_eq_true h4
  obtain ⟨n, e1, e2, e3, e4, e5, e6, e7⟩ := wh_all b h1 (by omega) (by omega)
  change (IT b == -9223372036854775808) = false at h5
  rw [e1, e5 h4] at h5
  revert h5
  decide
theorem ng14_15 (a b c d : Int) (gr : Nat → Nat) (tx : Nat → ByteArray)
    (h1 : cd a b c d gr tx 1 (.o 146 (.o 16 (.o 16 (.o 144 (.o 50 (.o 130 (.o 146 (.v 1) (.v 1)) (.c (.ofNat 52))) (.c (.ofNat 2047))) (.o 50 (.o 130 (.o 146 (.v 1) (.v 1)) (.c (.ofNat 52))) (.c (.ofNat 2047)))) (.c (.ofNat 1023))) (.c (.ofNat 52))) (.o 16 (.o 16 (.o 144 (.o 50 (.o 130 (.o 146 (.v 1) (.v 1)) (.c (.ofNat 52))) (.c (.ofNat 2047))) (.o 50 (.o 130 (.o 146 (.v 1) (.v 1)) (.c (.ofNat 52))) (.c (.ofNat 2047)))) (.c (.ofNat 1023))) (.c (.ofNat 52)))) (.c (.ofNat 0)) = true) : False := by
  have h1 := (c_C (ST b)).symm.trans h1
  cases h1
theorem ng14_16 (a b c d : Int) (gr : Nat → Nat) (tx : Nat → ByteArray)
    (h1 : cd a b c d gr tx 1 (.o 146 (.o 16 (.c (.ofNat 0)) (.o 16 (.o 16 (.o 144 (.o 50 (.o 130 (.o 146 (.v 1) (.v 1)) (.c (.ofNat 52))) (.c (.ofNat 2047))) (.o 50 (.o 130 (.o 146 (.v 1) (.v 1)) (.c (.ofNat 52))) (.c (.ofNat 2047)))) (.c (.ofNat 1023))) (.c (.ofNat 52)))) (.o 16 (.c (.ofNat 0)) (.o 16 (.o 16 (.o 144 (.o 50 (.o 130 (.o 146 (.v 1) (.v 1)) (.c (.ofNat 52))) (.c (.ofNat 2047))) (.o 50 (.o 130 (.o 146 (.v 1) (.v 1)) (.c (.ofNat 52))) (.c (.ofNat 2047)))) (.c (.ofNat 1023))) (.c (.ofNat 52))))) (.c (.ofNat 0)) = true) : False := by
  have h1 := (c_C (NT b)).symm.trans h1
  cases h1
theorem ng14_17 (a b c d : Int) (gr : Nat → Nat) (tx : Nat → ByteArray)
    (h1 : cd a b c d gr tx 3 (.o 320 (.o 146 (.v 1) (.v 1)) (.o 146 (.v 1) (.v 1))) (.c (.ofNat 0)) = false)
    (h2 : cd a b c d gr tx 5 (.o 320 (.o 146 (.v 1) (.v 1)) (.o 146 (.v 1) (.v 1))) (.c (.ofNat 14114281232179134464)) = false)
    (h3 : cd a b c d gr tx 8 (.o 320 (.o 146 (.v 1) (.v 1)) (.o 146 (.v 1) (.v 1))) (.c (.ofNat 4890909195324358656)) = false)
    (h4 : cd a b c d gr tx 1 (.o 144 (.o 50 (.o 130 (.o 146 (.v 1) (.v 1)) (.c (.ofNat 52))) (.c (.ofNat 2047))) (.o 50 (.o 130 (.o 146 (.v 1) (.v 1)) (.c (.ofNat 52))) (.c (.ofNat 2047)))) (.c (.ofNat 1023)) = false)
    (h5 : cd a b c d gr tx 2 (.c (.ofNat 1086)) (.o 144 (.o 50 (.o 130 (.o 146 (.v 1) (.v 1)) (.c (.ofNat 52))) (.c (.ofNat 2047))) (.o 50 (.o 130 (.o 146 (.v 1) (.v 1)) (.c (.ofNat 52))) (.c (.ofNat 2047)))) = false)
    (h6 : cd a b c d gr tx 2 (.c (.ofNat 0)) (.o 16 (.o 16 (.o 144 (.o 50 (.o 130 (.o 146 (.v 1) (.v 1)) (.c (.ofNat 52))) (.c (.ofNat 2047))) (.o 50 (.o 130 (.o 146 (.v 1) (.v 1)) (.c (.ofNat 52))) (.c (.ofNat 2047)))) (.c (.ofNat 1023))) (.c (.ofNat 52))) = true)
    (h7 : cd a b c d gr tx 0 (.o 130 (.o 146 (.v 1) (.v 1)) (.c (.ofNat 63))) (.c (.ofNat 1)) = true)
    (h8 : cd a b c d gr tx 0 (.o 352 (.o 320 (.o 146 (.v 1) (.v 1)) (.o 146 (.v 1) (.v 1))) (.o 320 (.o 146 (.v 1) (.v 1)) (.o 146 (.v 1) (.v 1)))) (.o 16 (.c (.ofNat 0)) (.o 144 (.o 114 (.o 66 (.o 50 (.o 146 (.v 1) (.v 1)) (.c (.ofNat 4503599627370495))) (.c (.ofNat 4503599627370496))) (.o 146 (.o 16 (.o 16 (.o 144 (.o 50 (.o 130 (.o 146 (.v 1) (.v 1)) (.c (.ofNat 52))) (.c (.ofNat 2047))) (.o 50 (.o 130 (.o 146 (.v 1) (.v 1)) (.c (.ofNat 52))) (.c (.ofNat 2047)))) (.c (.ofNat 1023))) (.c (.ofNat 52))) (.o 16 (.o 16 (.o 144 (.o 50 (.o 130 (.o 146 (.v 1) (.v 1)) (.c (.ofNat 52))) (.c (.ofNat 2047))) (.o 50 (.o 130 (.o 146 (.v 1) (.v 1)) (.c (.ofNat 52))) (.c (.ofNat 2047)))) (.c (.ofNat 1023))) (.c (.ofNat 52))))) (.o 114 (.o 66 (.o 50 (.o 146 (.v 1) (.v 1)) (.c (.ofNat 4503599627370495))) (.c (.ofNat 4503599627370496))) (.o 146 (.o 16 (.o 16 (.o 144 (.o 50 (.o 130 (.o 146 (.v 1) (.v 1)) (.c (.ofNat 52))) (.c (.ofNat 2047))) (.o 50 (.o 130 (.o 146 (.v 1) (.v 1)) (.c (.ofNat 52))) (.c (.ofNat 2047)))) (.c (.ofNat 1023))) (.c (.ofNat 52))) (.o 16 (.o 16 (.o 144 (.o 50 (.o 130 (.o 146 (.v 1) (.v 1)) (.c (.ofNat 52))) (.c (.ofNat 2047))) (.o 50 (.o 130 (.o 146 (.v 1) (.v 1)) (.c (.ofNat 52))) (.c (.ofNat 2047)))) (.c (.ofNat 1023))) (.c (.ofNat 52))))))) = false) : False := by
  have h1 := (c_NT b _).symm.trans h1
  have h2 := (c_M b).symm.trans h2
  rw [h1] at h2
  simp at h2
  have h3 := (c_T b).symm.trans h3
  rw [h1] at h3
  simp at h3
  have h4 := (c_L b).symm.trans h4
  have h4 := of_decide_eq_false h4
  have h5 := (c_H b).symm.trans h5
  have h5 := of_decide_eq_false h5
  have h6 := (c_G b).symm.trans h6
  have h6 := of_decide_eq_true h6
  have h7 := (c_S b).symm.trans h7
  obtain ⟨n, e1, e2, e3, e4, e5, e6, e7⟩ := wh_all b h1 (by omega) (by omega)
  have hU := UP_eq b h6 (by omega) (opDen 114 (MT b) (opDen 146 (ST b) (ST b)))
  have hn := e7 h6 (by omega)
  obtain ⟨hU, hl⟩ := hU
  rw [← hn] at hU hl
  change (IT b == opDen 16 (Int.ofNat 0) (opDen 144 (opDen 114 (MT b) (opDen 146 (ST b) (ST b))) (opDen 114 (MT b) (opDen 146 (ST b) (ST b))))) = false at h8
  rw [hU, neg_eq n hl, e1, h7] at h8
  simp [sgz] at h8
theorem ng14_18 (a b c d : Int) (gr : Nat → Nat) (tx : Nat → ByteArray)
    (h1 : cd a b c d gr tx 3 (.o 320 (.o 146 (.v 1) (.v 1)) (.o 146 (.v 1) (.v 1))) (.c (.ofNat 0)) = false)
    (h2 : cd a b c d gr tx 5 (.o 320 (.o 146 (.v 1) (.v 1)) (.o 146 (.v 1) (.v 1))) (.c (.ofNat 14114281232179134464)) = false)
    (h3 : cd a b c d gr tx 8 (.o 320 (.o 146 (.v 1) (.v 1)) (.o 146 (.v 1) (.v 1))) (.c (.ofNat 4890909195324358656)) = false)
    (h4 : cd a b c d gr tx 1 (.o 144 (.o 50 (.o 130 (.o 146 (.v 1) (.v 1)) (.c (.ofNat 52))) (.c (.ofNat 2047))) (.o 50 (.o 130 (.o 146 (.v 1) (.v 1)) (.c (.ofNat 52))) (.c (.ofNat 2047)))) (.c (.ofNat 1023)) = false)
    (h5 : cd a b c d gr tx 2 (.c (.ofNat 1086)) (.o 144 (.o 50 (.o 130 (.o 146 (.v 1) (.v 1)) (.c (.ofNat 52))) (.c (.ofNat 2047))) (.o 50 (.o 130 (.o 146 (.v 1) (.v 1)) (.c (.ofNat 52))) (.c (.ofNat 2047)))) = false)
    (h6 : cd a b c d gr tx 2 (.c (.ofNat 0)) (.o 16 (.o 16 (.o 144 (.o 50 (.o 130 (.o 146 (.v 1) (.v 1)) (.c (.ofNat 52))) (.c (.ofNat 2047))) (.o 50 (.o 130 (.o 146 (.v 1) (.v 1)) (.c (.ofNat 52))) (.c (.ofNat 2047)))) (.c (.ofNat 1023))) (.c (.ofNat 52))) = false)
    (h7 : cd a b c d gr tx 0 (.o 130 (.o 146 (.v 1) (.v 1)) (.c (.ofNat 63))) (.c (.ofNat 1)) = true)
    (h8 : cd a b c d gr tx 0 (.o 352 (.o 320 (.o 146 (.v 1) (.v 1)) (.o 146 (.v 1) (.v 1))) (.o 320 (.o 146 (.v 1) (.v 1)) (.o 146 (.v 1) (.v 1)))) (.o 16 (.c (.ofNat 0)) (.o 144 (.o 130 (.o 66 (.o 50 (.o 146 (.v 1) (.v 1)) (.c (.ofNat 4503599627370495))) (.c (.ofNat 4503599627370496))) (.o 146 (.o 16 (.c (.ofNat 0)) (.o 16 (.o 16 (.o 144 (.o 50 (.o 130 (.o 146 (.v 1) (.v 1)) (.c (.ofNat 52))) (.c (.ofNat 2047))) (.o 50 (.o 130 (.o 146 (.v 1) (.v 1)) (.c (.ofNat 52))) (.c (.ofNat 2047)))) (.c (.ofNat 1023))) (.c (.ofNat 52)))) (.o 16 (.c (.ofNat 0)) (.o 16 (.o 16 (.o 144 (.o 50 (.o 130 (.o 146 (.v 1) (.v 1)) (.c (.ofNat 52))) (.c (.ofNat 2047))) (.o 50 (.o 130 (.o 146 (.v 1) (.v 1)) (.c (.ofNat 52))) (.c (.ofNat 2047)))) (.c (.ofNat 1023))) (.c (.ofNat 52)))))) (.o 130 (.o 66 (.o 50 (.o 146 (.v 1) (.v 1)) (.c (.ofNat 4503599627370495))) (.c (.ofNat 4503599627370496))) (.o 146 (.o 16 (.c (.ofNat 0)) (.o 16 (.o 16 (.o 144 (.o 50 (.o 130 (.o 146 (.v 1) (.v 1)) (.c (.ofNat 52))) (.c (.ofNat 2047))) (.o 50 (.o 130 (.o 146 (.v 1) (.v 1)) (.c (.ofNat 52))) (.c (.ofNat 2047)))) (.c (.ofNat 1023))) (.c (.ofNat 52)))) (.o 16 (.c (.ofNat 0)) (.o 16 (.o 16 (.o 144 (.o 50 (.o 130 (.o 146 (.v 1) (.v 1)) (.c (.ofNat 52))) (.c (.ofNat 2047))) (.o 50 (.o 130 (.o 146 (.v 1) (.v 1)) (.c (.ofNat 52))) (.c (.ofNat 2047)))) (.c (.ofNat 1023))) (.c (.ofNat 52)))))))) = false) : False := by
  have h1 := (c_NT b _).symm.trans h1
  have h2 := (c_M b).symm.trans h2
  rw [h1] at h2
  simp at h2
  have h3 := (c_T b).symm.trans h3
  rw [h1] at h3
  simp at h3
  have h4 := (c_L b).symm.trans h4
  have h4 := of_decide_eq_false h4
  have h5 := (c_H b).symm.trans h5
  have h5 := of_decide_eq_false h5
  have h6 := (c_G b).symm.trans h6
  have h6 := of_decide_eq_false h6
  have h7 := (c_S b).symm.trans h7
  obtain ⟨n, e1, e2, e3, e4, e5, e6, e7⟩ := wh_all b h1 (by omega) (by omega)
  have hU := DN_eq b (by omega) (by omega) (opDen 130 (MT b) (opDen 146 (NT b) (NT b)))
  have hn := e6 (by omega) (by omega)
  rw [← hn] at hU
  have hl : n < 9223372036854775808 := by
    have := Nat.div_le_self (4503599627370496 + bit64 b % 4503599627370496) (2 ^ (1075 - E (bit64 b)))
    omega
  change (IT b == opDen 16 (Int.ofNat 0) (opDen 144 (opDen 130 (MT b) (opDen 146 (NT b) (NT b))) (opDen 130 (MT b) (opDen 146 (NT b) (NT b))))) = false at h8
  rw [hU, neg_eq n hl, e1, h7] at h8
  simp [sgz] at h8
theorem ng14_19 (a b c d : Int) (gr : Nat → Nat) (tx : Nat → ByteArray)
    (h1 : cd a b c d gr tx 3 (.o 320 (.o 146 (.v 1) (.v 1)) (.o 146 (.v 1) (.v 1))) (.c (.ofNat 0)) = false)
    (h2 : cd a b c d gr tx 5 (.o 320 (.o 146 (.v 1) (.v 1)) (.o 146 (.v 1) (.v 1))) (.c (.ofNat 14114281232179134464)) = false)
    (h3 : cd a b c d gr tx 8 (.o 320 (.o 146 (.v 1) (.v 1)) (.o 146 (.v 1) (.v 1))) (.c (.ofNat 4890909195324358656)) = false)
    (h4 : cd a b c d gr tx 1 (.o 144 (.o 50 (.o 130 (.o 146 (.v 1) (.v 1)) (.c (.ofNat 52))) (.c (.ofNat 2047))) (.o 50 (.o 130 (.o 146 (.v 1) (.v 1)) (.c (.ofNat 52))) (.c (.ofNat 2047)))) (.c (.ofNat 1023)) = false)
    (h5 : cd a b c d gr tx 2 (.c (.ofNat 1086)) (.o 144 (.o 50 (.o 130 (.o 146 (.v 1) (.v 1)) (.c (.ofNat 52))) (.c (.ofNat 2047))) (.o 50 (.o 130 (.o 146 (.v 1) (.v 1)) (.c (.ofNat 52))) (.c (.ofNat 2047)))) = false)
    (h6 : cd a b c d gr tx 2 (.c (.ofNat 0)) (.o 16 (.o 16 (.o 144 (.o 50 (.o 130 (.o 146 (.v 1) (.v 1)) (.c (.ofNat 52))) (.c (.ofNat 2047))) (.o 50 (.o 130 (.o 146 (.v 1) (.v 1)) (.c (.ofNat 52))) (.c (.ofNat 2047)))) (.c (.ofNat 1023))) (.c (.ofNat 52))) = true)
    (h7 : cd a b c d gr tx 0 (.o 130 (.o 146 (.v 1) (.v 1)) (.c (.ofNat 63))) (.c (.ofNat 1)) = false)
    (h8 : cd a b c d gr tx 0 (.o 352 (.o 320 (.o 146 (.v 1) (.v 1)) (.o 146 (.v 1) (.v 1))) (.o 320 (.o 146 (.v 1) (.v 1)) (.o 146 (.v 1) (.v 1)))) (.o 144 (.o 114 (.o 66 (.o 50 (.o 146 (.v 1) (.v 1)) (.c (.ofNat 4503599627370495))) (.c (.ofNat 4503599627370496))) (.o 146 (.o 16 (.o 16 (.o 144 (.o 50 (.o 130 (.o 146 (.v 1) (.v 1)) (.c (.ofNat 52))) (.c (.ofNat 2047))) (.o 50 (.o 130 (.o 146 (.v 1) (.v 1)) (.c (.ofNat 52))) (.c (.ofNat 2047)))) (.c (.ofNat 1023))) (.c (.ofNat 52))) (.o 16 (.o 16 (.o 144 (.o 50 (.o 130 (.o 146 (.v 1) (.v 1)) (.c (.ofNat 52))) (.c (.ofNat 2047))) (.o 50 (.o 130 (.o 146 (.v 1) (.v 1)) (.c (.ofNat 52))) (.c (.ofNat 2047)))) (.c (.ofNat 1023))) (.c (.ofNat 52))))) (.o 114 (.o 66 (.o 50 (.o 146 (.v 1) (.v 1)) (.c (.ofNat 4503599627370495))) (.c (.ofNat 4503599627370496))) (.o 146 (.o 16 (.o 16 (.o 144 (.o 50 (.o 130 (.o 146 (.v 1) (.v 1)) (.c (.ofNat 52))) (.c (.ofNat 2047))) (.o 50 (.o 130 (.o 146 (.v 1) (.v 1)) (.c (.ofNat 52))) (.c (.ofNat 2047)))) (.c (.ofNat 1023))) (.c (.ofNat 52))) (.o 16 (.o 16 (.o 144 (.o 50 (.o 130 (.o 146 (.v 1) (.v 1)) (.c (.ofNat 52))) (.c (.ofNat 2047))) (.o 50 (.o 130 (.o 146 (.v 1) (.v 1)) (.c (.ofNat 52))) (.c (.ofNat 2047)))) (.c (.ofNat 1023))) (.c (.ofNat 52)))))) = false) : False := by
  have h1 := (c_NT b _).symm.trans h1
  have h2 := (c_M b).symm.trans h2
  rw [h1] at h2
  simp at h2
  have h3 := (c_T b).symm.trans h3
  rw [h1] at h3
  simp at h3
  have h4 := (c_L b).symm.trans h4
  have h4 := of_decide_eq_false h4
  have h5 := (c_H b).symm.trans h5
  have h5 := of_decide_eq_false h5
  have h6 := (c_G b).symm.trans h6
  have h6 := of_decide_eq_true h6
  have h7 := (c_S b).symm.trans h7
  obtain ⟨n, e1, e2, e3, e4, e5, e6, e7⟩ := wh_all b h1 (by omega) (by omega)
  have hU := UP_eq b h6 (by omega) (opDen 114 (MT b) (opDen 146 (ST b) (ST b)))
  have hn := e7 h6 (by omega)
  obtain ⟨hU, hl⟩ := hU
  rw [← hn] at hU hl
  change (IT b == opDen 144 (opDen 114 (MT b) (opDen 146 (ST b) (ST b))) (opDen 114 (MT b) (opDen 146 (ST b) (ST b)))) = false at h8
  rw [hU, e1, h7] at h8
  simp [sgz] at h8
theorem ng14_20 (a b c d : Int) (gr : Nat → Nat) (tx : Nat → ByteArray)
    (h1 : cd a b c d gr tx 3 (.o 320 (.o 146 (.v 1) (.v 1)) (.o 146 (.v 1) (.v 1))) (.c (.ofNat 0)) = false)
    (h2 : cd a b c d gr tx 5 (.o 320 (.o 146 (.v 1) (.v 1)) (.o 146 (.v 1) (.v 1))) (.c (.ofNat 14114281232179134464)) = false)
    (h3 : cd a b c d gr tx 8 (.o 320 (.o 146 (.v 1) (.v 1)) (.o 146 (.v 1) (.v 1))) (.c (.ofNat 4890909195324358656)) = false)
    (h4 : cd a b c d gr tx 1 (.o 144 (.o 50 (.o 130 (.o 146 (.v 1) (.v 1)) (.c (.ofNat 52))) (.c (.ofNat 2047))) (.o 50 (.o 130 (.o 146 (.v 1) (.v 1)) (.c (.ofNat 52))) (.c (.ofNat 2047)))) (.c (.ofNat 1023)) = false)
    (h5 : cd a b c d gr tx 2 (.c (.ofNat 1086)) (.o 144 (.o 50 (.o 130 (.o 146 (.v 1) (.v 1)) (.c (.ofNat 52))) (.c (.ofNat 2047))) (.o 50 (.o 130 (.o 146 (.v 1) (.v 1)) (.c (.ofNat 52))) (.c (.ofNat 2047)))) = false)
    (h6 : cd a b c d gr tx 2 (.c (.ofNat 0)) (.o 16 (.o 16 (.o 144 (.o 50 (.o 130 (.o 146 (.v 1) (.v 1)) (.c (.ofNat 52))) (.c (.ofNat 2047))) (.o 50 (.o 130 (.o 146 (.v 1) (.v 1)) (.c (.ofNat 52))) (.c (.ofNat 2047)))) (.c (.ofNat 1023))) (.c (.ofNat 52))) = false)
    (h7 : cd a b c d gr tx 0 (.o 130 (.o 146 (.v 1) (.v 1)) (.c (.ofNat 63))) (.c (.ofNat 1)) = false)
    (h8 : cd a b c d gr tx 0 (.o 352 (.o 320 (.o 146 (.v 1) (.v 1)) (.o 146 (.v 1) (.v 1))) (.o 320 (.o 146 (.v 1) (.v 1)) (.o 146 (.v 1) (.v 1)))) (.o 144 (.o 130 (.o 66 (.o 50 (.o 146 (.v 1) (.v 1)) (.c (.ofNat 4503599627370495))) (.c (.ofNat 4503599627370496))) (.o 146 (.o 16 (.c (.ofNat 0)) (.o 16 (.o 16 (.o 144 (.o 50 (.o 130 (.o 146 (.v 1) (.v 1)) (.c (.ofNat 52))) (.c (.ofNat 2047))) (.o 50 (.o 130 (.o 146 (.v 1) (.v 1)) (.c (.ofNat 52))) (.c (.ofNat 2047)))) (.c (.ofNat 1023))) (.c (.ofNat 52)))) (.o 16 (.c (.ofNat 0)) (.o 16 (.o 16 (.o 144 (.o 50 (.o 130 (.o 146 (.v 1) (.v 1)) (.c (.ofNat 52))) (.c (.ofNat 2047))) (.o 50 (.o 130 (.o 146 (.v 1) (.v 1)) (.c (.ofNat 52))) (.c (.ofNat 2047)))) (.c (.ofNat 1023))) (.c (.ofNat 52)))))) (.o 130 (.o 66 (.o 50 (.o 146 (.v 1) (.v 1)) (.c (.ofNat 4503599627370495))) (.c (.ofNat 4503599627370496))) (.o 146 (.o 16 (.c (.ofNat 0)) (.o 16 (.o 16 (.o 144 (.o 50 (.o 130 (.o 146 (.v 1) (.v 1)) (.c (.ofNat 52))) (.c (.ofNat 2047))) (.o 50 (.o 130 (.o 146 (.v 1) (.v 1)) (.c (.ofNat 52))) (.c (.ofNat 2047)))) (.c (.ofNat 1023))) (.c (.ofNat 52)))) (.o 16 (.c (.ofNat 0)) (.o 16 (.o 16 (.o 144 (.o 50 (.o 130 (.o 146 (.v 1) (.v 1)) (.c (.ofNat 52))) (.c (.ofNat 2047))) (.o 50 (.o 130 (.o 146 (.v 1) (.v 1)) (.c (.ofNat 52))) (.c (.ofNat 2047)))) (.c (.ofNat 1023))) (.c (.ofNat 52))))))) = false) : False := by
  have h1 := (c_NT b _).symm.trans h1
  have h2 := (c_M b).symm.trans h2
  rw [h1] at h2
  simp at h2
  have h3 := (c_T b).symm.trans h3
  rw [h1] at h3
  simp at h3
  have h4 := (c_L b).symm.trans h4
  have h4 := of_decide_eq_false h4
  have h5 := (c_H b).symm.trans h5
  have h5 := of_decide_eq_false h5
  have h6 := (c_G b).symm.trans h6
  have h6 := of_decide_eq_false h6
  have h7 := (c_S b).symm.trans h7
  obtain ⟨n, e1, e2, e3, e4, e5, e6, e7⟩ := wh_all b h1 (by omega) (by omega)
  have hU := DN_eq b (by omega) (by omega) (opDen 130 (MT b) (opDen 146 (NT b) (NT b)))
  have hn := e6 (by omega) (by omega)
  rw [← hn] at hU
  have hl : n < 9223372036854775808 := by
    have := Nat.div_le_self (4503599627370496 + bit64 b % 4503599627370496) (2 ^ (1075 - E (bit64 b)))
    omega
  change (IT b == opDen 144 (opDen 130 (MT b) (opDen 146 (NT b) (NT b))) (opDen 130 (MT b) (opDen 146 (NT b) (NT b)))) = false at h8
  rw [hU, e1, h7] at h8
  simp [sgz] at h8
end Go.Proofs.Ytokiabfhdicfoaa.foldPrim
