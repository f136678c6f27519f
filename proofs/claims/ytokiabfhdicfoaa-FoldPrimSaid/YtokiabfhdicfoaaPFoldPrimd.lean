/- The law FoldPrim: of each word every way. -/
import Derived.Test.YtokiabfhdicfoaaPFoldPrimb0
import Derived.Test.YtokiabfhdicfoaaPFoldPrimb1
import Derived.Test.YtokiabfhdicfoaaPFoldPrimb2
import Derived.Test.YtokiabfhdicfoaaPFoldPrimb3
import Derived.Test.YtokiabfhdicfoaaPFoldPrimb4
import Derived.Test.YtokiabfhdicfoaaPFoldPrimc
namespace Go.Proofs.Ytokiabfhdicfoaa.foldPrim
open Go Go.RowKit Ev
set_option maxRecDepth 1000000
theorem all0 (a b c d : Int) (gr : Nat → Nat) (tx : Nat → ByteArray) : ∃ q, QOk (sy a b c d gr tx) q ∧ runE 1 43 2 q = true := by
  cases h1 : cd a b c d gr tx 0 (.v 0) (.c (.ofNat 2)) with
  | true =>
    cases h2 : cd a b c d gr tx 0 (.v 2) (.c (.ofNat 2)) with
    | true =>
      exact ⟨q0_1, .cons h1 (.cons h2 .nil), leaf0_1⟩
    | false =>
      exact ⟨q0_2, .cons h1 (.cons h2 .nil), leaf0_2⟩
  | false =>
    exact ⟨q0_0, .cons h1 .nil, leaf0_0⟩
theorem all1 (a b c d : Int) (gr : Nat → Nat) (tx : Nat → ByteArray) : ∃ q, QOk (sy a b c d gr tx) q ∧ runE 1 45 2 q = true := by
  cases h1 : cd a b c d gr tx 0 (.v 0) (.c (.ofNat 2)) with
  | true =>
    cases h2 : cd a b c d gr tx 0 (.v 2) (.c (.ofNat 2)) with
    | true =>
      exact ⟨q1_1, .cons h1 (.cons h2 .nil), leaf1_1⟩
    | false =>
      exact ⟨q1_2, .cons h1 (.cons h2 .nil), leaf1_2⟩
  | false =>
    exact ⟨q1_0, .cons h1 .nil, leaf1_0⟩
theorem all2 (a b c d : Int) (gr : Nat → Nat) (tx : Nat → ByteArray) : ∃ q, QOk (sy a b c d gr tx) q ∧ runE 1 42 2 q = true := by
  cases h1 : cd a b c d gr tx 0 (.v 0) (.c (.ofNat 2)) with
  | true =>
    cases h2 : cd a b c d gr tx 0 (.v 2) (.c (.ofNat 2)) with
    | true =>
      exact ⟨q2_1, .cons h1 (.cons h2 .nil), leaf2_1⟩
    | false =>
      exact ⟨q2_2, .cons h1 (.cons h2 .nil), leaf2_2⟩
  | false =>
    exact ⟨q2_0, .cons h1 .nil, leaf2_0⟩
theorem all3 (a b c d : Int) (gr : Nat → Nat) (tx : Nat → ByteArray) : ∃ q, QOk (sy a b c d gr tx) q ∧ runE 3 6580598 2 q = true := by
  cases h1 : cd a b c d gr tx 0 (.v 0) (.c (.ofNat 2)) with
  | true =>
    cases h2 : cd a b c d gr tx 0 (.v 2) (.c (.ofNat 2)) with
    | true =>
      cases h3 : cd a b c d gr tx 0 (.v 3) (.c (.ofNat 0)) with
      | true =>
        exact ⟨q3_2, .cons h1 (.cons h2 (.cons h3 .nil)), leaf3_2⟩
      | false =>
        cases h4 : cd a b c d gr tx 0 (.v 3) (.c (-1)) with
        | true =>
          cases h5 : cd a b c d gr tx 0 (.o 160 (.v 1) (.v 3)) (.o 16 (.c (.ofNat 0)) (.v 1)) with
          | true =>
            exact ⟨q3_4, .cons h1 (.cons h2 (.cons h3 (.cons h4 (.cons h5 .nil)))), leaf3_4⟩
          | false =>
            exact (ng3_0 a b c d gr tx h4 h5).elim
        | false =>
          exact ⟨q3_3, .cons h1 (.cons h2 (.cons h3 (.cons h4 .nil))), leaf3_3⟩
    | false =>
      exact ⟨q3_1, .cons h1 (.cons h2 .nil), leaf3_1⟩
  | false =>
    exact ⟨q3_0, .cons h1 .nil, leaf3_0⟩
theorem all4 (a b c d : Int) (gr : Nat → Nat) (tx : Nat → ByteArray) : ∃ q, QOk (sy a b c d gr tx) q ∧ runE 3 7171940 2 q = true := by
  cases h1 : cd a b c d gr tx 0 (.v 0) (.c (.ofNat 2)) with
  | true =>
    cases h2 : cd a b c d gr tx 0 (.v 2) (.c (.ofNat 2)) with
    | true =>
      cases h3 : cd a b c d gr tx 0 (.v 3) (.c (.ofNat 0)) with
      | true =>
        exact ⟨q4_2, .cons h1 (.cons h2 (.cons h3 .nil)), leaf4_2⟩
      | false =>
        cases h4 : cd a b c d gr tx 0 (.v 3) (.c (-1)) with
        | true =>
          cases h5 : cd a b c d gr tx 0 (.o 176 (.v 1) (.v 3)) (.c (.ofNat 0)) with
          | true =>
            exact ⟨q4_4, .cons h1 (.cons h2 (.cons h3 (.cons h4 (.cons h5 .nil)))), leaf4_4⟩
          | false =>
            exact (ng4_0 a b c d gr tx h4 h5).elim
        | false =>
          exact ⟨q4_3, .cons h1 (.cons h2 (.cons h3 (.cons h4 .nil))), leaf4_3⟩
    | false =>
      exact ⟨q4_1, .cons h1 (.cons h2 .nil), leaf4_1⟩
  | false =>
    exact ⟨q4_0, .cons h1 .nil, leaf4_0⟩
theorem all5 (a b c d : Int) (gr : Nat → Nat) (tx : Nat → ByteArray) : ∃ q, QOk (sy a b c d gr tx) q ∧ runE 1 60 2 q = true := by
  cases h1 : cd a b c d gr tx 0 (.v 0) (.c (.ofNat 2)) with
  | true =>
    cases h2 : cd a b c d gr tx 0 (.v 2) (.c (.ofNat 2)) with
    | true =>
      cases h3 : cd a b c d gr tx 1 (.v 1) (.v 3) with
      | true =>
        exact ⟨q5_2, .cons h1 (.cons h2 (.cons h3 .nil)), leaf5_2⟩
      | false =>
        exact ⟨q5_3, .cons h1 (.cons h2 (.cons h3 .nil)), leaf5_3⟩
    | false =>
      exact ⟨q5_1, .cons h1 (.cons h2 .nil), leaf5_1⟩
  | false =>
    exact ⟨q5_0, .cons h1 .nil, leaf5_0⟩
theorem all6 (a b c d : Int) (gr : Nat → Nat) (tx : Nat → ByteArray) : ∃ q, QOk (sy a b c d gr tx) q ∧ runE 1 61 2 q = true := by
  cases h1 : cd a b c d gr tx 0 (.v 0) (.c (.ofNat 2)) with
  | true =>
    cases h2 : cd a b c d gr tx 0 (.v 2) (.c (.ofNat 2)) with
    | true =>
      cases h3 : cd a b c d gr tx 0 (.v 1) (.v 3) with
      | true =>
        exact ⟨q6_2, .cons h1 (.cons h2 (.cons h3 .nil)), leaf6_2⟩
      | false =>
        exact ⟨q6_3, .cons h1 (.cons h2 (.cons h3 .nil)), leaf6_3⟩
    | false =>
      exact ⟨q6_1, .cons h1 (.cons h2 .nil), leaf6_1⟩
  | false =>
    exact ⟨q6_0, .cons h1 .nil, leaf6_0⟩
theorem all7 (a b c d : Int) (gr : Nat → Nat) (tx : Nat → ByteArray) : ∃ q, QOk (sy a b c d gr tx) q ∧ runE 2 26155 2 q = true := by
  cases h1 : cd a b c d gr tx 0 (.v 0) (.c (.ofNat 3)) with
  | true =>
    cases h2 : cd a b c d gr tx 0 (.v 2) (.c (.ofNat 3)) with
    | true =>
      cases h3 : cd a b c d gr tx 3 (.o 256 (.o 146 (.v 1) (.v 1)) (.o 146 (.v 3) (.v 3))) (.c (.ofNat 0)) with
      | true =>
        exact ⟨q7_2, .cons h1 (.cons h2 (.cons h3 .nil)), leaf7_2⟩
      | false =>
        cases h4 : cd a b c d gr tx 0 (.o 50 (.o 130 (.o 370 (.o 256 (.o 146 (.v 1) (.v 1)) (.o 146 (.v 3) (.v 3))) (.o 256 (.o 146 (.v 1) (.v 1)) (.o 146 (.v 3) (.v 3)))) (.c (.ofNat 52))) (.c (.ofNat 2047))) (.c (.ofNat 2047)) with
        | true =>
          cases h5 : cd a b c d gr tx 0 (.o 50 (.o 370 (.o 256 (.o 146 (.v 1) (.v 1)) (.o 146 (.v 3) (.v 3))) (.o 256 (.o 146 (.v 1) (.v 1)) (.o 146 (.v 3) (.v 3)))) (.c (.ofNat 4503599627370495))) (.c (.ofNat 0)) with
          | true =>
            exact ⟨q7_4, .cons h1 (.cons h2 (.cons h3 (.cons h4 (.cons h5 .nil)))), leaf7_4⟩
          | false =>
            exact (ng7_0 a b c d gr tx h3 h4 h5).elim
        | false =>
          exact ⟨q7_3, .cons h1 (.cons h2 (.cons h3 (.cons h4 .nil))), leaf7_3⟩
    | false =>
      exact ⟨q7_1, .cons h1 (.cons h2 .nil), leaf7_1⟩
  | false =>
    exact ⟨q7_0, .cons h1 .nil, leaf7_0⟩
theorem all8 (a b c d : Int) (gr : Nat → Nat) (tx : Nat → ByteArray) : ∃ q, QOk (sy a b c d gr tx) q ∧ runE 2 26157 2 q = true := by
  cases h1 : cd a b c d gr tx 0 (.v 0) (.c (.ofNat 3)) with
  | true =>
    cases h2 : cd a b c d gr tx 0 (.v 2) (.c (.ofNat 3)) with
    | true =>
      cases h3 : cd a b c d gr tx 3 (.o 272 (.o 146 (.v 1) (.v 1)) (.o 146 (.v 3) (.v 3))) (.c (.ofNat 0)) with
      | true =>
        exact ⟨q8_2, .cons h1 (.cons h2 (.cons h3 .nil)), leaf8_2⟩
      | false =>
        cases h4 : cd a b c d gr tx 0 (.o 50 (.o 130 (.o 370 (.o 272 (.o 146 (.v 1) (.v 1)) (.o 146 (.v 3) (.v 3))) (.o 272 (.o 146 (.v 1) (.v 1)) (.o 146 (.v 3) (.v 3)))) (.c (.ofNat 52))) (.c (.ofNat 2047))) (.c (.ofNat 2047)) with
        | true =>
          cases h5 : cd a b c d gr tx 0 (.o 50 (.o 370 (.o 272 (.o 146 (.v 1) (.v 1)) (.o 146 (.v 3) (.v 3))) (.o 272 (.o 146 (.v 1) (.v 1)) (.o 146 (.v 3) (.v 3)))) (.c (.ofNat 4503599627370495))) (.c (.ofNat 0)) with
          | true =>
            exact ⟨q8_4, .cons h1 (.cons h2 (.cons h3 (.cons h4 (.cons h5 .nil)))), leaf8_4⟩
          | false =>
            exact (ng8_0 a b c d gr tx h3 h4 h5).elim
        | false =>
          exact ⟨q8_3, .cons h1 (.cons h2 (.cons h3 (.cons h4 .nil))), leaf8_3⟩
    | false =>
      exact ⟨q8_1, .cons h1 (.cons h2 .nil), leaf8_1⟩
  | false =>
    exact ⟨q8_0, .cons h1 .nil, leaf8_0⟩
theorem all9 (a b c d : Int) (gr : Nat → Nat) (tx : Nat → ByteArray) : ∃ q, QOk (sy a b c d gr tx) q ∧ runE 2 26154 2 q = true := by
  cases h1 : cd a b c d gr tx 0 (.v 0) (.c (.ofNat 3)) with
  | true =>
    cases h2 : cd a b c d gr tx 0 (.v 2) (.c (.ofNat 3)) with
    | true =>
      cases h3 : cd a b c d gr tx 3 (.o 288 (.o 146 (.v 1) (.v 1)) (.o 146 (.v 3) (.v 3))) (.c (.ofNat 0)) with
      | true =>
        exact ⟨q9_2, .cons h1 (.cons h2 (.cons h3 .nil)), leaf9_2⟩
      | false =>
        cases h4 : cd a b c d gr tx 0 (.o 50 (.o 130 (.o 370 (.o 288 (.o 146 (.v 1) (.v 1)) (.o 146 (.v 3) (.v 3))) (.o 288 (.o 146 (.v 1) (.v 1)) (.o 146 (.v 3) (.v 3)))) (.c (.ofNat 52))) (.c (.ofNat 2047))) (.c (.ofNat 2047)) with
        | true =>
          cases h5 : cd a b c d gr tx 0 (.o 50 (.o 370 (.o 288 (.o 146 (.v 1) (.v 1)) (.o 146 (.v 3) (.v 3))) (.o 288 (.o 146 (.v 1) (.v 1)) (.o 146 (.v 3) (.v 3)))) (.c (.ofNat 4503599627370495))) (.c (.ofNat 0)) with
          | true =>
            exact ⟨q9_4, .cons h1 (.cons h2 (.cons h3 (.cons h4 (.cons h5 .nil)))), leaf9_4⟩
          | false =>
            exact (ng9_0 a b c d gr tx h3 h4 h5).elim
        | false =>
          exact ⟨q9_3, .cons h1 (.cons h2 (.cons h3 (.cons h4 .nil))), leaf9_3⟩
    | false =>
      exact ⟨q9_1, .cons h1 (.cons h2 .nil), leaf9_1⟩
  | false =>
    exact ⟨q9_0, .cons h1 .nil, leaf9_0⟩
theorem all10 (a b c d : Int) (gr : Nat → Nat) (tx : Nat → ByteArray) : ∃ q, QOk (sy a b c d gr tx) q ∧ runE 2 26159 2 q = true := by
  cases h1 : cd a b c d gr tx 0 (.v 0) (.c (.ofNat 3)) with
  | true =>
    cases h2 : cd a b c d gr tx 0 (.v 2) (.c (.ofNat 3)) with
    | true =>
      cases h3 : cd a b c d gr tx 3 (.o 304 (.o 146 (.v 1) (.v 1)) (.o 146 (.v 3) (.v 3))) (.c (.ofNat 0)) with
      | true =>
        exact ⟨q10_2, .cons h1 (.cons h2 (.cons h3 .nil)), leaf10_2⟩
      | false =>
        cases h4 : cd a b c d gr tx 0 (.o 50 (.o 130 (.o 370 (.o 304 (.o 146 (.v 1) (.v 1)) (.o 146 (.v 3) (.v 3))) (.o 304 (.o 146 (.v 1) (.v 1)) (.o 146 (.v 3) (.v 3)))) (.c (.ofNat 52))) (.c (.ofNat 2047))) (.c (.ofNat 2047)) with
        | true =>
          cases h5 : cd a b c d gr tx 0 (.o 50 (.o 370 (.o 304 (.o 146 (.v 1) (.v 1)) (.o 146 (.v 3) (.v 3))) (.o 304 (.o 146 (.v 1) (.v 1)) (.o 146 (.v 3) (.v 3)))) (.c (.ofNat 4503599627370495))) (.c (.ofNat 0)) with
          | true =>
            exact ⟨q10_4, .cons h1 (.cons h2 (.cons h3 (.cons h4 (.cons h5 .nil)))), leaf10_4⟩
          | false =>
            exact (ng10_0 a b c d gr tx h3 h4 h5).elim
        | false =>
          exact ⟨q10_3, .cons h1 (.cons h2 (.cons h3 (.cons h4 .nil))), leaf10_3⟩
    | false =>
      exact ⟨q10_1, .cons h1 (.cons h2 .nil), leaf10_1⟩
  | false =>
    exact ⟨q10_0, .cons h1 .nil, leaf10_0⟩
theorem all11 (a b c d : Int) (gr : Nat → Nat) (tx : Nat → ByteArray) : ∃ q, QOk (sy a b c d gr tx) q ∧ runE 2 26172 2 q = true := by
  cases h1 : cd a b c d gr tx 0 (.v 0) (.c (.ofNat 3)) with
  | true =>
    cases h2 : cd a b c d gr tx 0 (.v 2) (.c (.ofNat 3)) with
    | true =>
      cases h3 : cd a b c d gr tx 5 (.o 146 (.v 1) (.v 1)) (.o 146 (.v 3) (.v 3)) with
      | true =>
        exact ⟨q11_2, .cons h1 (.cons h2 (.cons h3 .nil)), leaf11_2⟩
      | false =>
        exact ⟨q11_3, .cons h1 (.cons h2 (.cons h3 .nil)), leaf11_3⟩
    | false =>
      exact ⟨q11_1, .cons h1 (.cons h2 .nil), leaf11_1⟩
  | false =>
    exact ⟨q11_0, .cons h1 .nil, leaf11_0⟩
theorem all12 (a b c d : Int) (gr : Nat → Nat) (tx : Nat → ByteArray) : ∃ q, QOk (sy a b c d gr tx) q ∧ runE 2 26173 2 q = true := by
  cases h1 : cd a b c d gr tx 0 (.v 0) (.c (.ofNat 3)) with
  | true =>
    cases h2 : cd a b c d gr tx 0 (.v 2) (.c (.ofNat 3)) with
    | true =>
      cases h3 : cd a b c d gr tx 4 (.o 146 (.v 1) (.v 1)) (.o 146 (.v 3) (.v 3)) with
      | true =>
        exact ⟨q12_2, .cons h1 (.cons h2 (.cons h3 .nil)), leaf12_2⟩
      | false =>
        exact ⟨q12_3, .cons h1 (.cons h2 (.cons h3 .nil)), leaf12_3⟩
    | false =>
      exact ⟨q12_1, .cons h1 (.cons h2 .nil), leaf12_1⟩
  | false =>
    exact ⟨q12_0, .cons h1 .nil, leaf12_0⟩
theorem all13 (a b c d : Int) (gr : Nat → Nat) (tx : Nat → ByteArray) : ∃ q, QOk (sy a b c d gr tx) q ∧ runE 5 439905902964 1 q = true := by
  cases h1 : cd a b c d gr tx 0 (.v 0) (.c (.ofNat 2)) with
  | true =>
    exact ⟨q13_0, .cons h1 .nil, leaf13_0⟩
  | false =>
    exact ⟨q13_1, .cons h1 .nil, leaf13_1⟩
theorem all14 (a b c d : Int) (gr : Nat → Nat) (tx : Nat → ByteArray) : ∃ q, QOk (sy a b c d gr tx) q ∧ runE 5 512853240933 1 q = true := by
  cases h1 : cd a b c d gr tx 0 (.v 0) (.c (.ofNat 3)) with
  | true =>
    cases h2 : cd a b c d gr tx 3 (.o 320 (.o 146 (.v 1) (.v 1)) (.o 146 (.v 1) (.v 1))) (.c (.ofNat 0)) with
    | true =>
      cases h3 : cd a b c d gr tx 0 (.o 130 (.o 146 (.v 1) (.v 1)) (.c (.ofNat 63))) (.c (.ofNat 1)) with
      | true =>
        cases h4 : cd a b c d gr tx 1 (.o 144 (.o 50 (.o 130 (.o 146 (.v 1) (.v 1)) (.c (.ofNat 52))) (.c (.ofNat 2047))) (.o 50 (.o 130 (.o 146 (.v 1) (.v 1)) (.c (.ofNat 52))) (.c (.ofNat 2047)))) (.c (.ofNat 1023)) with
        | true =>
          exact (ng14_0 a b c d gr tx h2 h4).elim
        | false =>
          cases h5 : cd a b c d gr tx 2 (.c (.ofNat 1086)) (.o 144 (.o 50 (.o 130 (.o 146 (.v 1) (.v 1)) (.c (.ofNat 52))) (.c (.ofNat 2047))) (.o 50 (.o 130 (.o 146 (.v 1) (.v 1)) (.c (.ofNat 52))) (.c (.ofNat 2047)))) with
          | true =>
            cases h6 : cd a b c d gr tx 0 (.o 146 (.v 1) (.v 1)) (.c (.ofNat 14114281232179134464)) with
            | true =>
              exact (ng14_2 a b c d gr tx h2 h6).elim
            | false =>
              exact ⟨q14_1, .cons h1 (.cons h2 (.cons h3 (.cons h4 (.cons h5 (.cons h6 .nil))))), leaf14_1⟩
          | false =>
            exact (ng14_1 a b c d gr tx h2 h5).elim
      | false =>
        cases h4 : cd a b c d gr tx 1 (.o 144 (.o 50 (.o 130 (.o 146 (.v 1) (.v 1)) (.c (.ofNat 52))) (.c (.ofNat 2047))) (.o 50 (.o 130 (.o 146 (.v 1) (.v 1)) (.c (.ofNat 52))) (.c (.ofNat 2047)))) (.c (.ofNat 1023)) with
        | true =>
          exact (ng14_0 a b c d gr tx h2 h4).elim
        | false =>
          cases h5 : cd a b c d gr tx 2 (.c (.ofNat 1086)) (.o 144 (.o 50 (.o 130 (.o 146 (.v 1) (.v 1)) (.c (.ofNat 52))) (.c (.ofNat 2047))) (.o 50 (.o 130 (.o 146 (.v 1) (.v 1)) (.c (.ofNat 52))) (.c (.ofNat 2047)))) with
          | true =>
            cases h6 : cd a b c d gr tx 0 (.o 146 (.v 1) (.v 1)) (.c (.ofNat 14114281232179134464)) with
            | true =>
              exact (ng14_2 a b c d gr tx h2 h6).elim
            | false =>
              exact ⟨q14_2, .cons h1 (.cons h2 (.cons h3 (.cons h4 (.cons h5 (.cons h6 .nil))))), leaf14_2⟩
          | false =>
            exact (ng14_1 a b c d gr tx h2 h5).elim
    | false =>
      cases h3 : cd a b c d gr tx 5 (.o 320 (.o 146 (.v 1) (.v 1)) (.o 146 (.v 1) (.v 1))) (.c (.ofNat 14114281232179134464)) with
      | true =>
        cases h4 : cd a b c d gr tx 0 (.o 130 (.o 146 (.v 1) (.v 1)) (.c (.ofNat 63))) (.c (.ofNat 1)) with
        | true =>
          cases h5 : cd a b c d gr tx 1 (.o 144 (.o 50 (.o 130 (.o 146 (.v 1) (.v 1)) (.c (.ofNat 52))) (.c (.ofNat 2047))) (.o 50 (.o 130 (.o 146 (.v 1) (.v 1)) (.c (.ofNat 52))) (.c (.ofNat 2047)))) (.c (.ofNat 1023)) with
          | true =>
            exact (ng14_4 a b c d gr tx h2 h3 h5).elim
          | false =>
            cases h6 : cd a b c d gr tx 2 (.c (.ofNat 1086)) (.o 144 (.o 50 (.o 130 (.o 146 (.v 1) (.v 1)) (.c (.ofNat 52))) (.c (.ofNat 2047))) (.o 50 (.o 130 (.o 146 (.v 1) (.v 1)) (.c (.ofNat 52))) (.c (.ofNat 2047)))) with
            | true =>
              cases h7 : cd a b c d gr tx 0 (.o 146 (.v 1) (.v 1)) (.c (.ofNat 14114281232179134464)) with
              | true =>
                exact (ng14_6 a b c d gr tx h2 h3 h7).elim
              | false =>
                exact ⟨q14_3, .cons h1 (.cons h2 (.cons h3 (.cons h4 (.cons h5 (.cons h6 (.cons h7 .nil)))))), leaf14_3⟩
            | false =>
              exact (ng14_5 a b c d gr tx h2 h3 h6).elim
        | false =>
          exact (ng14_3 a b c d gr tx h2 h3 h4).elim
      | false =>
        cases h4 : cd a b c d gr tx 8 (.o 320 (.o 146 (.v 1) (.v 1)) (.o 146 (.v 1) (.v 1))) (.c (.ofNat 4890909195324358656)) with
        | true =>
          cases h5 : cd a b c d gr tx 0 (.o 130 (.o 146 (.v 1) (.v 1)) (.c (.ofNat 63))) (.c (.ofNat 1)) with
          | true =>
            exact (ng14_7 a b c d gr tx h2 h4 h5).elim
          | false =>
            cases h6 : cd a b c d gr tx 1 (.o 144 (.o 50 (.o 130 (.o 146 (.v 1) (.v 1)) (.c (.ofNat 52))) (.c (.ofNat 2047))) (.o 50 (.o 130 (.o 146 (.v 1) (.v 1)) (.c (.ofNat 52))) (.c (.ofNat 2047)))) (.c (.ofNat 1023)) with
            | true =>
              exact (ng14_8 a b c d gr tx h2 h4 h6).elim
            | false =>
              cases h7 : cd a b c d gr tx 2 (.c (.ofNat 1086)) (.o 144 (.o 50 (.o 130 (.o 146 (.v 1) (.v 1)) (.c (.ofNat 52))) (.c (.ofNat 2047))) (.o 50 (.o 130 (.o 146 (.v 1) (.v 1)) (.c (.ofNat 52))) (.c (.ofNat 2047)))) with
              | true =>
                cases h8 : cd a b c d gr tx 0 (.o 146 (.v 1) (.v 1)) (.c (.ofNat 14114281232179134464)) with
                | true =>
                  exact (ng14_10 a b c d gr tx h5 h8).elim
                | false =>
                  exact ⟨q14_4, .cons h1 (.cons h2 (.cons h3 (.cons h4 (.cons h5 (.cons h6 (.cons h7 (.cons h8 .nil))))))), leaf14_4⟩
              | false =>
                exact (ng14_9 a b c d gr tx h2 h4 h7).elim
        | false =>
          cases h5 : cd a b c d gr tx 16 (.o 320 (.o 146 (.v 1) (.v 1)) (.o 146 (.v 1) (.v 1))) (.c (.ofNat 0)) with
          | true =>
            cases h6 : cd a b c d gr tx 0 (.o 130 (.o 146 (.v 1) (.v 1)) (.c (.ofNat 63))) (.c (.ofNat 1)) with
            | true =>
              cases h7 : cd a b c d gr tx 1 (.o 144 (.o 50 (.o 130 (.o 146 (.v 1) (.v 1)) (.c (.ofNat 52))) (.c (.ofNat 2047))) (.o 50 (.o 130 (.o 146 (.v 1) (.v 1)) (.c (.ofNat 52))) (.c (.ofNat 2047)))) (.c (.ofNat 1023)) with
              | true =>
                cases h8 : cd a b c d gr tx 0 (.o 352 (.o 320 (.o 146 (.v 1) (.v 1)) (.o 146 (.v 1) (.v 1))) (.o 320 (.o 146 (.v 1) (.v 1)) (.o 146 (.v 1) (.v 1)))) (.c (.ofNat 0)) with
                | true =>
                  exact ⟨q14_5, .cons h1 (.cons h2 (.cons h3 (.cons h4 (.cons h5 (.cons h6 (.cons h7 (.cons h8 .nil))))))), leaf14_5⟩
                | false =>
                  exact (ng14_12 a b c d gr tx h2 h3 h4 h7 h8).elim
              | false =>
                cases h8 : cd a b c d gr tx 2 (.c (.ofNat 1086)) (.o 144 (.o 50 (.o 130 (.o 146 (.v 1) (.v 1)) (.c (.ofNat 52))) (.c (.ofNat 2047))) (.o 50 (.o 130 (.o 146 (.v 1) (.v 1)) (.c (.ofNat 52))) (.c (.ofNat 2047)))) with
                | true =>
                  cases h9 : cd a b c d gr tx 0 (.o 146 (.v 1) (.v 1)) (.c (.ofNat 14114281232179134464)) with
                  | true =>
                    cases h10 : cd a b c d gr tx 0 (.o 352 (.o 320 (.o 146 (.v 1) (.v 1)) (.o 146 (.v 1) (.v 1))) (.o 320 (.o 146 (.v 1) (.v 1)) (.o 146 (.v 1) (.v 1)))) (.c (-9223372036854775808)) with
                    | true =>
                      exact ⟨q14_7, .cons h1 (.cons h2 (.cons h3 (.cons h4 (.cons h5 (.cons h6 (.cons h7 (.cons h8 (.cons h9 (.cons h10 .nil))))))))), leaf14_7⟩
                    | false =>
                      exact (ng14_14 a b c d gr tx h2 h3 h4 h9 h10).elim
                  | false =>
                    exact (ng14_13 a b c d gr tx h2 h3 h4 h8 h9).elim
                | false =>
                  cases h9 : cd a b c d gr tx 2 (.c (.ofNat 0)) (.o 16 (.o 16 (.o 144 (.o 50 (.o 130 (.o 146 (.v 1) (.v 1)) (.c (.ofNat 52))) (.c (.ofNat 2047))) (.o 50 (.o 130 (.o 146 (.v 1) (.v 1)) (.c (.ofNat 52))) (.c (.ofNat 2047)))) (.c (.ofNat 1023))) (.c (.ofNat 52))) with
                  | true =>
                    cases h10 : cd a b c d gr tx 1 (.o 146 (.o 16 (.o 16 (.o 144 (.o 50 (.o 130 (.o 146 (.v 1) (.v 1)) (.c (.ofNat 52))) (.c (.ofNat 2047))) (.o 50 (.o 130 (.o 146 (.v 1) (.v 1)) (.c (.ofNat 52))) (.c (.ofNat 2047)))) (.c (.ofNat 1023))) (.c (.ofNat 52))) (.o 16 (.o 16 (.o 144 (.o 50 (.o 130 (.o 146 (.v 1) (.v 1)) (.c (.ofNat 52))) (.c (.ofNat 2047))) (.o 50 (.o 130 (.o 146 (.v 1) (.v 1)) (.c (.ofNat 52))) (.c (.ofNat 2047)))) (.c (.ofNat 1023))) (.c (.ofNat 52)))) (.c (.ofNat 0)) with
                    | true =>
                      exact (ng14_15 a b c d gr tx h10).elim
                    | false =>
                      cases h11 : cd a b c d gr tx 0 (.o 352 (.o 320 (.o 146 (.v 1) (.v 1)) (.o 146 (.v 1) (.v 1))) (.o 320 (.o 146 (.v 1) (.v 1)) (.o 146 (.v 1) (.v 1)))) (.o 16 (.c (.ofNat 0)) (.o 144 (.o 114 (.o 66 (.o 50 (.o 146 (.v 1) (.v 1)) (.c (.ofNat 4503599627370495))) (.c (.ofNat 4503599627370496))) (.o 146 (.o 16 (.o 16 (.o 144 (.o 50 (.o 130 (.o 146 (.v 1) (.v 1)) (.c (.ofNat 52))) (.c (.ofNat 2047))) (.o 50 (.o 130 (.o 146 (.v 1) (.v 1)) (.c (.ofNat 52))) (.c (.ofNat 2047)))) (.c (.ofNat 1023))) (.c (.ofNat 52))) (.o 16 (.o 16 (.o 144 (.o 50 (.o 130 (.o 146 (.v 1) (.v 1)) (.c (.ofNat 52))) (.c (.ofNat 2047))) (.o 50 (.o 130 (.o 146 (.v 1) (.v 1)) (.c (.ofNat 52))) (.c (.ofNat 2047)))) (.c (.ofNat 1023))) (.c (.ofNat 52))))) (.o 114 (.o 66 (.o 50 (.o 146 (.v 1) (.v 1)) (.c (.ofNat 4503599627370495))) (.c (.ofNat 4503599627370496))) (.o 146 (.o 16 (.o 16 (.o 144 (.o 50 (.o 130 (.o 146 (.v 1) (.v 1)) (.c (.ofNat 52))) (.c (.ofNat 2047))) (.o 50 (.o 130 (.o 146 (.v 1) (.v 1)) (.c (.ofNat 52))) (.c (.ofNat 2047)))) (.c (.ofNat 1023))) (.c (.ofNat 52))) (.o 16 (.o 16 (.o 144 (.o 50 (.o 130 (.o 146 (.v 1) (.v 1)) (.c (.ofNat 52))) (.c (.ofNat 2047))) (.o 50 (.o 130 (.o 146 (.v 1) (.v 1)) (.c (.ofNat 52))) (.c (.ofNat 2047)))) (.c (.ofNat 1023))) (.c (.ofNat 52))))))) with
                      | true =>
                        exact ⟨q14_8, .cons h1 (.cons h2 (.cons h3 (.cons h4 (.cons h5 (.cons h6 (.cons h7 (.cons h8 (.cons h9 (.cons h10 (.cons h11 .nil)))))))))), leaf14_8⟩
                      | false =>
                        exact (ng14_17 a b c d gr tx h2 h3 h4 h7 h8 h9 h6 h11).elim
                  | false =>
                    cases h10 : cd a b c d gr tx 1 (.o 146 (.o 16 (.c (.ofNat 0)) (.o 16 (.o 16 (.o 144 (.o 50 (.o 130 (.o 146 (.v 1) (.v 1)) (.c (.ofNat 52))) (.c (.ofNat 2047))) (.o 50 (.o 130 (.o 146 (.v 1) (.v 1)) (.c (.ofNat 52))) (.c (.ofNat 2047)))) (.c (.ofNat 1023))) (.c (.ofNat 52)))) (.o 16 (.c (.ofNat 0)) (.o 16 (.o 16 (.o 144 (.o 50 (.o 130 (.o 146 (.v 1) (.v 1)) (.c (.ofNat 52))) (.c (.ofNat 2047))) (.o 50 (.o 130 (.o 146 (.v 1) (.v 1)) (.c (.ofNat 52))) (.c (.ofNat 2047)))) (.c (.ofNat 1023))) (.c (.ofNat 52))))) (.c (.ofNat 0)) with
                    | true =>
                      exact (ng14_16 a b c d gr tx h10).elim
                    | false =>
                      cases h11 : cd a b c d gr tx 0 (.o 352 (.o 320 (.o 146 (.v 1) (.v 1)) (.o 146 (.v 1) (.v 1))) (.o 320 (.o 146 (.v 1) (.v 1)) (.o 146 (.v 1) (.v 1)))) (.o 16 (.c (.ofNat 0)) (.o 144 (.o 130 (.o 66 (.o 50 (.o 146 (.v 1) (.v 1)) (.c (.ofNat 4503599627370495))) (.c (.ofNat 4503599627370496))) (.o 146 (.o 16 (.c (.ofNat 0)) (.o 16 (.o 16 (.o 144 (.o 50 (.o 130 (.o 146 (.v 1) (.v 1)) (.c (.ofNat 52))) (.c (.ofNat 2047))) (.o 50 (.o 130 (.o 146 (.v 1) (.v 1)) (.c (.ofNat 52))) (.c (.ofNat 2047)))) (.c (.ofNat 1023))) (.c (.ofNat 52)))) (.o 16 (.c (.ofNat 0)) (.o 16 (.o 16 (.o 144 (.o 50 (.o 130 (.o 146 (.v 1) (.v 1)) (.c (.ofNat 52))) (.c (.ofNat 2047))) (.o 50 (.o 130 (.o 146 (.v 1) (.v 1)) (.c (.ofNat 52))) (.c (.ofNat 2047)))) (.c (.ofNat 1023))) (.c (.ofNat 52)))))) (.o 130 (.o 66 (.o 50 (.o 146 (.v 1) (.v 1)) (.c (.ofNat 4503599627370495))) (.c (.ofNat 4503599627370496))) (.o 146 (.o 16 (.c (.ofNat 0)) (.o 16 (.o 16 (.o 144 (.o 50 (.o 130 (.o 146 (.v 1) (.v 1)) (.c (.ofNat 52))) (.c (.ofNat 2047))) (.o 50 (.o 130 (.o 146 (.v 1) (.v 1)) (.c (.ofNat 52))) (.c (.ofNat 2047)))) (.c (.ofNat 1023))) (.c (.ofNat 52)))) (.o 16 (.c (.ofNat 0)) (.o 16 (.o 16 (.o 144 (.o 50 (.o 130 (.o 146 (.v 1) (.v 1)) (.c (.ofNat 52))) (.c (.ofNat 2047))) (.o 50 (.o 130 (.o 146 (.v 1) (.v 1)) (.c (.ofNat 52))) (.c (.ofNat 2047)))) (.c (.ofNat 1023))) (.c (.ofNat 52)))))))) with
                      | true =>
                        exact ⟨q14_9, .cons h1 (.cons h2 (.cons h3 (.cons h4 (.cons h5 (.cons h6 (.cons h7 (.cons h8 (.cons h9 (.cons h10 (.cons h11 .nil)))))))))), leaf14_9⟩
                      | false =>
                        exact (ng14_18 a b c d gr tx h2 h3 h4 h7 h8 h9 h6 h11).elim
            | false =>
              cases h7 : cd a b c d gr tx 1 (.o 144 (.o 50 (.o 130 (.o 146 (.v 1) (.v 1)) (.c (.ofNat 52))) (.c (.ofNat 2047))) (.o 50 (.o 130 (.o 146 (.v 1) (.v 1)) (.c (.ofNat 52))) (.c (.ofNat 2047)))) (.c (.ofNat 1023)) with
              | true =>
                cases h8 : cd a b c d gr tx 0 (.o 352 (.o 320 (.o 146 (.v 1) (.v 1)) (.o 146 (.v 1) (.v 1))) (.o 320 (.o 146 (.v 1) (.v 1)) (.o 146 (.v 1) (.v 1)))) (.c (.ofNat 0)) with
                | true =>
                  exact ⟨q14_6, .cons h1 (.cons h2 (.cons h3 (.cons h4 (.cons h5 (.cons h6 (.cons h7 (.cons h8 .nil))))))), leaf14_6⟩
                | false =>
                  exact (ng14_12 a b c d gr tx h2 h3 h4 h7 h8).elim
              | false =>
                cases h8 : cd a b c d gr tx 2 (.c (.ofNat 1086)) (.o 144 (.o 50 (.o 130 (.o 146 (.v 1) (.v 1)) (.c (.ofNat 52))) (.c (.ofNat 2047))) (.o 50 (.o 130 (.o 146 (.v 1) (.v 1)) (.c (.ofNat 52))) (.c (.ofNat 2047)))) with
                | true =>
                  cases h9 : cd a b c d gr tx 0 (.o 146 (.v 1) (.v 1)) (.c (.ofNat 14114281232179134464)) with
                  | true =>
                    exact (ng14_10 a b c d gr tx h6 h9).elim
                  | false =>
                    exact (ng14_13 a b c d gr tx h2 h3 h4 h8 h9).elim
                | false =>
                  cases h9 : cd a b c d gr tx 2 (.c (.ofNat 0)) (.o 16 (.o 16 (.o 144 (.o 50 (.o 130 (.o 146 (.v 1) (.v 1)) (.c (.ofNat 52))) (.c (.ofNat 2047))) (.o 50 (.o 130 (.o 146 (.v 1) (.v 1)) (.c (.ofNat 52))) (.c (.ofNat 2047)))) (.c (.ofNat 1023))) (.c (.ofNat 52))) with
                  | true =>
                    cases h10 : cd a b c d gr tx 1 (.o 146 (.o 16 (.o 16 (.o 144 (.o 50 (.o 130 (.o 146 (.v 1) (.v 1)) (.c (.ofNat 52))) (.c (.ofNat 2047))) (.o 50 (.o 130 (.o 146 (.v 1) (.v 1)) (.c (.ofNat 52))) (.c (.ofNat 2047)))) (.c (.ofNat 1023))) (.c (.ofNat 52))) (.o 16 (.o 16 (.o 144 (.o 50 (.o 130 (.o 146 (.v 1) (.v 1)) (.c (.ofNat 52))) (.c (.ofNat 2047))) (.o 50 (.o 130 (.o 146 (.v 1) (.v 1)) (.c (.ofNat 52))) (.c (.ofNat 2047)))) (.c (.ofNat 1023))) (.c (.ofNat 52)))) (.c (.ofNat 0)) with
                    | true =>
                      exact (ng14_15 a b c d gr tx h10).elim
                    | false =>
                      cases h11 : cd a b c d gr tx 0 (.o 352 (.o 320 (.o 146 (.v 1) (.v 1)) (.o 146 (.v 1) (.v 1))) (.o 320 (.o 146 (.v 1) (.v 1)) (.o 146 (.v 1) (.v 1)))) (.o 144 (.o 114 (.o 66 (.o 50 (.o 146 (.v 1) (.v 1)) (.c (.ofNat 4503599627370495))) (.c (.ofNat 4503599627370496))) (.o 146 (.o 16 (.o 16 (.o 144 (.o 50 (.o 130 (.o 146 (.v 1) (.v 1)) (.c (.ofNat 52))) (.c (.ofNat 2047))) (.o 50 (.o 130 (.o 146 (.v 1) (.v 1)) (.c (.ofNat 52))) (.c (.ofNat 2047)))) (.c (.ofNat 1023))) (.c (.ofNat 52))) (.o 16 (.o 16 (.o 144 (.o 50 (.o 130 (.o 146 (.v 1) (.v 1)) (.c (.ofNat 52))) (.c (.ofNat 2047))) (.o 50 (.o 130 (.o 146 (.v 1) (.v 1)) (.c (.ofNat 52))) (.c (.ofNat 2047)))) (.c (.ofNat 1023))) (.c (.ofNat 52))))) (.o 114 (.o 66 (.o 50 (.o 146 (.v 1) (.v 1)) (.c (.ofNat 4503599627370495))) (.c (.ofNat 4503599627370496))) (.o 146 (.o 16 (.o 16 (.o 144 (.o 50 (.o 130 (.o 146 (.v 1) (.v 1)) (.c (.ofNat 52))) (.c (.ofNat 2047))) (.o 50 (.o 130 (.o 146 (.v 1) (.v 1)) (.c (.ofNat 52))) (.c (.ofNat 2047)))) (.c (.ofNat 1023))) (.c (.ofNat 52))) (.o 16 (.o 16 (.o 144 (.o 50 (.o 130 (.o 146 (.v 1) (.v 1)) (.c (.ofNat 52))) (.c (.ofNat 2047))) (.o 50 (.o 130 (.o 146 (.v 1) (.v 1)) (.c (.ofNat 52))) (.c (.ofNat 2047)))) (.c (.ofNat 1023))) (.c (.ofNat 52)))))) with
                      | true =>
                        exact ⟨q14_10, .cons h1 (.cons h2 (.cons h3 (.cons h4 (.cons h5 (.cons h6 (.cons h7 (.cons h8 (.cons h9 (.cons h10 (.cons h11 .nil)))))))))), leaf14_10⟩
                      | false =>
                        exact (ng14_19 a b c d gr tx h2 h3 h4 h7 h8 h9 h6 h11).elim
                  | false =>
                    cases h10 : cd a b c d gr tx 1 (.o 146 (.o 16 (.c (.ofNat 0)) (.o 16 (.o 16 (.o 144 (.o 50 (.o 130 (.o 146 (.v 1) (.v 1)) (.c (.ofNat 52))) (.c (.ofNat 2047))) (.o 50 (.o 130 (.o 146 (.v 1) (.v 1)) (.c (.ofNat 52))) (.c (.ofNat 2047)))) (.c (.ofNat 1023))) (.c (.ofNat 52)))) (.o 16 (.c (.ofNat 0)) (.o 16 (.o 16 (.o 144 (.o 50 (.o 130 (.o 146 (.v 1) (.v 1)) (.c (.ofNat 52))) (.c (.ofNat 2047))) (.o 50 (.o 130 (.o 146 (.v 1) (.v 1)) (.c (.ofNat 52))) (.c (.ofNat 2047)))) (.c (.ofNat 1023))) (.c (.ofNat 52))))) (.c (.ofNat 0)) with
                    | true =>
                      exact (ng14_16 a b c d gr tx h10).elim
                    | false =>
                      cases h11 : cd a b c d gr tx 0 (.o 352 (.o 320 (.o 146 (.v 1) (.v 1)) (.o 146 (.v 1) (.v 1))) (.o 320 (.o 146 (.v 1) (.v 1)) (.o 146 (.v 1) (.v 1)))) (.o 144 (.o 130 (.o 66 (.o 50 (.o 146 (.v 1) (.v 1)) (.c (.ofNat 4503599627370495))) (.c (.ofNat 4503599627370496))) (.o 146 (.o 16 (.c (.ofNat 0)) (.o 16 (.o 16 (.o 144 (.o 50 (.o 130 (.o 146 (.v 1) (.v 1)) (.c (.ofNat 52))) (.c (.ofNat 2047))) (.o 50 (.o 130 (.o 146 (.v 1) (.v 1)) (.c (.ofNat 52))) (.c (.ofNat 2047)))) (.c (.ofNat 1023))) (.c (.ofNat 52)))) (.o 16 (.c (.ofNat 0)) (.o 16 (.o 16 (.o 144 (.o 50 (.o 130 (.o 146 (.v 1) (.v 1)) (.c (.ofNat 52))) (.c (.ofNat 2047))) (.o 50 (.o 130 (.o 146 (.v 1) (.v 1)) (.c (.ofNat 52))) (.c (.ofNat 2047)))) (.c (.ofNat 1023))) (.c (.ofNat 52)))))) (.o 130 (.o 66 (.o 50 (.o 146 (.v 1) (.v 1)) (.c (.ofNat 4503599627370495))) (.c (.ofNat 4503599627370496))) (.o 146 (.o 16 (.c (.ofNat 0)) (.o 16 (.o 16 (.o 144 (.o 50 (.o 130 (.o 146 (.v 1) (.v 1)) (.c (.ofNat 52))) (.c (.ofNat 2047))) (.o 50 (.o 130 (.o 146 (.v 1) (.v 1)) (.c (.ofNat 52))) (.c (.ofNat 2047)))) (.c (.ofNat 1023))) (.c (.ofNat 52)))) (.o 16 (.c (.ofNat 0)) (.o 16 (.o 16 (.o 144 (.o 50 (.o 130 (.o 146 (.v 1) (.v 1)) (.c (.ofNat 52))) (.c (.ofNat 2047))) (.o 50 (.o 130 (.o 146 (.v 1) (.v 1)) (.c (.ofNat 52))) (.c (.ofNat 2047)))) (.c (.ofNat 1023))) (.c (.ofNat 52))))))) with
                      | true =>
                        exact ⟨q14_11, .cons h1 (.cons h2 (.cons h3 (.cons h4 (.cons h5 (.cons h6 (.cons h7 (.cons h8 (.cons h9 (.cons h10 (.cons h11 .nil)))))))))), leaf14_11⟩
                      | false =>
                        exact (ng14_20 a b c d gr tx h2 h3 h4 h7 h8 h9 h6 h11).elim
          | false =>
            exact (ng14_11 a b c d gr tx h2 h3 h4 h5).elim
  | false =>
    exact ⟨q14_0, .cons h1 .nil, leaf14_0⟩
theorem all15 (a b c d : Int) (gr : Nat → Nat) (tx : Nat → ByteArray) : ∃ q, QOk (sy a b c d gr tx) q ∧ runE 3 7562609 2 q = true := by
  exact ⟨q15_0, .nil, leaf15_0⟩
end Go.Proofs.Ytokiabfhdicfoaa.foldPrim
