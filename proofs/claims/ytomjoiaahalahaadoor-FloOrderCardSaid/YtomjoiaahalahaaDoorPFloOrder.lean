/- THE LAW FloOrder: whatever the arguments, it answers true, and leaves what was there. The package variables that it lists lie as the text of the program lays them. -/
import Derived.Test.YtomjoiaahalahaaDoorPFloOrderb0
import Derived.Test.YtomjoiaahalahaaDoorPFloOrderb1
import Derived.Test.YtomjoiaahalahaaDoorPFloOrderc
import Derived.Test.YtomjoiaahalahaaDoorCards
import Derived.Test.YtomjoiaahalahaaDoorTie
import Derived.LaidMore
import Derived.OpenShut
import Derived.Stop.Joined
import Derived.SevenTiedAt
namespace Go.Proofs.YtomjoiaahalahaaDoor.floOrder
open Go Go.RowKit Ev
set_option maxRecDepth 1000000
open Go.ChangeShapes Go.WideShapes Go.ChangeAt Go.WideMaps Go.WideElems
theorem all (a : Nat) (b : Nat) (c : Nat) (ha : a < 18446744073709551616) (hb : b < 18446744073709551616) (hc : c < 18446744073709551616) (gr : Nat → Nat) : ∃ q, QOk (sy a b c gr) q ∧ run q = true := by
  cases h1 : cd a b c gr 5 (.v 0) (.v 1) with
  | true =>
    cases h2 : cd a b c gr 5 (.v 1) (.v 2) with
    | true =>
      cases h3 : cd a b c gr 5 (.v 0) (.v 2) with
      | true =>
        cases h4 : cd a b c gr 3 (.o 256 (.v 0) (.v 2)) (.c (.ofNat 0)) with
        | true =>
          cases h5 : cd a b c gr 3 (.o 256 (.v 1) (.v 2)) (.c (.ofNat 0)) with
          | true =>
            cases h6 : cd a b c gr 5 (.o 82 (.v 1) (.c (.ofNat 9223372036854775808))) (.o 82 (.v 0) (.c (.ofNat 9223372036854775808))) with
            | true =>
              exact ⟨q0, .cons h1 (.cons h2 (.cons h3 (.cons h4 (.cons h5 (.cons h6 .nil))))), leaf0⟩
            | false =>
              exact (ng1 a b c ha hb hc gr h1 h6).elim
          | false =>
            cases h6 : cd a b c gr 5 (.o 256 (.v 1) (.v 2)) (.c (.ofNat 9221120237041090560)) with
            | true =>
              exact (ng4 a b c ha hb hc gr h6).elim
            | false =>
              cases h7 : cd a b c gr 5 (.o 82 (.v 1) (.c (.ofNat 9223372036854775808))) (.o 82 (.v 0) (.c (.ofNat 9223372036854775808))) with
              | true =>
                exact ⟨q7, .cons h1 (.cons h2 (.cons h3 (.cons h4 (.cons h5 (.cons h6 (.cons h7 .nil)))))), leaf7⟩
              | false =>
                exact (ng1 a b c ha hb hc gr h1 h7).elim
        | false =>
          cases h5 : cd a b c gr 3 (.o 256 (.v 1) (.v 2)) (.c (.ofNat 0)) with
          | true =>
            cases h6 : cd a b c gr 5 (.c (.ofNat 9221120237041090560)) (.o 256 (.v 0) (.v 2)) with
            | true =>
              exact (ng5 a b c ha hb hc gr h6).elim
            | false =>
              cases h7 : cd a b c gr 5 (.o 82 (.v 1) (.c (.ofNat 9223372036854775808))) (.o 82 (.v 0) (.c (.ofNat 9223372036854775808))) with
              | true =>
                exact ⟨q8, .cons h1 (.cons h2 (.cons h3 (.cons h4 (.cons h5 (.cons h6 (.cons h7 .nil)))))), leaf8⟩
              | false =>
                exact (ng1 a b c ha hb hc gr h1 h7).elim
          | false =>
            cases h6 : cd a b c gr 5 (.o 256 (.v 1) (.v 2)) (.o 256 (.v 0) (.v 2)) with
            | true =>
              exact (ng3 a b c ha hb hc gr h1 h4 h5 h6).elim
            | false =>
              cases h7 : cd a b c gr 5 (.o 82 (.v 1) (.c (.ofNat 9223372036854775808))) (.o 82 (.v 0) (.c (.ofNat 9223372036854775808))) with
              | true =>
                exact ⟨q9, .cons h1 (.cons h2 (.cons h3 (.cons h4 (.cons h5 (.cons h6 (.cons h7 .nil)))))), leaf9⟩
              | false =>
                exact (ng1 a b c ha hb hc gr h1 h7).elim
      | false =>
        exact (ng0 a b c ha hb hc gr h1 h2 h3).elim
    | false =>
      cases h3 : cd a b c gr 5 (.v 0) (.v 2) with
      | true =>
        cases h4 : cd a b c gr 3 (.o 256 (.v 0) (.v 2)) (.c (.ofNat 0)) with
        | true =>
          cases h5 : cd a b c gr 3 (.o 256 (.v 1) (.v 2)) (.c (.ofNat 0)) with
          | true =>
            cases h6 : cd a b c gr 5 (.o 82 (.v 1) (.c (.ofNat 9223372036854775808))) (.o 82 (.v 0) (.c (.ofNat 9223372036854775808))) with
            | true =>
              exact ⟨q1, .cons h1 (.cons h2 (.cons h3 (.cons h4 (.cons h5 (.cons h6 .nil))))), leaf1⟩
            | false =>
              exact (ng1 a b c ha hb hc gr h1 h6).elim
          | false =>
            cases h6 : cd a b c gr 5 (.o 256 (.v 1) (.v 2)) (.c (.ofNat 9221120237041090560)) with
            | true =>
              exact (ng4 a b c ha hb hc gr h6).elim
            | false =>
              cases h7 : cd a b c gr 5 (.o 82 (.v 1) (.c (.ofNat 9223372036854775808))) (.o 82 (.v 0) (.c (.ofNat 9223372036854775808))) with
              | true =>
                exact ⟨q10, .cons h1 (.cons h2 (.cons h3 (.cons h4 (.cons h5 (.cons h6 (.cons h7 .nil)))))), leaf10⟩
              | false =>
                exact (ng1 a b c ha hb hc gr h1 h7).elim
        | false =>
          cases h5 : cd a b c gr 3 (.o 256 (.v 1) (.v 2)) (.c (.ofNat 0)) with
          | true =>
            cases h6 : cd a b c gr 5 (.c (.ofNat 9221120237041090560)) (.o 256 (.v 0) (.v 2)) with
            | true =>
              exact (ng5 a b c ha hb hc gr h6).elim
            | false =>
              cases h7 : cd a b c gr 5 (.o 82 (.v 1) (.c (.ofNat 9223372036854775808))) (.o 82 (.v 0) (.c (.ofNat 9223372036854775808))) with
              | true =>
                exact ⟨q11, .cons h1 (.cons h2 (.cons h3 (.cons h4 (.cons h5 (.cons h6 (.cons h7 .nil)))))), leaf11⟩
              | false =>
                exact (ng1 a b c ha hb hc gr h1 h7).elim
          | false =>
            cases h6 : cd a b c gr 5 (.o 256 (.v 1) (.v 2)) (.o 256 (.v 0) (.v 2)) with
            | true =>
              exact (ng3 a b c ha hb hc gr h1 h4 h5 h6).elim
            | false =>
              cases h7 : cd a b c gr 5 (.o 82 (.v 1) (.c (.ofNat 9223372036854775808))) (.o 82 (.v 0) (.c (.ofNat 9223372036854775808))) with
              | true =>
                exact ⟨q12, .cons h1 (.cons h2 (.cons h3 (.cons h4 (.cons h5 (.cons h6 (.cons h7 .nil)))))), leaf12⟩
              | false =>
                exact (ng1 a b c ha hb hc gr h1 h7).elim
      | false =>
        cases h4 : cd a b c gr 3 (.o 256 (.v 0) (.v 2)) (.c (.ofNat 0)) with
        | true =>
          cases h5 : cd a b c gr 3 (.o 256 (.v 1) (.v 2)) (.c (.ofNat 0)) with
          | true =>
            cases h6 : cd a b c gr 5 (.o 82 (.v 1) (.c (.ofNat 9223372036854775808))) (.o 82 (.v 0) (.c (.ofNat 9223372036854775808))) with
            | true =>
              exact ⟨q2, .cons h1 (.cons h2 (.cons h3 (.cons h4 (.cons h5 (.cons h6 .nil))))), leaf2⟩
            | false =>
              exact (ng1 a b c ha hb hc gr h1 h6).elim
          | false =>
            cases h6 : cd a b c gr 5 (.o 256 (.v 1) (.v 2)) (.c (.ofNat 9221120237041090560)) with
            | true =>
              exact (ng4 a b c ha hb hc gr h6).elim
            | false =>
              cases h7 : cd a b c gr 5 (.o 82 (.v 1) (.c (.ofNat 9223372036854775808))) (.o 82 (.v 0) (.c (.ofNat 9223372036854775808))) with
              | true =>
                exact ⟨q13, .cons h1 (.cons h2 (.cons h3 (.cons h4 (.cons h5 (.cons h6 (.cons h7 .nil)))))), leaf13⟩
              | false =>
                exact (ng1 a b c ha hb hc gr h1 h7).elim
        | false =>
          cases h5 : cd a b c gr 3 (.o 256 (.v 1) (.v 2)) (.c (.ofNat 0)) with
          | true =>
            cases h6 : cd a b c gr 5 (.c (.ofNat 9221120237041090560)) (.o 256 (.v 0) (.v 2)) with
            | true =>
              exact (ng5 a b c ha hb hc gr h6).elim
            | false =>
              cases h7 : cd a b c gr 5 (.o 82 (.v 1) (.c (.ofNat 9223372036854775808))) (.o 82 (.v 0) (.c (.ofNat 9223372036854775808))) with
              | true =>
                exact ⟨q14, .cons h1 (.cons h2 (.cons h3 (.cons h4 (.cons h5 (.cons h6 (.cons h7 .nil)))))), leaf14⟩
              | false =>
                exact (ng1 a b c ha hb hc gr h1 h7).elim
          | false =>
            cases h6 : cd a b c gr 5 (.o 256 (.v 1) (.v 2)) (.o 256 (.v 0) (.v 2)) with
            | true =>
              exact (ng3 a b c ha hb hc gr h1 h4 h5 h6).elim
            | false =>
              cases h7 : cd a b c gr 5 (.o 82 (.v 1) (.c (.ofNat 9223372036854775808))) (.o 82 (.v 0) (.c (.ofNat 9223372036854775808))) with
              | true =>
                exact ⟨q15, .cons h1 (.cons h2 (.cons h3 (.cons h4 (.cons h5 (.cons h6 (.cons h7 .nil)))))), leaf15⟩
              | false =>
                exact (ng1 a b c ha hb hc gr h1 h7).elim
  | false =>
    cases h2 : cd a b c gr 5 (.v 1) (.v 2) with
    | true =>
      cases h3 : cd a b c gr 5 (.v 0) (.v 2) with
      | true =>
        cases h4 : cd a b c gr 3 (.o 256 (.v 0) (.v 2)) (.c (.ofNat 0)) with
        | true =>
          cases h5 : cd a b c gr 3 (.o 256 (.v 1) (.v 2)) (.c (.ofNat 0)) with
          | true =>
            cases h6 : cd a b c gr 5 (.o 82 (.v 1) (.c (.ofNat 9223372036854775808))) (.o 82 (.v 0) (.c (.ofNat 9223372036854775808))) with
            | true =>
              exact (ng2 a b c ha hb hc gr h1 h6).elim
            | false =>
              exact ⟨q3, .cons h1 (.cons h2 (.cons h3 (.cons h4 (.cons h5 (.cons h6 .nil))))), leaf3⟩
          | false =>
            cases h6 : cd a b c gr 5 (.o 256 (.v 1) (.v 2)) (.c (.ofNat 9221120237041090560)) with
            | true =>
              exact (ng4 a b c ha hb hc gr h6).elim
            | false =>
              cases h7 : cd a b c gr 5 (.o 82 (.v 1) (.c (.ofNat 9223372036854775808))) (.o 82 (.v 0) (.c (.ofNat 9223372036854775808))) with
              | true =>
                exact (ng2 a b c ha hb hc gr h1 h7).elim
              | false =>
                exact ⟨q16, .cons h1 (.cons h2 (.cons h3 (.cons h4 (.cons h5 (.cons h6 (.cons h7 .nil)))))), leaf16⟩
        | false =>
          cases h5 : cd a b c gr 3 (.o 256 (.v 1) (.v 2)) (.c (.ofNat 0)) with
          | true =>
            cases h6 : cd a b c gr 5 (.c (.ofNat 9221120237041090560)) (.o 256 (.v 0) (.v 2)) with
            | true =>
              exact (ng5 a b c ha hb hc gr h6).elim
            | false =>
              cases h7 : cd a b c gr 5 (.o 82 (.v 1) (.c (.ofNat 9223372036854775808))) (.o 82 (.v 0) (.c (.ofNat 9223372036854775808))) with
              | true =>
                exact (ng2 a b c ha hb hc gr h1 h7).elim
              | false =>
                exact ⟨q17, .cons h1 (.cons h2 (.cons h3 (.cons h4 (.cons h5 (.cons h6 (.cons h7 .nil)))))), leaf17⟩
          | false =>
            cases h6 : cd a b c gr 5 (.o 256 (.v 1) (.v 2)) (.o 256 (.v 0) (.v 2)) with
            | true =>
              cases h7 : cd a b c gr 5 (.o 82 (.v 1) (.c (.ofNat 9223372036854775808))) (.o 82 (.v 0) (.c (.ofNat 9223372036854775808))) with
              | true =>
                exact (ng2 a b c ha hb hc gr h1 h7).elim
              | false =>
                exact ⟨q18, .cons h1 (.cons h2 (.cons h3 (.cons h4 (.cons h5 (.cons h6 (.cons h7 .nil)))))), leaf18⟩
            | false =>
              cases h7 : cd a b c gr 5 (.o 82 (.v 1) (.c (.ofNat 9223372036854775808))) (.o 82 (.v 0) (.c (.ofNat 9223372036854775808))) with
              | true =>
                exact (ng2 a b c ha hb hc gr h1 h7).elim
              | false =>
                exact ⟨q19, .cons h1 (.cons h2 (.cons h3 (.cons h4 (.cons h5 (.cons h6 (.cons h7 .nil)))))), leaf19⟩
      | false =>
        cases h4 : cd a b c gr 3 (.o 256 (.v 0) (.v 2)) (.c (.ofNat 0)) with
        | true =>
          cases h5 : cd a b c gr 3 (.o 256 (.v 1) (.v 2)) (.c (.ofNat 0)) with
          | true =>
            cases h6 : cd a b c gr 5 (.o 82 (.v 1) (.c (.ofNat 9223372036854775808))) (.o 82 (.v 0) (.c (.ofNat 9223372036854775808))) with
            | true =>
              exact (ng2 a b c ha hb hc gr h1 h6).elim
            | false =>
              exact ⟨q4, .cons h1 (.cons h2 (.cons h3 (.cons h4 (.cons h5 (.cons h6 .nil))))), leaf4⟩
          | false =>
            cases h6 : cd a b c gr 5 (.o 256 (.v 1) (.v 2)) (.c (.ofNat 9221120237041090560)) with
            | true =>
              exact (ng4 a b c ha hb hc gr h6).elim
            | false =>
              cases h7 : cd a b c gr 5 (.o 82 (.v 1) (.c (.ofNat 9223372036854775808))) (.o 82 (.v 0) (.c (.ofNat 9223372036854775808))) with
              | true =>
                exact (ng2 a b c ha hb hc gr h1 h7).elim
              | false =>
                exact ⟨q20, .cons h1 (.cons h2 (.cons h3 (.cons h4 (.cons h5 (.cons h6 (.cons h7 .nil)))))), leaf20⟩
        | false =>
          cases h5 : cd a b c gr 3 (.o 256 (.v 1) (.v 2)) (.c (.ofNat 0)) with
          | true =>
            cases h6 : cd a b c gr 5 (.c (.ofNat 9221120237041090560)) (.o 256 (.v 0) (.v 2)) with
            | true =>
              exact (ng5 a b c ha hb hc gr h6).elim
            | false =>
              cases h7 : cd a b c gr 5 (.o 82 (.v 1) (.c (.ofNat 9223372036854775808))) (.o 82 (.v 0) (.c (.ofNat 9223372036854775808))) with
              | true =>
                exact (ng2 a b c ha hb hc gr h1 h7).elim
              | false =>
                exact ⟨q21, .cons h1 (.cons h2 (.cons h3 (.cons h4 (.cons h5 (.cons h6 (.cons h7 .nil)))))), leaf21⟩
          | false =>
            cases h6 : cd a b c gr 5 (.o 256 (.v 1) (.v 2)) (.o 256 (.v 0) (.v 2)) with
            | true =>
              cases h7 : cd a b c gr 5 (.o 82 (.v 1) (.c (.ofNat 9223372036854775808))) (.o 82 (.v 0) (.c (.ofNat 9223372036854775808))) with
              | true =>
                exact (ng2 a b c ha hb hc gr h1 h7).elim
              | false =>
                exact ⟨q22, .cons h1 (.cons h2 (.cons h3 (.cons h4 (.cons h5 (.cons h6 (.cons h7 .nil)))))), leaf22⟩
            | false =>
              cases h7 : cd a b c gr 5 (.o 82 (.v 1) (.c (.ofNat 9223372036854775808))) (.o 82 (.v 0) (.c (.ofNat 9223372036854775808))) with
              | true =>
                exact (ng2 a b c ha hb hc gr h1 h7).elim
              | false =>
                exact ⟨q23, .cons h1 (.cons h2 (.cons h3 (.cons h4 (.cons h5 (.cons h6 (.cons h7 .nil)))))), leaf23⟩
    | false =>
      cases h3 : cd a b c gr 5 (.v 0) (.v 2) with
      | true =>
        cases h4 : cd a b c gr 3 (.o 256 (.v 0) (.v 2)) (.c (.ofNat 0)) with
        | true =>
          cases h5 : cd a b c gr 3 (.o 256 (.v 1) (.v 2)) (.c (.ofNat 0)) with
          | true =>
            cases h6 : cd a b c gr 5 (.o 82 (.v 1) (.c (.ofNat 9223372036854775808))) (.o 82 (.v 0) (.c (.ofNat 9223372036854775808))) with
            | true =>
              exact (ng2 a b c ha hb hc gr h1 h6).elim
            | false =>
              exact ⟨q5, .cons h1 (.cons h2 (.cons h3 (.cons h4 (.cons h5 (.cons h6 .nil))))), leaf5⟩
          | false =>
            cases h6 : cd a b c gr 5 (.o 256 (.v 1) (.v 2)) (.c (.ofNat 9221120237041090560)) with
            | true =>
              exact (ng4 a b c ha hb hc gr h6).elim
            | false =>
              cases h7 : cd a b c gr 5 (.o 82 (.v 1) (.c (.ofNat 9223372036854775808))) (.o 82 (.v 0) (.c (.ofNat 9223372036854775808))) with
              | true =>
                exact (ng2 a b c ha hb hc gr h1 h7).elim
              | false =>
                exact ⟨q24, .cons h1 (.cons h2 (.cons h3 (.cons h4 (.cons h5 (.cons h6 (.cons h7 .nil)))))), leaf24⟩
        | false =>
          cases h5 : cd a b c gr 3 (.o 256 (.v 1) (.v 2)) (.c (.ofNat 0)) with
          | true =>
            cases h6 : cd a b c gr 5 (.c (.ofNat 9221120237041090560)) (.o 256 (.v 0) (.v 2)) with
            | true =>
              exact (ng5 a b c ha hb hc gr h6).elim
            | false =>
              cases h7 : cd a b c gr 5 (.o 82 (.v 1) (.c (.ofNat 9223372036854775808))) (.o 82 (.v 0) (.c (.ofNat 9223372036854775808))) with
              | true =>
                exact (ng2 a b c ha hb hc gr h1 h7).elim
              | false =>
                exact ⟨q25, .cons h1 (.cons h2 (.cons h3 (.cons h4 (.cons h5 (.cons h6 (.cons h7 .nil)))))), leaf25⟩
          | false =>
            cases h6 : cd a b c gr 5 (.o 256 (.v 1) (.v 2)) (.o 256 (.v 0) (.v 2)) with
            | true =>
              cases h7 : cd a b c gr 5 (.o 82 (.v 1) (.c (.ofNat 9223372036854775808))) (.o 82 (.v 0) (.c (.ofNat 9223372036854775808))) with
              | true =>
                exact (ng2 a b c ha hb hc gr h1 h7).elim
              | false =>
                exact ⟨q26, .cons h1 (.cons h2 (.cons h3 (.cons h4 (.cons h5 (.cons h6 (.cons h7 .nil)))))), leaf26⟩
            | false =>
              cases h7 : cd a b c gr 5 (.o 82 (.v 1) (.c (.ofNat 9223372036854775808))) (.o 82 (.v 0) (.c (.ofNat 9223372036854775808))) with
              | true =>
                exact (ng2 a b c ha hb hc gr h1 h7).elim
              | false =>
                exact ⟨q27, .cons h1 (.cons h2 (.cons h3 (.cons h4 (.cons h5 (.cons h6 (.cons h7 .nil)))))), leaf27⟩
      | false =>
        cases h4 : cd a b c gr 3 (.o 256 (.v 0) (.v 2)) (.c (.ofNat 0)) with
        | true =>
          cases h5 : cd a b c gr 3 (.o 256 (.v 1) (.v 2)) (.c (.ofNat 0)) with
          | true =>
            cases h6 : cd a b c gr 5 (.o 82 (.v 1) (.c (.ofNat 9223372036854775808))) (.o 82 (.v 0) (.c (.ofNat 9223372036854775808))) with
            | true =>
              exact (ng2 a b c ha hb hc gr h1 h6).elim
            | false =>
              exact ⟨q6, .cons h1 (.cons h2 (.cons h3 (.cons h4 (.cons h5 (.cons h6 .nil))))), leaf6⟩
          | false =>
            cases h6 : cd a b c gr 5 (.o 256 (.v 1) (.v 2)) (.c (.ofNat 9221120237041090560)) with
            | true =>
              exact (ng4 a b c ha hb hc gr h6).elim
            | false =>
              cases h7 : cd a b c gr 5 (.o 82 (.v 1) (.c (.ofNat 9223372036854775808))) (.o 82 (.v 0) (.c (.ofNat 9223372036854775808))) with
              | true =>
                exact (ng2 a b c ha hb hc gr h1 h7).elim
              | false =>
                exact ⟨q28, .cons h1 (.cons h2 (.cons h3 (.cons h4 (.cons h5 (.cons h6 (.cons h7 .nil)))))), leaf28⟩
        | false =>
          cases h5 : cd a b c gr 3 (.o 256 (.v 1) (.v 2)) (.c (.ofNat 0)) with
          | true =>
            cases h6 : cd a b c gr 5 (.c (.ofNat 9221120237041090560)) (.o 256 (.v 0) (.v 2)) with
            | true =>
              exact (ng5 a b c ha hb hc gr h6).elim
            | false =>
              cases h7 : cd a b c gr 5 (.o 82 (.v 1) (.c (.ofNat 9223372036854775808))) (.o 82 (.v 0) (.c (.ofNat 9223372036854775808))) with
              | true =>
                exact (ng2 a b c ha hb hc gr h1 h7).elim
              | false =>
                exact ⟨q29, .cons h1 (.cons h2 (.cons h3 (.cons h4 (.cons h5 (.cons h6 (.cons h7 .nil)))))), leaf29⟩
          | false =>
            cases h6 : cd a b c gr 5 (.o 256 (.v 1) (.v 2)) (.o 256 (.v 0) (.v 2)) with
            | true =>
              cases h7 : cd a b c gr 5 (.o 82 (.v 1) (.c (.ofNat 9223372036854775808))) (.o 82 (.v 0) (.c (.ofNat 9223372036854775808))) with
              | true =>
                exact (ng2 a b c ha hb hc gr h1 h7).elim
              | false =>
                exact ⟨q30, .cons h1 (.cons h2 (.cons h3 (.cons h4 (.cons h5 (.cons h6 (.cons h7 .nil)))))), leaf30⟩
            | false =>
              cases h7 : cd a b c gr 5 (.o 82 (.v 1) (.c (.ofNat 9223372036854775808))) (.o 82 (.v 0) (.c (.ofNat 9223372036854775808))) with
              | true =>
                exact (ng2 a b c ha hb hc gr h1 h7).elim
              | false =>
                exact ⟨q31, .cons h1 (.cons h2 (.cons h3 (.cons h4 (.cons h5 (.cons h6 (.cons h7 .nil)))))), leaf31⟩
theorem answers {W : World} (hL : laidMetH Tryd.prog Rows.floOrderRow.laid W) (hS : W.ShapedOpen Tryd.prog) (a : Int) (b : Int) (c : Int) (w0 : (Lit.int .u64 a).wf = true) (w1 : (Lit.int .u64 b).wf = true) (w2 : (Lit.int .u64 c).wf = true) :
    Calls Tryd.prog 5 #[.int .u64 a, .int .u64 b, .int .u64 c] W fun e W' => e = .returned (.bool true) ∧ KeptAll W W' := by
  rw [MakeChecks.laidMetH_plain _ _ _ (by kernel_rfl)] at hL
  obtain ⟨ms, hok, hnd⟩ := laid_all (tp := 103) (its := its) hL ⟨arr_fn (t0 := 99) (n := "math/bits.deBruijn32tab") (xs := [0, 1, 28, 2, 29, 14, 24, 3, 30, 22, 20, 15, 25, 17, 4, 8, 31, 27, 13, 23, 21, 19, 16, 7, 26, 12, 18, 6, 11, 5, 10, 9]) (k := .u8) Tryd.underlying99 Tryd.underlying5 (by kernel_rfl) (by kernel_rfl) (by simp) (by kernel_rfl) (by kernel_rfl),
    arr_fn (t0 := 67) (n := "math/bits.deBruijn64tab") (xs := [0, 1, 56, 2, 57, 49, 28, 3, 61, 58, 42, 50, 38, 29, 17, 4, 62, 47, 59, 36, 45, 43, 51, 22, 53, 39, 33, 30, 24, 18, 12, 5, 63, 55, 48, 27, 60, 41, 37, 16, 46, 35, 44, 21, 52, 32, 23, 11, 54, 26, 40, 15, 34, 20, 31, 10, 25, 14, 19, 9, 13, 8, 7, 6]) (k := .u8) Tryd.underlying67 Tryd.underlying5 (by kernel_rfl) (by kernel_rfl) (by simp) (by kernel_rfl) (by kernel_rfl),
    arr_fn (t0 := 76) (n := "internal/strconv.uint64pow10") (xs := [1, 10, 100, 1000, 10000, 100000, 1000000, 10000000, 100000000, 1000000000, 10000000000, 100000000000, 1000000000000, 10000000000000, 100000000000000, 1000000000000000, 10000000000000000, 100000000000000000, 1000000000000000000, 10000000000000000000]) (k := .u64) Tryd.underlying76 Tryd.underlying22 (by kernel_rfl) (by kernel_rfl) (by simp) (by kernel_rfl) (by kernel_rfl), trivial⟩
  obtain ⟨a, rfl, ha⟩ := Ev.Fl.u64_nat w0
  obtain ⟨b, rfl, hb⟩ := Ev.Fl.u64_nat w1
  obtain ⟨c, rfl, hc⟩ := Ev.Fl.u64_nat w2
  have hrel := laid_rel (sy := sy a b c (szAt W)) (n0 := 8) hok hnd (by decide) (by decide) (Nat.le_refl _) (big_heap hS) (fun _ _ => rfl)
  rw [hp_eq] at hrel
  obtain ⟨q, hq, hl⟩ := all a b c ha hb hc (szAt W)
  refine call_true (C := CC) (av := [(a : Int), (b : Int), (c : Int)]) (gr := szAt W) rfl mixed (ov_ok _ _) hl hrel ?_
  exact .cons _ _ _ _ (.x _ _ (.y _ _ (.e 2 (.v 0) q hq))) (.cons _ _ _ _ (.x _ _ (.y _ _ (.e 2 (.v 1) q hq))) (.cons _ _ _ _ (.x _ _ (.y _ _ (.e 2 (.v 2) q hq))) .nil))
theorem door_met (os : Os) (args : Array Value) : laidMetH Tryd.prog Rows.floOrderRow.laid ((World.doorLaid Tryd.prog 1000 os).forCall (fun _ _ => 0) ⟨#[], args, []⟩).memory :=
  laidMetH_of_parts3 (fuel := 8) (laidMet_of_run' 8 (by kernel_rfl) (by kernel_rfl)) (by kernel_rfl) (by kernel_rfl)
theorem lifted (os : Os) (started : os.Started) (H : Type) (enc : TypeId × Value → H) :
    ReturnsInHanded {} Tryd.checked os 5 .any (fun w args => (Rows.floOrderSpec.pre enc Tryd.prog Tryd.f5 [] false w args ∧ laidMetH Tryd.prog Rows.floOrderRow.laid w) ∧ sizedMet enc Tryd.prog Tryd.f5 (OpenSpec.ofChange Rows.floOrderSpec) false w args)
      (Rows.floOrderSpec.post enc Tryd.prog Tryd.f5 false true false false) := by
  refine lift_shaped (C := Tryd.checked) (X := fun w _ => laidMetH Tryd.prog Rows.floOrderRow.laid w) (fun _ _ _ hh h => h.of_heap hh) own started (by kernel_rfl) Tryd.func5
    (ChangeSpec.witness_shaped (enc := enc) (C := Tryd.checked) (os := os) (X := fun w _ => laidMetH Tryd.prog Rows.floOrderRow.laid w) false (World.doorLaid Tryd.prog 1000 os) #[.int .u64 0, .int .u64 0, .int .u64 0] 8 rfl (World.shaped_of_RefB (by kernel_rfl) (by kernel_rfl)) (by kernel_rfl) (by kernel_rfl) (by kernel_rfl) (door_met os _)) ?_
  intro W base args ds gs before hval0 hW _ _ hL hS
  have hval : ∀ (j : Nat) t v, Tryd.f5.params[j]? = some t → args[j]? = some v → Value.okWide Tryd.prog W .any base t v := hval0
  have hW' := hW
  obtain ⟨p, q, hA0, hV, rfl, hfz, hnd⟩ := hW
  have hA : DataW.TrodAll enc Tryd.prog W 0 (fun _ => true) true Tryd.f5.params.toList args.toList ds p := hA0
  rw [Tryd.params5] at hA hval
  obtain ⟨v0, v1, v2, d0, d1, d2, p0, p1, p2, rfl, rfl, rfl, h0, h1, h2⟩ := trodAll_three hA
  obtain ⟨rfl, rfl⟩ := trodVars_none hV
  obtain ⟨a, rfl, rfl, rfl, w0⟩ := open_int Tryd.underlying22 (hval 0 22 v0 rfl rfl) h0
  obtain ⟨b, rfl, rfl, rfl, w1⟩ := open_int Tryd.underlying22 (hval 1 22 v1 rfl rfl) h1
  obtain ⟨c, rfl, rfl, rfl, w2⟩ := open_int Tryd.underlying22 (hval 2 22 v2 rfl rfl) h2
  clear hA0 hval0
  simp only [List.append_nil] at hW'
  refine (answers hL hS a b c w0 w1 w2).mono fun e W' ⟨he, hk⟩ => ⟨_, he, ?_⟩
  exact post_plain (args := #[.int .u64 a, .int .u64 b, .int .u64 c]) hW' (fun _ _ _ => trodAll_mk1 (shut_bool Tryd.underlying4 _)) (fun sp => trodAll_mk3 (shut_int Tryd.underlying22 w0) (shut_int Tryd.underlying22 w1) (shut_int Tryd.underlying22 w2)) (fun _ => rfl) hk (ok_one (by kernel_rfl) rfl (okWide_bool_mk Tryd.underlying4 _))
theorem said : Rows.FloOrderSaid :=
  OpenClaim.holds_of_wide 5 Tryd.f5 rfl rfl rfl rfl rfl rfl rfl ⟨rfl, rfl, rfl, rfl, rfl⟩ rfl rfl rfl rfl rfl (by kernel_rfl) Tryd.func5 (by kernel_rfl)
    (of_decide_eq_true (by kernel_rfl)) (by unfold Func.isWrapper; first | (rw [if_pos (by decide +kernel)]; kernel_rfl) | (rw [if_neg (by decide +kernel)]; exact ⟨rfl, rfl⟩))
    (fun os started H enc _ => lifted os started H enc)
theorem card_holds : Rows.FloOrderCardSaid :=
  Claim7.holds_tied_plain_at .later [] Rows.floOrderCard.laidKinds true Rows.floOrderCard.stood.harness true
    said (fun _ h => by cases h) (by kernel_rfl) (fun _ h => by cases h) floOrder_row_tie rfl ⟨rfl, rfl⟩ (by kernel_rfl) rfl
    (fun f fn hf hfn => by
      obtain rfl : f = 5 := Option.some.inj ((show Tryd.prog.funcNamed "gristmill/gristmilllaw1.FloOrder" = some 5 by kernel_rfl).symm.trans hf) |>.symm
      obtain rfl : fn = Tryd.f5 := (Option.some.inj (Tryd.func5.symm.trans hfn)).symm
      exact ⟨by kernel_rfl, fun j t ht => by
        rw [Tryd.params5] at ht
        have hm : t ∈ [22, 22, 22] := by simpa using Array.mem_of_getElem? ht
        have hall : ([22, 22, 22].all fun u => !Tryd.prog.wantsStandIn u) = true := by kernel_rfl
        exact (show Tryd.prog.wantsStandIn t = false by simpa using List.all_eq_true.1 hall t hm)⟩)
    (by kernel_rfl)
#print axioms card_holds
end Go.Proofs.YtomjoiaahalahaaDoor.floOrder
