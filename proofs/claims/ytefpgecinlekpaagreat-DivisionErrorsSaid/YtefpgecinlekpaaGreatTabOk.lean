/- The whole table is sound (written by gentab.py). -/
import Derived.Test.YtefpgecinlekpaaGreatTabOk1
import Derived.Test.YtefpgecinlekpaaGreatTabOk2
import Derived.Test.YtefpgecinlekpaaGreatTabOk3
import Derived.Test.YtefpgecinlekpaaGreatTabOk4
namespace Go.Proofs.YtefpgecinlekpaaGreat
open Go.Ev
theorem X_ok : ∀ f xf, X f = some xf → FunOk Tryz.prog f xf := by
  intro f xf h
  unfold X at h
  cases hc : Nat.blt f 107 with
  | true =>
    rw [hc, cond_true] at h
    cases hc : Nat.blt f 54 with
    | true =>
      rw [hc, cond_true] at h
      cases hc : Nat.blt f 28 with
      | true =>
        rw [hc, cond_true] at h
        cases hc : Nat.blt f 15 with
        | true =>
          rw [hc, cond_true] at h
          cases hc : Nat.blt f 8 with
          | true =>
            rw [hc, cond_true] at h
            cases hc : Nat.blt f 5 with
            | true =>
              rw [hc, cond_true] at h
              cases hc : Nat.blt f 3 with
              | true =>
                rw [hc, cond_true] at h
                cases hb : Nat.beq f 2 with
                | true => rw [hb, cond_true, Option.some.injEq] at h; rw [← h, Nat.eq_of_beq_eq_true hb]; exact ok2
                | false => rw [hb, cond_false] at h; cases h
              | false =>
                rw [hc, cond_false] at h
                cases hc : Nat.blt f 4 with
                | true =>
                  rw [hc, cond_true] at h
                  cases hb : Nat.beq f 3 with
                  | true => rw [hb, cond_true, Option.some.injEq] at h; rw [← h, Nat.eq_of_beq_eq_true hb]; exact ok3
                  | false => rw [hb, cond_false] at h; cases h
                | false =>
                  rw [hc, cond_false] at h
                  cases hb : Nat.beq f 4 with
                  | true => rw [hb, cond_true, Option.some.injEq] at h; rw [← h, Nat.eq_of_beq_eq_true hb]; exact ok4
                  | false => rw [hb, cond_false] at h; cases h
            | false =>
              rw [hc, cond_false] at h
              cases hc : Nat.blt f 6 with
              | true =>
                rw [hc, cond_true] at h
                cases hb : Nat.beq f 5 with
                | true => rw [hb, cond_true, Option.some.injEq] at h; rw [← h, Nat.eq_of_beq_eq_true hb]; exact ok5
                | false => rw [hb, cond_false] at h; cases h
              | false =>
                rw [hc, cond_false] at h
                cases hc : Nat.blt f 7 with
                | true =>
                  rw [hc, cond_true] at h
                  cases hb : Nat.beq f 6 with
                  | true => rw [hb, cond_true, Option.some.injEq] at h; rw [← h, Nat.eq_of_beq_eq_true hb]; exact ok6
                  | false => rw [hb, cond_false] at h; cases h
                | false =>
                  rw [hc, cond_false] at h
                  cases hb : Nat.beq f 7 with
                  | true => rw [hb, cond_true, Option.some.injEq] at h; rw [← h, Nat.eq_of_beq_eq_true hb]; exact ok7
                  | false => rw [hb, cond_false] at h; cases h
          | false =>
            rw [hc, cond_false] at h
            cases hc : Nat.blt f 11 with
            | true =>
              rw [hc, cond_true] at h
              cases hc : Nat.blt f 9 with
              | true =>
                rw [hc, cond_true] at h
                cases hb : Nat.beq f 8 with
                | true => rw [hb, cond_true, Option.some.injEq] at h; rw [← h, Nat.eq_of_beq_eq_true hb]; exact ok8
                | false => rw [hb, cond_false] at h; cases h
              | false =>
                rw [hc, cond_false] at h
                cases hc : Nat.blt f 10 with
                | true =>
                  rw [hc, cond_true] at h
                  cases hb : Nat.beq f 9 with
                  | true => rw [hb, cond_true, Option.some.injEq] at h; rw [← h, Nat.eq_of_beq_eq_true hb]; exact ok9
                  | false => rw [hb, cond_false] at h; cases h
                | false =>
                  rw [hc, cond_false] at h
                  cases hb : Nat.beq f 10 with
                  | true => rw [hb, cond_true, Option.some.injEq] at h; rw [← h, Nat.eq_of_beq_eq_true hb]; exact ok10
                  | false => rw [hb, cond_false] at h; cases h
            | false =>
              rw [hc, cond_false] at h
              cases hc : Nat.blt f 13 with
              | true =>
                rw [hc, cond_true] at h
                cases hc : Nat.blt f 12 with
                | true =>
                  rw [hc, cond_true] at h
                  cases hb : Nat.beq f 11 with
                  | true => rw [hb, cond_true, Option.some.injEq] at h; rw [← h, Nat.eq_of_beq_eq_true hb]; exact ok11
                  | false => rw [hb, cond_false] at h; cases h
                | false =>
                  rw [hc, cond_false] at h
                  cases hb : Nat.beq f 12 with
                  | true => rw [hb, cond_true, Option.some.injEq] at h; rw [← h, Nat.eq_of_beq_eq_true hb]; exact ok12
                  | false => rw [hb, cond_false] at h; cases h
              | false =>
                rw [hc, cond_false] at h
                cases hc : Nat.blt f 14 with
                | true =>
                  rw [hc, cond_true] at h
                  cases hb : Nat.beq f 13 with
                  | true => rw [hb, cond_true, Option.some.injEq] at h; rw [← h, Nat.eq_of_beq_eq_true hb]; exact ok13
                  | false => rw [hb, cond_false] at h; cases h
                | false =>
                  rw [hc, cond_false] at h
                  cases hb : Nat.beq f 14 with
                  | true => rw [hb, cond_true, Option.some.injEq] at h; rw [← h, Nat.eq_of_beq_eq_true hb]; exact ok14
                  | false => rw [hb, cond_false] at h; cases h
        | false =>
          rw [hc, cond_false] at h
          cases hc : Nat.blt f 21 with
          | true =>
            rw [hc, cond_true] at h
            cases hc : Nat.blt f 18 with
            | true =>
              rw [hc, cond_true] at h
              cases hc : Nat.blt f 16 with
              | true =>
                rw [hc, cond_true] at h
                cases hb : Nat.beq f 15 with
                | true => rw [hb, cond_true, Option.some.injEq] at h; rw [← h, Nat.eq_of_beq_eq_true hb]; exact ok15
                | false => rw [hb, cond_false] at h; cases h
              | false =>
                rw [hc, cond_false] at h
                cases hc : Nat.blt f 17 with
                | true =>
                  rw [hc, cond_true] at h
                  cases hb : Nat.beq f 16 with
                  | true => rw [hb, cond_true, Option.some.injEq] at h; rw [← h, Nat.eq_of_beq_eq_true hb]; exact ok16
                  | false => rw [hb, cond_false] at h; cases h
                | false =>
                  rw [hc, cond_false] at h
                  cases hb : Nat.beq f 17 with
                  | true => rw [hb, cond_true, Option.some.injEq] at h; rw [← h, Nat.eq_of_beq_eq_true hb]; exact ok17
                  | false => rw [hb, cond_false] at h; cases h
            | false =>
              rw [hc, cond_false] at h
              cases hc : Nat.blt f 19 with
              | true =>
                rw [hc, cond_true] at h
                cases hb : Nat.beq f 18 with
                | true => rw [hb, cond_true, Option.some.injEq] at h; rw [← h, Nat.eq_of_beq_eq_true hb]; exact ok18
                | false => rw [hb, cond_false] at h; cases h
              | false =>
                rw [hc, cond_false] at h
                cases hc : Nat.blt f 20 with
                | true =>
                  rw [hc, cond_true] at h
                  cases hb : Nat.beq f 19 with
                  | true => rw [hb, cond_true, Option.some.injEq] at h; rw [← h, Nat.eq_of_beq_eq_true hb]; exact ok19
                  | false => rw [hb, cond_false] at h; cases h
                | false =>
                  rw [hc, cond_false] at h
                  cases hb : Nat.beq f 20 with
                  | true => rw [hb, cond_true, Option.some.injEq] at h; rw [← h, Nat.eq_of_beq_eq_true hb]; exact ok20
                  | false => rw [hb, cond_false] at h; cases h
          | false =>
            rw [hc, cond_false] at h
            cases hc : Nat.blt f 24 with
            | true =>
              rw [hc, cond_true] at h
              cases hc : Nat.blt f 22 with
              | true =>
                rw [hc, cond_true] at h
                cases hb : Nat.beq f 21 with
                | true => rw [hb, cond_true, Option.some.injEq] at h; rw [← h, Nat.eq_of_beq_eq_true hb]; exact ok21
                | false => rw [hb, cond_false] at h; cases h
              | false =>
                rw [hc, cond_false] at h
                cases hc : Nat.blt f 23 with
                | true =>
                  rw [hc, cond_true] at h
                  cases hb : Nat.beq f 22 with
                  | true => rw [hb, cond_true, Option.some.injEq] at h; rw [← h, Nat.eq_of_beq_eq_true hb]; exact ok22
                  | false => rw [hb, cond_false] at h; cases h
                | false =>
                  rw [hc, cond_false] at h
                  cases hb : Nat.beq f 23 with
                  | true => rw [hb, cond_true, Option.some.injEq] at h; rw [← h, Nat.eq_of_beq_eq_true hb]; exact ok23
                  | false => rw [hb, cond_false] at h; cases h
            | false =>
              rw [hc, cond_false] at h
              cases hc : Nat.blt f 26 with
              | true =>
                rw [hc, cond_true] at h
                cases hc : Nat.blt f 25 with
                | true =>
                  rw [hc, cond_true] at h
                  cases hb : Nat.beq f 24 with
                  | true => rw [hb, cond_true, Option.some.injEq] at h; rw [← h, Nat.eq_of_beq_eq_true hb]; exact ok24
                  | false => rw [hb, cond_false] at h; cases h
                | false =>
                  rw [hc, cond_false] at h
                  cases hb : Nat.beq f 25 with
                  | true => rw [hb, cond_true, Option.some.injEq] at h; rw [← h, Nat.eq_of_beq_eq_true hb]; exact ok25
                  | false => rw [hb, cond_false] at h; cases h
              | false =>
                rw [hc, cond_false] at h
                cases hc : Nat.blt f 27 with
                | true =>
                  rw [hc, cond_true] at h
                  cases hb : Nat.beq f 26 with
                  | true => rw [hb, cond_true, Option.some.injEq] at h; rw [← h, Nat.eq_of_beq_eq_true hb]; exact ok26
                  | false => rw [hb, cond_false] at h; cases h
                | false =>
                  rw [hc, cond_false] at h
                  cases hb : Nat.beq f 27 with
                  | true => rw [hb, cond_true, Option.some.injEq] at h; rw [← h, Nat.eq_of_beq_eq_true hb]; exact ok27
                  | false => rw [hb, cond_false] at h; cases h
      | false =>
        rw [hc, cond_false] at h
        cases hc : Nat.blt f 41 with
        | true =>
          rw [hc, cond_true] at h
          cases hc : Nat.blt f 34 with
          | true =>
            rw [hc, cond_true] at h
            cases hc : Nat.blt f 31 with
            | true =>
              rw [hc, cond_true] at h
              cases hc : Nat.blt f 29 with
              | true =>
                rw [hc, cond_true] at h
                cases hb : Nat.beq f 28 with
                | true => rw [hb, cond_true, Option.some.injEq] at h; rw [← h, Nat.eq_of_beq_eq_true hb]; exact ok28
                | false => rw [hb, cond_false] at h; cases h
              | false =>
                rw [hc, cond_false] at h
                cases hc : Nat.blt f 30 with
                | true =>
                  rw [hc, cond_true] at h
                  cases hb : Nat.beq f 29 with
                  | true => rw [hb, cond_true, Option.some.injEq] at h; rw [← h, Nat.eq_of_beq_eq_true hb]; exact ok29
                  | false => rw [hb, cond_false] at h; cases h
                | false =>
                  rw [hc, cond_false] at h
                  cases hb : Nat.beq f 30 with
                  | true => rw [hb, cond_true, Option.some.injEq] at h; rw [← h, Nat.eq_of_beq_eq_true hb]; exact ok30
                  | false => rw [hb, cond_false] at h; cases h
            | false =>
              rw [hc, cond_false] at h
              cases hc : Nat.blt f 32 with
              | true =>
                rw [hc, cond_true] at h
                cases hb : Nat.beq f 31 with
                | true => rw [hb, cond_true, Option.some.injEq] at h; rw [← h, Nat.eq_of_beq_eq_true hb]; exact ok31
                | false => rw [hb, cond_false] at h; cases h
              | false =>
                rw [hc, cond_false] at h
                cases hc : Nat.blt f 33 with
                | true =>
                  rw [hc, cond_true] at h
                  cases hb : Nat.beq f 32 with
                  | true => rw [hb, cond_true, Option.some.injEq] at h; rw [← h, Nat.eq_of_beq_eq_true hb]; exact ok32
                  | false => rw [hb, cond_false] at h; cases h
                | false =>
                  rw [hc, cond_false] at h
                  cases hb : Nat.beq f 33 with
                  | true => rw [hb, cond_true, Option.some.injEq] at h; rw [← h, Nat.eq_of_beq_eq_true hb]; exact ok33
                  | false => rw [hb, cond_false] at h; cases h
          | false =>
            rw [hc, cond_false] at h
            cases hc : Nat.blt f 37 with
            | true =>
              rw [hc, cond_true] at h
              cases hc : Nat.blt f 35 with
              | true =>
                rw [hc, cond_true] at h
                cases hb : Nat.beq f 34 with
                | true => rw [hb, cond_true, Option.some.injEq] at h; rw [← h, Nat.eq_of_beq_eq_true hb]; exact ok34
                | false => rw [hb, cond_false] at h; cases h
              | false =>
                rw [hc, cond_false] at h
                cases hc : Nat.blt f 36 with
                | true =>
                  rw [hc, cond_true] at h
                  cases hb : Nat.beq f 35 with
                  | true => rw [hb, cond_true, Option.some.injEq] at h; rw [← h, Nat.eq_of_beq_eq_true hb]; exact ok35
                  | false => rw [hb, cond_false] at h; cases h
                | false =>
                  rw [hc, cond_false] at h
                  cases hb : Nat.beq f 36 with
                  | true => rw [hb, cond_true, Option.some.injEq] at h; rw [← h, Nat.eq_of_beq_eq_true hb]; exact ok36
                  | false => rw [hb, cond_false] at h; cases h
            | false =>
              rw [hc, cond_false] at h
              cases hc : Nat.blt f 39 with
              | true =>
                rw [hc, cond_true] at h
                cases hc : Nat.blt f 38 with
                | true =>
                  rw [hc, cond_true] at h
                  cases hb : Nat.beq f 37 with
                  | true => rw [hb, cond_true, Option.some.injEq] at h; rw [← h, Nat.eq_of_beq_eq_true hb]; exact ok37
                  | false => rw [hb, cond_false] at h; cases h
                | false =>
                  rw [hc, cond_false] at h
                  cases hb : Nat.beq f 38 with
                  | true => rw [hb, cond_true, Option.some.injEq] at h; rw [← h, Nat.eq_of_beq_eq_true hb]; exact ok38
                  | false => rw [hb, cond_false] at h; cases h
              | false =>
                rw [hc, cond_false] at h
                cases hc : Nat.blt f 40 with
                | true =>
                  rw [hc, cond_true] at h
                  cases hb : Nat.beq f 39 with
                  | true => rw [hb, cond_true, Option.some.injEq] at h; rw [← h, Nat.eq_of_beq_eq_true hb]; exact ok39
                  | false => rw [hb, cond_false] at h; cases h
                | false =>
                  rw [hc, cond_false] at h
                  cases hb : Nat.beq f 40 with
                  | true => rw [hb, cond_true, Option.some.injEq] at h; rw [← h, Nat.eq_of_beq_eq_true hb]; exact ok40
                  | false => rw [hb, cond_false] at h; cases h
        | false =>
          rw [hc, cond_false] at h
          cases hc : Nat.blt f 47 with
          | true =>
            rw [hc, cond_true] at h
            cases hc : Nat.blt f 44 with
            | true =>
              rw [hc, cond_true] at h
              cases hc : Nat.blt f 42 with
              | true =>
                rw [hc, cond_true] at h
                cases hb : Nat.beq f 41 with
                | true => rw [hb, cond_true, Option.some.injEq] at h; rw [← h, Nat.eq_of_beq_eq_true hb]; exact ok41
                | false => rw [hb, cond_false] at h; cases h
              | false =>
                rw [hc, cond_false] at h
                cases hc : Nat.blt f 43 with
                | true =>
                  rw [hc, cond_true] at h
                  cases hb : Nat.beq f 42 with
                  | true => rw [hb, cond_true, Option.some.injEq] at h; rw [← h, Nat.eq_of_beq_eq_true hb]; exact ok42
                  | false => rw [hb, cond_false] at h; cases h
                | false =>
                  rw [hc, cond_false] at h
                  cases hb : Nat.beq f 43 with
                  | true => rw [hb, cond_true, Option.some.injEq] at h; rw [← h, Nat.eq_of_beq_eq_true hb]; exact ok43
                  | false => rw [hb, cond_false] at h; cases h
            | false =>
              rw [hc, cond_false] at h
              cases hc : Nat.blt f 45 with
              | true =>
                rw [hc, cond_true] at h
                cases hb : Nat.beq f 44 with
                | true => rw [hb, cond_true, Option.some.injEq] at h; rw [← h, Nat.eq_of_beq_eq_true hb]; exact ok44
                | false => rw [hb, cond_false] at h; cases h
              | false =>
                rw [hc, cond_false] at h
                cases hc : Nat.blt f 46 with
                | true =>
                  rw [hc, cond_true] at h
                  cases hb : Nat.beq f 45 with
                  | true => rw [hb, cond_true, Option.some.injEq] at h; rw [← h, Nat.eq_of_beq_eq_true hb]; exact ok45
                  | false => rw [hb, cond_false] at h; cases h
                | false =>
                  rw [hc, cond_false] at h
                  cases hb : Nat.beq f 46 with
                  | true => rw [hb, cond_true, Option.some.injEq] at h; rw [← h, Nat.eq_of_beq_eq_true hb]; exact ok46
                  | false => rw [hb, cond_false] at h; cases h
          | false =>
            rw [hc, cond_false] at h
            cases hc : Nat.blt f 50 with
            | true =>
              rw [hc, cond_true] at h
              cases hc : Nat.blt f 48 with
              | true =>
                rw [hc, cond_true] at h
                cases hb : Nat.beq f 47 with
                | true => rw [hb, cond_true, Option.some.injEq] at h; rw [← h, Nat.eq_of_beq_eq_true hb]; exact ok47
                | false => rw [hb, cond_false] at h; cases h
              | false =>
                rw [hc, cond_false] at h
                cases hc : Nat.blt f 49 with
                | true =>
                  rw [hc, cond_true] at h
                  cases hb : Nat.beq f 48 with
                  | true => rw [hb, cond_true, Option.some.injEq] at h; rw [← h, Nat.eq_of_beq_eq_true hb]; exact ok48
                  | false => rw [hb, cond_false] at h; cases h
                | false =>
                  rw [hc, cond_false] at h
                  cases hb : Nat.beq f 49 with
                  | true => rw [hb, cond_true, Option.some.injEq] at h; rw [← h, Nat.eq_of_beq_eq_true hb]; exact ok49
                  | false => rw [hb, cond_false] at h; cases h
            | false =>
              rw [hc, cond_false] at h
              cases hc : Nat.blt f 52 with
              | true =>
                rw [hc, cond_true] at h
                cases hc : Nat.blt f 51 with
                | true =>
                  rw [hc, cond_true] at h
                  cases hb : Nat.beq f 50 with
                  | true => rw [hb, cond_true, Option.some.injEq] at h; rw [← h, Nat.eq_of_beq_eq_true hb]; exact ok50
                  | false => rw [hb, cond_false] at h; cases h
                | false =>
                  rw [hc, cond_false] at h
                  cases hb : Nat.beq f 51 with
                  | true => rw [hb, cond_true, Option.some.injEq] at h; rw [← h, Nat.eq_of_beq_eq_true hb]; exact ok51
                  | false => rw [hb, cond_false] at h; cases h
              | false =>
                rw [hc, cond_false] at h
                cases hc : Nat.blt f 53 with
                | true =>
                  rw [hc, cond_true] at h
                  cases hb : Nat.beq f 52 with
                  | true => rw [hb, cond_true, Option.some.injEq] at h; rw [← h, Nat.eq_of_beq_eq_true hb]; exact ok52
                  | false => rw [hb, cond_false] at h; cases h
                | false =>
                  rw [hc, cond_false] at h
                  cases hb : Nat.beq f 53 with
                  | true => rw [hb, cond_true, Option.some.injEq] at h; rw [← h, Nat.eq_of_beq_eq_true hb]; exact ok53
                  | false => rw [hb, cond_false] at h; cases h
    | false =>
      rw [hc, cond_false] at h
      cases hc : Nat.blt f 80 with
      | true =>
        rw [hc, cond_true] at h
        cases hc : Nat.blt f 67 with
        | true =>
          rw [hc, cond_true] at h
          cases hc : Nat.blt f 60 with
          | true =>
            rw [hc, cond_true] at h
            cases hc : Nat.blt f 57 with
            | true =>
              rw [hc, cond_true] at h
              cases hc : Nat.blt f 55 with
              | true =>
                rw [hc, cond_true] at h
                cases hb : Nat.beq f 54 with
                | true => rw [hb, cond_true, Option.some.injEq] at h; rw [← h, Nat.eq_of_beq_eq_true hb]; exact ok54
                | false => rw [hb, cond_false] at h; cases h
              | false =>
                rw [hc, cond_false] at h
                cases hc : Nat.blt f 56 with
                | true =>
                  rw [hc, cond_true] at h
                  cases hb : Nat.beq f 55 with
                  | true => rw [hb, cond_true, Option.some.injEq] at h; rw [← h, Nat.eq_of_beq_eq_true hb]; exact ok55
                  | false => rw [hb, cond_false] at h; cases h
                | false =>
                  rw [hc, cond_false] at h
                  cases hb : Nat.beq f 56 with
                  | true => rw [hb, cond_true, Option.some.injEq] at h; rw [← h, Nat.eq_of_beq_eq_true hb]; exact ok56
                  | false => rw [hb, cond_false] at h; cases h
            | false =>
              rw [hc, cond_false] at h
              cases hc : Nat.blt f 58 with
              | true =>
                rw [hc, cond_true] at h
                cases hb : Nat.beq f 57 with
                | true => rw [hb, cond_true, Option.some.injEq] at h; rw [← h, Nat.eq_of_beq_eq_true hb]; exact ok57
                | false => rw [hb, cond_false] at h; cases h
              | false =>
                rw [hc, cond_false] at h
                cases hc : Nat.blt f 59 with
                | true =>
                  rw [hc, cond_true] at h
                  cases hb : Nat.beq f 58 with
                  | true => rw [hb, cond_true, Option.some.injEq] at h; rw [← h, Nat.eq_of_beq_eq_true hb]; exact ok58
                  | false => rw [hb, cond_false] at h; cases h
                | false =>
                  rw [hc, cond_false] at h
                  cases hb : Nat.beq f 59 with
                  | true => rw [hb, cond_true, Option.some.injEq] at h; rw [← h, Nat.eq_of_beq_eq_true hb]; exact ok59
                  | false => rw [hb, cond_false] at h; cases h
          | false =>
            rw [hc, cond_false] at h
            cases hc : Nat.blt f 63 with
            | true =>
              rw [hc, cond_true] at h
              cases hc : Nat.blt f 61 with
              | true =>
                rw [hc, cond_true] at h
                cases hb : Nat.beq f 60 with
                | true => rw [hb, cond_true, Option.some.injEq] at h; rw [← h, Nat.eq_of_beq_eq_true hb]; exact ok60
                | false => rw [hb, cond_false] at h; cases h
              | false =>
                rw [hc, cond_false] at h
                cases hc : Nat.blt f 62 with
                | true =>
                  rw [hc, cond_true] at h
                  cases hb : Nat.beq f 61 with
                  | true => rw [hb, cond_true, Option.some.injEq] at h; rw [← h, Nat.eq_of_beq_eq_true hb]; exact ok61
                  | false => rw [hb, cond_false] at h; cases h
                | false =>
                  rw [hc, cond_false] at h
                  cases hb : Nat.beq f 62 with
                  | true => rw [hb, cond_true, Option.some.injEq] at h; rw [← h, Nat.eq_of_beq_eq_true hb]; exact ok62
                  | false => rw [hb, cond_false] at h; cases h
            | false =>
              rw [hc, cond_false] at h
              cases hc : Nat.blt f 65 with
              | true =>
                rw [hc, cond_true] at h
                cases hc : Nat.blt f 64 with
                | true =>
                  rw [hc, cond_true] at h
                  cases hb : Nat.beq f 63 with
                  | true => rw [hb, cond_true, Option.some.injEq] at h; rw [← h, Nat.eq_of_beq_eq_true hb]; exact ok63
                  | false => rw [hb, cond_false] at h; cases h
                | false =>
                  rw [hc, cond_false] at h
                  cases hb : Nat.beq f 64 with
                  | true => rw [hb, cond_true, Option.some.injEq] at h; rw [← h, Nat.eq_of_beq_eq_true hb]; exact ok64
                  | false => rw [hb, cond_false] at h; cases h
              | false =>
                rw [hc, cond_false] at h
                cases hc : Nat.blt f 66 with
                | true =>
                  rw [hc, cond_true] at h
                  cases hb : Nat.beq f 65 with
                  | true => rw [hb, cond_true, Option.some.injEq] at h; rw [← h, Nat.eq_of_beq_eq_true hb]; exact ok65
                  | false => rw [hb, cond_false] at h; cases h
                | false =>
                  rw [hc, cond_false] at h
                  cases hb : Nat.beq f 66 with
                  | true => rw [hb, cond_true, Option.some.injEq] at h; rw [← h, Nat.eq_of_beq_eq_true hb]; exact ok66
                  | false => rw [hb, cond_false] at h; cases h
        | false =>
          rw [hc, cond_false] at h
          cases hc : Nat.blt f 73 with
          | true =>
            rw [hc, cond_true] at h
            cases hc : Nat.blt f 70 with
            | true =>
              rw [hc, cond_true] at h
              cases hc : Nat.blt f 68 with
              | true =>
                rw [hc, cond_true] at h
                cases hb : Nat.beq f 67 with
                | true => rw [hb, cond_true, Option.some.injEq] at h; rw [← h, Nat.eq_of_beq_eq_true hb]; exact ok67
                | false => rw [hb, cond_false] at h; cases h
              | false =>
                rw [hc, cond_false] at h
                cases hc : Nat.blt f 69 with
                | true =>
                  rw [hc, cond_true] at h
                  cases hb : Nat.beq f 68 with
                  | true => rw [hb, cond_true, Option.some.injEq] at h; rw [← h, Nat.eq_of_beq_eq_true hb]; exact ok68
                  | false => rw [hb, cond_false] at h; cases h
                | false =>
                  rw [hc, cond_false] at h
                  cases hb : Nat.beq f 69 with
                  | true => rw [hb, cond_true, Option.some.injEq] at h; rw [← h, Nat.eq_of_beq_eq_true hb]; exact ok69
                  | false => rw [hb, cond_false] at h; cases h
            | false =>
              rw [hc, cond_false] at h
              cases hc : Nat.blt f 71 with
              | true =>
                rw [hc, cond_true] at h
                cases hb : Nat.beq f 70 with
                | true => rw [hb, cond_true, Option.some.injEq] at h; rw [← h, Nat.eq_of_beq_eq_true hb]; exact ok70
                | false => rw [hb, cond_false] at h; cases h
              | false =>
                rw [hc, cond_false] at h
                cases hc : Nat.blt f 72 with
                | true =>
                  rw [hc, cond_true] at h
                  cases hb : Nat.beq f 71 with
                  | true => rw [hb, cond_true, Option.some.injEq] at h; rw [← h, Nat.eq_of_beq_eq_true hb]; exact ok71
                  | false => rw [hb, cond_false] at h; cases h
                | false =>
                  rw [hc, cond_false] at h
                  cases hb : Nat.beq f 72 with
                  | true => rw [hb, cond_true, Option.some.injEq] at h; rw [← h, Nat.eq_of_beq_eq_true hb]; exact ok72
                  | false => rw [hb, cond_false] at h; cases h
          | false =>
            rw [hc, cond_false] at h
            cases hc : Nat.blt f 76 with
            | true =>
              rw [hc, cond_true] at h
              cases hc : Nat.blt f 74 with
              | true =>
                rw [hc, cond_true] at h
                cases hb : Nat.beq f 73 with
                | true => rw [hb, cond_true, Option.some.injEq] at h; rw [← h, Nat.eq_of_beq_eq_true hb]; exact ok73
                | false => rw [hb, cond_false] at h; cases h
              | false =>
                rw [hc, cond_false] at h
                cases hc : Nat.blt f 75 with
                | true =>
                  rw [hc, cond_true] at h
                  cases hb : Nat.beq f 74 with
                  | true => rw [hb, cond_true, Option.some.injEq] at h; rw [← h, Nat.eq_of_beq_eq_true hb]; exact ok74
                  | false => rw [hb, cond_false] at h; cases h
                | false =>
                  rw [hc, cond_false] at h
                  cases hb : Nat.beq f 75 with
                  | true => rw [hb, cond_true, Option.some.injEq] at h; rw [← h, Nat.eq_of_beq_eq_true hb]; exact ok75
                  | false => rw [hb, cond_false] at h; cases h
            | false =>
              rw [hc, cond_false] at h
              cases hc : Nat.blt f 78 with
              | true =>
                rw [hc, cond_true] at h
                cases hc : Nat.blt f 77 with
                | true =>
                  rw [hc, cond_true] at h
                  cases hb : Nat.beq f 76 with
                  | true => rw [hb, cond_true, Option.some.injEq] at h; rw [← h, Nat.eq_of_beq_eq_true hb]; exact ok76
                  | false => rw [hb, cond_false] at h; cases h
                | false =>
                  rw [hc, cond_false] at h
                  cases hb : Nat.beq f 77 with
                  | true => rw [hb, cond_true, Option.some.injEq] at h; rw [← h, Nat.eq_of_beq_eq_true hb]; exact ok77
                  | false => rw [hb, cond_false] at h; cases h
              | false =>
                rw [hc, cond_false] at h
                cases hc : Nat.blt f 79 with
                | true =>
                  rw [hc, cond_true] at h
                  cases hb : Nat.beq f 78 with
                  | true => rw [hb, cond_true, Option.some.injEq] at h; rw [← h, Nat.eq_of_beq_eq_true hb]; exact ok78
                  | false => rw [hb, cond_false] at h; cases h
                | false =>
                  rw [hc, cond_false] at h
                  cases hb : Nat.beq f 79 with
                  | true => rw [hb, cond_true, Option.some.injEq] at h; rw [← h, Nat.eq_of_beq_eq_true hb]; exact ok79
                  | false => rw [hb, cond_false] at h; cases h
      | false =>
        rw [hc, cond_false] at h
        cases hc : Nat.blt f 94 with
        | true =>
          rw [hc, cond_true] at h
          cases hc : Nat.blt f 86 with
          | true =>
            rw [hc, cond_true] at h
            cases hc : Nat.blt f 83 with
            | true =>
              rw [hc, cond_true] at h
              cases hc : Nat.blt f 81 with
              | true =>
                rw [hc, cond_true] at h
                cases hb : Nat.beq f 80 with
                | true => rw [hb, cond_true, Option.some.injEq] at h; rw [← h, Nat.eq_of_beq_eq_true hb]; exact ok80
                | false => rw [hb, cond_false] at h; cases h
              | false =>
                rw [hc, cond_false] at h
                cases hc : Nat.blt f 82 with
                | true =>
                  rw [hc, cond_true] at h
                  cases hb : Nat.beq f 81 with
                  | true => rw [hb, cond_true, Option.some.injEq] at h; rw [← h, Nat.eq_of_beq_eq_true hb]; exact ok81
                  | false => rw [hb, cond_false] at h; cases h
                | false =>
                  rw [hc, cond_false] at h
                  cases hb : Nat.beq f 82 with
                  | true => rw [hb, cond_true, Option.some.injEq] at h; rw [← h, Nat.eq_of_beq_eq_true hb]; exact ok82
                  | false => rw [hb, cond_false] at h; cases h
            | false =>
              rw [hc, cond_false] at h
              cases hc : Nat.blt f 84 with
              | true =>
                rw [hc, cond_true] at h
                cases hb : Nat.beq f 83 with
                | true => rw [hb, cond_true, Option.some.injEq] at h; rw [← h, Nat.eq_of_beq_eq_true hb]; exact ok83
                | false => rw [hb, cond_false] at h; cases h
              | false =>
                rw [hc, cond_false] at h
                cases hc : Nat.blt f 85 with
                | true =>
                  rw [hc, cond_true] at h
                  cases hb : Nat.beq f 84 with
                  | true => rw [hb, cond_true, Option.some.injEq] at h; rw [← h, Nat.eq_of_beq_eq_true hb]; exact ok84
                  | false => rw [hb, cond_false] at h; cases h
                | false =>
                  rw [hc, cond_false] at h
                  cases hb : Nat.beq f 85 with
                  | true => rw [hb, cond_true, Option.some.injEq] at h; rw [← h, Nat.eq_of_beq_eq_true hb]; exact ok85
                  | false => rw [hb, cond_false] at h; cases h
          | false =>
            rw [hc, cond_false] at h
            cases hc : Nat.blt f 89 with
            | true =>
              rw [hc, cond_true] at h
              cases hc : Nat.blt f 87 with
              | true =>
                rw [hc, cond_true] at h
                cases hb : Nat.beq f 86 with
                | true => rw [hb, cond_true, Option.some.injEq] at h; rw [← h, Nat.eq_of_beq_eq_true hb]; exact ok86
                | false => rw [hb, cond_false] at h; cases h
              | false =>
                rw [hc, cond_false] at h
                cases hc : Nat.blt f 88 with
                | true =>
                  rw [hc, cond_true] at h
                  cases hb : Nat.beq f 87 with
                  | true => rw [hb, cond_true, Option.some.injEq] at h; rw [← h, Nat.eq_of_beq_eq_true hb]; exact ok87
                  | false => rw [hb, cond_false] at h; cases h
                | false =>
                  rw [hc, cond_false] at h
                  cases hb : Nat.beq f 88 with
                  | true => rw [hb, cond_true, Option.some.injEq] at h; rw [← h, Nat.eq_of_beq_eq_true hb]; exact ok88
                  | false => rw [hb, cond_false] at h; cases h
            | false =>
              rw [hc, cond_false] at h
              cases hc : Nat.blt f 92 with
              | true =>
                rw [hc, cond_true] at h
                cases hc : Nat.blt f 90 with
                | true =>
                  rw [hc, cond_true] at h
                  cases hb : Nat.beq f 89 with
                  | true => rw [hb, cond_true, Option.some.injEq] at h; rw [← h, Nat.eq_of_beq_eq_true hb]; exact ok89
                  | false => rw [hb, cond_false] at h; cases h
                | false =>
                  rw [hc, cond_false] at h
                  cases hb : Nat.beq f 90 with
                  | true => rw [hb, cond_true, Option.some.injEq] at h; rw [← h, Nat.eq_of_beq_eq_true hb]; exact ok90
                  | false => rw [hb, cond_false] at h; cases h
              | false =>
                rw [hc, cond_false] at h
                cases hc : Nat.blt f 93 with
                | true =>
                  rw [hc, cond_true] at h
                  cases hb : Nat.beq f 92 with
                  | true => rw [hb, cond_true, Option.some.injEq] at h; rw [← h, Nat.eq_of_beq_eq_true hb]; exact ok92
                  | false => rw [hb, cond_false] at h; cases h
                | false =>
                  rw [hc, cond_false] at h
                  cases hb : Nat.beq f 93 with
                  | true => rw [hb, cond_true, Option.some.injEq] at h; rw [← h, Nat.eq_of_beq_eq_true hb]; exact ok93
                  | false => rw [hb, cond_false] at h; cases h
        | false =>
          rw [hc, cond_false] at h
          cases hc : Nat.blt f 100 with
          | true =>
            rw [hc, cond_true] at h
            cases hc : Nat.blt f 97 with
            | true =>
              rw [hc, cond_true] at h
              cases hc : Nat.blt f 95 with
              | true =>
                rw [hc, cond_true] at h
                cases hb : Nat.beq f 94 with
                | true => rw [hb, cond_true, Option.some.injEq] at h; rw [← h, Nat.eq_of_beq_eq_true hb]; exact ok94
                | false => rw [hb, cond_false] at h; cases h
              | false =>
                rw [hc, cond_false] at h
                cases hc : Nat.blt f 96 with
                | true =>
                  rw [hc, cond_true] at h
                  cases hb : Nat.beq f 95 with
                  | true => rw [hb, cond_true, Option.some.injEq] at h; rw [← h, Nat.eq_of_beq_eq_true hb]; exact ok95
                  | false => rw [hb, cond_false] at h; cases h
                | false =>
                  rw [hc, cond_false] at h
                  cases hb : Nat.beq f 96 with
                  | true => rw [hb, cond_true, Option.some.injEq] at h; rw [← h, Nat.eq_of_beq_eq_true hb]; exact ok96
                  | false => rw [hb, cond_false] at h; cases h
            | false =>
              rw [hc, cond_false] at h
              cases hc : Nat.blt f 98 with
              | true =>
                rw [hc, cond_true] at h
                cases hb : Nat.beq f 97 with
                | true => rw [hb, cond_true, Option.some.injEq] at h; rw [← h, Nat.eq_of_beq_eq_true hb]; exact ok97
                | false => rw [hb, cond_false] at h; cases h
              | false =>
                rw [hc, cond_false] at h
                cases hc : Nat.blt f 99 with
                | true =>
                  rw [hc, cond_true] at h
                  cases hb : Nat.beq f 98 with
                  | true => rw [hb, cond_true, Option.some.injEq] at h; rw [← h, Nat.eq_of_beq_eq_true hb]; exact ok98
                  | false => rw [hb, cond_false] at h; cases h
                | false =>
                  rw [hc, cond_false] at h
                  cases hb : Nat.beq f 99 with
                  | true => rw [hb, cond_true, Option.some.injEq] at h; rw [← h, Nat.eq_of_beq_eq_true hb]; exact ok99
                  | false => rw [hb, cond_false] at h; cases h
          | false =>
            rw [hc, cond_false] at h
            cases hc : Nat.blt f 103 with
            | true =>
              rw [hc, cond_true] at h
              cases hc : Nat.blt f 101 with
              | true =>
                rw [hc, cond_true] at h
                cases hb : Nat.beq f 100 with
                | true => rw [hb, cond_true, Option.some.injEq] at h; rw [← h, Nat.eq_of_beq_eq_true hb]; exact ok100
                | false => rw [hb, cond_false] at h; cases h
              | false =>
                rw [hc, cond_false] at h
                cases hc : Nat.blt f 102 with
                | true =>
                  rw [hc, cond_true] at h
                  cases hb : Nat.beq f 101 with
                  | true => rw [hb, cond_true, Option.some.injEq] at h; rw [← h, Nat.eq_of_beq_eq_true hb]; exact ok101
                  | false => rw [hb, cond_false] at h; cases h
                | false =>
                  rw [hc, cond_false] at h
                  cases hb : Nat.beq f 102 with
                  | true => rw [hb, cond_true, Option.some.injEq] at h; rw [← h, Nat.eq_of_beq_eq_true hb]; exact ok102
                  | false => rw [hb, cond_false] at h; cases h
            | false =>
              rw [hc, cond_false] at h
              cases hc : Nat.blt f 105 with
              | true =>
                rw [hc, cond_true] at h
                cases hc : Nat.blt f 104 with
                | true =>
                  rw [hc, cond_true] at h
                  cases hb : Nat.beq f 103 with
                  | true => rw [hb, cond_true, Option.some.injEq] at h; rw [← h, Nat.eq_of_beq_eq_true hb]; exact ok103
                  | false => rw [hb, cond_false] at h; cases h
                | false =>
                  rw [hc, cond_false] at h
                  cases hb : Nat.beq f 104 with
                  | true => rw [hb, cond_true, Option.some.injEq] at h; rw [← h, Nat.eq_of_beq_eq_true hb]; exact ok104
                  | false => rw [hb, cond_false] at h; cases h
              | false =>
                rw [hc, cond_false] at h
                cases hc : Nat.blt f 106 with
                | true =>
                  rw [hc, cond_true] at h
                  cases hb : Nat.beq f 105 with
                  | true => rw [hb, cond_true, Option.some.injEq] at h; rw [← h, Nat.eq_of_beq_eq_true hb]; exact ok105
                  | false => rw [hb, cond_false] at h; cases h
                | false =>
                  rw [hc, cond_false] at h
                  cases hb : Nat.beq f 106 with
                  | true => rw [hb, cond_true, Option.some.injEq] at h; rw [← h, Nat.eq_of_beq_eq_true hb]; exact ok106
                  | false => rw [hb, cond_false] at h; cases h
  | false =>
    rw [hc, cond_false] at h
    cases hc : Nat.blt f 159 with
    | true =>
      rw [hc, cond_true] at h
      cases hc : Nat.blt f 133 with
      | true =>
        rw [hc, cond_true] at h
        cases hc : Nat.blt f 120 with
        | true =>
          rw [hc, cond_true] at h
          cases hc : Nat.blt f 113 with
          | true =>
            rw [hc, cond_true] at h
            cases hc : Nat.blt f 110 with
            | true =>
              rw [hc, cond_true] at h
              cases hc : Nat.blt f 108 with
              | true =>
                rw [hc, cond_true] at h
                cases hb : Nat.beq f 107 with
                | true => rw [hb, cond_true, Option.some.injEq] at h; rw [← h, Nat.eq_of_beq_eq_true hb]; exact ok107
                | false => rw [hb, cond_false] at h; cases h
              | false =>
                rw [hc, cond_false] at h
                cases hc : Nat.blt f 109 with
                | true =>
                  rw [hc, cond_true] at h
                  cases hb : Nat.beq f 108 with
                  | true => rw [hb, cond_true, Option.some.injEq] at h; rw [← h, Nat.eq_of_beq_eq_true hb]; exact ok108
                  | false => rw [hb, cond_false] at h; cases h
                | false =>
                  rw [hc, cond_false] at h
                  cases hb : Nat.beq f 109 with
                  | true => rw [hb, cond_true, Option.some.injEq] at h; rw [← h, Nat.eq_of_beq_eq_true hb]; exact ok109
                  | false => rw [hb, cond_false] at h; cases h
            | false =>
              rw [hc, cond_false] at h
              cases hc : Nat.blt f 111 with
              | true =>
                rw [hc, cond_true] at h
                cases hb : Nat.beq f 110 with
                | true => rw [hb, cond_true, Option.some.injEq] at h; rw [← h, Nat.eq_of_beq_eq_true hb]; exact ok110
                | false => rw [hb, cond_false] at h; cases h
              | false =>
                rw [hc, cond_false] at h
                cases hc : Nat.blt f 112 with
                | true =>
                  rw [hc, cond_true] at h
                  cases hb : Nat.beq f 111 with
                  | true => rw [hb, cond_true, Option.some.injEq] at h; rw [← h, Nat.eq_of_beq_eq_true hb]; exact ok111
                  | false => rw [hb, cond_false] at h; cases h
                | false =>
                  rw [hc, cond_false] at h
                  cases hb : Nat.beq f 112 with
                  | true => rw [hb, cond_true, Option.some.injEq] at h; rw [← h, Nat.eq_of_beq_eq_true hb]; exact ok112
                  | false => rw [hb, cond_false] at h; cases h
          | false =>
            rw [hc, cond_false] at h
            cases hc : Nat.blt f 116 with
            | true =>
              rw [hc, cond_true] at h
              cases hc : Nat.blt f 114 with
              | true =>
                rw [hc, cond_true] at h
                cases hb : Nat.beq f 113 with
                | true => rw [hb, cond_true, Option.some.injEq] at h; rw [← h, Nat.eq_of_beq_eq_true hb]; exact ok113
                | false => rw [hb, cond_false] at h; cases h
              | false =>
                rw [hc, cond_false] at h
                cases hc : Nat.blt f 115 with
                | true =>
                  rw [hc, cond_true] at h
                  cases hb : Nat.beq f 114 with
                  | true => rw [hb, cond_true, Option.some.injEq] at h; rw [← h, Nat.eq_of_beq_eq_true hb]; exact ok114
                  | false => rw [hb, cond_false] at h; cases h
                | false =>
                  rw [hc, cond_false] at h
                  cases hb : Nat.beq f 115 with
                  | true => rw [hb, cond_true, Option.some.injEq] at h; rw [← h, Nat.eq_of_beq_eq_true hb]; exact ok115
                  | false => rw [hb, cond_false] at h; cases h
            | false =>
              rw [hc, cond_false] at h
              cases hc : Nat.blt f 118 with
              | true =>
                rw [hc, cond_true] at h
                cases hc : Nat.blt f 117 with
                | true =>
                  rw [hc, cond_true] at h
                  cases hb : Nat.beq f 116 with
                  | true => rw [hb, cond_true, Option.some.injEq] at h; rw [← h, Nat.eq_of_beq_eq_true hb]; exact ok116
                  | false => rw [hb, cond_false] at h; cases h
                | false =>
                  rw [hc, cond_false] at h
                  cases hb : Nat.beq f 117 with
                  | true => rw [hb, cond_true, Option.some.injEq] at h; rw [← h, Nat.eq_of_beq_eq_true hb]; exact ok117
                  | false => rw [hb, cond_false] at h; cases h
              | false =>
                rw [hc, cond_false] at h
                cases hc : Nat.blt f 119 with
                | true =>
                  rw [hc, cond_true] at h
                  cases hb : Nat.beq f 118 with
                  | true => rw [hb, cond_true, Option.some.injEq] at h; rw [← h, Nat.eq_of_beq_eq_true hb]; exact ok118
                  | false => rw [hb, cond_false] at h; cases h
                | false =>
                  rw [hc, cond_false] at h
                  cases hb : Nat.beq f 119 with
                  | true => rw [hb, cond_true, Option.some.injEq] at h; rw [← h, Nat.eq_of_beq_eq_true hb]; exact ok119
                  | false => rw [hb, cond_false] at h; cases h
        | false =>
          rw [hc, cond_false] at h
          cases hc : Nat.blt f 126 with
          | true =>
            rw [hc, cond_true] at h
            cases hc : Nat.blt f 123 with
            | true =>
              rw [hc, cond_true] at h
              cases hc : Nat.blt f 121 with
              | true =>
                rw [hc, cond_true] at h
                cases hb : Nat.beq f 120 with
                | true => rw [hb, cond_true, Option.some.injEq] at h; rw [← h, Nat.eq_of_beq_eq_true hb]; exact ok120
                | false => rw [hb, cond_false] at h; cases h
              | false =>
                rw [hc, cond_false] at h
                cases hc : Nat.blt f 122 with
                | true =>
                  rw [hc, cond_true] at h
                  cases hb : Nat.beq f 121 with
                  | true => rw [hb, cond_true, Option.some.injEq] at h; rw [← h, Nat.eq_of_beq_eq_true hb]; exact ok121
                  | false => rw [hb, cond_false] at h; cases h
                | false =>
                  rw [hc, cond_false] at h
                  cases hb : Nat.beq f 122 with
                  | true => rw [hb, cond_true, Option.some.injEq] at h; rw [← h, Nat.eq_of_beq_eq_true hb]; exact ok122
                  | false => rw [hb, cond_false] at h; cases h
            | false =>
              rw [hc, cond_false] at h
              cases hc : Nat.blt f 124 with
              | true =>
                rw [hc, cond_true] at h
                cases hb : Nat.beq f 123 with
                | true => rw [hb, cond_true, Option.some.injEq] at h; rw [← h, Nat.eq_of_beq_eq_true hb]; exact ok123
                | false => rw [hb, cond_false] at h; cases h
              | false =>
                rw [hc, cond_false] at h
                cases hc : Nat.blt f 125 with
                | true =>
                  rw [hc, cond_true] at h
                  cases hb : Nat.beq f 124 with
                  | true => rw [hb, cond_true, Option.some.injEq] at h; rw [← h, Nat.eq_of_beq_eq_true hb]; exact ok124
                  | false => rw [hb, cond_false] at h; cases h
                | false =>
                  rw [hc, cond_false] at h
                  cases hb : Nat.beq f 125 with
                  | true => rw [hb, cond_true, Option.some.injEq] at h; rw [← h, Nat.eq_of_beq_eq_true hb]; exact ok125
                  | false => rw [hb, cond_false] at h; cases h
          | false =>
            rw [hc, cond_false] at h
            cases hc : Nat.blt f 129 with
            | true =>
              rw [hc, cond_true] at h
              cases hc : Nat.blt f 127 with
              | true =>
                rw [hc, cond_true] at h
                cases hb : Nat.beq f 126 with
                | true => rw [hb, cond_true, Option.some.injEq] at h; rw [← h, Nat.eq_of_beq_eq_true hb]; exact ok126
                | false => rw [hb, cond_false] at h; cases h
              | false =>
                rw [hc, cond_false] at h
                cases hc : Nat.blt f 128 with
                | true =>
                  rw [hc, cond_true] at h
                  cases hb : Nat.beq f 127 with
                  | true => rw [hb, cond_true, Option.some.injEq] at h; rw [← h, Nat.eq_of_beq_eq_true hb]; exact ok127
                  | false => rw [hb, cond_false] at h; cases h
                | false =>
                  rw [hc, cond_false] at h
                  cases hb : Nat.beq f 128 with
                  | true => rw [hb, cond_true, Option.some.injEq] at h; rw [← h, Nat.eq_of_beq_eq_true hb]; exact ok128
                  | false => rw [hb, cond_false] at h; cases h
            | false =>
              rw [hc, cond_false] at h
              cases hc : Nat.blt f 131 with
              | true =>
                rw [hc, cond_true] at h
                cases hc : Nat.blt f 130 with
                | true =>
                  rw [hc, cond_true] at h
                  cases hb : Nat.beq f 129 with
                  | true => rw [hb, cond_true, Option.some.injEq] at h; rw [← h, Nat.eq_of_beq_eq_true hb]; exact ok129
                  | false => rw [hb, cond_false] at h; cases h
                | false =>
                  rw [hc, cond_false] at h
                  cases hb : Nat.beq f 130 with
                  | true => rw [hb, cond_true, Option.some.injEq] at h; rw [← h, Nat.eq_of_beq_eq_true hb]; exact ok130
                  | false => rw [hb, cond_false] at h; cases h
              | false =>
                rw [hc, cond_false] at h
                cases hc : Nat.blt f 132 with
                | true =>
                  rw [hc, cond_true] at h
                  cases hb : Nat.beq f 131 with
                  | true => rw [hb, cond_true, Option.some.injEq] at h; rw [← h, Nat.eq_of_beq_eq_true hb]; exact ok131
                  | false => rw [hb, cond_false] at h; cases h
                | false =>
                  rw [hc, cond_false] at h
                  cases hb : Nat.beq f 132 with
                  | true => rw [hb, cond_true, Option.some.injEq] at h; rw [← h, Nat.eq_of_beq_eq_true hb]; exact ok132
                  | false => rw [hb, cond_false] at h; cases h
      | false =>
        rw [hc, cond_false] at h
        cases hc : Nat.blt f 146 with
        | true =>
          rw [hc, cond_true] at h
          cases hc : Nat.blt f 139 with
          | true =>
            rw [hc, cond_true] at h
            cases hc : Nat.blt f 136 with
            | true =>
              rw [hc, cond_true] at h
              cases hc : Nat.blt f 134 with
              | true =>
                rw [hc, cond_true] at h
                cases hb : Nat.beq f 133 with
                | true => rw [hb, cond_true, Option.some.injEq] at h; rw [← h, Nat.eq_of_beq_eq_true hb]; exact ok133
                | false => rw [hb, cond_false] at h; cases h
              | false =>
                rw [hc, cond_false] at h
                cases hc : Nat.blt f 135 with
                | true =>
                  rw [hc, cond_true] at h
                  cases hb : Nat.beq f 134 with
                  | true => rw [hb, cond_true, Option.some.injEq] at h; rw [← h, Nat.eq_of_beq_eq_true hb]; exact ok134
                  | false => rw [hb, cond_false] at h; cases h
                | false =>
                  rw [hc, cond_false] at h
                  cases hb : Nat.beq f 135 with
                  | true => rw [hb, cond_true, Option.some.injEq] at h; rw [← h, Nat.eq_of_beq_eq_true hb]; exact ok135
                  | false => rw [hb, cond_false] at h; cases h
            | false =>
              rw [hc, cond_false] at h
              cases hc : Nat.blt f 137 with
              | true =>
                rw [hc, cond_true] at h
                cases hb : Nat.beq f 136 with
                | true => rw [hb, cond_true, Option.some.injEq] at h; rw [← h, Nat.eq_of_beq_eq_true hb]; exact ok136
                | false => rw [hb, cond_false] at h; cases h
              | false =>
                rw [hc, cond_false] at h
                cases hc : Nat.blt f 138 with
                | true =>
                  rw [hc, cond_true] at h
                  cases hb : Nat.beq f 137 with
                  | true => rw [hb, cond_true, Option.some.injEq] at h; rw [← h, Nat.eq_of_beq_eq_true hb]; exact ok137
                  | false => rw [hb, cond_false] at h; cases h
                | false =>
                  rw [hc, cond_false] at h
                  cases hb : Nat.beq f 138 with
                  | true => rw [hb, cond_true, Option.some.injEq] at h; rw [← h, Nat.eq_of_beq_eq_true hb]; exact ok138
                  | false => rw [hb, cond_false] at h; cases h
          | false =>
            rw [hc, cond_false] at h
            cases hc : Nat.blt f 142 with
            | true =>
              rw [hc, cond_true] at h
              cases hc : Nat.blt f 140 with
              | true =>
                rw [hc, cond_true] at h
                cases hb : Nat.beq f 139 with
                | true => rw [hb, cond_true, Option.some.injEq] at h; rw [← h, Nat.eq_of_beq_eq_true hb]; exact ok139
                | false => rw [hb, cond_false] at h; cases h
              | false =>
                rw [hc, cond_false] at h
                cases hc : Nat.blt f 141 with
                | true =>
                  rw [hc, cond_true] at h
                  cases hb : Nat.beq f 140 with
                  | true => rw [hb, cond_true, Option.some.injEq] at h; rw [← h, Nat.eq_of_beq_eq_true hb]; exact ok140
                  | false => rw [hb, cond_false] at h; cases h
                | false =>
                  rw [hc, cond_false] at h
                  cases hb : Nat.beq f 141 with
                  | true => rw [hb, cond_true, Option.some.injEq] at h; rw [← h, Nat.eq_of_beq_eq_true hb]; exact ok141
                  | false => rw [hb, cond_false] at h; cases h
            | false =>
              rw [hc, cond_false] at h
              cases hc : Nat.blt f 144 with
              | true =>
                rw [hc, cond_true] at h
                cases hc : Nat.blt f 143 with
                | true =>
                  rw [hc, cond_true] at h
                  cases hb : Nat.beq f 142 with
                  | true => rw [hb, cond_true, Option.some.injEq] at h; rw [← h, Nat.eq_of_beq_eq_true hb]; exact ok142
                  | false => rw [hb, cond_false] at h; cases h
                | false =>
                  rw [hc, cond_false] at h
                  cases hb : Nat.beq f 143 with
                  | true => rw [hb, cond_true, Option.some.injEq] at h; rw [← h, Nat.eq_of_beq_eq_true hb]; exact ok143
                  | false => rw [hb, cond_false] at h; cases h
              | false =>
                rw [hc, cond_false] at h
                cases hc : Nat.blt f 145 with
                | true =>
                  rw [hc, cond_true] at h
                  cases hb : Nat.beq f 144 with
                  | true => rw [hb, cond_true, Option.some.injEq] at h; rw [← h, Nat.eq_of_beq_eq_true hb]; exact ok144
                  | false => rw [hb, cond_false] at h; cases h
                | false =>
                  rw [hc, cond_false] at h
                  cases hb : Nat.beq f 145 with
                  | true => rw [hb, cond_true, Option.some.injEq] at h; rw [← h, Nat.eq_of_beq_eq_true hb]; exact ok145
                  | false => rw [hb, cond_false] at h; cases h
        | false =>
          rw [hc, cond_false] at h
          cases hc : Nat.blt f 152 with
          | true =>
            rw [hc, cond_true] at h
            cases hc : Nat.blt f 149 with
            | true =>
              rw [hc, cond_true] at h
              cases hc : Nat.blt f 147 with
              | true =>
                rw [hc, cond_true] at h
                cases hb : Nat.beq f 146 with
                | true => rw [hb, cond_true, Option.some.injEq] at h; rw [← h, Nat.eq_of_beq_eq_true hb]; exact ok146
                | false => rw [hb, cond_false] at h; cases h
              | false =>
                rw [hc, cond_false] at h
                cases hc : Nat.blt f 148 with
                | true =>
                  rw [hc, cond_true] at h
                  cases hb : Nat.beq f 147 with
                  | true => rw [hb, cond_true, Option.some.injEq] at h; rw [← h, Nat.eq_of_beq_eq_true hb]; exact ok147
                  | false => rw [hb, cond_false] at h; cases h
                | false =>
                  rw [hc, cond_false] at h
                  cases hb : Nat.beq f 148 with
                  | true => rw [hb, cond_true, Option.some.injEq] at h; rw [← h, Nat.eq_of_beq_eq_true hb]; exact ok148
                  | false => rw [hb, cond_false] at h; cases h
            | false =>
              rw [hc, cond_false] at h
              cases hc : Nat.blt f 150 with
              | true =>
                rw [hc, cond_true] at h
                cases hb : Nat.beq f 149 with
                | true => rw [hb, cond_true, Option.some.injEq] at h; rw [← h, Nat.eq_of_beq_eq_true hb]; exact ok149
                | false => rw [hb, cond_false] at h; cases h
              | false =>
                rw [hc, cond_false] at h
                cases hc : Nat.blt f 151 with
                | true =>
                  rw [hc, cond_true] at h
                  cases hb : Nat.beq f 150 with
                  | true => rw [hb, cond_true, Option.some.injEq] at h; rw [← h, Nat.eq_of_beq_eq_true hb]; exact ok150
                  | false => rw [hb, cond_false] at h; cases h
                | false =>
                  rw [hc, cond_false] at h
                  cases hb : Nat.beq f 151 with
                  | true => rw [hb, cond_true, Option.some.injEq] at h; rw [← h, Nat.eq_of_beq_eq_true hb]; exact ok151
                  | false => rw [hb, cond_false] at h; cases h
          | false =>
            rw [hc, cond_false] at h
            cases hc : Nat.blt f 155 with
            | true =>
              rw [hc, cond_true] at h
              cases hc : Nat.blt f 153 with
              | true =>
                rw [hc, cond_true] at h
                cases hb : Nat.beq f 152 with
                | true => rw [hb, cond_true, Option.some.injEq] at h; rw [← h, Nat.eq_of_beq_eq_true hb]; exact ok152
                | false => rw [hb, cond_false] at h; cases h
              | false =>
                rw [hc, cond_false] at h
                cases hc : Nat.blt f 154 with
                | true =>
                  rw [hc, cond_true] at h
                  cases hb : Nat.beq f 153 with
                  | true => rw [hb, cond_true, Option.some.injEq] at h; rw [← h, Nat.eq_of_beq_eq_true hb]; exact ok153
                  | false => rw [hb, cond_false] at h; cases h
                | false =>
                  rw [hc, cond_false] at h
                  cases hb : Nat.beq f 154 with
                  | true => rw [hb, cond_true, Option.some.injEq] at h; rw [← h, Nat.eq_of_beq_eq_true hb]; exact ok154
                  | false => rw [hb, cond_false] at h; cases h
            | false =>
              rw [hc, cond_false] at h
              cases hc : Nat.blt f 157 with
              | true =>
                rw [hc, cond_true] at h
                cases hc : Nat.blt f 156 with
                | true =>
                  rw [hc, cond_true] at h
                  cases hb : Nat.beq f 155 with
                  | true => rw [hb, cond_true, Option.some.injEq] at h; rw [← h, Nat.eq_of_beq_eq_true hb]; exact ok155
                  | false => rw [hb, cond_false] at h; cases h
                | false =>
                  rw [hc, cond_false] at h
                  cases hb : Nat.beq f 156 with
                  | true => rw [hb, cond_true, Option.some.injEq] at h; rw [← h, Nat.eq_of_beq_eq_true hb]; exact ok156
                  | false => rw [hb, cond_false] at h; cases h
              | false =>
                rw [hc, cond_false] at h
                cases hc : Nat.blt f 158 with
                | true =>
                  rw [hc, cond_true] at h
                  cases hb : Nat.beq f 157 with
                  | true => rw [hb, cond_true, Option.some.injEq] at h; rw [← h, Nat.eq_of_beq_eq_true hb]; exact ok157
                  | false => rw [hb, cond_false] at h; cases h
                | false =>
                  rw [hc, cond_false] at h
                  cases hb : Nat.beq f 158 with
                  | true => rw [hb, cond_true, Option.some.injEq] at h; rw [← h, Nat.eq_of_beq_eq_true hb]; exact ok158
                  | false => rw [hb, cond_false] at h; cases h
    | false =>
      rw [hc, cond_false] at h
      cases hc : Nat.blt f 185 with
      | true =>
        rw [hc, cond_true] at h
        cases hc : Nat.blt f 172 with
        | true =>
          rw [hc, cond_true] at h
          cases hc : Nat.blt f 165 with
          | true =>
            rw [hc, cond_true] at h
            cases hc : Nat.blt f 162 with
            | true =>
              rw [hc, cond_true] at h
              cases hc : Nat.blt f 160 with
              | true =>
                rw [hc, cond_true] at h
                cases hb : Nat.beq f 159 with
                | true => rw [hb, cond_true, Option.some.injEq] at h; rw [← h, Nat.eq_of_beq_eq_true hb]; exact ok159
                | false => rw [hb, cond_false] at h; cases h
              | false =>
                rw [hc, cond_false] at h
                cases hc : Nat.blt f 161 with
                | true =>
                  rw [hc, cond_true] at h
                  cases hb : Nat.beq f 160 with
                  | true => rw [hb, cond_true, Option.some.injEq] at h; rw [← h, Nat.eq_of_beq_eq_true hb]; exact ok160
                  | false => rw [hb, cond_false] at h; cases h
                | false =>
                  rw [hc, cond_false] at h
                  cases hb : Nat.beq f 161 with
                  | true => rw [hb, cond_true, Option.some.injEq] at h; rw [← h, Nat.eq_of_beq_eq_true hb]; exact ok161
                  | false => rw [hb, cond_false] at h; cases h
            | false =>
              rw [hc, cond_false] at h
              cases hc : Nat.blt f 163 with
              | true =>
                rw [hc, cond_true] at h
                cases hb : Nat.beq f 162 with
                | true => rw [hb, cond_true, Option.some.injEq] at h; rw [← h, Nat.eq_of_beq_eq_true hb]; exact ok162
                | false => rw [hb, cond_false] at h; cases h
              | false =>
                rw [hc, cond_false] at h
                cases hc : Nat.blt f 164 with
                | true =>
                  rw [hc, cond_true] at h
                  cases hb : Nat.beq f 163 with
                  | true => rw [hb, cond_true, Option.some.injEq] at h; rw [← h, Nat.eq_of_beq_eq_true hb]; exact ok163
                  | false => rw [hb, cond_false] at h; cases h
                | false =>
                  rw [hc, cond_false] at h
                  cases hb : Nat.beq f 164 with
                  | true => rw [hb, cond_true, Option.some.injEq] at h; rw [← h, Nat.eq_of_beq_eq_true hb]; exact ok164
                  | false => rw [hb, cond_false] at h; cases h
          | false =>
            rw [hc, cond_false] at h
            cases hc : Nat.blt f 168 with
            | true =>
              rw [hc, cond_true] at h
              cases hc : Nat.blt f 166 with
              | true =>
                rw [hc, cond_true] at h
                cases hb : Nat.beq f 165 with
                | true => rw [hb, cond_true, Option.some.injEq] at h; rw [← h, Nat.eq_of_beq_eq_true hb]; exact ok165
                | false => rw [hb, cond_false] at h; cases h
              | false =>
                rw [hc, cond_false] at h
                cases hc : Nat.blt f 167 with
                | true =>
                  rw [hc, cond_true] at h
                  cases hb : Nat.beq f 166 with
                  | true => rw [hb, cond_true, Option.some.injEq] at h; rw [← h, Nat.eq_of_beq_eq_true hb]; exact ok166
                  | false => rw [hb, cond_false] at h; cases h
                | false =>
                  rw [hc, cond_false] at h
                  cases hb : Nat.beq f 167 with
                  | true => rw [hb, cond_true, Option.some.injEq] at h; rw [← h, Nat.eq_of_beq_eq_true hb]; exact ok167
                  | false => rw [hb, cond_false] at h; cases h
            | false =>
              rw [hc, cond_false] at h
              cases hc : Nat.blt f 170 with
              | true =>
                rw [hc, cond_true] at h
                cases hc : Nat.blt f 169 with
                | true =>
                  rw [hc, cond_true] at h
                  cases hb : Nat.beq f 168 with
                  | true => rw [hb, cond_true, Option.some.injEq] at h; rw [← h, Nat.eq_of_beq_eq_true hb]; exact ok168
                  | false => rw [hb, cond_false] at h; cases h
                | false =>
                  rw [hc, cond_false] at h
                  cases hb : Nat.beq f 169 with
                  | true => rw [hb, cond_true, Option.some.injEq] at h; rw [← h, Nat.eq_of_beq_eq_true hb]; exact ok169
                  | false => rw [hb, cond_false] at h; cases h
              | false =>
                rw [hc, cond_false] at h
                cases hc : Nat.blt f 171 with
                | true =>
                  rw [hc, cond_true] at h
                  cases hb : Nat.beq f 170 with
                  | true => rw [hb, cond_true, Option.some.injEq] at h; rw [← h, Nat.eq_of_beq_eq_true hb]; exact ok170
                  | false => rw [hb, cond_false] at h; cases h
                | false =>
                  rw [hc, cond_false] at h
                  cases hb : Nat.beq f 171 with
                  | true => rw [hb, cond_true, Option.some.injEq] at h; rw [← h, Nat.eq_of_beq_eq_true hb]; exact ok171
                  | false => rw [hb, cond_false] at h; cases h
        | false =>
          rw [hc, cond_false] at h
          cases hc : Nat.blt f 178 with
          | true =>
            rw [hc, cond_true] at h
            cases hc : Nat.blt f 175 with
            | true =>
              rw [hc, cond_true] at h
              cases hc : Nat.blt f 173 with
              | true =>
                rw [hc, cond_true] at h
                cases hb : Nat.beq f 172 with
                | true => rw [hb, cond_true, Option.some.injEq] at h; rw [← h, Nat.eq_of_beq_eq_true hb]; exact ok172
                | false => rw [hb, cond_false] at h; cases h
              | false =>
                rw [hc, cond_false] at h
                cases hc : Nat.blt f 174 with
                | true =>
                  rw [hc, cond_true] at h
                  cases hb : Nat.beq f 173 with
                  | true => rw [hb, cond_true, Option.some.injEq] at h; rw [← h, Nat.eq_of_beq_eq_true hb]; exact ok173
                  | false => rw [hb, cond_false] at h; cases h
                | false =>
                  rw [hc, cond_false] at h
                  cases hb : Nat.beq f 174 with
                  | true => rw [hb, cond_true, Option.some.injEq] at h; rw [← h, Nat.eq_of_beq_eq_true hb]; exact ok174
                  | false => rw [hb, cond_false] at h; cases h
            | false =>
              rw [hc, cond_false] at h
              cases hc : Nat.blt f 176 with
              | true =>
                rw [hc, cond_true] at h
                cases hb : Nat.beq f 175 with
                | true => rw [hb, cond_true, Option.some.injEq] at h; rw [← h, Nat.eq_of_beq_eq_true hb]; exact ok175
                | false => rw [hb, cond_false] at h; cases h
              | false =>
                rw [hc, cond_false] at h
                cases hc : Nat.blt f 177 with
                | true =>
                  rw [hc, cond_true] at h
                  cases hb : Nat.beq f 176 with
                  | true => rw [hb, cond_true, Option.some.injEq] at h; rw [← h, Nat.eq_of_beq_eq_true hb]; exact ok176
                  | false => rw [hb, cond_false] at h; cases h
                | false =>
                  rw [hc, cond_false] at h
                  cases hb : Nat.beq f 177 with
                  | true => rw [hb, cond_true, Option.some.injEq] at h; rw [← h, Nat.eq_of_beq_eq_true hb]; exact ok177
                  | false => rw [hb, cond_false] at h; cases h
          | false =>
            rw [hc, cond_false] at h
            cases hc : Nat.blt f 181 with
            | true =>
              rw [hc, cond_true] at h
              cases hc : Nat.blt f 179 with
              | true =>
                rw [hc, cond_true] at h
                cases hb : Nat.beq f 178 with
                | true => rw [hb, cond_true, Option.some.injEq] at h; rw [← h, Nat.eq_of_beq_eq_true hb]; exact ok178
                | false => rw [hb, cond_false] at h; cases h
              | false =>
                rw [hc, cond_false] at h
                cases hc : Nat.blt f 180 with
                | true =>
                  rw [hc, cond_true] at h
                  cases hb : Nat.beq f 179 with
                  | true => rw [hb, cond_true, Option.some.injEq] at h; rw [← h, Nat.eq_of_beq_eq_true hb]; exact ok179
                  | false => rw [hb, cond_false] at h; cases h
                | false =>
                  rw [hc, cond_false] at h
                  cases hb : Nat.beq f 180 with
                  | true => rw [hb, cond_true, Option.some.injEq] at h; rw [← h, Nat.eq_of_beq_eq_true hb]; exact ok180
                  | false => rw [hb, cond_false] at h; cases h
            | false =>
              rw [hc, cond_false] at h
              cases hc : Nat.blt f 183 with
              | true =>
                rw [hc, cond_true] at h
                cases hc : Nat.blt f 182 with
                | true =>
                  rw [hc, cond_true] at h
                  cases hb : Nat.beq f 181 with
                  | true => rw [hb, cond_true, Option.some.injEq] at h; rw [← h, Nat.eq_of_beq_eq_true hb]; exact ok181
                  | false => rw [hb, cond_false] at h; cases h
                | false =>
                  rw [hc, cond_false] at h
                  cases hb : Nat.beq f 182 with
                  | true => rw [hb, cond_true, Option.some.injEq] at h; rw [← h, Nat.eq_of_beq_eq_true hb]; exact ok182
                  | false => rw [hb, cond_false] at h; cases h
              | false =>
                rw [hc, cond_false] at h
                cases hc : Nat.blt f 184 with
                | true =>
                  rw [hc, cond_true] at h
                  cases hb : Nat.beq f 183 with
                  | true => rw [hb, cond_true, Option.some.injEq] at h; rw [← h, Nat.eq_of_beq_eq_true hb]; exact ok183
                  | false => rw [hb, cond_false] at h; cases h
                | false =>
                  rw [hc, cond_false] at h
                  cases hb : Nat.beq f 184 with
                  | true => rw [hb, cond_true, Option.some.injEq] at h; rw [← h, Nat.eq_of_beq_eq_true hb]; exact ok184
                  | false => rw [hb, cond_false] at h; cases h
      | false =>
        rw [hc, cond_false] at h
        cases hc : Nat.blt f 198 with
        | true =>
          rw [hc, cond_true] at h
          cases hc : Nat.blt f 191 with
          | true =>
            rw [hc, cond_true] at h
            cases hc : Nat.blt f 188 with
            | true =>
              rw [hc, cond_true] at h
              cases hc : Nat.blt f 186 with
              | true =>
                rw [hc, cond_true] at h
                cases hb : Nat.beq f 185 with
                | true => rw [hb, cond_true, Option.some.injEq] at h; rw [← h, Nat.eq_of_beq_eq_true hb]; exact ok185
                | false => rw [hb, cond_false] at h; cases h
              | false =>
                rw [hc, cond_false] at h
                cases hc : Nat.blt f 187 with
                | true =>
                  rw [hc, cond_true] at h
                  cases hb : Nat.beq f 186 with
                  | true => rw [hb, cond_true, Option.some.injEq] at h; rw [← h, Nat.eq_of_beq_eq_true hb]; exact ok186
                  | false => rw [hb, cond_false] at h; cases h
                | false =>
                  rw [hc, cond_false] at h
                  cases hb : Nat.beq f 187 with
                  | true => rw [hb, cond_true, Option.some.injEq] at h; rw [← h, Nat.eq_of_beq_eq_true hb]; exact ok187
                  | false => rw [hb, cond_false] at h; cases h
            | false =>
              rw [hc, cond_false] at h
              cases hc : Nat.blt f 189 with
              | true =>
                rw [hc, cond_true] at h
                cases hb : Nat.beq f 188 with
                | true => rw [hb, cond_true, Option.some.injEq] at h; rw [← h, Nat.eq_of_beq_eq_true hb]; exact ok188
                | false => rw [hb, cond_false] at h; cases h
              | false =>
                rw [hc, cond_false] at h
                cases hc : Nat.blt f 190 with
                | true =>
                  rw [hc, cond_true] at h
                  cases hb : Nat.beq f 189 with
                  | true => rw [hb, cond_true, Option.some.injEq] at h; rw [← h, Nat.eq_of_beq_eq_true hb]; exact ok189
                  | false => rw [hb, cond_false] at h; cases h
                | false =>
                  rw [hc, cond_false] at h
                  cases hb : Nat.beq f 190 with
                  | true => rw [hb, cond_true, Option.some.injEq] at h; rw [← h, Nat.eq_of_beq_eq_true hb]; exact ok190
                  | false => rw [hb, cond_false] at h; cases h
          | false =>
            rw [hc, cond_false] at h
            cases hc : Nat.blt f 194 with
            | true =>
              rw [hc, cond_true] at h
              cases hc : Nat.blt f 192 with
              | true =>
                rw [hc, cond_true] at h
                cases hb : Nat.beq f 191 with
                | true => rw [hb, cond_true, Option.some.injEq] at h; rw [← h, Nat.eq_of_beq_eq_true hb]; exact ok191
                | false => rw [hb, cond_false] at h; cases h
              | false =>
                rw [hc, cond_false] at h
                cases hc : Nat.blt f 193 with
                | true =>
                  rw [hc, cond_true] at h
                  cases hb : Nat.beq f 192 with
                  | true => rw [hb, cond_true, Option.some.injEq] at h; rw [← h, Nat.eq_of_beq_eq_true hb]; exact ok192
                  | false => rw [hb, cond_false] at h; cases h
                | false =>
                  rw [hc, cond_false] at h
                  cases hb : Nat.beq f 193 with
                  | true => rw [hb, cond_true, Option.some.injEq] at h; rw [← h, Nat.eq_of_beq_eq_true hb]; exact ok193
                  | false => rw [hb, cond_false] at h; cases h
            | false =>
              rw [hc, cond_false] at h
              cases hc : Nat.blt f 196 with
              | true =>
                rw [hc, cond_true] at h
                cases hc : Nat.blt f 195 with
                | true =>
                  rw [hc, cond_true] at h
                  cases hb : Nat.beq f 194 with
                  | true => rw [hb, cond_true, Option.some.injEq] at h; rw [← h, Nat.eq_of_beq_eq_true hb]; exact ok194
                  | false => rw [hb, cond_false] at h; cases h
                | false =>
                  rw [hc, cond_false] at h
                  cases hb : Nat.beq f 195 with
                  | true => rw [hb, cond_true, Option.some.injEq] at h; rw [← h, Nat.eq_of_beq_eq_true hb]; exact ok195
                  | false => rw [hb, cond_false] at h; cases h
              | false =>
                rw [hc, cond_false] at h
                cases hc : Nat.blt f 197 with
                | true =>
                  rw [hc, cond_true] at h
                  cases hb : Nat.beq f 196 with
                  | true => rw [hb, cond_true, Option.some.injEq] at h; rw [← h, Nat.eq_of_beq_eq_true hb]; exact ok196
                  | false => rw [hb, cond_false] at h; cases h
                | false =>
                  rw [hc, cond_false] at h
                  cases hb : Nat.beq f 197 with
                  | true => rw [hb, cond_true, Option.some.injEq] at h; rw [← h, Nat.eq_of_beq_eq_true hb]; exact ok197
                  | false => rw [hb, cond_false] at h; cases h
        | false =>
          rw [hc, cond_false] at h
          cases hc : Nat.blt f 204 with
          | true =>
            rw [hc, cond_true] at h
            cases hc : Nat.blt f 201 with
            | true =>
              rw [hc, cond_true] at h
              cases hc : Nat.blt f 199 with
              | true =>
                rw [hc, cond_true] at h
                cases hb : Nat.beq f 198 with
                | true => rw [hb, cond_true, Option.some.injEq] at h; rw [← h, Nat.eq_of_beq_eq_true hb]; exact ok198
                | false => rw [hb, cond_false] at h; cases h
              | false =>
                rw [hc, cond_false] at h
                cases hc : Nat.blt f 200 with
                | true =>
                  rw [hc, cond_true] at h
                  cases hb : Nat.beq f 199 with
                  | true => rw [hb, cond_true, Option.some.injEq] at h; rw [← h, Nat.eq_of_beq_eq_true hb]; exact ok199
                  | false => rw [hb, cond_false] at h; cases h
                | false =>
                  rw [hc, cond_false] at h
                  cases hb : Nat.beq f 200 with
                  | true => rw [hb, cond_true, Option.some.injEq] at h; rw [← h, Nat.eq_of_beq_eq_true hb]; exact ok200
                  | false => rw [hb, cond_false] at h; cases h
            | false =>
              rw [hc, cond_false] at h
              cases hc : Nat.blt f 202 with
              | true =>
                rw [hc, cond_true] at h
                cases hb : Nat.beq f 201 with
                | true => rw [hb, cond_true, Option.some.injEq] at h; rw [← h, Nat.eq_of_beq_eq_true hb]; exact ok201
                | false => rw [hb, cond_false] at h; cases h
              | false =>
                rw [hc, cond_false] at h
                cases hc : Nat.blt f 203 with
                | true =>
                  rw [hc, cond_true] at h
                  cases hb : Nat.beq f 202 with
                  | true => rw [hb, cond_true, Option.some.injEq] at h; rw [← h, Nat.eq_of_beq_eq_true hb]; exact ok202
                  | false => rw [hb, cond_false] at h; cases h
                | false =>
                  rw [hc, cond_false] at h
                  cases hb : Nat.beq f 203 with
                  | true => rw [hb, cond_true, Option.some.injEq] at h; rw [← h, Nat.eq_of_beq_eq_true hb]; exact ok203
                  | false => rw [hb, cond_false] at h; cases h
          | false =>
            rw [hc, cond_false] at h
            cases hc : Nat.blt f 207 with
            | true =>
              rw [hc, cond_true] at h
              cases hc : Nat.blt f 205 with
              | true =>
                rw [hc, cond_true] at h
                cases hb : Nat.beq f 204 with
                | true => rw [hb, cond_true, Option.some.injEq] at h; rw [← h, Nat.eq_of_beq_eq_true hb]; exact ok204
                | false => rw [hb, cond_false] at h; cases h
              | false =>
                rw [hc, cond_false] at h
                cases hc : Nat.blt f 206 with
                | true =>
                  rw [hc, cond_true] at h
                  cases hb : Nat.beq f 205 with
                  | true => rw [hb, cond_true, Option.some.injEq] at h; rw [← h, Nat.eq_of_beq_eq_true hb]; exact ok205
                  | false => rw [hb, cond_false] at h; cases h
                | false =>
                  rw [hc, cond_false] at h
                  cases hb : Nat.beq f 206 with
                  | true => rw [hb, cond_true, Option.some.injEq] at h; rw [← h, Nat.eq_of_beq_eq_true hb]; exact ok206
                  | false => rw [hb, cond_false] at h; cases h
            | false =>
              rw [hc, cond_false] at h
              cases hc : Nat.blt f 209 with
              | true =>
                rw [hc, cond_true] at h
                cases hc : Nat.blt f 208 with
                | true =>
                  rw [hc, cond_true] at h
                  cases hb : Nat.beq f 207 with
                  | true => rw [hb, cond_true, Option.some.injEq] at h; rw [← h, Nat.eq_of_beq_eq_true hb]; exact ok207
                  | false => rw [hb, cond_false] at h; cases h
                | false =>
                  rw [hc, cond_false] at h
                  cases hb : Nat.beq f 208 with
                  | true => rw [hb, cond_true, Option.some.injEq] at h; rw [← h, Nat.eq_of_beq_eq_true hb]; exact ok208
                  | false => rw [hb, cond_false] at h; cases h
              | false =>
                rw [hc, cond_false] at h
                cases hc : Nat.blt f 210 with
                | true =>
                  rw [hc, cond_true] at h
                  cases hb : Nat.beq f 209 with
                  | true => rw [hb, cond_true, Option.some.injEq] at h; rw [← h, Nat.eq_of_beq_eq_true hb]; exact ok209
                  | false => rw [hb, cond_false] at h; cases h
                | false =>
                  rw [hc, cond_false] at h
                  cases hb : Nat.beq f 210 with
                  | true => rw [hb, cond_true, Option.some.injEq] at h; rw [← h, Nat.eq_of_beq_eq_true hb]; exact ok210
                  | false => rw [hb, cond_false] at h; cases h

end Go.Proofs.YtefpgecinlekpaaGreat
