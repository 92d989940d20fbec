/- Letters. -/
import Derived.Test.YtefdjkakojfhnaaDoorType
namespace Go.Am
open Go Go.Proofs
set_option maxRecDepth 100000
set_option linter.unusedVariables false
set_option linter.unusedSimpArgs false
def letterB (c : Int) : Bool := decide (97 ≤ c ∧ c ≤ 122) || decide (65 ≤ c ∧ c ≤ 90)
theorem letter1_ok (c : Int) : ACalls Tryd.prog 41 [.p (.int .u8 c)] [] fun h r => h = [] ∧ r = .p (.bool (letterB c)) := by
  refine ACalls_X Tryd.func41 rfl enters41 (by simp [Tryd.f41]) ?_
  by_cases h1 : 97 ≤ c <;> by_cases h2 : c ≤ 122 <;> by_cases h3 : 65 ≤ c <;> by_cases h4 : c ≤ 90 <;> (try omega) <;>
  · simp only [go_sem, ↓reduceIte, Nat.reduceLT, Nat.reduceLeDiff, Nat.reduceEqDiff, Nat.reduceAdd, Nat.reduceMul, Nat.reduceSub, reduceCtorEq, Int.reduceLT, Int.reduceLE, Int.reduceEq, Int.reduceToNat, decide_true, decide_false, Int.reduceNeg, Int.cast_ofNat_Int, sg, AO.sg, Option.isNone_none, h1, h2, h3, h4]
    simp [letterB, h1, h2, h3, h4]
theorem letter2_ok (c : Int) : ACalls Tryd.prog 42 [.p (.int .u8 c)] [] fun h r => h = [] ∧ r = .p (.bool (letterB c)) := by
  refine ACalls_X Tryd.func42 rfl enters42 (by simp [Tryd.f42]) ?_
  by_cases h1 : 97 ≤ c <;> by_cases h2 : c ≤ 122 <;> by_cases h3 : 65 ≤ c <;> by_cases h4 : c ≤ 90 <;> (try omega) <;>
  · simp only [go_sem, ↓reduceIte, Nat.reduceLT, Nat.reduceLeDiff, Nat.reduceEqDiff, Nat.reduceAdd, Nat.reduceMul, Nat.reduceSub, reduceCtorEq, Int.reduceLT, Int.reduceLE, Int.reduceEq, Int.reduceToNat, decide_true, decide_false, Int.reduceNeg, Int.cast_ofNat_Int, sg, AO.sg, Option.isNone_none, h1, h2, h3, h4]
    simp [letterB, h1, h2, h3, h4]
end Go.Am
