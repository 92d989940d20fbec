/- Letters. -/
import Derived.Test.YtefdjkakojfhnaaMade
namespace Go.Am
open Go Go.Proofs
set_option maxRecDepth 100000
set_option linter.unusedSimpArgs false
def letterB (c : Int) : Bool := decide (97 ≤ c ∧ c ≤ 122) || decide (65 ≤ c ∧ c ≤ 90)
theorem letter1_ok (c : Int) : ACalls Try.prog 31 [.p (.int .u8 c)] [] fun h r => h = [] ∧ r = .p (.bool (letterB c)) := by
  refine ACalls_X Try.func31 rfl enters31 (by simp [Try.f31]) ?_
  by_cases h1 : 97 ≤ c <;> by_cases h2 : c ≤ 122 <;> by_cases h3 : 65 ≤ c <;> by_cases h4 : c ≤ 90 <;> (try omega) <;>
  · simp only [go_sem, ↓reduceIte, Nat.reduceLT, Nat.reduceLeDiff, Nat.reduceEqDiff, Nat.reduceAdd, Nat.reduceMul, Nat.reduceSub, reduceCtorEq, Int.reduceLT, Int.reduceLE, Int.reduceEq, Int.reduceToNat, decide_true, decide_false, Int.reduceNeg, Int.cast_ofNat_Int, sg, AO.sg, h1, h2, h3, h4]
    simp [letterB, h1, h2, h3, h4]
theorem letter2_ok (c : Int) : ACalls Try.prog 34 [.p (.int .u8 c)] [] fun h r => h = [] ∧ r = .p (.bool (letterB c)) := by
  refine ACalls_X Try.func34 rfl enters34 (by simp [Try.f34]) ?_
  by_cases h1 : 97 ≤ c <;> by_cases h2 : c ≤ 122 <;> by_cases h3 : 65 ≤ c <;> by_cases h4 : c ≤ 90 <;> (try omega) <;>
  · simp only [go_sem, ↓reduceIte, Nat.reduceLT, Nat.reduceLeDiff, Nat.reduceEqDiff, Nat.reduceAdd, Nat.reduceMul, Nat.reduceSub, reduceCtorEq, Int.reduceLT, Int.reduceLE, Int.reduceEq, Int.reduceToNat, decide_true, decide_false, Int.reduceNeg, Int.cast_ofNat_Int, sg, AO.sg, h1, h2, h3, h4]
    simp [letterB, h1, h2, h3, h4]
end Go.Am
