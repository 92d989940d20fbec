/- known, of the law of layer 1. -/
import Derived.Test.YtefdjkakojfhnaaDoorTxtf
namespace Go.Am
open Go Go.Proofs
set_option maxRecDepth 100000
set_option linter.unusedVariables false
set_option linter.unusedSimpArgs false
def kText : List UInt8 := [10, 10, 98, 108, 111, 99, 107, 32, 97, 32, 49, 32, 45, 50, 32, 35, 32, 102, 105, 114, 115, 116]
theorem known1_ok : ACalls Tryd.prog 11 [] [] fun h r => h = [] ∧ r = .p (.bool true) := by
  refine ACalls_X Tryd.func11 rfl enters11 (by simp [Tryd.f11]) ?_
  have k1 := lines1_ok kText
  have e1 : linesR (fLines kText) = .tup [.p (.sl [[.int .i64 3, .sl [[.str [98, 108, 111, 99, 107]], [.str [97]], [.str [49]], [.str [45, 50]]]]]), .p (.int .i64 0), .p (.int .i64 0)] := by kernel_rfl
  rw [e1] at k1
  have k2 := number1_ok [48, 48, 55]
  rw [show (numV [48, 48, 55]).1 = 0 by kernel_rfl, show (numV [48, 48, 55]).2 = false by kernel_rfl] at k2
  have k3 := number1_ok [45, 48]
  rw [show (numV [45, 48]).1 = 0 by kernel_rfl, show (numV [45, 48]).2 = false by kernel_rfl] at k3
  have k4 := number1_ok [45, 49, 50]
  rw [show (numV [45, 49, 50]).1 = -12 by kernel_rfl, show (numV [45, 49, 50]).2 = true by kernel_rfl] at k4
  simp only [go_sem, ↓reduceIte, Nat.reduceLT, Nat.reduceLeDiff, Nat.reduceEqDiff, Nat.reduceAdd, Nat.reduceMul, Nat.reduceSub, reduceCtorEq, Int.reduceLT, Int.reduceLE, Int.reduceEq, Int.reduceToNat, decide_true, decide_false, Int.reduceNeg, Int.cast_ofNat_Int, sg, AO.sg, Option.isNone_none]
  refine Cc_of k1 ?_
  rintro h' r ⟨rfl, rfl⟩
  simp only [go_sem, ↓reduceIte, Nat.reduceLT, Nat.reduceLeDiff, Nat.reduceEqDiff, Nat.reduceAdd, Nat.reduceMul, Nat.reduceSub, reduceCtorEq, Int.reduceLT, Int.reduceLE, Int.reduceEq, Int.reduceToNat, decide_true, decide_false, Int.reduceNeg, Int.cast_ofNat_Int, sg, AO.sg, Option.isNone_none]
  refine Cc_of k2 ?_
  rintro h' r ⟨rfl, rfl⟩
  simp only [go_sem, ↓reduceIte, Nat.reduceLT, Nat.reduceLeDiff, Nat.reduceEqDiff, Nat.reduceAdd, Nat.reduceMul, Nat.reduceSub, reduceCtorEq, Int.reduceLT, Int.reduceLE, Int.reduceEq, Int.reduceToNat, decide_true, decide_false, Int.reduceNeg, Int.cast_ofNat_Int, sg, AO.sg, Option.isNone_none]
  refine Cc_of k3 ?_
  rintro h' r ⟨rfl, rfl⟩
  simp only [go_sem, ↓reduceIte, Nat.reduceLT, Nat.reduceLeDiff, Nat.reduceEqDiff, Nat.reduceAdd, Nat.reduceMul, Nat.reduceSub, reduceCtorEq, Int.reduceLT, Int.reduceLE, Int.reduceEq, Int.reduceToNat, decide_true, decide_false, Int.reduceNeg, Int.cast_ofNat_Int, sg, AO.sg, Option.isNone_none]
  refine Cc_of k4 ?_
  rintro h' r ⟨rfl, rfl⟩
  simp only [go_sem, ↓reduceIte, Nat.reduceLT, Nat.reduceLeDiff, Nat.reduceEqDiff, Nat.reduceAdd, Nat.reduceMul, Nat.reduceSub, reduceCtorEq, Int.reduceLT, Int.reduceLE, Int.reduceEq, Int.reduceToNat, decide_true, decide_false, Int.reduceNeg, Int.cast_ofNat_Int, sg, AO.sg, Option.isNone_none, List.getD_cons_zero]
  refine Cc_of (sameStrings_ok [[98, 108, 111, 99, 107], [97], [49], [45, 50]] [[98, 108, 111, 99, 107], [97], [49], [45, 50]] (by decide)) ?_
  rintro h' r ⟨rfl, rfl⟩
  simp only [go_sem, ↓reduceIte, Nat.reduceLT, Nat.reduceLeDiff, Nat.reduceEqDiff, Nat.reduceAdd, Nat.reduceMul, Nat.reduceSub, reduceCtorEq, Int.reduceLT, Int.reduceLE, Int.reduceEq, Int.reduceToNat, decide_true, decide_false, Int.reduceNeg, Int.cast_ofNat_Int, sg, AO.sg, Option.isNone_none]
  refine Cc_of (name1_ok [97, 45, 49]) ?_
  rintro h' r ⟨rfl, rfl⟩
  have e5 : nameB [97, 45, 49] = true := by kernel_rfl
  simp only [go_sem, ↓reduceIte, Nat.reduceLT, Nat.reduceLeDiff, Nat.reduceEqDiff, Nat.reduceAdd, Nat.reduceMul, Nat.reduceSub, reduceCtorEq, Int.reduceLT, Int.reduceLE, Int.reduceEq, Int.reduceToNat, decide_true, decide_false, Int.reduceNeg, Int.cast_ofNat_Int, sg, AO.sg, Option.isNone_none, e5]
  refine Cc_of (name1_ok [49, 97]) ?_
  rintro h' r ⟨rfl, rfl⟩
  have e6 : nameB [49, 97] = false := by kernel_rfl
  simp only [go_sem, ↓reduceIte, Nat.reduceLT, Nat.reduceLeDiff, Nat.reduceEqDiff, Nat.reduceAdd, Nat.reduceMul, Nat.reduceSub, reduceCtorEq, Int.reduceLT, Int.reduceLE, Int.reduceEq, Int.reduceToNat, decide_true, decide_false, Int.reduceNeg, Int.cast_ofNat_Int, sg, AO.sg, Option.isNone_none, e6]
end Go.Am
