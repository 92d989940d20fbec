/- known, of the law of layer 2. -/
import Derived.Test.YtefdjkakojfhnaaDoorFmtl
namespace Go.Am
open Go Go.Proofs
set_option maxRecDepth 100000
set_option linter.unusedVariables false
set_option linter.unusedSimpArgs false
theorem known_ok : ACalls Tryd.prog 22 [] [] fun h r => h = [] ∧ r = .p (.bool true) := by
  refine ACalls_X Tryd.func22 rfl enters22 (by simp [Tryd.f22]) ?_
  have k1 := parsel_ok [⟨4, [[108, 97, 110, 101], [97], [98], [99]]⟩] (by decide) (by decide)
  have k2 := parsel_ok [⟨7, [[108, 97, 110, 101], [97]]⟩] (by decide) (by decide)
  have k3 := parsel_ok [⟨1, [[98, 108, 111, 99, 107], [49], [49], [49]]⟩] (by decide) (by decide)
  have k4 := parsel_ok [⟨1, [[98, 108, 111, 99, 107], [97], [49], [120]]⟩] (by decide) (by decide)
  have e1 : parseR (parseV [⟨4, [[108, 97, 110, 101], [97], [98], [99]]⟩] []) = .tup [.p (.sl [[.int .i64 2, .int .i64 4, .sl [[.str [97]], [.str [98]], [.str [99]]], .sl []]]), .p (.int .i64 0), .p (.int .i64 0)] := by kernel_rfl
  have e2 : parseR (parseV [⟨7, [[108, 97, 110, 101], [97]]⟩] []) = .tup [.p (.sl []), .p (.int .i64 7), .p (.int .i64 5)] := by kernel_rfl
  have e3 : parseR (parseV [⟨1, [[98, 108, 111, 99, 107], [49], [49], [49]]⟩] []) = .tup [.p (.sl []), .p (.int .i64 1), .p (.int .i64 6)] := by kernel_rfl
  have e4 : parseR (parseV [⟨1, [[98, 108, 111, 99, 107], [97], [49], [120]]⟩] []) = .tup [.p (.sl []), .p (.int .i64 1), .p (.int .i64 7)] := by kernel_rfl
  rw [e1] at k1
  rw [e2] at k2
  rw [e3] at k3
  rw [e4] at k4
  simp only [go_sem, ↓reduceIte, Nat.reduceLT, Nat.reduceLeDiff, Nat.reduceEqDiff, Nat.reduceAdd, Nat.reduceMul, Nat.reduceSub, reduceCtorEq, Int.reduceLT, Int.reduceLE, Int.reduceEq, Int.reduceToNat, decide_true, decide_false, Int.reduceNeg, Int.cast_ofNat_Int, sg, AO.sg, Option.isNone_none]
  refine Cc_of k1 ?_
  rintro h' r ⟨rfl, rfl⟩
  simp only [go_sem, ↓reduceIte, Nat.reduceLT, Nat.reduceLeDiff, Nat.reduceEqDiff, Nat.reduceAdd, Nat.reduceMul, Nat.reduceSub, reduceCtorEq, Int.reduceLT, Int.reduceLE, Int.reduceEq, Int.reduceToNat, decide_true, decide_false, Int.reduceNeg, Int.cast_ofNat_Int, sg, AO.sg, Option.isNone_none]
  refine Cc_of k2 ?_
  rintro h' r ⟨rfl, rfl⟩
  simp only [go_sem, ↓reduceIte, Nat.reduceLT, Nat.reduceLeDiff, Nat.reduceEqDiff, Nat.reduceAdd, Nat.reduceMul, Nat.reduceSub, reduceCtorEq, Int.reduceLT, Int.reduceLE, Int.reduceEq, Int.reduceToNat, decide_true, decide_false, Int.reduceNeg, Int.cast_ofNat_Int, sg, AO.sg, Option.isNone_none]
  refine Cc_of k3 ?_
  rintro h' r ⟨rfl, rfl⟩
  simp only [go_sem, ↓reduceIte, Nat.reduceLT, Nat.reduceLeDiff, Nat.reduceEqDiff, Nat.reduceAdd, Nat.reduceMul, Nat.reduceSub, reduceCtorEq, Int.reduceLT, Int.reduceLE, Int.reduceEq, Int.reduceToNat, decide_true, decide_false, Int.reduceNeg, Int.cast_ofNat_Int, sg, AO.sg, Option.isNone_none]
  refine Cc_of k4 ?_
  rintro h' r ⟨rfl, rfl⟩
  simp only [go_sem, ↓reduceIte, Nat.reduceLT, Nat.reduceLeDiff, Nat.reduceEqDiff, Nat.reduceAdd, Nat.reduceMul, Nat.reduceSub, reduceCtorEq, Int.reduceLT, Int.reduceLE, Int.reduceEq, Int.reduceToNat, decide_true, decide_false, Int.reduceNeg, Int.cast_ofNat_Int, sg, AO.sg, Option.isNone_none, List.getD_cons_zero]
  refine Cc_of (valid_ok ⟨2, 4, [[97], [98], [99]], []⟩ (by decide)) ?_
  rintro h' r ⟨rfl, rfl⟩
  have ev : validV ⟨2, 4, [[97], [98], [99]], []⟩ = true := by kernel_rfl
  simp only [go_sem, ↓reduceIte, Nat.reduceLT, Nat.reduceLeDiff, Nat.reduceEqDiff, Nat.reduceAdd, Nat.reduceMul, Nat.reduceSub, reduceCtorEq, Int.reduceLT, Int.reduceLE, Int.reduceEq, Int.reduceToNat, decide_true, decide_false, Int.reduceNeg, Int.cast_ofNat_Int, sg, AO.sg, Option.isNone_none, ev]
end Go.Am
