/- strings.Builder: WriteString. -/
import Derived.Test.YtefdjkakojfhnaaDoorBldw
namespace Go.Am
open Go Go.Proofs
set_option maxRecDepth 100000
set_option linter.unusedVariables false
set_option linter.unusedSimpArgs false
theorem encB_app (l s : List UInt8) : encB (l ++ s) = encB l ++ encB s := by simp [encB]
theorem widB (s : List UInt8) : Wid 1 (encB s) := by simp [Wid, encB]
theorem wid0 : Wid 1 [] := by simp [Wid]
theorem bwrite_fresh (s : List UInt8) (hs : s ≠ []) (hl : s.length ≤ 1000000000) : ACalls Tryd.prog 58 [.ptr 1000000 0, .p (.str s)] [(1000000, .box [.np, .cl []] 105)]
    fun h r => h = [(1000000, .box [.ptr 1000000 0, .ref 0 0 s.length s.length] 105), (0, .arr 5 1 (encB s))] ∧ r = .tup [.p (.int .i64 s.length), .bad] := by
  refine ACalls_X Tryd.func58 rfl enters58 (by simp [Tryd.f58]) ?_
  have he : encB s ≠ [] := by simpa [encB] using hs
  simp only [go_sem, ↓reduceIte, Nat.reduceLT, Nat.reduceLeDiff, Nat.reduceEqDiff, Nat.reduceAdd, Nat.reduceMul, Nat.reduceSub, reduceCtorEq, Int.reduceLT, Int.reduceLE, Int.reduceEq, Int.reduceToNat, decide_true, decide_false, Int.reduceNeg, Int.cast_ofNat_Int, sg, AO.sg, Option.isNone_none]
  refine Cc_of bcheck_fresh ?_
  rintro h' r ⟨rfl, rfl⟩
  simp only [go_sem, ↓reduceIte, Nat.reduceLT, Nat.reduceLeDiff, Nat.reduceEqDiff, Nat.reduceAdd, Nat.reduceMul, Nat.reduceSub, reduceCtorEq, Int.reduceLT, Int.reduceLE, Int.reduceEq, Int.reduceToNat, decide_true, decide_false, Int.reduceNeg, Int.cast_ofNat_Int, sg, AO.sg, Option.isNone_none, encB_len, he]
  refine ⟨⟨widB s, wid0, by omega⟩, end_own ?_⟩
  simp only [go_sem, ↓reduceIte, Nat.reduceLT, Nat.reduceLeDiff, Nat.reduceEqDiff, Nat.reduceAdd, Nat.reduceMul, Nat.reduceSub, reduceCtorEq, Int.reduceLT, Int.reduceLE, Int.reduceEq, Int.reduceToNat, decide_true, decide_false, Int.reduceNeg, Int.cast_ofNat_Int, sg, AO.sg, Option.isNone_none, encB_len]
theorem bwrite_used (l s : List UInt8) (hl : l.length + s.length ≤ 1000000000) : ACalls Tryd.prog 58 [.ptr 1000000 0, .p (.str s)] [(1000000, .box [.ptr 1000000 0, .ref 1000001 0 l.length l.length] 105), (1000001, .arr 5 1 (encB l))]
    fun h r => h = [(1000000, .box [.ptr 1000000 0, .ref 1000001 0 (l ++ s).length (l ++ s).length] 105), (1000001, .arr 5 1 (encB (l ++ s)))] ∧ r = .tup [.p (.int .i64 s.length), .bad] := by
  refine ACalls_X Tryd.func58 rfl enters58 (by simp [Tryd.f58]) ?_
  simp only [go_sem, ↓reduceIte, Nat.reduceLT, Nat.reduceLeDiff, Nat.reduceEqDiff, Nat.reduceAdd, Nat.reduceMul, Nat.reduceSub, reduceCtorEq, Int.reduceLT, Int.reduceLE, Int.reduceEq, Int.reduceToNat, decide_true, decide_false, Int.reduceNeg, Int.cast_ofNat_Int, sg, AO.sg, Option.isNone_none]
  refine Cc_of (bcheck_used rfl) ?_
  rintro h' r ⟨rfl, rfl⟩
  simp only [go_sem, ↓reduceIte, Nat.reduceLT, Nat.reduceLeDiff, Nat.reduceEqDiff, Nat.reduceAdd, Nat.reduceMul, Nat.reduceSub, reduceCtorEq, Int.reduceLT, Int.reduceLE, Int.reduceEq, Int.reduceToNat, decide_true, decide_false, Int.reduceNeg, Int.cast_ofNat_Int, sg, AO.sg, Option.isNone_none, encB_len]
  refine ⟨⟨widB s, by omega⟩, ?_⟩
  simp only [← encB_app, encB_len]
  refine end_own ?_
  simp only [go_sem, ↓reduceIte, Nat.reduceLT, Nat.reduceLeDiff, Nat.reduceEqDiff, Nat.reduceAdd, Nat.reduceMul, Nat.reduceSub, reduceCtorEq, Int.reduceLT, Int.reduceLE, Int.reduceEq, Int.reduceToNat, decide_true, decide_false, Int.reduceNeg, Int.cast_ofNat_Int, sg, AO.sg, Option.isNone_none, encB_len]
end Go.Am
