/- The table of forms. -/
import Derived.Test.YtefdjkakojfhnaaDoorVald
namespace Go.Am
open Go Go.Proofs
set_option maxRecDepth 100000
set_option linter.unusedVariables false
set_option linter.unusedSimpArgs false
structure Fm where
  word : List UInt8
  fields : List UInt8
  more : Bool
def formL : List Fm := [⟨[], [], false⟩, ⟨[98, 108, 111, 99, 107], [78, 35, 35], false⟩, ⟨[108, 97, 110, 101], [78, 78], true⟩, ⟨[115, 116, 97, 116, 105, 111, 110], [78, 78, 78, 35], false⟩,
  ⟨[100, 101, 112, 111, 116], [78, 78, 78, 35], false⟩, ⟨[114, 111, 98, 111, 116], [78, 35], false⟩, ⟨[99, 111, 110, 102, 105, 103], [35, 35, 35, 35], false⟩]
def fmC (f : Fm) : List Pd := [.str f.word, .str f.fields, .bool f.more]
theorem forms_ok : ACalls Tryd.prog 47 [] [] fun h r => h = [] ∧ r = .agg ((formL.flatMap fmC).map .p) := by
  refine ACalls_X Tryd.func47 rfl enters47 (by simp [Tryd.f47]) ?_
  simp only [go_sem, ↓reduceIte, Nat.reduceLT, Nat.reduceLeDiff, Nat.reduceEqDiff, Nat.reduceAdd, Nat.reduceMul, Nat.reduceSub, reduceCtorEq, Int.reduceLT, Int.reduceLE, Int.reduceEq, Int.reduceToNat, decide_true, decide_false, Int.reduceNeg, Int.cast_ofNat_Int, sg, AO.sg, Option.isNone_none]
  refine end_own ?_
  simp only [go_sem, ↓reduceIte, Nat.reduceLT, Nat.reduceLeDiff, Nat.reduceEqDiff, Nat.reduceAdd, Nat.reduceMul, Nat.reduceSub, reduceCtorEq, Int.reduceLT, Int.reduceLE, Int.reduceEq, Int.reduceToNat, decide_true, decide_false, Int.reduceNeg, Int.cast_ofNat_Int, sg, AO.sg, Option.isNone_none]
  rfl
def lineC (num : Int) (fs : List (List UInt8)) : List D := [.p (.int .i64 num), .p (.sl (encS fs))]
theorem parse1_ok (f : Fm) (num : Int) (w : List UInt8) (fs : List (List UInt8)) : ACalls Tryd.prog 79 [.agg ((fmC f).map .p), .ptr 1000000 0] [(1000000, .box (lineC num (w :: fs)))] fun h r => h = [(1000000, .box (lineC num (w :: fs)))] ∧ r = .p (.bool (decide (f.word = w))) := by
  refine ACalls_X Tryd.func79 rfl enters79 (by simp [Tryd.f79]) ?_
  unfold lineC fmC
  simp only [go_sem, ↓reduceIte, Nat.reduceLT, Nat.reduceLeDiff, Nat.reduceEqDiff, Nat.reduceAdd, Nat.reduceMul, Nat.reduceSub, reduceCtorEq, Int.reduceLT, Int.reduceLE, Int.reduceEq, Int.reduceToNat, decide_true, decide_false, Int.reduceNeg, Int.cast_ofNat_Int, sg, AO.sg, Option.isNone_none]
  refine X_any [(1000000, .box [.p (.int .i64 num), .p (.sl (encS (w :: fs)))]), (2, .box [.p (.str f.word), .p (.str f.fields), .p (.bool f.more)])] mixed (p := [(0, 0), (1, 0), (2, 0), (3, 0), (4, 0), (5, 0), (6, 0), (7, 0)]) (by kernel_rfl) (by simp [LeH, get]) ?_
  have h0 : (encS (w :: fs)).getD 0 [] = [.str w] := rfl
  simp only [go_sem, ↓reduceIte, Nat.reduceLT, Nat.reduceLeDiff, Nat.reduceEqDiff, Nat.reduceAdd, Nat.reduceMul, Nat.reduceSub, reduceCtorEq, Int.reduceLT, Int.reduceLE, Int.reduceEq, Int.reduceToNat, decide_true, decide_false, Int.reduceNeg, Int.cast_ofNat_Int, sg, AO.sg, Option.isNone_none, encS_len, h0]
  omega
end Go.Am
