/- slices.IndexFunc over forms, with a function that captures a line. -/
import Derived.Test.YtefdjkakojfhnaaDoorForm
namespace Go.Am
open Go Go.Proofs
set_option maxRecDepth 100000
set_option linter.unusedVariables false
set_option linter.unusedSimpArgs false
def encF (l : List Fm) : List (List Pd) := l.map fmC
theorem encF_len (l : List Fm) : (encF l).length = l.length := by simp [encF]
theorem encF_get (l : List Fm) (i : Nat) (h : i < l.length) : (encF l).getD i [] = [.str l[i].word, .str l[i].fields, .bool l[i].more] := by simp [encF, List.getD, h, fmC]
theorem indexF_ok (l : List Fm) (hl : l.length ≤ 140737488355328) (g : FuncId) (p : Fm → Bool) (x1 x2 : Pd)
    (hp : ∀ x : Fm, ACalls Tryd.prog g [.agg [.p (.str x.word), .p (.str x.fields), .p (.bool x.more)], .ptr 1000000 0] [(1000000, .box [.p x1, .p x2])] fun h r => h = [(1000000, .box [.p x1, .p x2])] ∧ r = .p (.bool (p x))) :
    ACalls Tryd.prog 78 [.p (.sl (encF l)), .fn g [.ptr 1000000 0]] [(1000000, .box [.p x1, .p x2])] fun h r => h = [(1000000, .box [.p x1, .p x2])] ∧ r = .p (.int .i64 (findI p 0 l)) := by
  refine ACalls_X Tryd.func78 rfl enters78 (by simp [Tryd.f78]) ?_
  simp only [go_sem, ↓reduceIte, Nat.reduceLT, Nat.reduceLeDiff, Nat.reduceEqDiff, Nat.reduceAdd, Nat.reduceMul, Nat.reduceSub, reduceCtorEq, Int.reduceLT, Int.reduceLE, Int.reduceEq, Int.reduceToNat, decide_true, decide_false, Int.reduceNeg, Int.cast_ofNat_Int, sg, AO.sg, Option.isNone_none, encF_len]
  refine X_loop_inv (fun i => ⟨[(0, .p (.sl (encF l))), (1, .fn g [.ptr 1000000 0]), (7, .p (.int .i64 (l.length : Nat))), (8, .p (.int .i64 (i : Nat)))], [(1000000, .box [.p x1, .p x2])], 19⟩) (fun i => i ≤ l.length ∧ ∀ j x, j < i → l[j]? = some x → p x = false) (fun i => l.length - i) 0 ⟨Nat.zero_le _, by simp⟩
    (Wk.forget (by simp [Le, LeE, LeH, get, envIds, hpIds, KeepH, D.ids, idsL, AO.ids, setL, base])) ?_
  rintro i n ⟨hi, he⟩ ih
  simp only [go_sem, ↓reduceIte, Nat.reduceLT, Nat.reduceLeDiff, Nat.reduceEqDiff, Nat.reduceAdd, Nat.reduceMul, Nat.reduceSub, reduceCtorEq, Int.reduceLT, Int.reduceLE, Int.reduceEq, Int.reduceToNat, decide_true, decide_false, Int.reduceNeg, Int.cast_ofNat_Int, sg, AO.sg, Option.isNone_none]
  refine Cn_split (fun h2 => ?_) (fun h2 => ?_)
  · have hlt : i < l.length := by simp at h2; omega
    simp only [go_sem, ↓reduceIte, Nat.reduceLT, Nat.reduceLeDiff, Nat.reduceEqDiff, Nat.reduceAdd, Nat.reduceMul, Nat.reduceSub, reduceCtorEq, Int.reduceLT, Int.reduceLE, Int.reduceEq, Int.reduceToNat, decide_true, decide_false, Int.reduceNeg, Int.cast_ofNat_Int, sg, AO.sg, Option.isNone_none, encF_len, Int.toNat_natCast, encF_get l i hlt]
    have hw := wrap_succ i (by omega)
    have hx : l[i]? = some l[i] := by simp
    have hdrop : l.drop i = l[i] :: l.drop (i + 1) := by rw [List.drop_eq_getElem_cons hlt]
    refine ⟨by omega, Cc_of (hp l[i]) ?_⟩
    rintro h' r ⟨rfl, rfl⟩
    simp only [go_sem, ↓reduceIte, Nat.reduceLT, Nat.reduceLeDiff, Nat.reduceEqDiff, Nat.reduceAdd, Nat.reduceMul, Nat.reduceSub, reduceCtorEq, Int.reduceLT, Int.reduceLE, Int.reduceEq, Int.reduceToNat, decide_true, decide_false, Int.reduceNeg, Int.cast_ofNat_Int, sg, AO.sg, Option.isNone_none]
    cases hpx : p l[i]
    · simp only [go_sem, ↓reduceIte, Nat.reduceLT, Nat.reduceLeDiff, Nat.reduceEqDiff, Nat.reduceAdd, Nat.reduceMul, Nat.reduceSub, reduceCtorEq, Int.reduceLT, Int.reduceLE, Int.reduceEq, Int.reduceToNat, decide_true, decide_false, Int.reduceNeg, Int.cast_ofNat_Int, sg, AO.sg, Option.isNone_none, hw]
      refine ih (i + 1) _ ⟨by omega, fun j x hj hjx => ?_⟩ (by omega) (Wk.forget (by simp [Le, LeE, LeH, get, envIds, hpIds, KeepH, D.ids, idsL, AO.ids, setL, base]))
      rcases Nat.lt_succ_iff_lt_or_eq.1 hj with hj | rfl
      · exact he j x hj hjx
      · rw [hx] at hjx; cases hjx; exact hpx
    · simp only [go_sem, ↓reduceIte, Nat.reduceLT, Nat.reduceLeDiff, Nat.reduceEqDiff, Nat.reduceAdd, Nat.reduceMul, Nat.reduceSub, reduceCtorEq, Int.reduceLT, Int.reduceLE, Int.reduceEq, Int.reduceToNat, decide_true, decide_false, Int.reduceNeg, Int.cast_ofNat_Int, sg, AO.sg, Option.isNone_none]
      rw [findI_drop p l i hi he, hdrop]
      simp only [findI, hpx, if_true, and_self]
  · simp only [go_sem, ↓reduceIte, Nat.reduceLT, Nat.reduceLeDiff, Nat.reduceEqDiff, Nat.reduceAdd, Nat.reduceMul, Nat.reduceSub, reduceCtorEq, Int.reduceLT, Int.reduceLE, Int.reduceEq, Int.reduceToNat, decide_true, decide_false, Int.reduceNeg, Int.cast_ofNat_Int, sg, AO.sg, Option.isNone_none]
    have : i = l.length := by simp at h2; omega
    rw [findI_drop p l i hi he, this, List.drop_length]
    simp [findI]
end Go.Am
