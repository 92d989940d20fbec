/- layout.Parse. -/
import Derived.Test.YtefdjkakojfhnaaDoorValf
namespace Go.Am
open Go Go.Proofs
set_option maxRecDepth 100000
set_option linter.unusedVariables false
set_option linter.unusedSimpArgs false
def parseV : List Ln → List Dc → List Dc × Int × Int
  | [], acc => (acc, 0, 0)
  | x :: r, acc => if (oneV x.num x.fs).2 = 0 then parseV r (acc ++ [(oneV x.num x.fs).1]) else ([], x.num, (oneV x.num x.fs).2)
def parseR (r : List Dc × Int × Int) : D := .tup [.p (.sl (encC r.1)), .p (.int .i64 r.2.1), .p (.int .i64 r.2.2)]
theorem parsel_ok (l : List Ln) (hl : l.length ≤ 10000000) (hf : ∀ x ∈ l, x.fs.length ≤ 10000000) : ACalls Tryd.prog 29 [.p (.sl (encL l))] [] fun h r => h = [] ∧ r = parseR (parseV l []) := by
  refine ACalls_X Tryd.func29 rfl enters29 (by simp [Tryd.f29]) ?_
  simp only [go_sem, ↓reduceIte, Nat.reduceLT, Nat.reduceLeDiff, Nat.reduceEqDiff, Nat.reduceAdd, Nat.reduceMul, Nat.reduceSub, reduceCtorEq, Int.reduceLT, Int.reduceLE, Int.reduceEq, Int.reduceToNat, decide_true, decide_false, Int.reduceNeg, Int.cast_ofNat_Int, sg, AO.sg, Option.isNone_none, encL_len]
  refine X_loop_inv (fun q : Nat × List Dc => ⟨[(10, .p (.sl (encL l))), (11, .p (.int .i64 (l.length : Nat))), (12, .p (.int .i64 (q.1 : Nat))), (5, .ref 29 0 q.2.length q.2.length)], [(29, .arr 59 4 (encC q.2))], 32⟩)
    (fun q => q.1 ≤ l.length ∧ q.2.length ≤ q.1 ∧ parseV (l.drop q.1) q.2 = parseV l []) (fun q => l.length - q.1) (0, []) ⟨Nat.zero_le _, by simp, by simp⟩ ((Wk.nil (t := 5) (q := 29) (sz := 4) 59 rfl rfl (by decide)).trans (Wk.forget (by simp [Le, LeE, LeH, get, envIds, hpIds, KeepH, D.ids, idsL, AO.ids, setL, base, encC]))) ?_
  rintro ⟨i, acc⟩ n ⟨hi, hn, he⟩ ih
  simp only at hi hn he
  simp only [go_sem, ↓reduceIte, Nat.reduceLT, Nat.reduceLeDiff, Nat.reduceEqDiff, Nat.reduceAdd, Nat.reduceMul, Nat.reduceSub, reduceCtorEq, Int.reduceLT, Int.reduceLE, Int.reduceEq, Int.reduceToNat, decide_true, decide_false, Int.reduceNeg, Int.cast_ofNat_Int, sg, AO.sg, Option.isNone_none]
  refine Cn_split (fun h2 => ?_) (fun h2 => ?_)
  · have hlt : i < l.length := by simp at h2; omega
    have hw := wrap_succ i (by omega)
    have hb := hf _ (getD_mem l i ln0 hlt)
    rw [drop_getD l i ln0 hlt] at he
    simp only [go_sem, ↓reduceIte, Nat.reduceLT, Nat.reduceLeDiff, Nat.reduceEqDiff, Nat.reduceAdd, Nat.reduceMul, Nat.reduceSub, reduceCtorEq, Int.reduceLT, Int.reduceLE, Int.reduceEq, Int.reduceToNat, decide_true, decide_false, Int.reduceNeg, Int.cast_ofNat_Int, sg, AO.sg, Option.isNone_none, Int.toNat_natCast, encL_len, encL_get l i hlt]
    generalize l.getD i ln0 = x at *
    refine ⟨by omega, Cc_of (parse_ok x.num x.fs hb) ?_⟩
    rintro h' r ⟨rfl, rfl⟩
    by_cases hz : (oneV x.num x.fs).2 = 0
    · simp only [go_sem, ↓reduceIte, Nat.reduceLT, Nat.reduceLeDiff, Nat.reduceEqDiff, Nat.reduceAdd, Nat.reduceMul, Nat.reduceSub, reduceCtorEq, Int.reduceLT, Int.reduceLE, Int.reduceEq, Int.reduceToNat, decide_true, decide_false, Int.reduceNeg, Int.cast_ofNat_Int, sg, AO.sg, Option.isNone_none, Dc.d, hz, hw, encC_len]
      refine ⟨⟨wid1 _ _ rfl, by omega⟩, ?_⟩
      refine ih (i + 1, acc ++ [(oneV x.num x.fs).1]) _ ⟨hlt, by simp only [List.length_append, List.length_cons, List.length_nil]; omega, by rw [← he]; simp only [parseV, hz, if_true]⟩ (by simp only; omega) ?_
      (refine Wk.forget ?_; simp [Le, LeE, LeH, get, envIds, hpIds, KeepH, D.ids, idsL, AO.ids, setL, base, encC_snoc, encC_len]; done)
    · simp only [go_sem, ↓reduceIte, Nat.reduceLT, Nat.reduceLeDiff, Nat.reduceEqDiff, Nat.reduceAdd, Nat.reduceMul, Nat.reduceSub, reduceCtorEq, Int.reduceLT, Int.reduceLE, Int.reduceEq, Int.reduceToNat, decide_true, decide_false, Int.reduceNeg, Int.cast_ofNat_Int, sg, AO.sg, Option.isNone_none, Dc.d, hz]
      refine X_any0 mixed (p := [(0, 0), (1, 0), (2, 0), (3, 0), (4, 0), (5, 0)]) (by kernel_rfl) (by simp [LeH, get]) ?_
      simp only [go_sem, ↓reduceIte, Nat.reduceLT, Nat.reduceLeDiff, Nat.reduceEqDiff, Nat.reduceAdd, Nat.reduceMul, Nat.reduceSub, reduceCtorEq, Int.reduceLT, Int.reduceLE, Int.reduceEq, Int.reduceToNat, decide_true, decide_false, Int.reduceNeg, Int.cast_ofNat_Int, sg, AO.sg, Option.isNone_none]
      refine end_pure ?_
      simp only [go_sem, ↓reduceIte, Nat.reduceLT, Nat.reduceLeDiff, Nat.reduceEqDiff, Nat.reduceAdd, Nat.reduceMul, Nat.reduceSub, reduceCtorEq, Int.reduceLT, Int.reduceLE, Int.reduceEq, Int.reduceToNat, decide_true, decide_false, Int.reduceNeg, Int.cast_ofNat_Int, sg, AO.sg, Option.isNone_none]
      rw [← he]
      simp [parseV, hz, parseR, encC]
  · simp only [go_sem, ↓reduceIte, Nat.reduceLT, Nat.reduceLeDiff, Nat.reduceEqDiff, Nat.reduceAdd, Nat.reduceMul, Nat.reduceSub, reduceCtorEq, Int.reduceLT, Int.reduceLE, Int.reduceEq, Int.reduceToNat, decide_true, decide_false, Int.reduceNeg, Int.cast_ofNat_Int, sg, AO.sg, Option.isNone_none]
    have hieq : i = l.length := by simp at h2; omega
    subst hieq
    refine end_pure ?_
    simp only [go_sem, ↓reduceIte, Nat.reduceLT, Nat.reduceLeDiff, Nat.reduceEqDiff, Nat.reduceAdd, Nat.reduceMul, Nat.reduceSub, reduceCtorEq, Int.reduceLT, Int.reduceLE, Int.reduceEq, Int.reduceToNat, decide_true, decide_false, Int.reduceNeg, Int.cast_ofNat_Int, sg, AO.sg, Option.isNone_none]
    rw [List.drop_length] at he
    rw [← he]
    simp [parseV, parseR, encC_len, encC_take]
end Go.Am
