/- The reference's Has and Insert. -/
import Derived.Test.YtefdjkakojfhnaaDoorNetv
namespace Go.Am
open Go Go.Proofs
set_option maxRecDepth 100000
set_option linter.unusedVariables false
set_option linter.unusedSimpArgs false
theorem has_ok (l : List Int) (x : Int) (hl : l.length ≤ 10000000) :
    ACalls Tryd.prog 45 [.p (.sl (encI l)), .p (.int .i64 x)] [] fun h r => h = [] ∧ r = .p (.bool (decide (x ∈ l))) := by
  refine ACalls_X Tryd.func45 rfl enters45 (by simp [Tryd.f45]) ?_
  simp only [go_sem, ↓reduceIte, Nat.reduceLT, Nat.reduceLeDiff, Nat.reduceEqDiff, Nat.reduceAdd, Nat.reduceMul, Nat.reduceSub, reduceCtorEq, Int.reduceLT, Int.reduceLE, Int.reduceEq, Int.reduceToNat, decide_true, decide_false, Int.reduceNeg, Int.cast_ofNat_Int, sg, AO.sg, Option.isNone_none, encI_len]
  refine X_loop_inv (fun i => ⟨[(0, .p (.sl (encI l))), (1, .p (.int .i64 x)), (5, .p (.int .i64 (i : Nat)))], [], 18⟩) (fun i => i ≤ l.length ∧ x ∉ l.take i) (fun i => l.length - i) 0 ⟨Nat.zero_le _, by simp⟩ (Wk.forget (by simp [Le, LeE, LeH, get, envIds, hpIds, KeepH, D.ids, idsL, AO.ids, setL, base, encI])) ?_
  rintro i n ⟨hi, he⟩ ih
  simp only [go_sem, ↓reduceIte, Nat.reduceLT, Nat.reduceLeDiff, Nat.reduceEqDiff, Nat.reduceAdd, Nat.reduceMul, Nat.reduceSub, reduceCtorEq, Int.reduceLT, Int.reduceLE, Int.reduceEq, Int.reduceToNat, decide_true, decide_false, Int.reduceNeg, Int.cast_ofNat_Int, sg, AO.sg, Option.isNone_none, encI_len]
  refine Cn_split (fun h2 => ?_) (fun h2 => ?_)
  · have hlt : i < l.length := by simp at h2; omega
    have hw := wrap_succ i (by omega)
    have hg := encI_get l i hlt
    have hx : l[i]? = some (l.getD i 0) := by simp [List.getD, hlt]
    have hi0 : (0 : Int) ≤ (i : Int) ∧ (i : Int) < (l.length : Int) := by omega
    have hmem := getD_mem l i 0 hlt
    generalize l.getD i 0 = y at *
    simp only [go_sem, ↓reduceIte, Nat.reduceLT, Nat.reduceLeDiff, Nat.reduceEqDiff, Nat.reduceAdd, Nat.reduceMul, Nat.reduceSub, reduceCtorEq, Int.reduceLT, Int.reduceLE, Int.reduceEq, Int.reduceToNat, decide_true, decide_false, Int.reduceNeg, Int.cast_ofNat_Int, sg, AO.sg, Option.isNone_none, encI_len, Int.toNat_natCast, hg, hi0]
    cases hv : decide (y = x)
    · simp only [go_sem, ↓reduceIte, Nat.reduceLT, Nat.reduceLeDiff, Nat.reduceEqDiff, Nat.reduceAdd, Nat.reduceMul, Nat.reduceSub, reduceCtorEq, Int.reduceLT, Int.reduceLE, Int.reduceEq, Int.reduceToNat, decide_true, decide_false, Int.reduceNeg, Int.cast_ofNat_Int, sg, AO.sg, Option.isNone_none, hv, hw]
      refine ih (i + 1) _ ⟨hlt, ?_⟩ (by omega) ?_
      · rw [List.take_add_one, hx]
        have : ¬ x = y := fun e => of_decide_eq_false hv e.symm
        simp [he, this]
      · (refine Wk.forget ?_; simp [Le, LeE, LeH, get, envIds, hpIds, KeepH, D.ids, idsL, AO.ids, setL, base, encI]; done)
    · simp only [go_sem, ↓reduceIte, Nat.reduceLT, Nat.reduceLeDiff, Nat.reduceEqDiff, Nat.reduceAdd, Nat.reduceMul, Nat.reduceSub, reduceCtorEq, Int.reduceLT, Int.reduceLE, Int.reduceEq, Int.reduceToNat, decide_true, decide_false, Int.reduceNeg, Int.cast_ofNat_Int, sg, AO.sg, Option.isNone_none, hv]
      have hm : x ∈ l := by rw [← of_decide_eq_true hv]; exact hmem
      simp [hm]
  · simp only [go_sem, ↓reduceIte, Nat.reduceLT, Nat.reduceLeDiff, Nat.reduceEqDiff, Nat.reduceAdd, Nat.reduceMul, Nat.reduceSub, reduceCtorEq, Int.reduceLT, Int.reduceLE, Int.reduceEq, Int.reduceToNat, decide_true, decide_false, Int.reduceNeg, Int.cast_ofNat_Int, sg, AO.sg, Option.isNone_none]
    have : i = l.length := by simp at h2; omega
    subst this
    rw [List.take_length] at he
    simp [he]
theorem has_own (l : List Int) (x : Int) (hl : l.length ≤ 10000000) :
    ACalls Tryd.prog 45 [.ref 1000000 0 l.length l.length, .p (.int .i64 x)] [(1000000, .arr 3 1 (encI l))] fun h r => h = [(1000000, .arr 3 1 (encI l))] ∧ r = .p (.bool (decide (x ∈ l))) := by
  refine ACalls_X Tryd.func45 rfl enters45 (by simp [Tryd.f45]) ?_
  simp only [go_sem, ↓reduceIte, Nat.reduceLT, Nat.reduceLeDiff, Nat.reduceEqDiff, Nat.reduceAdd, Nat.reduceMul, Nat.reduceSub, reduceCtorEq, Int.reduceLT, Int.reduceLE, Int.reduceEq, Int.reduceToNat, decide_true, decide_false, Int.reduceNeg, Int.cast_ofNat_Int, sg, AO.sg, Option.isNone_none, encI_len]
  refine X_loop_inv (fun i => ⟨[(0, .ref 1000000 0 l.length l.length), (1, .p (.int .i64 x)), (5, .p (.int .i64 (i : Nat)))], [(1000000, .arr 3 1 (encI l))], 18⟩) (fun i => i ≤ l.length ∧ x ∉ l.take i) (fun i => l.length - i) 0 ⟨Nat.zero_le _, by simp⟩ (Wk.forget (by simp [Le, LeE, LeH, get, envIds, hpIds, KeepH, D.ids, idsL, AO.ids, setL, base, encI])) ?_
  rintro i n ⟨hi, he⟩ ih
  simp only [go_sem, ↓reduceIte, Nat.reduceLT, Nat.reduceLeDiff, Nat.reduceEqDiff, Nat.reduceAdd, Nat.reduceMul, Nat.reduceSub, reduceCtorEq, Int.reduceLT, Int.reduceLE, Int.reduceEq, Int.reduceToNat, decide_true, decide_false, Int.reduceNeg, Int.cast_ofNat_Int, sg, AO.sg, Option.isNone_none, encI_len]
  refine Cn_split (fun h2 => ?_) (fun h2 => ?_)
  · have hlt : i < l.length := by simp at h2; omega
    have hw := wrap_succ i (by omega)
    have hg := encI_get l i hlt
    have hx : l[i]? = some (l.getD i 0) := by simp [List.getD, hlt]
    have hi0 : (0 : Int) ≤ (i : Int) ∧ (i : Int) < (l.length : Int) := by omega
    have hmem := getD_mem l i 0 hlt
    generalize l.getD i 0 = y at *
    simp only [go_sem, ↓reduceIte, Nat.reduceLT, Nat.reduceLeDiff, Nat.reduceEqDiff, Nat.reduceAdd, Nat.reduceMul, Nat.reduceSub, reduceCtorEq, Int.reduceLT, Int.reduceLE, Int.reduceEq, Int.reduceToNat, decide_true, decide_false, Int.reduceNeg, Int.cast_ofNat_Int, sg, AO.sg, Option.isNone_none, encI_len, Int.toNat_natCast, hg, hi0]
    cases hv : decide (y = x)
    · simp only [go_sem, ↓reduceIte, Nat.reduceLT, Nat.reduceLeDiff, Nat.reduceEqDiff, Nat.reduceAdd, Nat.reduceMul, Nat.reduceSub, reduceCtorEq, Int.reduceLT, Int.reduceLE, Int.reduceEq, Int.reduceToNat, decide_true, decide_false, Int.reduceNeg, Int.cast_ofNat_Int, sg, AO.sg, Option.isNone_none, hv, hw]
      refine ih (i + 1) _ ⟨hlt, ?_⟩ (by omega) ?_
      · rw [List.take_add_one, hx]
        have : ¬ x = y := fun e => of_decide_eq_false hv e.symm
        simp [he, this]
      · (refine Wk.forget ?_; simp [Le, LeE, LeH, get, envIds, hpIds, KeepH, D.ids, idsL, AO.ids, setL, base, encI]; done)
    · simp only [go_sem, ↓reduceIte, Nat.reduceLT, Nat.reduceLeDiff, Nat.reduceEqDiff, Nat.reduceAdd, Nat.reduceMul, Nat.reduceSub, reduceCtorEq, Int.reduceLT, Int.reduceLE, Int.reduceEq, Int.reduceToNat, decide_true, decide_false, Int.reduceNeg, Int.cast_ofNat_Int, sg, AO.sg, Option.isNone_none, hv]
      have hm : x ∈ l := by rw [← of_decide_eq_true hv]; exact hmem
      simp [hm]
  · simp only [go_sem, ↓reduceIte, Nat.reduceLT, Nat.reduceLeDiff, Nat.reduceEqDiff, Nat.reduceAdd, Nat.reduceMul, Nat.reduceSub, reduceCtorEq, Int.reduceLT, Int.reduceLE, Int.reduceEq, Int.reduceToNat, decide_true, decide_false, Int.reduceNeg, Int.cast_ofNat_Int, sg, AO.sg, Option.isNone_none]
    have : i = l.length := by simp at h2; omega
    subst this
    rw [List.take_length] at he
    simp [he]
theorem insert_ok (l : List Int) (x : Int) (hl : l.length ≤ 10000000) :
    ACalls Tryd.prog 68 [.p (.sl (encI l)), .p (.int .i64 x)] [] fun h r => h = [] ∧ r = .p (.sl (encI (insV l x))) := by
  refine ACalls_X Tryd.func68 rfl enters68 (by simp [Tryd.f68]) ?_
  simp only [go_sem, ↓reduceIte, Nat.reduceLT, Nat.reduceLeDiff, Nat.reduceEqDiff, Nat.reduceAdd, Nat.reduceMul, Nat.reduceSub, reduceCtorEq, Int.reduceLT, Int.reduceLE, Int.reduceEq, Int.reduceToNat, decide_true, decide_false, Int.reduceNeg, Int.cast_ofNat_Int, sg, AO.sg, Option.isNone_none, encI_len]
  refine X_loop_inv (fun q : Nat × Bool × List Int => ⟨[(0, .p (.sl (encI l))), (1, .p (.int .i64 x)), (5, .ref 27 0 q.2.2.length q.2.2.length), (6, .p (.bool q.2.1)), (7, .p (.int .i64 (q.1 : Nat)))], [(27, .arr 3 1 (encI q.2.2))], 42⟩)
    (fun q => q.1 ≤ l.length ∧ q.2.2.length ≤ q.1 + q.2.1.toNat ∧ q.2.2 ++ (if q.2.1 then l.drop q.1 else insV (l.drop q.1) x) = insV l x) (fun q => l.length - q.1) (0, false, []) ⟨Nat.zero_le _, by simp, by simp⟩ ((Wk.nil (t := 5) (q := 27) (sz := 1) 3 rfl rfl (by decide)).trans (Wk.forget (by simp [Le, LeE, LeH, get, envIds, hpIds, KeepH, D.ids, idsL, AO.ids, setL, base, encI]))) ?_
  rintro ⟨i, dn, acc⟩ n ⟨hi, ha, he⟩ ih
  simp only at hi ha he
  simp only [go_sem, ↓reduceIte, Nat.reduceLT, Nat.reduceLeDiff, Nat.reduceEqDiff, Nat.reduceAdd, Nat.reduceMul, Nat.reduceSub, reduceCtorEq, Int.reduceLT, Int.reduceLE, Int.reduceEq, Int.reduceToNat, decide_true, decide_false, Int.reduceNeg, Int.cast_ofNat_Int, sg, AO.sg, Option.isNone_none, encI_len]
  refine Cn_split (fun h2 => ?_) (fun h2 => ?_)
  · have hlt : i < l.length := by simp at h2; omega
    have hw := wrap_succ i (by omega)
    have hg := encI_get l i hlt
    have hi0 : (0 : Int) ≤ (i : Int) ∧ (i : Int) < (l.length : Int) := by omega
    rw [drop_getD l i 0 hlt] at he
    generalize l.getD i 0 = y at *
    cases dn
    · cases hv : decide (x < y)
      · have hv' : ¬ x < y := of_decide_eq_false hv
        simp only [go_sem, ↓reduceIte, Nat.reduceLT, Nat.reduceLeDiff, Nat.reduceEqDiff, Nat.reduceAdd, Nat.reduceMul, Nat.reduceSub, reduceCtorEq, Int.reduceLT, Int.reduceLE, Int.reduceEq, Int.reduceToNat, decide_true, decide_false, Int.reduceNeg, Int.cast_ofNat_Int, sg, AO.sg, Option.isNone_none, encI_len, Int.toNat_natCast, hg, hi0, hv, hv']
        refine ⟨⟨wid1 _ _ rfl, by simp at ha; omega⟩, ?_⟩
        simp only [go_sem, ↓reduceIte, Nat.reduceLT, Nat.reduceLeDiff, Nat.reduceEqDiff, Nat.reduceAdd, Nat.reduceMul, Nat.reduceSub, reduceCtorEq, Int.reduceLT, Int.reduceLE, Int.reduceEq, Int.reduceToNat, decide_true, decide_false, Int.reduceNeg, Int.cast_ofNat_Int, sg, AO.sg, Option.isNone_none, hw]
        refine ih (i + 1, false, acc ++ [y]) _ ⟨hlt, by simp at ha ⊢; omega, ?_⟩ (by simp only; omega) ?_
        · rw [← he]; simp [insV, hv']
        · (refine Wk.forget ?_; simp [Le, LeE, LeH, get, envIds, hpIds, KeepH, D.ids, idsL, AO.ids, setL, base, encI_snoc, encI_len]; done)
      · have hv' : x < y := of_decide_eq_true hv
        simp only [go_sem, ↓reduceIte, Nat.reduceLT, Nat.reduceLeDiff, Nat.reduceEqDiff, Nat.reduceAdd, Nat.reduceMul, Nat.reduceSub, reduceCtorEq, Int.reduceLT, Int.reduceLE, Int.reduceEq, Int.reduceToNat, decide_true, decide_false, Int.reduceNeg, Int.cast_ofNat_Int, sg, AO.sg, Option.isNone_none, encI_len, Int.toNat_natCast, hg, hi0, hv, hv']
        refine ⟨⟨wid1 _ _ rfl, by simp at ha; omega⟩, ⟨wid1 _ _ rfl, by simp at ha; simp [encI_len]; omega⟩, ?_⟩
        simp only [go_sem, ↓reduceIte, Nat.reduceLT, Nat.reduceLeDiff, Nat.reduceEqDiff, Nat.reduceAdd, Nat.reduceMul, Nat.reduceSub, reduceCtorEq, Int.reduceLT, Int.reduceLE, Int.reduceEq, Int.reduceToNat, decide_true, decide_false, Int.reduceNeg, Int.cast_ofNat_Int, sg, AO.sg, Option.isNone_none, hw]
        refine ih (i + 1, true, acc ++ [x] ++ [y]) _ ⟨hlt, by simp at ha ⊢; omega, ?_⟩ (by simp only; omega) ?_
        · rw [← he]; simp [insV, hv']
        · (refine Wk.forget ?_; simp [Le, LeE, LeH, get, envIds, hpIds, KeepH, D.ids, idsL, AO.ids, setL, base, encI]; done)
    · simp only [go_sem, ↓reduceIte, Nat.reduceLT, Nat.reduceLeDiff, Nat.reduceEqDiff, Nat.reduceAdd, Nat.reduceMul, Nat.reduceSub, reduceCtorEq, Int.reduceLT, Int.reduceLE, Int.reduceEq, Int.reduceToNat, decide_true, decide_false, Int.reduceNeg, Int.cast_ofNat_Int, sg, AO.sg, Option.isNone_none, encI_len, Int.toNat_natCast, hg, hi0]
      refine ⟨⟨wid1 _ _ rfl, by simp at ha; omega⟩, ?_⟩
      simp only [go_sem, ↓reduceIte, Nat.reduceLT, Nat.reduceLeDiff, Nat.reduceEqDiff, Nat.reduceAdd, Nat.reduceMul, Nat.reduceSub, reduceCtorEq, Int.reduceLT, Int.reduceLE, Int.reduceEq, Int.reduceToNat, decide_true, decide_false, Int.reduceNeg, Int.cast_ofNat_Int, sg, AO.sg, Option.isNone_none, hw]
      refine ih (i + 1, true, acc ++ [y]) _ ⟨hlt, by simp at ha ⊢; omega, ?_⟩ (by simp only; omega) ?_
      · rw [← he]; simp
      · (refine Wk.forget ?_; simp [Le, LeE, LeH, get, envIds, hpIds, KeepH, D.ids, idsL, AO.ids, setL, base, encI_snoc, encI_len]; done)
  · have : i = l.length := by simp at h2; omega
    subst this
    rw [List.drop_length] at he
    cases dn
    · simp only [go_sem, ↓reduceIte, Nat.reduceLT, Nat.reduceLeDiff, Nat.reduceEqDiff, Nat.reduceAdd, Nat.reduceMul, Nat.reduceSub, reduceCtorEq, Int.reduceLT, Int.reduceLE, Int.reduceEq, Int.reduceToNat, decide_true, decide_false, Int.reduceNeg, Int.cast_ofNat_Int, sg, AO.sg, Option.isNone_none, encI_len]
      refine ⟨⟨wid1 _ _ rfl, by simp at ha; omega⟩, ?_⟩
      refine end_pure ?_
      simp only [go_sem, ↓reduceIte, Nat.reduceLT, Nat.reduceLeDiff, Nat.reduceEqDiff, Nat.reduceAdd, Nat.reduceMul, Nat.reduceSub, reduceCtorEq, Int.reduceLT, Int.reduceLE, Int.reduceEq, Int.reduceToNat, decide_true, decide_false, Int.reduceNeg, Int.cast_ofNat_Int, sg, AO.sg, Option.isNone_none]
      rw [← he]
      rw [List.take_of_length_le (by simp [encI_len])]
      simp [insV, encI]
    · simp only [go_sem, ↓reduceIte, Nat.reduceLT, Nat.reduceLeDiff, Nat.reduceEqDiff, Nat.reduceAdd, Nat.reduceMul, Nat.reduceSub, reduceCtorEq, Int.reduceLT, Int.reduceLE, Int.reduceEq, Int.reduceToNat, decide_true, decide_false, Int.reduceNeg, Int.cast_ofNat_Int, sg, AO.sg, Option.isNone_none]
      refine end_pure ?_
      simp only [go_sem, ↓reduceIte, Nat.reduceLT, Nat.reduceLeDiff, Nat.reduceEqDiff, Nat.reduceAdd, Nat.reduceMul, Nat.reduceSub, reduceCtorEq, Int.reduceLT, Int.reduceLE, Int.reduceEq, Int.reduceToNat, decide_true, decide_false, Int.reduceNeg, Int.cast_ofNat_Int, sg, AO.sg, Option.isNone_none]
      rw [← he]
      simp [encI_take, encI_len]
end Go.Am
