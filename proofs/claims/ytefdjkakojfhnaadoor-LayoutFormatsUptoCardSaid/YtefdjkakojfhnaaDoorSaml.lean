/- SameLines. -/
import Derived.Test.YtefdjkakojfhnaaDoorFmtr
namespace Go.Am
open Go Go.Proofs
set_option maxRecDepth 100000
set_option linter.unusedVariables false
set_option linter.unusedSimpArgs false
theorem sameLines_ok (a b : List Ln) (ha : a.length ≤ 10000000 ∧ ∀ x ∈ a, x.fs.length ≤ 10000000) : ACalls Tryd.prog 15 [.p (.sl (encL a)), .p (.sl (encL b))] [] fun h r => h = [] ∧ r = .p (.bool (decide (a = b))) := by
  obtain ⟨ha, hz⟩ := ha
  refine ACalls_X Tryd.func15 rfl enters15 (by simp [Tryd.f15]) ?_
  simp only [go_sem, ↓reduceIte, Nat.reduceLT, Nat.reduceLeDiff, Nat.reduceEqDiff, Nat.reduceAdd, Nat.reduceMul, Nat.reduceSub, reduceCtorEq, Int.reduceLT, Int.reduceLE, Int.reduceEq, Int.reduceToNat, decide_true, decide_false, Int.reduceNeg, Int.cast_ofNat_Int, sg, AO.sg, Option.isNone_none, encL_len]
  refine Cn_split (fun h1 => ?_) (fun h1 => ?_)
  · simp only [go_sem, ↓reduceIte, Nat.reduceLT, Nat.reduceLeDiff, Nat.reduceEqDiff, Nat.reduceAdd, Nat.reduceMul, Nat.reduceSub, reduceCtorEq, Int.reduceLT, Int.reduceLE, Int.reduceEq, Int.reduceToNat, decide_true, decide_false, Int.reduceNeg, Int.cast_ofNat_Int, sg, AO.sg, Option.isNone_none]
    simp at h1
    have : a ≠ b := fun e => h1 (by rw [e])
    simp [this]
  · have hl : a.length = b.length := by simp at h1; omega
    simp only [go_sem, ↓reduceIte, Nat.reduceLT, Nat.reduceLeDiff, Nat.reduceEqDiff, Nat.reduceAdd, Nat.reduceMul, Nat.reduceSub, reduceCtorEq, Int.reduceLT, Int.reduceLE, Int.reduceEq, Int.reduceToNat, decide_true, decide_false, Int.reduceNeg, Int.cast_ofNat_Int, sg, AO.sg, Option.isNone_none]
    refine X_loop_inv (fun i => ⟨[(0, .p (.sl (encL a))), (1, .p (.sl (encL b))), (5, .p (.int .i64 (i : Nat)))], [], 42⟩) (fun i => i ≤ a.length ∧ a.take i = b.take i) (fun i => a.length - i) 0 ⟨Nat.zero_le _, by simp⟩
      (Wk.forget (by simp [Le, LeE, LeH, get, envIds, hpIds, KeepH, D.ids, idsL, AO.ids, setL, base])) ?_
    rintro i n ⟨hi, he⟩ ih
    simp only [go_sem, ↓reduceIte, Nat.reduceLT, Nat.reduceLeDiff, Nat.reduceEqDiff, Nat.reduceAdd, Nat.reduceMul, Nat.reduceSub, reduceCtorEq, Int.reduceLT, Int.reduceLE, Int.reduceEq, Int.reduceToNat, decide_true, decide_false, Int.reduceNeg, Int.cast_ofNat_Int, sg, AO.sg, Option.isNone_none, encL_len]
    refine Cn_split (fun h2 => ?_) (fun h2 => ?_)
    · have hlt : i < a.length := by simp at h2; omega
      have hlt' : i < b.length := by omega
      have hx : a[i]? = some (a.getD i ln0) := by simp [List.getD, hlt]
      have hy : b[i]? = some (b.getD i ln0) := by simp [List.getD, hlt']
      have hsz := hz _ (getD_mem a i ln0 hlt)
      have hga := encL_get a i hlt
      have hgb := encL_get b i hlt'
      generalize a.getD i ln0 = x at hx hsz hga
      generalize b.getD i ln0 = y at hy hgb
      have hia : (i : Int) < (a.length : Int) := by omega
      have hib : (i : Int) < (b.length : Int) := by omega
      have hi0 : (0 : Int) ≤ (i : Int) := by omega
      have hne : x ≠ y → decide (a = b) = false := by
        intro h; rw [decide_eq_false_iff_not]; rintro rfl; rw [hx] at hy; exact h (Option.some.inj hy)
      simp only [go_sem, ↓reduceIte, Nat.reduceLT, Nat.reduceLeDiff, Nat.reduceEqDiff, Nat.reduceAdd, Nat.reduceMul, Nat.reduceSub, reduceCtorEq, Int.reduceLT, Int.reduceLE, Int.reduceEq, Int.reduceToNat, decide_true, decide_false, Int.reduceNeg, Int.cast_ofNat_Int, sg, AO.sg, Option.isNone_none]
      refine X_any0 mixed (p := [(0, 0), (1, 0), (2, 0), (3, 0), (4, 0), (5, 0), (6, 0), (7, 0), (8, 0), (9, 0), (10, 0), (11, 0), (12, 0), (13, 0), (14, 0), (15, 0), (16, 0), (17, 0), (18, 0), (19, 0), (20, 0), (21, 0), (22, 2), (23, 0), (24, 0)]) (by kernel_rfl) (by simp [LeH, get]) ?_
      simp only [go_sem, ↓reduceIte, Nat.reduceLT, Nat.reduceLeDiff, Nat.reduceEqDiff, Nat.reduceAdd, Nat.reduceMul, Nat.reduceSub, reduceCtorEq, Int.reduceLT, Int.reduceLE, Int.reduceEq, Int.reduceToNat, decide_true, decide_false, Int.reduceNeg, Int.cast_ofNat_Int, sg, AO.sg, Option.isNone_none, encL_len, Int.toNat_natCast, hga, hgb, hia, hib, hi0]
      cases c1 : decide (x.num = y.num)
      · simp only [go_sem, ↓reduceIte, Nat.reduceLT, Nat.reduceLeDiff, Nat.reduceEqDiff, Nat.reduceAdd, Nat.reduceMul, Nat.reduceSub, reduceCtorEq, Int.reduceLT, Int.reduceLE, Int.reduceEq, Int.reduceToNat, decide_true, decide_false, Int.reduceNeg, Int.cast_ofNat_Int, sg, AO.sg, Option.isNone_none, c1]
        rw [hne (by rintro rfl; simp at c1)]
      simp only [go_sem, ↓reduceIte, Nat.reduceLT, Nat.reduceLeDiff, Nat.reduceEqDiff, Nat.reduceAdd, Nat.reduceMul, Nat.reduceSub, reduceCtorEq, Int.reduceLT, Int.reduceLE, Int.reduceEq, Int.reduceToNat, decide_true, decide_false, Int.reduceNeg, Int.cast_ofNat_Int, sg, AO.sg, Option.isNone_none, c1, encL_len, Int.toNat_natCast, hga, hgb, hia, hib, hi0]
      refine Gh_of (sameStrings_ok _ _ (by omega)) ?_
      rintro h' r ⟨rfl, rfl⟩
      cases c3 : decide (x.fs = y.fs)
      · simp only [go_sem, ↓reduceIte, Nat.reduceLT, Nat.reduceLeDiff, Nat.reduceEqDiff, Nat.reduceAdd, Nat.reduceMul, Nat.reduceSub, reduceCtorEq, Int.reduceLT, Int.reduceLE, Int.reduceEq, Int.reduceToNat, decide_true, decide_false, Int.reduceNeg, Int.cast_ofNat_Int, sg, AO.sg, Option.isNone_none, c3]
        rw [hne (by rintro rfl; simp at c3)]
      simp only [go_sem, ↓reduceIte, Nat.reduceLT, Nat.reduceLeDiff, Nat.reduceEqDiff, Nat.reduceAdd, Nat.reduceMul, Nat.reduceSub, reduceCtorEq, Int.reduceLT, Int.reduceLE, Int.reduceEq, Int.reduceToNat, decide_true, decide_false, Int.reduceNeg, Int.cast_ofNat_Int, sg, AO.sg, Option.isNone_none, c3, wrap_succ i (by omega)]
      refine ih (i + 1) _ ⟨hlt, ?_⟩ (by omega) (Wk.forget (by simp [Le, LeE, LeH, get, envIds, hpIds, KeepH, D.ids, idsL, AO.ids, setL, base]))
      have hxy : x = y := by
        obtain ⟨x1, x2⟩ := x
        obtain ⟨y1, y2⟩ := y
        simp only [decide_eq_true_eq] at c1 c3
        subst c1 c3
        rfl
      rw [List.take_add_one, List.take_add_one, he, hx, hy, hxy]
    · simp only [go_sem, ↓reduceIte, Nat.reduceLT, Nat.reduceLeDiff, Nat.reduceEqDiff, Nat.reduceAdd, Nat.reduceMul, Nat.reduceSub, reduceCtorEq, Int.reduceLT, Int.reduceLE, Int.reduceEq, Int.reduceToNat, decide_true, decide_false, Int.reduceNeg, Int.cast_ofNat_Int, sg, AO.sg, Option.isNone_none]
      have : i = a.length := by simp at h2; omega
      subst this
      rw [List.take_length, hl, List.take_length] at he
      simp [he]
end Go.Am
