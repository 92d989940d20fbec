/- The reference's distances: the walk. -/
import Derived.Test.YtefdjkakojfhnaaDoorNval
namespace Go.Am
open Go Go.Proofs
set_option maxRecDepth 100000
set_option linter.unusedVariables false
set_option linter.unusedSimpArgs false
theorem any_take_succ {α : Type} (p : α → Bool) (l : List α) (k : Nat) (x : α) (h : k < l.length) : (l.take (k + 1)).any p = ((l.take k).any p || p (l.getD k x)) := by
  rw [take_snoc l k x h, List.any_append]; simp
theorem encI_tail (l : List Int) (i : Nat) : ((encI l)[i]?.getD []).tail = [] := by
  unfold encI
  rw [List.getElem?_map]
  cases l[i]? <;> rfl
set_option maxHeartbeats 800000 in
theorem dist_ok (g : List (List Int)) (sh : List Bool) (goal : Nat) (hg : gphP g) (hsh : sh.length = g.length) (hgoal : goal < g.length) :
    ACalls Tryd.prog 105 [.p (.sl (encG g)), .p (.sl (encT sh)), .p (.int .i64 (goal : Nat))] [] fun h r => h = [] ∧ r = .p (.sl (encI (distV g sh goal))) := by
  have hlen := hg.1
  refine ACalls_X Tryd.func105 rfl enters105 (by simp [Tryd.f105]) ?_
  simp only [go_sem, ↓reduceIte, Nat.reduceLT, Nat.reduceLeDiff, Nat.reduceEqDiff, Nat.reduceAdd, Nat.reduceMul, Nat.reduceSub, reduceCtorEq, Int.reduceLT, Int.reduceLE, Int.reduceEq, Int.reduceToNat, decide_true, decide_false, Int.reduceNeg, Int.cast_ofNat_Int, sg, AO.sg, Option.isNone_none, encG_len]
  refine ⟨by omega, ?_⟩
  refine X_loop_inv (fun q : Nat × List Int => ⟨[(0, .p (.sl (encG g))), (1, .p (.sl (encT sh))), (2, .p (.int .i64 (goal : Nat))), (7, .ref 14 0 g.length g.length), (8, .p (.int .i64 (q.1 : Nat)))], [(14, .arr 3 1 (encI q.2))], 82⟩)
    (fun q => q.1 ≤ g.length ∧ q.2.length = g.length ∧ ∀ j, j < q.1 → q.2.getD j 0 = -1) (fun q => g.length - q.1) (0, List.replicate g.length 0) ⟨Nat.zero_le _, by simp, fun j hj => absurd hj (Nat.not_lt_zero _)⟩ (Wk.forget (by simp [Le, LeE, LeH, get, envIds, hpIds, KeepH, D.ids, idsL, AO.ids, setL, base, encI])) ?_
  rintro ⟨i, o⟩ m ⟨hi, ho, hm⟩ ih
  simp only at hi ho hm
  simp only [go_sem, ↓reduceIte, Nat.reduceLT, Nat.reduceLeDiff, Nat.reduceEqDiff, Nat.reduceAdd, Nat.reduceMul, Nat.reduceSub, reduceCtorEq, Int.reduceLT, Int.reduceLE, Int.reduceEq, Int.reduceToNat, decide_true, decide_false, Int.reduceNeg, Int.cast_ofNat_Int, sg, AO.sg, Option.isNone_none, encG_len]
  refine Cn_split (fun h2 => ?_) (fun h2 => ?_)
  · have hlt : i < g.length := by simp at h2; omega
    have hw := wrap_succ i (by omega)
    have hi0 : (0 : Int) ≤ (i : Int) ∧ (i : Int) < (g.length : Int) := by omega
    simp only [go_sem, ↓reduceIte, Nat.reduceLT, Nat.reduceLeDiff, Nat.reduceEqDiff, Nat.reduceAdd, Nat.reduceMul, Nat.reduceSub, reduceCtorEq, Int.reduceLT, Int.reduceLE, Int.reduceEq, Int.reduceToNat, decide_true, decide_false, Int.reduceNeg, Int.cast_ofNat_Int, sg, AO.sg, Option.isNone_none, encI_len, ho, Int.toNat_natCast, hi0, hw]
    refine ih (i + 1, o.set i (-1)) _ ⟨hlt, by simpa using ho, fun j hj => ?_⟩ (by simp only; omega) ?_
    · rw [getD_set]
      by_cases e : i = j
      · rw [if_pos ⟨e, by omega⟩]
      · rw [if_neg (fun h => e h.1)]; exact hm j (by omega)
    · (refine Wk.forget ?_; simp [Le, LeE, LeH, get, envIds, hpIds, KeepH, D.ids, idsL, AO.ids, setL, base, encI_set, encI_tail]; done)
  have hie : i = g.length := by simp at h2; omega
  subst hie
  have hoe : o = List.replicate g.length (-1) := by
    refine List.ext_getElem (by simp [ho]) fun j h3 h4 => ?_
    have := hm j (by omega)
    rw [getD_eq h3] at this
    simpa using this
  subst hoe
  clear ih hm
  have hgsh := encT_get sh goal (by omega)
  have hg0 : (0 : Int) ≤ (goal : Int) ∧ (goal : Int) < (g.length : Int) := by omega
  simp only [go_sem, ↓reduceIte, Nat.reduceLT, Nat.reduceLeDiff, Nat.reduceEqDiff, Nat.reduceAdd, Nat.reduceMul, Nat.reduceSub, reduceCtorEq, Int.reduceLT, Int.reduceLE, Int.reduceEq, Int.reduceToNat, decide_true, decide_false, Int.reduceNeg, Int.cast_ofNat_Int, sg, AO.sg, Option.isNone_none, encT_len, hsh, Int.toNat_natCast, hgsh, hg0]
  cases hs : sh.getD goal false
  rotate_left
  · simp only [go_sem, ↓reduceIte, Nat.reduceLT, Nat.reduceLeDiff, Nat.reduceEqDiff, Nat.reduceAdd, Nat.reduceMul, Nat.reduceSub, reduceCtorEq, Int.reduceLT, Int.reduceLE, Int.reduceEq, Int.reduceToNat, decide_true, decide_false, Int.reduceNeg, Int.cast_ofNat_Int, sg, AO.sg, Option.isNone_none, hs]
    refine end_pure ?_
    simp only [go_sem, ↓reduceIte, Nat.reduceLT, Nat.reduceLeDiff, Nat.reduceEqDiff, Nat.reduceAdd, Nat.reduceMul, Nat.reduceSub, reduceCtorEq, Int.reduceLT, Int.reduceLE, Int.reduceEq, Int.reduceToNat, decide_true, decide_false, Int.reduceNeg, Int.cast_ofNat_Int, sg, AO.sg, Option.isNone_none]
    unfold distV
    rw [if_pos hs]
    simp [encI]
  simp only [go_sem, ↓reduceIte, Nat.reduceLT, Nat.reduceLeDiff, Nat.reduceEqDiff, Nat.reduceAdd, Nat.reduceMul, Nat.reduceSub, reduceCtorEq, Int.reduceLT, Int.reduceLE, Int.reduceEq, Int.reduceToNat, decide_true, decide_false, Int.reduceNeg, Int.cast_ofNat_Int, sg, AO.sg, Option.isNone_none, hs, encI_len, List.length_replicate, Int.toNat_natCast, hg0]
  have hdv : distV g sh goal = dLoop g sh (g.length - 1) 1 ((List.replicate g.length (-1)).set goal 0) := by unfold distV; rw [if_neg (by rw [hs]; simp)]
  refine X_loop_inv (fun q : Nat × List Int => ⟨[(0, .p (.sl (encG g))), (1, .p (.sl (encT sh))), (7, .ref 14 0 g.length g.length), (9, .p (.int .i64 (q.1 : Nat)))], [(14, .arr 3 1 (encI q.2))], 82⟩)
    (fun q => 1 ≤ q.1 ∧ q.1 ≤ 24 ∧ q.2.length = g.length ∧ dLoop g sh (g.length - q.1) q.1 q.2 = distV g sh goal) (fun q => g.length - q.1) (1, (List.replicate g.length (-1)).set goal 0) ⟨Nat.le_refl _, by omega, by simp, hdv.symm⟩ (Wk.forget (by simp [Le, LeE, LeH, get, envIds, hpIds, KeepH, D.ids, idsL, AO.ids, setL, base, encI_set, encI_tail])) ?_
  rintro ⟨d, o⟩ m2 ⟨hd1, hd24, ho, he⟩ ih
  simp only at hd1 hd24 ho he
  simp only [go_sem, ↓reduceIte, Nat.reduceLT, Nat.reduceLeDiff, Nat.reduceEqDiff, Nat.reduceAdd, Nat.reduceMul, Nat.reduceSub, reduceCtorEq, Int.reduceLT, Int.reduceLE, Int.reduceEq, Int.reduceToNat, decide_true, decide_false, Int.reduceNeg, Int.cast_ofNat_Int, sg, AO.sg, Option.isNone_none, encG_len]
  refine Cn_split (fun h3 => ?_) (fun h3 => ?_)
  rotate_left
  · simp only [go_sem, ↓reduceIte, Nat.reduceLT, Nat.reduceLeDiff, Nat.reduceEqDiff, Nat.reduceAdd, Nat.reduceMul, Nat.reduceSub, reduceCtorEq, Int.reduceLT, Int.reduceLE, Int.reduceEq, Int.reduceToNat, decide_true, decide_false, Int.reduceNeg, Int.cast_ofNat_Int, sg, AO.sg, Option.isNone_none]
    refine end_pure ?_
    simp only [go_sem, ↓reduceIte, Nat.reduceLT, Nat.reduceLeDiff, Nat.reduceEqDiff, Nat.reduceAdd, Nat.reduceMul, Nat.reduceSub, reduceCtorEq, Int.reduceLT, Int.reduceLE, Int.reduceEq, Int.reduceToNat, decide_true, decide_false, Int.reduceNeg, Int.cast_ofNat_Int, sg, AO.sg, Option.isNone_none]
    have : g.length - d = 0 := by simp at h3; omega
    rw [this] at he
    simp only [dLoop] at he
    rw [← he, List.take_of_length_le (by rw [encI_len]; omega)]
    try simp [encI_len, ho]
  have hdt : d < g.length := by simp at h3; omega
  have hwd := wrap_succ d (by omega)
  have hwp : IntKind.i64.wrap ((d : Int) - 1) = (d : Int) - 1 := by rw [wrap_i64_id] <;> omega
  rw [show g.length - d = (g.length - (d + 1)) + 1 by omega] at he
  simp only [dLoop] at he
  generalize hT : vLoop g sh d g.length 0 o = T at he
  simp only [go_sem, ↓reduceIte, Nat.reduceLT, Nat.reduceLeDiff, Nat.reduceEqDiff, Nat.reduceAdd, Nat.reduceMul, Nat.reduceSub, reduceCtorEq, Int.reduceLT, Int.reduceLE, Int.reduceEq, Int.reduceToNat, decide_true, decide_false, Int.reduceNeg, Int.cast_ofNat_Int, sg, AO.sg, Option.isNone_none]
  refine X_loop_inv (fun q : Nat × List Int => ⟨[(0, .p (.sl (encG g))), (1, .p (.sl (encT sh))), (7, .ref 14 0 g.length g.length), (9, .p (.int .i64 (d : Nat))), (10, .p (.int .i64 (q.1 : Nat)))], [(14, .arr 3 1 (encI q.2))], 82⟩)
    (fun q => q.1 ≤ g.length ∧ q.2.length = g.length ∧ vLoop g sh d (g.length - q.1) q.1 q.2 = T) (fun q => g.length - q.1) (0, o) ⟨Nat.zero_le _, ho, hT⟩ (Wk.forget (by simp [Le, LeE, LeH, get, envIds, hpIds, KeepH, D.ids, idsL, AO.ids, setL, base])) ?_
  rintro ⟨v, o1⟩ m3 ⟨hv, ho1, he1⟩ ih1
  simp only at hv ho1 he1
  simp only [go_sem, ↓reduceIte, Nat.reduceLT, Nat.reduceLeDiff, Nat.reduceEqDiff, Nat.reduceAdd, Nat.reduceMul, Nat.reduceSub, reduceCtorEq, Int.reduceLT, Int.reduceLE, Int.reduceEq, Int.reduceToNat, decide_true, decide_false, Int.reduceNeg, Int.cast_ofNat_Int, sg, AO.sg, Option.isNone_none, encG_len]
  refine Cn_split (fun h4 => ?_) (fun h4 => ?_)
  rotate_left
  · have : g.length - v = 0 := by simp at h4; omega
    rw [this] at he1
    simp only [vLoop] at he1
    simp only [go_sem, ↓reduceIte, Nat.reduceLT, Nat.reduceLeDiff, Nat.reduceEqDiff, Nat.reduceAdd, Nat.reduceMul, Nat.reduceSub, reduceCtorEq, Int.reduceLT, Int.reduceLE, Int.reduceEq, Int.reduceToNat, decide_true, decide_false, Int.reduceNeg, Int.cast_ofNat_Int, sg, AO.sg, Option.isNone_none, hwd]
    refine ih (d + 1, o1) _ ⟨by omega, by omega, ho1, by rw [he1]; exact he⟩ (by simp only; omega) ?_
    (refine Wk.forget ?_; simp [Le, LeE, LeH, get, envIds, hpIds, KeepH, D.ids, idsL, AO.ids, setL, base]; done)
  have hvt : v < g.length := by simp at h4; omega
  have hwv := wrap_succ v (by omega)
  rw [show g.length - v = (g.length - (v + 1)) + 1 by omega] at he1
  simp only [vLoop] at he1
  have hgs := encT_get sh v (by omega)
  have hgo := encI_get o1 v (by omega)
  have hv0 : (0 : Int) ≤ (v : Int) ∧ (v : Int) < (g.length : Int) := by omega
  cases c1 : sh.getD v false
  rotate_left
  · simp only [go_sem, ↓reduceIte, Nat.reduceLT, Nat.reduceLeDiff, Nat.reduceEqDiff, Nat.reduceAdd, Nat.reduceMul, Nat.reduceSub, reduceCtorEq, Int.reduceLT, Int.reduceLE, Int.reduceEq, Int.reduceToNat, decide_true, decide_false, Int.reduceNeg, Int.cast_ofNat_Int, sg, AO.sg, Option.isNone_none, encT_len, encI_len, hsh, ho1, Int.toNat_natCast, hgs, hgo, hv0, c1, hwv]
    refine ih1 (v + 1, o1) _ ⟨hvt, ho1, ?_⟩ (by simp only; omega) ?_
    · rw [← he1]; unfold vStep; rw [if_pos (.inl c1)]
    · (refine Wk.forget ?_; simp [Le, LeE, LeH, get, envIds, hpIds, KeepH, D.ids, idsL, AO.ids, setL, base]; done)
  cases c2 : decide (0 ≤ o1.getD v 0)
  rotate_left
  · simp only [go_sem, ↓reduceIte, Nat.reduceLT, Nat.reduceLeDiff, Nat.reduceEqDiff, Nat.reduceAdd, Nat.reduceMul, Nat.reduceSub, reduceCtorEq, Int.reduceLT, Int.reduceLE, Int.reduceEq, Int.reduceToNat, decide_true, decide_false, Int.reduceNeg, Int.cast_ofNat_Int, sg, AO.sg, Option.isNone_none, encT_len, encI_len, hsh, ho1, Int.toNat_natCast, hgs, hgo, hv0, c1, c2, hwv]
    refine ih1 (v + 1, o1) _ ⟨hvt, ho1, ?_⟩ (by simp only; omega) ?_
    · rw [← he1]; unfold vStep; rw [if_pos (.inr (of_decide_eq_true c2))]
    · (refine Wk.forget ?_; simp [Le, LeE, LeH, get, envIds, hpIds, KeepH, D.ids, idsL, AO.ids, setL, base]; done)
  simp only [go_sem, ↓reduceIte, Nat.reduceLT, Nat.reduceLeDiff, Nat.reduceEqDiff, Nat.reduceAdd, Nat.reduceMul, Nat.reduceSub, reduceCtorEq, Int.reduceLT, Int.reduceLE, Int.reduceEq, Int.reduceToNat, decide_true, decide_false, Int.reduceNeg, Int.cast_ofNat_Int, sg, AO.sg, Option.isNone_none, encT_len, encI_len, hsh, ho1, Int.toNat_natCast, hgs, hgo, hv0, c1, c2]
  have hst : vStep g sh d v o1 = if (g.getD v []).any (fun w => decide (o1.getD w.toNat 0 = (d : Int) - 1)) = true then o1.set v d else o1 := by
    unfold vStep
    rw [if_neg (by rintro (h | h); · rw [c1] at h; cases h
                   · exact of_decide_eq_false c2 h)]
  rw [hst] at he1
  have hrow : ∀ k, k < (g.getD v []).length → ∃ w : Nat, (g.getD v []).getD k 0 = (w : Int) ∧ w < g.length ∧ w ≠ v := fun k hk => row_in hg hvt hk
  have hrl : (g.getD v []).length ≤ 24 := by
    have hP := hg.2 v hvt
    have key : ∀ k, k ≤ (g.getD v []).length → ∀ j, j < k → (j : Int) ≤ (g.getD v []).getD j 0 := by
      intro k
      induction k with
      | zero => intro _ j hj; omega
      | succ k ihk =>
        intro hk j hj
        rcases Nat.lt_succ_iff_lt_or_eq.1 hj with h5 | rfl
        · exact ihk (by omega) j h5
        · have h6 := hP j (by omega)
          unfold okAt at h6
          rcases j with _ | j
          · exact h6.1
          · have h7 := ihk (by omega) j (by omega)
            have h8 := h6.2.2.2 (by omega)
            rw [show j + 1 - 1 = j from rfl] at h8
            omega
    rcases Nat.eq_zero_or_pos (g.getD v []).length with h5 | h5
    · omega
    · have h6 := key _ (Nat.le_refl _) ((g.getD v []).length - 1) (by omega)
      obtain ⟨w, h7, h8, _⟩ := hrow ((g.getD v []).length - 1) (by omega)
      omega
  have hgv := encG_get g v hvt
  generalize g.getD v [] = row at *
  clear hst c1 c2 hgs hgo
  refine X_loop_inv (fun k : Nat => ⟨[(0, .p (.sl (encG g))), (1, .p (.sl (encT sh))), (7, .ref 14 0 g.length g.length), (9, .p (.int .i64 (d : Nat))), (10, .p (.int .i64 (v : Nat))), (11, .p (.int .i64 (k : Nat)))],
      [(14, .arr 3 1 (encI (if (row.take k).any (fun w => decide (o1.getD w.toNat 0 = (d : Int) - 1)) = true then o1.set v d else o1)))], 82⟩)
    (fun k => k ≤ row.length) (fun k => row.length - k) 0 (Nat.zero_le _) (Wk.forget (by simp [Le, LeE, LeH, get, envIds, hpIds, KeepH, D.ids, idsL, AO.ids, setL, base])) ?_
  rintro k m4 hk ih2
  simp only [go_sem, ↓reduceIte, Nat.reduceLT, Nat.reduceLeDiff, Nat.reduceEqDiff, Nat.reduceAdd, Nat.reduceMul, Nat.reduceSub, reduceCtorEq, Int.reduceLT, Int.reduceLE, Int.reduceEq, Int.reduceToNat, decide_true, decide_false, Int.reduceNeg, Int.cast_ofNat_Int, sg, AO.sg, Option.isNone_none, encG_len, encI_len, Int.toNat_natCast, hgv, hv0]
  refine Cn_split (fun h5 => ?_) (fun h5 => ?_)
  rotate_left
  · have : k = row.length := by simp at h5; omega
    subst this
    rw [List.take_length]
    clear ih2
    generalize row.any (fun w => decide (o1.getD w.toNat 0 = (d : Int) - 1)) = an at *
    simp only [go_sem, ↓reduceIte, Nat.reduceLT, Nat.reduceLeDiff, Nat.reduceEqDiff, Nat.reduceAdd, Nat.reduceMul, Nat.reduceSub, reduceCtorEq, Int.reduceLT, Int.reduceLE, Int.reduceEq, Int.reduceToNat, decide_true, decide_false, Int.reduceNeg, Int.cast_ofNat_Int, sg, AO.sg, Option.isNone_none, hwv]
    refine ih1 (v + 1, if an = true then o1.set v d else o1) _ ⟨hvt, ?_, he1⟩ (by simp only; omega) ?_
    · simp only; split <;> simp [ho1]
    · (refine Wk.forget ?_; simp [Le, LeE, LeH, get, envIds, hpIds, KeepH, D.ids, idsL, AO.ids, setL, base]; done)
  have hkt : k < row.length := by simp at h5; omega
  have hwk := wrap_succ k (by omega)
  obtain ⟨w, hw, hwl, hwv2⟩ := hrow k hkt
  have hgk := encI_get row k hkt
  rw [hw] at hgk
  have hk0 : (0 : Int) ≤ (k : Int) ∧ (k : Int) < (row.length : Int) := by omega
  have hw0 : (0 : Int) ≤ (w : Int) ∧ (w : Int) < (g.length : Int) := by omega
  have hts := any_take_succ (fun w => decide (o1.getD w.toNat 0 = (d : Int) - 1)) row k 0 hkt
  rw [hw] at hts
  simp only [Int.toNat_natCast] at hts
  generalize (row.take k).any (fun w => decide (o1.getD w.toNat 0 = (d : Int) - 1)) = an at *
  have hol : (if an = true then o1.set v d else o1).length = g.length := by split <;> simp [ho1]
  have hgw := encI_get (if an = true then o1.set v d else o1) w (by omega)
  have hgw2 : (if an = true then o1.set v d else o1).getD w 0 = o1.getD w 0 := by
    split
    · rw [getD_set, if_neg (fun h => hwv2 h.1.symm)]
    · rfl
  rw [hgw2] at hgw
  have hset : (if an = true then o1.set v d else o1).set v d = o1.set v d := by split <;> simp
  generalize hq : (if an = true then o1.set v d else o1) = q at *
  simp only [go_sem, ↓reduceIte, Nat.reduceLT, Nat.reduceLeDiff, Nat.reduceEqDiff, Nat.reduceAdd, Nat.reduceMul, Nat.reduceSub, reduceCtorEq, Int.reduceLT, Int.reduceLE, Int.reduceEq, Int.reduceToNat, decide_true, decide_false, Int.reduceNeg, Int.cast_ofNat_Int, sg, AO.sg, Option.isNone_none, encG_len, encI_len, Int.toNat_natCast, hgv, hv0, hgk, hk0, hol, hgw, hw0, hwp]
  cases c3 : decide (o1.getD w 0 = (d : Int) - 1)
  · simp only [go_sem, ↓reduceIte, Nat.reduceLT, Nat.reduceLeDiff, Nat.reduceEqDiff, Nat.reduceAdd, Nat.reduceMul, Nat.reduceSub, reduceCtorEq, Int.reduceLT, Int.reduceLE, Int.reduceEq, Int.reduceToNat, decide_true, decide_false, Int.reduceNeg, Int.cast_ofNat_Int, sg, AO.sg, Option.isNone_none, c3, hwk]
    refine ih2 (k + 1) _ hkt (by omega) ?_
    rw [hts, c3, Bool.or_false, hq]
    (refine Wk.forget ?_; simp [Le, LeE, LeH, get, envIds, hpIds, KeepH, D.ids, idsL, AO.ids, setL, base]; done)
  · simp only [go_sem, ↓reduceIte, Nat.reduceLT, Nat.reduceLeDiff, Nat.reduceEqDiff, Nat.reduceAdd, Nat.reduceMul, Nat.reduceSub, reduceCtorEq, Int.reduceLT, Int.reduceLE, Int.reduceEq, Int.reduceToNat, decide_true, decide_false, Int.reduceNeg, Int.cast_ofNat_Int, sg, AO.sg, Option.isNone_none, c3, hwk, encI_len, hol, Int.toNat_natCast, hv0]
    refine ih2 (k + 1) _ hkt (by omega) ?_
    rw [hts, c3, Bool.or_true, if_pos rfl, ← hset, encI_set]
    (refine Wk.forget ?_; simp [Le, LeE, LeH, get, envIds, hpIds, KeepH, D.ids, idsL, AO.ids, setL, base, encI_tail]; done)
end Go.Am
