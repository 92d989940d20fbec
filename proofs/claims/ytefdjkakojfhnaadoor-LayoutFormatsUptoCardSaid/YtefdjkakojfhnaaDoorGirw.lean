/- The reference's paths and girth: no more than that they end and what their lengths are. -/
import Derived.Test.YtefdjkakojfhnaaDoorDistw
namespace Go.Am
open Go Go.Proofs
set_option maxRecDepth 100000
set_option linter.unusedVariables false
set_option linter.unusedSimpArgs false
theorem check4_ok (g : List (List Int)) (sh : List Bool) (hg : smallG g) : ACalls Tryd.prog 91 [.p (.sl (encG g)), .p (.sl (encT sh))] [] fun h r => h = [] ∧ r = .p (.int .i64 (if gphP g then (if sh.length = g.length then 0 else 19) else 20)) := by
  refine ACalls_X Tryd.func91 rfl enters91 (by simp [Tryd.f91]) ?_
  simp only [go_sem, ↓reduceIte, Nat.reduceLT, Nat.reduceLeDiff, Nat.reduceEqDiff, Nat.reduceAdd, Nat.reduceMul, Nat.reduceSub, reduceCtorEq, Int.reduceLT, Int.reduceLE, Int.reduceEq, Int.reduceToNat, decide_true, decide_false, Int.reduceNeg, Int.cast_ofNat_Int, sg, AO.sg, Option.isNone_none]
  refine Cc_of ((valid4_ok g hg)) ?_
  rintro h' r ⟨rfl, rfl⟩
  cases c1 : decide (gphP g)
  · simp only [go_sem, ↓reduceIte, Nat.reduceLT, Nat.reduceLeDiff, Nat.reduceEqDiff, Nat.reduceAdd, Nat.reduceMul, Nat.reduceSub, reduceCtorEq, Int.reduceLT, Int.reduceLE, Int.reduceEq, Int.reduceToNat, decide_true, decide_false, Int.reduceNeg, Int.cast_ofNat_Int, sg, AO.sg, Option.isNone_none, c1]
    rw [if_neg (of_decide_eq_false c1)]
  simp only [go_sem, ↓reduceIte, Nat.reduceLT, Nat.reduceLeDiff, Nat.reduceEqDiff, Nat.reduceAdd, Nat.reduceMul, Nat.reduceSub, reduceCtorEq, Int.reduceLT, Int.reduceLE, Int.reduceEq, Int.reduceToNat, decide_true, decide_false, Int.reduceNeg, Int.cast_ofNat_Int, sg, AO.sg, Option.isNone_none, c1, encT_len, encG_len]
  rw [if_pos (of_decide_eq_true c1)]
  cases c2 : decide ((sh.length : Int) = (g.length : Int))
  · simp only [go_sem, ↓reduceIte, Nat.reduceLT, Nat.reduceLeDiff, Nat.reduceEqDiff, Nat.reduceAdd, Nat.reduceMul, Nat.reduceSub, reduceCtorEq, Int.reduceLT, Int.reduceLE, Int.reduceEq, Int.reduceToNat, decide_true, decide_false, Int.reduceNeg, Int.cast_ofNat_Int, sg, AO.sg, Option.isNone_none, c2]
    rw [if_neg (fun h => of_decide_eq_false c2 (by omega))]
  · simp only [go_sem, ↓reduceIte, Nat.reduceLT, Nat.reduceLeDiff, Nat.reduceEqDiff, Nat.reduceAdd, Nat.reduceMul, Nat.reduceSub, reduceCtorEq, Int.reduceLT, Int.reduceLE, Int.reduceEq, Int.reduceToNat, decide_true, decide_false, Int.reduceNeg, Int.cast_ofNat_Int, sg, AO.sg, Option.isNone_none, c2]
    rw [if_pos (by have := of_decide_eq_true c2; omega)]
def hopV (g : List (List Int)) (D : List Int) (v : Nat) : Int := if 0 < D.getD v 0 then ((g.getD v []).find? (fun w => decide (D.getD w.toNat 0 = D.getD v 0 - 1))).getD (-1) else -1
theorem distV_rng {g : List (List Int)} (hg : gphP g) (sh : List Bool) {goal : Nat} (hgoal : goal < g.length) {v : Nat} (hv : v < g.length) : -1 ≤ (distV g sh goal).getD v 0 ∧ (distV g sh goal).getD v 0 ≤ 24 := by
  rcases (distV_DP hg sh goal hgoal).2 v hv with h | h | h <;> omega
theorem row_len {g : List (List Int)} (hg : gphP g) {u : Nat} (hu : u < g.length) : (g.getD u []).length ≤ 24 := by
  have hP := hg.2 u hu
  have key : ∀ k, k ≤ (g.getD u []).length → ∀ j, j < k → (j : Int) ≤ (g.getD u []).getD j 0 := by
    intro k
    induction k with
    | zero => intro _ j hj; omega
    | succ k ihk =>
      intro hk j hj
      rcases Nat.lt_succ_iff_lt_or_eq.1 hj with h5 | rfl
      · exact ihk (by omega) j h5
      · have h6 := hP j (by omega)
        unfold okAt at h6
        rcases j with _ | j
        · exact h6.1
        · have h7 := ihk (by omega) j (by omega)
          have h8 := h6.2.2.2 (by omega)
          rw [show j + 1 - 1 = j from rfl] at h8
          omega
  have hl := hg.1
  rcases Nat.eq_zero_or_pos (g.getD u []).length with h5 | h5
  · omega
  · have h6 := key _ (Nat.le_refl _) ((g.getD u []).length - 1) (by omega)
    obtain ⟨w, h7, h8, _⟩ := row_in hg hu (k := (g.getD u []).length - 1) (by omega)
    omega
def jm1 (j : Nat) : Int := (j : Int) - 1
set_option maxHeartbeats 800000 in
theorem hops_ok (g : List (List Int)) (sh : List Bool) (goal : Nat) (hg : gphP g) (hsh : sh.length = g.length) (hgoal : goal < g.length) :
    ACalls Tryd.prog 117 [.p (.sl (encG g)), .p (.sl (encT sh)), .p (.int .i64 (goal : Nat))] [] fun h r => h = [] ∧ ∃ o : List Int, r = .p (.sl (encI o)) ∧ o.length = g.length ∧ ∀ v, v < g.length → o.getD v 0 = hopV g (distV g sh goal) v := by
  have hlen := hg.1
  have hDl := distV_len g sh goal
  have hDr : ∀ v, v < g.length → -1 ≤ (distV g sh goal).getD v 0 ∧ (distV g sh goal).getD v 0 ≤ 24 := fun v hv => distV_rng hg sh hgoal hv
  have hd := dist_ok g sh goal hg hsh hgoal
  refine ACalls_X Tryd.func117 rfl enters117 (by simp [Tryd.f117]) ?_
  simp only [go_sem, ↓reduceIte, Nat.reduceLT, Nat.reduceLeDiff, Nat.reduceEqDiff, Nat.reduceAdd, Nat.reduceMul, Nat.reduceSub, reduceCtorEq, Int.reduceLT, Int.reduceLE, Int.reduceEq, Int.reduceToNat, decide_true, decide_false, Int.reduceNeg, Int.cast_ofNat_Int, sg, AO.sg, Option.isNone_none]
  refine Cc_of ((hd)) ?_
  rintro h' r ⟨rfl, rfl⟩
  generalize distV g sh goal = ds at *
  clear hd
  simp only [go_sem, ↓reduceIte, Nat.reduceLT, Nat.reduceLeDiff, Nat.reduceEqDiff, Nat.reduceAdd, Nat.reduceMul, Nat.reduceSub, reduceCtorEq, Int.reduceLT, Int.reduceLE, Int.reduceEq, Int.reduceToNat, decide_true, decide_false, Int.reduceNeg, Int.cast_ofNat_Int, sg, AO.sg, Option.isNone_none, encG_len]
  refine ⟨by omega, ?_⟩
  refine X_loop_inv (fun q : Nat × List Int => ⟨[(0, .p (.sl (encG g))), (7, .p (.sl (encI ds))), (8, .ref 18 0 g.length g.length), (9, .p (.int .i64 (q.1 : Nat)))], [(18, .arr 3 1 (encI q.2))], 67⟩)
    (fun q => q.1 ≤ g.length ∧ q.2.length = g.length ∧ ∀ v, v < q.1 → q.2.getD v 0 = hopV g ds v) (fun q => g.length - q.1) (0, List.replicate g.length 0) ⟨Nat.zero_le _, by simp, fun j hj => absurd hj (Nat.not_lt_zero _)⟩ (Wk.forget (by simp [Le, LeE, LeH, get, envIds, hpIds, KeepH, D.ids, idsL, AO.ids, setL, base, encI])) ?_
  rintro ⟨v, o⟩ m ⟨hv, ho, hall⟩ ih
  simp only at hv ho hall
  simp only [go_sem, ↓reduceIte, Nat.reduceLT, Nat.reduceLeDiff, Nat.reduceEqDiff, Nat.reduceAdd, Nat.reduceMul, Nat.reduceSub, reduceCtorEq, Int.reduceLT, Int.reduceLE, Int.reduceEq, Int.reduceToNat, decide_true, decide_false, Int.reduceNeg, Int.cast_ofNat_Int, sg, AO.sg, Option.isNone_none, encG_len]
  refine Cn_split (fun h2 => ?_) (fun h2 => ?_)
  rotate_left
  · simp only [go_sem, ↓reduceIte, Nat.reduceLT, Nat.reduceLeDiff, Nat.reduceEqDiff, Nat.reduceAdd, Nat.reduceMul, Nat.reduceSub, reduceCtorEq, Int.reduceLT, Int.reduceLE, Int.reduceEq, Int.reduceToNat, decide_true, decide_false, Int.reduceNeg, Int.cast_ofNat_Int, sg, AO.sg, Option.isNone_none]
    refine end_pure ?_
    simp only [go_sem, ↓reduceIte, Nat.reduceLT, Nat.reduceLeDiff, Nat.reduceEqDiff, Nat.reduceAdd, Nat.reduceMul, Nat.reduceSub, reduceCtorEq, Int.reduceLT, Int.reduceLE, Int.reduceEq, Int.reduceToNat, decide_true, decide_false, Int.reduceNeg, Int.cast_ofNat_Int, sg, AO.sg, Option.isNone_none]
    have : v = g.length := by simp at h2; omega
    subst this
    refine ⟨by rw [encI_len]; omega, o, ?_, ho, hall⟩
    rw [List.take_of_length_le (by rw [encI_len]; omega)]
  have hvt : v < g.length := by simp at h2; omega
  have hwv := wrap_succ v (by omega)
  have hv0 : (0 : Int) ≤ (v : Int) ∧ (v : Int) < (g.length : Int) := by omega
  have hgv := encG_get g v hvt
  have hrow : ∀ k, k < (g.getD v []).length → ∃ w : Nat, (g.getD v []).getD k 0 = (w : Int) ∧ w < g.length ∧ w ≠ v := fun k hk => row_in hg hvt hk
  have hrl := row_len hg hvt
  have hDv := encI_get ds v (by omega)
  have hDvr := hDr v hvt
  have hhv : hopV g ds v = if 0 < ds.getD v 0 then ((g.getD v []).find? (fun w => decide (ds.getD w.toNat 0 = ds.getD v 0 - 1))).getD (-1) else -1 := rfl
  generalize g.getD v [] = row at *
  generalize hdv : ds.getD v 0 = dv at *
  have hwl : IntKind.i64.wrap ((row.length : Int) - 1) = jm1 row.length := by unfold jm1; rw [wrap_i64_id] <;> omega
  simp only [go_sem, ↓reduceIte, Nat.reduceLT, Nat.reduceLeDiff, Nat.reduceEqDiff, Nat.reduceAdd, Nat.reduceMul, Nat.reduceSub, reduceCtorEq, Int.reduceLT, Int.reduceLE, Int.reduceEq, Int.reduceToNat, decide_true, decide_false, Int.reduceNeg, Int.cast_ofNat_Int, sg, AO.sg, Option.isNone_none, encG_len, encI_len, ho, Int.toNat_natCast, hv0, hgv, hwl]
  refine X_loop_inv (fun j : Nat => ⟨[(0, .p (.sl (encG g))), (7, .p (.sl (encI ds))), (8, .ref 18 0 g.length g.length), (9, .p (.int .i64 (v : Nat))), (10, .p (.int .i64 (jm1 j)))],
      [(18, .arr 3 1 (encI (o.set v (((row.drop j).find? (fun w => decide (ds.getD w.toNat 0 = dv - 1))).getD (-1)))))], 67⟩)
    (fun j => j ≤ row.length ∧ (j = row.length ∨ 0 < dv)) (fun j => j) row.length ⟨Nat.le_refl _, .inl rfl⟩ (Wk.forget (by simp [Le, LeE, LeH, get, envIds, hpIds, KeepH, D.ids, idsL, AO.ids, setL, base, encI_set, encI_tail, List.drop_length])) ?_
  rintro j m2 ⟨hj, hjd⟩ ih2
  have hset : ∀ x, ∀ u, u < v + 1 → x = hopV g ds v → (o.set v x).getD u 0 = hopV g ds u := fun x u hu hx => by
    rw [getD_set]
    by_cases e : v = u
    · subst e; rw [if_pos ⟨rfl, by omega⟩]; exact hx
    · rw [if_neg (fun h => e h.1)]; exact hall u (by omega)
  rcases j with _ | j
  · have hz : ¬ (0 : Int) ≤ jm1 0 := by unfold jm1; omega
    simp only [go_sem, ↓reduceIte, Nat.reduceLT, Nat.reduceLeDiff, Nat.reduceEqDiff, Nat.reduceAdd, Nat.reduceMul, Nat.reduceSub, reduceCtorEq, Int.reduceLT, Int.reduceLE, Int.reduceEq, Int.reduceToNat, decide_true, decide_false, Int.reduceNeg, Int.cast_ofNat_Int, sg, AO.sg, Option.isNone_none, hz, hwv]
    refine ih (v + 1, o.set v ((row.find? (fun w => decide (ds.getD w.toNat 0 = dv - 1))).getD (-1))) _ ⟨hvt, by simp [ho], fun u hu => hset _ u hu ?_⟩ (by simp only; omega) ?_
    · rw [hhv]
      rcases hjd with h3 | h3
      · have : row = [] := List.length_eq_zero_iff.1 h3.symm
        subst this
        simp
      · rw [if_pos h3]
    · (refine Wk.forget ?_; simp [Le, LeE, LeH, get, envIds, hpIds, KeepH, D.ids, idsL, AO.ids, setL, base]; done)
  · have hj1 : jm1 (j + 1) = (j : Int) := by unfold jm1; omega
    have hjn : (0 : Int) ≤ (j : Int) := by omega
    have hwj : IntKind.i64.wrap ((j : Int) - 1) = jm1 j := by unfold jm1; rw [wrap_i64_id] <;> omega
    cases c1 : decide (0 < dv)
    · have hjl : j + 1 = row.length := by
        rcases hjd with h3 | h3
        · exact h3
        · exact absurd h3 (of_decide_eq_false c1)
      have hdrop : row.drop (j + 1) = [] := by rw [hjl]; simp
      rw [hdrop]
      simp only [go_sem, ↓reduceIte, Nat.reduceLT, Nat.reduceLeDiff, Nat.reduceEqDiff, Nat.reduceAdd, Nat.reduceMul, Nat.reduceSub, reduceCtorEq, Int.reduceLT, Int.reduceLE, Int.reduceEq, Int.reduceToNat, decide_true, decide_false, Int.reduceNeg, Int.cast_ofNat_Int, sg, AO.sg, Option.isNone_none, hj1, hjn, encI_len, hDl, Int.toNat_natCast, hv0, hDv, c1, hwv]
      refine ih (v + 1, o.set v (-1)) _ ⟨hvt, by simp [ho], fun u hu => hset _ u hu ?_⟩ (by simp only; omega) ?_
      · rw [hhv, if_neg (of_decide_eq_false c1)]
      · (refine Wk.forget ?_; simp [Le, LeE, LeH, get, envIds, hpIds, KeepH, D.ids, idsL, AO.ids, setL, base]; done)
    have hjt : j < row.length := by omega
    obtain ⟨w, hw, hwl2, hwne⟩ := hrow j hjt
    have hgj := encI_get row j hjt
    rw [hw] at hgj
    have hj0 : (0 : Int) ≤ (j : Int) ∧ (j : Int) < (row.length : Int) := by omega
    have hw0 : (0 : Int) ≤ (w : Int) ∧ (w : Int) < (g.length : Int) := by omega
    have hDw := encI_get ds w (by omega)
    have hwd : IntKind.i64.wrap (dv - 1) = dv - 1 := by rw [wrap_i64_id] <;> omega
    have hdr : row.drop j = (w : Int) :: row.drop (j + 1) := by rw [drop_getD row j 0 hjt, hw]
    simp only [go_sem, ↓reduceIte, Nat.reduceLT, Nat.reduceLeDiff, Nat.reduceEqDiff, Nat.reduceAdd, Nat.reduceMul, Nat.reduceSub, reduceCtorEq, Int.reduceLT, Int.reduceLE, Int.reduceEq, Int.reduceToNat, decide_true, decide_false, Int.reduceNeg, Int.cast_ofNat_Int, sg, AO.sg, Option.isNone_none, hj1, hjn, encI_len, encG_len, hDl, Int.toNat_natCast, hv0, hDv, c1, hgv, hgj, hj0]
    refine X_any0 mixed (p := [(0, 0), (1, 0), (2, 0), (3, 0), (4, 0), (5, 0), (6, 0), (7, 0), (8, 0), (9, 0)]) (by kernel_rfl) (by simp [LeH, get]) ?_
    simp only [go_sem, ↓reduceIte, Nat.reduceLT, Nat.reduceLeDiff, Nat.reduceEqDiff, Nat.reduceAdd, Nat.reduceMul, Nat.reduceSub, reduceCtorEq, Int.reduceLT, Int.reduceLE, Int.reduceEq, Int.reduceToNat, decide_true, decide_false, Int.reduceNeg, Int.cast_ofNat_Int, sg, AO.sg, Option.isNone_none, encI_len, hDl, Int.toNat_natCast, hv0, hDv, hDw, hw0, hwd]
    cases c2 : decide (ds.getD w 0 = dv - 1)
    · simp only [go_sem, ↓reduceIte, Nat.reduceLT, Nat.reduceLeDiff, Nat.reduceEqDiff, Nat.reduceAdd, Nat.reduceMul, Nat.reduceSub, reduceCtorEq, Int.reduceLT, Int.reduceLE, Int.reduceEq, Int.reduceToNat, decide_true, decide_false, Int.reduceNeg, Int.cast_ofNat_Int, sg, AO.sg, Option.isNone_none, c2, hwj]
      refine ih2 j _ ⟨by omega, .inr (of_decide_eq_true c1)⟩ (by omega) ?_
      rw [hdr, List.find?_cons_of_neg (by simp only [Int.toNat_natCast]; simpa using of_decide_eq_false c2)]
      (refine Wk.forget ?_; simp [Le, LeE, LeH, get, envIds, hpIds, KeepH, D.ids, idsL, AO.ids, setL, base]; done)
    · simp only [go_sem, ↓reduceIte, Nat.reduceLT, Nat.reduceLeDiff, Nat.reduceEqDiff, Nat.reduceAdd, Nat.reduceMul, Nat.reduceSub, reduceCtorEq, Int.reduceLT, Int.reduceLE, Int.reduceEq, Int.reduceToNat, decide_true, decide_false, Int.reduceNeg, Int.cast_ofNat_Int, sg, AO.sg, Option.isNone_none, c2, hwj, encI_len, List.length_set, ho, Int.toNat_natCast, hv0]
      refine ih2 j _ ⟨by omega, .inr (of_decide_eq_true c1)⟩ (by omega) ?_
      rw [hdr, List.find?_cons_of_pos (by simp only [Int.toNat_natCast]; exact c2)]
      generalize ((row.drop (j + 1)).find? (fun w => decide (ds.getD w.toNat 0 = dv - 1))).getD (-1) = y0
      rw [show o.set v ((some (w : Int)).getD (-1)) = (o.set v y0).set v (w : Int) by simp, encI_set (o.set v y0)]
      (refine Wk.forget ?_; simp [Le, LeE, LeH, get, envIds, hpIds, KeepH, D.ids, idsL, AO.ids, setL, base, encI_tail]; done)
end Go.Am
