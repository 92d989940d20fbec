/- The generator's lanes. -/
import Derived.Test.YtefdjkakojfhnaaDoorNetq
namespace Go.Am
open Go Go.Proofs
set_option maxRecDepth 100000
set_option linter.unusedVariables false
set_option linter.unusedSimpArgs false
def RP (b i : Nat) (r : List Int) : Prop := r.Pairwise (· < ·) ∧ (∀ x ∈ r, 0 ≤ x ∧ x < (b : Int) ∧ x ≠ (i : Int)) ∧ r.length ≤ 4 ∧ (1 < b → (((i + 1) % b : Nat) : Int) ∈ r)
theorem RP.row {b i : Nat} {r : List Int} (h : RP b i r) : rowP b i r := by
  intro k hk
  obtain ⟨h1, h2, _, _⟩ := h
  have h3 := h2 _ (getD_mem r k 0 hk)
  refine ⟨h3.1, h3.2.1, h3.2.2, fun hk0 => ?_⟩
  rw [getD_eq hk, getD_eq (show k - 1 < r.length by omega)]
  exact List.pairwise_iff_getElem.1 h1 (k - 1) k (by omega) hk (by omega)
theorem RP.ins {b i : Nat} {r : List Int} {x : Int} (h : RP b i r) (h0 : 0 ≤ x) (hb : x < (b : Int)) (hi : x ≠ (i : Int)) (hn : x ∉ r) (hl : r.length < 4) : RP b i (insV r x) := by
  obtain ⟨h1, h2, h3, h4⟩ := h
  refine ⟨insV_asc r x h1 hn, fun y hy => ?_, by rw [insV_len]; omega, fun hb1 => (insV_mem r x _).2 (.inr (h4 hb1))⟩
  rcases (insV_mem r x y).1 hy with rfl | hy
  · exact ⟨h0, hb, hi⟩
  · exact h2 y hy
theorem encG_tail (l : List (List Int)) (i : Nat) : ((encG l)[i]?.getD []).tail = [] := by
  unfold encG
  rw [List.getElem?_map]
  cases l[i]? <;> rfl
def netC (b : Nat) (rest : List D) : List D := [.ref 1000002 0 b b, .ref 1000003 0 b b] ++ rest
set_option maxHeartbeats 800000 in
theorem ring_ok (l : List Int) (at_ b : Nat) (bl : List Blk) (nx : List (List Int)) (hat : at_ < 1000000) (hb1 : 1 ≤ b) (hb : b ≤ 10) (hbl : bl.length = b) (hnx : nx.length = b) (hemp : ∀ i, i < b → nx.getD i [] = []) :
    ACalls Tryd.prog 43 [.ptr 1000000 0, .ptr 1000001 0]
      [(1000000, .box (tapeC l at_)), (1000001, .box [.ref 1000002 0 b b, .ref 1000003 0 b b, .cl [], .cl [], .p (.int .i64 0), .p (.int .i64 0), .p (.int .i64 0), .p (.int .i64 0)]), (1000002, .arr 82 3 (encK bl)), (1000003, .arr 22 1 (encG nx))]
      fun h r => ∃ at2 nx2, at2 ≤ at_ + 20 ∧ nx2.length = b ∧ (∀ i, i < b → RP b i (nx2.getD i [])) ∧ r = .tup [] ∧
        h = [(1000000, .box (tapeC l at2)), (1000001, .box [.ref 1000002 0 b b, .ref 1000003 0 b b, .cl [], .cl [], .p (.int .i64 0), .p (.int .i64 0), .p (.int .i64 0), .p (.int .i64 0)]), (1000002, .arr 82 3 (encK bl)), (1000003, .arr 22 1 (encG nx2))] := by
  refine ACalls_X Tryd.func43 rfl enters43 (by simp [Tryd.f43]) ?_
  simp only [go_sem, ↓reduceIte, Nat.reduceLT, Nat.reduceLeDiff, Nat.reduceEqDiff, Nat.reduceAdd, Nat.reduceMul, Nat.reduceSub, reduceCtorEq, Int.reduceLT, Int.reduceLE, Int.reduceEq, Int.reduceToNat, decide_true, decide_false, Int.reduceNeg, Int.cast_ofNat_Int, sg, AO.sg, Option.isNone_none, tapeC]
  refine ⟨by rw [encK_len]; exact hbl.symm, ?_⟩
  refine X_loop_inv (fun q : Nat × List (List Int) => ⟨[(0, .ptr 1000000 0), (1, .ptr 1000001 0), (4, .p (.int .i64 (b : Nat))), (5, .p (.int .i64 (q.1 : Nat)))],
      [(1000000, .box [.p (.sl (encI l)), .p (.int .i64 (at_ : Nat))]), (1000001, .box [.ref 1000002 0 b b, .ref 1000003 0 b b, .cl [], .cl [], .p (.int .i64 0), .p (.int .i64 0), .p (.int .i64 0), .p (.int .i64 0)]), (1000002, .arr 82 3 (encK bl)), (1000003, .arr 22 1 (encG q.2))], 98⟩)
    (fun q => q.1 ≤ b ∧ q.2.length = b ∧ (∀ j, j < q.1 → RP b j (q.2.getD j [])) ∧ (∀ j, q.1 ≤ j → j < b → q.2.getD j [] = [])) (fun q => b - q.1) (0, nx) ⟨Nat.zero_le _, hnx, fun j hj => absurd hj (Nat.not_lt_zero _), fun j _ hj => hemp j hj⟩ (Wk.forget (by simp [Le, LeE, LeH, get, envIds, hpIds, KeepH, D.ids, idsL, AO.ids, setL, base, encG])) ?_
  rintro ⟨i, g⟩ m ⟨hi, hgl, hdone, hrest⟩ ih
  simp only at hi hgl hdone hrest
  cases c1 : decide ((i : Int) < (b : Int))
  rotate_left
  · cases c2 : decide (1 < (b : Int))
    rotate_left
    · have hib : i < b := by have := of_decide_eq_true c1; omega
      have hb2 : 1 < b := by have := of_decide_eq_true c2; omega
      have hw := wrap_succ i (by omega)
      have hmod : ((i + 1 : Nat) : Int).tmod (b : Int) = (((i + 1) % b : Nat) : Int) := by rw [Int.tmod_eq_emod_of_nonneg (by omega)]; omega
      have hne : ¬ (b : Int) = 0 := by omega
      have hi0 : (0 : Int) ≤ (i : Int) ∧ (i : Int) < (b : Int) := by omega
      simp only [go_sem, ↓reduceIte, Nat.reduceLT, Nat.reduceLeDiff, Nat.reduceEqDiff, Nat.reduceAdd, Nat.reduceMul, Nat.reduceSub, reduceCtorEq, Int.reduceLT, Int.reduceLE, Int.reduceEq, Int.reduceToNat, decide_true, decide_false, Int.reduceNeg, Int.cast_ofNat_Int, sg, AO.sg, Option.isNone_none, c1, c2]
      refine X_any0 mixed (p := [(0, 0), (1, 0), (2, 0), (3, 0), (4, 0), (5, 0), (6, 0), (7, 0), (8, 0), (9, 1), (10, 0), (11, 3)]) (by kernel_rfl) (by simp [LeH, get]) ?_
      simp only [go_sem, ↓reduceIte, Nat.reduceLT, Nat.reduceLeDiff, Nat.reduceEqDiff, Nat.reduceAdd, Nat.reduceMul, Nat.reduceSub, reduceCtorEq, Int.reduceLT, Int.reduceLE, Int.reduceEq, Int.reduceToNat, decide_true, decide_false, Int.reduceNeg, Int.cast_ofNat_Int, sg, AO.sg, Option.isNone_none, hw, hmod, hne, encG_len, hgl, Int.toNat_natCast, hi0]
      refine ih (i + 1, g.set i [(((i + 1) % b : Nat) : Int)]) _ ⟨hib, by simpa using hgl, fun j hj => ?_, fun j hj hjb => ?_⟩ (by simp only; omega) ?_
      · rw [getD_set]
        by_cases e : i = j
        · subst e
          rw [if_pos ⟨rfl, by omega⟩]
          have hm : (i + 1) % b < b := Nat.mod_lt _ (by omega)
          have hm2 : (i + 1) % b ≠ i := by
            intro h
            rcases Nat.lt_or_ge (i + 1) b with h5 | h5
            · rw [Nat.mod_eq_of_lt h5] at h; omega
            · have : i + 1 = b := by omega
              rw [this, Nat.mod_self] at h; omega
          refine ⟨List.pairwise_singleton _ _, fun x hx => ?_, by simp, fun _ => by simp⟩
          rw [List.mem_singleton] at hx
          subst hx
          omega
        · rw [if_neg (fun h => e h.1)]; exact hdone j (by omega)
      · rw [getD_set, if_neg (by omega)]; exact hrest j (by omega) hjb
      · (refine Wk.forget ?_; simp [Le, LeE, LeH, get, envIds, hpIds, KeepH, D.ids, idsL, AO.ids, setL, base, encG_set, encG_tail, encI]; done)
    · have hb0 : b = 1 := by have := of_decide_eq_false c2; omega
      have hi1 : i = 0 := by have := of_decide_eq_true c1; omega
      have hRP : ∀ u, u < b → RP b u (g.getD u []) := fun u hu => by
        rw [hrest u (by omega) hu]
        exact ⟨List.Pairwise.nil, fun x hx => absurd hx (by simp), by simp, fun h => absurd h (by omega)⟩
      simp only [go_sem, ↓reduceIte, Nat.reduceLT, Nat.reduceLeDiff, Nat.reduceEqDiff, Nat.reduceAdd, Nat.reduceMul, Nat.reduceSub, reduceCtorEq, Int.reduceLT, Int.reduceLE, Int.reduceEq, Int.reduceToNat, decide_true, decide_false, Int.reduceNeg, Int.cast_ofNat_Int, sg, AO.sg, Option.isNone_none, c1, c2]
      refine Cc_of ((next_ok l at_ 4 (by omega) (in64_small _ (by omega) (by omega)))) ?_
      rintro h' r ⟨rfl, rfl⟩
      obtain ⟨k0, hk0, hk4⟩ := nextV_rng l at_ 4 (by omega)
      simp only [go_sem, ↓reduceIte, Nat.reduceLT, Nat.reduceLeDiff, Nat.reduceEqDiff, Nat.reduceAdd, Nat.reduceMul, Nat.reduceSub, reduceCtorEq, Int.reduceLT, Int.reduceLE, Int.reduceEq, Int.reduceToNat, decide_true, decide_false, Int.reduceNeg, Int.cast_ofNat_Int, sg, AO.sg, Option.isNone_none, tapeC, hk0]
      refine X_loop_inv (fun q : Nat × Nat × List (List Int) => ⟨[(0, .ptr 1000000 0), (1, .ptr 1000001 0), (4, .p (.int .i64 (b : Nat))), (6, .p (.int .i64 (q.1 : Nat)))],
          [(1000000, .box [.p (.sl (encI l)), .p (.int .i64 (q.2.1 : Nat))]), (1000001, .box [.ref 1000002 0 b b, .ref 1000003 0 b b, .cl [], .cl [], .p (.int .i64 0), .p (.int .i64 0), .p (.int .i64 0), .p (.int .i64 0)]), (1000002, .arr 82 3 (encK bl)), (1000003, .arr 22 1 (encG q.2.2))], 98⟩)
        (fun q => q.1 ≤ 3 ∧ q.2.1 ≤ at_ + 1 + 3 * (3 - q.1) ∧ q.2.2.length = b ∧ ∀ i, i < b → RP b i (q.2.2.getD i [])) (fun q => q.1) (k0, at_ + 1, g) ⟨by simp only; omega, by simp only; omega, hgl, hRP⟩ (Wk.forget (by simp [Le, LeE, LeH, get, envIds, hpIds, KeepH, D.ids, idsL, AO.ids, setL, base, encG])) ?_
      rintro ⟨k, a, g2⟩ m2 ⟨hk3, hal, hg2l, hRP2⟩ ih2
      simp only at hk3 hal hg2l hRP2
      cases d1 : decide (0 < (k : Int))
      · simp only [go_sem, ↓reduceIte, Nat.reduceLT, Nat.reduceLeDiff, Nat.reduceEqDiff, Nat.reduceAdd, Nat.reduceMul, Nat.reduceSub, reduceCtorEq, Int.reduceLT, Int.reduceLE, Int.reduceEq, Int.reduceToNat, decide_true, decide_false, Int.reduceNeg, Int.cast_ofNat_Int, sg, AO.sg, Option.isNone_none, d1]
        refine end_own ?_
        simp only [go_sem, ↓reduceIte, Nat.reduceLT, Nat.reduceLeDiff, Nat.reduceEqDiff, Nat.reduceAdd, Nat.reduceMul, Nat.reduceSub, reduceCtorEq, Int.reduceLT, Int.reduceLE, Int.reduceEq, Int.reduceToNat, decide_true, decide_false, Int.reduceNeg, Int.cast_ofNat_Int, sg, AO.sg, Option.isNone_none]
        refine ⟨a, g2, by omega, hg2l, hRP2, ?_⟩
        first | exact ⟨rfl, rfl⟩ | rfl | simp
      cases d2 : decide (2 < (b : Int))
      · simp only [go_sem, ↓reduceIte, Nat.reduceLT, Nat.reduceLeDiff, Nat.reduceEqDiff, Nat.reduceAdd, Nat.reduceMul, Nat.reduceSub, reduceCtorEq, Int.reduceLT, Int.reduceLE, Int.reduceEq, Int.reduceToNat, decide_true, decide_false, Int.reduceNeg, Int.cast_ofNat_Int, sg, AO.sg, Option.isNone_none, d1, d2]
        refine end_own ?_
        simp only [go_sem, ↓reduceIte, Nat.reduceLT, Nat.reduceLeDiff, Nat.reduceEqDiff, Nat.reduceAdd, Nat.reduceMul, Nat.reduceSub, reduceCtorEq, Int.reduceLT, Int.reduceLE, Int.reduceEq, Int.reduceToNat, decide_true, decide_false, Int.reduceNeg, Int.cast_ofNat_Int, sg, AO.sg, Option.isNone_none]
        refine ⟨a, g2, by omega, hg2l, hRP2, ?_⟩
        first | exact ⟨rfl, rfl⟩ | rfl | simp
      have hkp : 1 ≤ k := by have := of_decide_eq_true d1; omega
      obtain ⟨k, rfl⟩ : ∃ j, k = j + 1 := ⟨k - 1, by omega⟩
      have hwk := wrap_pred k (by omega)
      have hb3 : 2 < b := by have := of_decide_eq_true d2; omega
      have hbz : (0 : Int) < (b : Int) := by omega
      obtain ⟨ii, hii, hiib⟩ := nextV_rng l a b hbz
      obtain ⟨jj, hjj, hjjb⟩ := nextV_rng l (a + 1) b hbz
      have hii0 : (0 : Int) ≤ (ii : Int) ∧ (ii : Int) < (b : Int) := by omega
      have hgi := encG_get g2 ii (by omega)
      have hRl := (hRP2 ii (by omega)).2.2.1
      simp only [go_sem, ↓reduceIte, Nat.reduceLT, Nat.reduceLeDiff, Nat.reduceEqDiff, Nat.reduceAdd, Nat.reduceMul, Nat.reduceSub, reduceCtorEq, Int.reduceLT, Int.reduceLE, Int.reduceEq, Int.reduceToNat, decide_true, decide_false, Int.reduceNeg, Int.cast_ofNat_Int, sg, AO.sg, Option.isNone_none, d1, d2]
      refine Cc_of ((next_ok l a b (by omega) (in64_small _ (by omega) (by omega)))) ?_
      rintro h' r ⟨rfl, rfl⟩
      simp only [go_sem, ↓reduceIte, Nat.reduceLT, Nat.reduceLeDiff, Nat.reduceEqDiff, Nat.reduceAdd, Nat.reduceMul, Nat.reduceSub, reduceCtorEq, Int.reduceLT, Int.reduceLE, Int.reduceEq, Int.reduceToNat, decide_true, decide_false, Int.reduceNeg, Int.cast_ofNat_Int, sg, AO.sg, Option.isNone_none, tapeC, hii]
      refine Cc_of ((next_ok l (a + 1) b (by omega) (in64_small _ (by omega) (by omega)))) ?_
      rintro h' r ⟨rfl, rfl⟩
      simp only [go_sem, ↓reduceIte, Nat.reduceLT, Nat.reduceLeDiff, Nat.reduceEqDiff, Nat.reduceAdd, Nat.reduceMul, Nat.reduceSub, reduceCtorEq, Int.reduceLT, Int.reduceLE, Int.reduceEq, Int.reduceToNat, decide_true, decide_false, Int.reduceNeg, Int.cast_ofNat_Int, sg, AO.sg, Option.isNone_none, tapeC, hjj]
      refine Cc_of ((next_ok l (a + 1 + 1) 3 (by omega) (in64_small _ (by omega) (by omega)))) ?_
      rintro h' r ⟨rfl, rfl⟩
      simp only [go_sem, ↓reduceIte, Nat.reduceLT, Nat.reduceLeDiff, Nat.reduceEqDiff, Nat.reduceAdd, Nat.reduceMul, Nat.reduceSub, reduceCtorEq, Int.reduceLT, Int.reduceLE, Int.reduceEq, Int.reduceToNat, decide_true, decide_false, Int.reduceNeg, Int.cast_ofNat_Int, sg, AO.sg, Option.isNone_none, tapeC]
      have hmod2 : (((ii : Int) + 2)).tmod (b : Int) = (((ii + 2) % b : Nat) : Int) := by
        rw [show (ii : Int) + 2 = ((ii + 2 : Nat) : Int) by omega, Int.tmod_eq_emod_of_nonneg (by omega)]
        exact (Int.natCast_emod _ _).symm
      have hwi : IntKind.i64.wrap ((ii : Int) + 2) = (ii : Int) + 2 := by rw [wrap_i64_id] <;> omega
      have hbne : ¬ (b : Int) = 0 := by omega
      have hm2 : (ii + 2) % b < b := Nat.mod_lt _ (by omega)
      cases d3 : decide (0 < nextV l (a + 1 + 1) 3)
      · skip
        have hJ0 : (0 : Int) ≤ ((jj : Nat) : Int) ∧ ((jj : Nat) : Int) < (b : Int) := by omega
        cases d4 : decide ((ii : Int) = ((jj : Nat) : Int))
        rotate_left
        · simp only [go_sem, ↓reduceIte, Nat.reduceLT, Nat.reduceLeDiff, Nat.reduceEqDiff, Nat.reduceAdd, Nat.reduceMul, Nat.reduceSub, reduceCtorEq, Int.reduceLT, Int.reduceLE, Int.reduceEq, Int.reduceToNat, decide_true, decide_false, Int.reduceNeg, Int.cast_ofNat_Int, sg, AO.sg, Option.isNone_none, d3, hwk, d4, hwk]
          refine ih2 (k, a + 1 + 1 + 1, g2) _ ⟨by simp only; omega, by simp only; omega, hg2l, hRP2⟩ (by simp only; omega) ?_
          (refine Wk.forget ?_; simp [Le, LeE, LeH, get, envIds, hpIds, KeepH, D.ids, idsL, AO.ids, setL, base]; done)
        simp only [go_sem, ↓reduceIte, Nat.reduceLT, Nat.reduceLeDiff, Nat.reduceEqDiff, Nat.reduceAdd, Nat.reduceMul, Nat.reduceSub, reduceCtorEq, Int.reduceLT, Int.reduceLE, Int.reduceEq, Int.reduceToNat, decide_true, decide_false, Int.reduceNeg, Int.cast_ofNat_Int, sg, AO.sg, Option.isNone_none, d3, hwk, d4, encG_len, hg2l, Int.toNat_natCast, hgi, hii0]
        refine Cc_of ((has_ok (g2.getD ii []) ((jj : Nat) : Int) (by omega))) ?_
        rintro h' r ⟨rfl, rfl⟩
        cases d5 : decide (((jj : Nat) : Int) ∈ g2.getD ii [])
        rotate_left
        · simp only [go_sem, ↓reduceIte, Nat.reduceLT, Nat.reduceLeDiff, Nat.reduceEqDiff, Nat.reduceAdd, Nat.reduceMul, Nat.reduceSub, reduceCtorEq, Int.reduceLT, Int.reduceLE, Int.reduceEq, Int.reduceToNat, decide_true, decide_false, Int.reduceNeg, Int.cast_ofNat_Int, sg, AO.sg, Option.isNone_none, d5, hwk]
          refine ih2 (k, a + 1 + 1 + 1, g2) _ ⟨by simp only; omega, by simp only; omega, hg2l, hRP2⟩ (by simp only; omega) ?_
          (refine Wk.forget ?_; simp [Le, LeE, LeH, get, envIds, hpIds, KeepH, D.ids, idsL, AO.ids, setL, base]; done)
        cases d6 : decide (((g2.getD ii []).length : Int) < 4)
        · simp only [go_sem, ↓reduceIte, Nat.reduceLT, Nat.reduceLeDiff, Nat.reduceEqDiff, Nat.reduceAdd, Nat.reduceMul, Nat.reduceSub, reduceCtorEq, Int.reduceLT, Int.reduceLE, Int.reduceEq, Int.reduceToNat, decide_true, decide_false, Int.reduceNeg, Int.cast_ofNat_Int, sg, AO.sg, Option.isNone_none, d5, encG_len, encI_len, hg2l, Int.toNat_natCast, hgi, hii0, d6, hwk]
          refine ih2 (k, a + 1 + 1 + 1, g2) _ ⟨by simp only; omega, by simp only; omega, hg2l, hRP2⟩ (by simp only; omega) ?_
          (refine Wk.forget ?_; simp [Le, LeE, LeH, get, envIds, hpIds, KeepH, D.ids, idsL, AO.ids, setL, base]; done)
        simp only [go_sem, ↓reduceIte, Nat.reduceLT, Nat.reduceLeDiff, Nat.reduceEqDiff, Nat.reduceAdd, Nat.reduceMul, Nat.reduceSub, reduceCtorEq, Int.reduceLT, Int.reduceLE, Int.reduceEq, Int.reduceToNat, decide_true, decide_false, Int.reduceNeg, Int.cast_ofNat_Int, sg, AO.sg, Option.isNone_none, d5, encG_len, encI_len, hg2l, Int.toNat_natCast, hgi, hii0, d6]
        refine X_any0 mixed (p := [(0, 0), (1, 0), (2, 0), (3, 0), (4, 0), (5, 0), (6, 0), (7, 0), (8, 0), (9, 0), (10, 0), (11, 0), (12, 0), (13, 2), (14, 0), (15, 3)]) (by kernel_rfl) (by simp [LeH, get]) ?_
        simp only [go_sem, ↓reduceIte, Nat.reduceLT, Nat.reduceLeDiff, Nat.reduceEqDiff, Nat.reduceAdd, Nat.reduceMul, Nat.reduceSub, reduceCtorEq, Int.reduceLT, Int.reduceLE, Int.reduceEq, Int.reduceToNat, decide_true, decide_false, Int.reduceNeg, Int.cast_ofNat_Int, sg, AO.sg, Option.isNone_none, encG_len, encI_len, hg2l, Int.toNat_natCast, hgi, hii0]
        refine Gh_of ((insert_ok (g2.getD ii []) ((jj : Nat) : Int) (by omega))) ?_
        rintro h' r ⟨rfl, rfl⟩
        simp only [go_sem, ↓reduceIte, Nat.reduceLT, Nat.reduceLeDiff, Nat.reduceEqDiff, Nat.reduceAdd, Nat.reduceMul, Nat.reduceSub, reduceCtorEq, Int.reduceLT, Int.reduceLE, Int.reduceEq, Int.reduceToNat, decide_true, decide_false, Int.reduceNeg, Int.cast_ofNat_Int, sg, AO.sg, Option.isNone_none, encG_len, hg2l, Int.toNat_natCast, hii0, hwk]
        refine ih2 (k, a + 1 + 1 + 1, g2.set ii (insV (g2.getD ii []) ((jj : Nat) : Int))) _ ⟨by simp only; omega, by simp only; omega, by simpa using hg2l, fun u hu => ?_⟩ (by simp only; omega) ?_
        · rw [getD_set]
          by_cases e : ii = u
          · subst e
            rw [if_pos ⟨rfl, by omega⟩]
            exact (hRP2 ii hu).ins hJ0.1 hJ0.2 (fun h => of_decide_eq_false d4 h.symm) (of_decide_eq_false d5) (by have := of_decide_eq_true d6; omega)
          · rw [if_neg (fun h => e h.1)]; exact hRP2 u hu
        · (refine Wk.forget ?_; simp [Le, LeE, LeH, get, envIds, hpIds, KeepH, D.ids, idsL, AO.ids, setL, base, encG_set, encG_tail]; done)
      · generalize (ii + 2) % b = J at hmod2 hm2
        have hJ0 : (0 : Int) ≤ ((J : Nat) : Int) ∧ ((J : Nat) : Int) < (b : Int) := by omega
        cases d4 : decide ((ii : Int) = ((J : Nat) : Int))
        rotate_left
        · simp only [go_sem, ↓reduceIte, Nat.reduceLT, Nat.reduceLeDiff, Nat.reduceEqDiff, Nat.reduceAdd, Nat.reduceMul, Nat.reduceSub, reduceCtorEq, Int.reduceLT, Int.reduceLE, Int.reduceEq, Int.reduceToNat, decide_true, decide_false, Int.reduceNeg, Int.cast_ofNat_Int, sg, AO.sg, Option.isNone_none, d3, hwi, hmod2, hbne, d4, hwk]
          refine ih2 (k, a + 1 + 1 + 1, g2) _ ⟨by simp only; omega, by simp only; omega, hg2l, hRP2⟩ (by simp only; omega) ?_
          (refine Wk.forget ?_; simp [Le, LeE, LeH, get, envIds, hpIds, KeepH, D.ids, idsL, AO.ids, setL, base]; done)
        simp only [go_sem, ↓reduceIte, Nat.reduceLT, Nat.reduceLeDiff, Nat.reduceEqDiff, Nat.reduceAdd, Nat.reduceMul, Nat.reduceSub, reduceCtorEq, Int.reduceLT, Int.reduceLE, Int.reduceEq, Int.reduceToNat, decide_true, decide_false, Int.reduceNeg, Int.cast_ofNat_Int, sg, AO.sg, Option.isNone_none, d3, hwi, hmod2, hbne, d4, encG_len, hg2l, Int.toNat_natCast, hgi, hii0]
        refine Cc_of ((has_ok (g2.getD ii []) ((J : Nat) : Int) (by omega))) ?_
        rintro h' r ⟨rfl, rfl⟩
        cases d5 : decide (((J : Nat) : Int) ∈ g2.getD ii [])
        rotate_left
        · simp only [go_sem, ↓reduceIte, Nat.reduceLT, Nat.reduceLeDiff, Nat.reduceEqDiff, Nat.reduceAdd, Nat.reduceMul, Nat.reduceSub, reduceCtorEq, Int.reduceLT, Int.reduceLE, Int.reduceEq, Int.reduceToNat, decide_true, decide_false, Int.reduceNeg, Int.cast_ofNat_Int, sg, AO.sg, Option.isNone_none, d5, hwk]
          refine ih2 (k, a + 1 + 1 + 1, g2) _ ⟨by simp only; omega, by simp only; omega, hg2l, hRP2⟩ (by simp only; omega) ?_
          (refine Wk.forget ?_; simp [Le, LeE, LeH, get, envIds, hpIds, KeepH, D.ids, idsL, AO.ids, setL, base]; done)
        cases d6 : decide (((g2.getD ii []).length : Int) < 4)
        · simp only [go_sem, ↓reduceIte, Nat.reduceLT, Nat.reduceLeDiff, Nat.reduceEqDiff, Nat.reduceAdd, Nat.reduceMul, Nat.reduceSub, reduceCtorEq, Int.reduceLT, Int.reduceLE, Int.reduceEq, Int.reduceToNat, decide_true, decide_false, Int.reduceNeg, Int.cast_ofNat_Int, sg, AO.sg, Option.isNone_none, d5, encG_len, encI_len, hg2l, Int.toNat_natCast, hgi, hii0, d6, hwk]
          refine ih2 (k, a + 1 + 1 + 1, g2) _ ⟨by simp only; omega, by simp only; omega, hg2l, hRP2⟩ (by simp only; omega) ?_
          (refine Wk.forget ?_; simp [Le, LeE, LeH, get, envIds, hpIds, KeepH, D.ids, idsL, AO.ids, setL, base]; done)
        simp only [go_sem, ↓reduceIte, Nat.reduceLT, Nat.reduceLeDiff, Nat.reduceEqDiff, Nat.reduceAdd, Nat.reduceMul, Nat.reduceSub, reduceCtorEq, Int.reduceLT, Int.reduceLE, Int.reduceEq, Int.reduceToNat, decide_true, decide_false, Int.reduceNeg, Int.cast_ofNat_Int, sg, AO.sg, Option.isNone_none, d5, encG_len, encI_len, hg2l, Int.toNat_natCast, hgi, hii0, d6]
        refine X_any0 mixed (p := [(0, 0), (1, 0), (2, 0), (3, 0), (4, 0), (5, 0), (6, 0), (7, 0), (8, 0), (9, 0), (10, 0), (11, 0), (12, 0), (13, 2), (14, 0), (15, 3)]) (by kernel_rfl) (by simp [LeH, get]) ?_
        simp only [go_sem, ↓reduceIte, Nat.reduceLT, Nat.reduceLeDiff, Nat.reduceEqDiff, Nat.reduceAdd, Nat.reduceMul, Nat.reduceSub, reduceCtorEq, Int.reduceLT, Int.reduceLE, Int.reduceEq, Int.reduceToNat, decide_true, decide_false, Int.reduceNeg, Int.cast_ofNat_Int, sg, AO.sg, Option.isNone_none, encG_len, encI_len, hg2l, Int.toNat_natCast, hgi, hii0]
        refine Gh_of ((insert_ok (g2.getD ii []) ((J : Nat) : Int) (by omega))) ?_
        rintro h' r ⟨rfl, rfl⟩
        simp only [go_sem, ↓reduceIte, Nat.reduceLT, Nat.reduceLeDiff, Nat.reduceEqDiff, Nat.reduceAdd, Nat.reduceMul, Nat.reduceSub, reduceCtorEq, Int.reduceLT, Int.reduceLE, Int.reduceEq, Int.reduceToNat, decide_true, decide_false, Int.reduceNeg, Int.cast_ofNat_Int, sg, AO.sg, Option.isNone_none, encG_len, hg2l, Int.toNat_natCast, hii0, hwk]
        refine ih2 (k, a + 1 + 1 + 1, g2.set ii (insV (g2.getD ii []) ((J : Nat) : Int))) _ ⟨by simp only; omega, by simp only; omega, by simpa using hg2l, fun u hu => ?_⟩ (by simp only; omega) ?_
        · rw [getD_set]
          by_cases e : ii = u
          · subst e
            rw [if_pos ⟨rfl, by omega⟩]
            exact (hRP2 ii hu).ins hJ0.1 hJ0.2 (fun h => of_decide_eq_false d4 h.symm) (of_decide_eq_false d5) (by have := of_decide_eq_true d6; omega)
          · rw [if_neg (fun h => e h.1)]; exact hRP2 u hu
        · (refine Wk.forget ?_; simp [Le, LeE, LeH, get, envIds, hpIds, KeepH, D.ids, idsL, AO.ids, setL, base, encG_set, encG_tail]; done)
  · have hie : i = b := by have := of_decide_eq_false c1; omega
    have hRP : ∀ u, u < b → RP b u (g.getD u []) := fun u hu => hdone u (by omega)
    simp only [go_sem, ↓reduceIte, Nat.reduceLT, Nat.reduceLeDiff, Nat.reduceEqDiff, Nat.reduceAdd, Nat.reduceMul, Nat.reduceSub, reduceCtorEq, Int.reduceLT, Int.reduceLE, Int.reduceEq, Int.reduceToNat, decide_true, decide_false, Int.reduceNeg, Int.cast_ofNat_Int, sg, AO.sg, Option.isNone_none, c1, c1]
    refine Cc_of ((next_ok l at_ 4 (by omega) (in64_small _ (by omega) (by omega)))) ?_
    rintro h' r ⟨rfl, rfl⟩
    obtain ⟨k0, hk0, hk4⟩ := nextV_rng l at_ 4 (by omega)
    simp only [go_sem, ↓reduceIte, Nat.reduceLT, Nat.reduceLeDiff, Nat.reduceEqDiff, Nat.reduceAdd, Nat.reduceMul, Nat.reduceSub, reduceCtorEq, Int.reduceLT, Int.reduceLE, Int.reduceEq, Int.reduceToNat, decide_true, decide_false, Int.reduceNeg, Int.cast_ofNat_Int, sg, AO.sg, Option.isNone_none, tapeC, hk0]
    refine X_loop_inv (fun q : Nat × Nat × List (List Int) => ⟨[(0, .ptr 1000000 0), (1, .ptr 1000001 0), (4, .p (.int .i64 (b : Nat))), (6, .p (.int .i64 (q.1 : Nat)))],
        [(1000000, .box [.p (.sl (encI l)), .p (.int .i64 (q.2.1 : Nat))]), (1000001, .box [.ref 1000002 0 b b, .ref 1000003 0 b b, .cl [], .cl [], .p (.int .i64 0), .p (.int .i64 0), .p (.int .i64 0), .p (.int .i64 0)]), (1000002, .arr 82 3 (encK bl)), (1000003, .arr 22 1 (encG q.2.2))], 98⟩)
      (fun q => q.1 ≤ 3 ∧ q.2.1 ≤ at_ + 1 + 3 * (3 - q.1) ∧ q.2.2.length = b ∧ ∀ i, i < b → RP b i (q.2.2.getD i [])) (fun q => q.1) (k0, at_ + 1, g) ⟨by simp only; omega, by simp only; omega, hgl, hRP⟩ (Wk.forget (by simp [Le, LeE, LeH, get, envIds, hpIds, KeepH, D.ids, idsL, AO.ids, setL, base, encG])) ?_
    rintro ⟨k, a, g2⟩ m2 ⟨hk3, hal, hg2l, hRP2⟩ ih2
    simp only at hk3 hal hg2l hRP2
    cases d1 : decide (0 < (k : Int))
    · simp only [go_sem, ↓reduceIte, Nat.reduceLT, Nat.reduceLeDiff, Nat.reduceEqDiff, Nat.reduceAdd, Nat.reduceMul, Nat.reduceSub, reduceCtorEq, Int.reduceLT, Int.reduceLE, Int.reduceEq, Int.reduceToNat, decide_true, decide_false, Int.reduceNeg, Int.cast_ofNat_Int, sg, AO.sg, Option.isNone_none, d1]
      refine end_own ?_
      simp only [go_sem, ↓reduceIte, Nat.reduceLT, Nat.reduceLeDiff, Nat.reduceEqDiff, Nat.reduceAdd, Nat.reduceMul, Nat.reduceSub, reduceCtorEq, Int.reduceLT, Int.reduceLE, Int.reduceEq, Int.reduceToNat, decide_true, decide_false, Int.reduceNeg, Int.cast_ofNat_Int, sg, AO.sg, Option.isNone_none]
      refine ⟨a, g2, by omega, hg2l, hRP2, ?_⟩
      first | exact ⟨rfl, rfl⟩ | rfl | simp
    cases d2 : decide (2 < (b : Int))
    · simp only [go_sem, ↓reduceIte, Nat.reduceLT, Nat.reduceLeDiff, Nat.reduceEqDiff, Nat.reduceAdd, Nat.reduceMul, Nat.reduceSub, reduceCtorEq, Int.reduceLT, Int.reduceLE, Int.reduceEq, Int.reduceToNat, decide_true, decide_false, Int.reduceNeg, Int.cast_ofNat_Int, sg, AO.sg, Option.isNone_none, d1, d2]
      refine end_own ?_
      simp only [go_sem, ↓reduceIte, Nat.reduceLT, Nat.reduceLeDiff, Nat.reduceEqDiff, Nat.reduceAdd, Nat.reduceMul, Nat.reduceSub, reduceCtorEq, Int.reduceLT, Int.reduceLE, Int.reduceEq, Int.reduceToNat, decide_true, decide_false, Int.reduceNeg, Int.cast_ofNat_Int, sg, AO.sg, Option.isNone_none]
      refine ⟨a, g2, by omega, hg2l, hRP2, ?_⟩
      first | exact ⟨rfl, rfl⟩ | rfl | simp
    have hkp : 1 ≤ k := by have := of_decide_eq_true d1; omega
    obtain ⟨k, rfl⟩ : ∃ j, k = j + 1 := ⟨k - 1, by omega⟩
    have hwk := wrap_pred k (by omega)
    have hb3 : 2 < b := by have := of_decide_eq_true d2; omega
    have hbz : (0 : Int) < (b : Int) := by omega
    obtain ⟨ii, hii, hiib⟩ := nextV_rng l a b hbz
    obtain ⟨jj, hjj, hjjb⟩ := nextV_rng l (a + 1) b hbz
    have hii0 : (0 : Int) ≤ (ii : Int) ∧ (ii : Int) < (b : Int) := by omega
    have hgi := encG_get g2 ii (by omega)
    have hRl := (hRP2 ii (by omega)).2.2.1
    simp only [go_sem, ↓reduceIte, Nat.reduceLT, Nat.reduceLeDiff, Nat.reduceEqDiff, Nat.reduceAdd, Nat.reduceMul, Nat.reduceSub, reduceCtorEq, Int.reduceLT, Int.reduceLE, Int.reduceEq, Int.reduceToNat, decide_true, decide_false, Int.reduceNeg, Int.cast_ofNat_Int, sg, AO.sg, Option.isNone_none, d1, d2]
    refine Cc_of ((next_ok l a b (by omega) (in64_small _ (by omega) (by omega)))) ?_
    rintro h' r ⟨rfl, rfl⟩
    simp only [go_sem, ↓reduceIte, Nat.reduceLT, Nat.reduceLeDiff, Nat.reduceEqDiff, Nat.reduceAdd, Nat.reduceMul, Nat.reduceSub, reduceCtorEq, Int.reduceLT, Int.reduceLE, Int.reduceEq, Int.reduceToNat, decide_true, decide_false, Int.reduceNeg, Int.cast_ofNat_Int, sg, AO.sg, Option.isNone_none, tapeC, hii]
    refine Cc_of ((next_ok l (a + 1) b (by omega) (in64_small _ (by omega) (by omega)))) ?_
    rintro h' r ⟨rfl, rfl⟩
    simp only [go_sem, ↓reduceIte, Nat.reduceLT, Nat.reduceLeDiff, Nat.reduceEqDiff, Nat.reduceAdd, Nat.reduceMul, Nat.reduceSub, reduceCtorEq, Int.reduceLT, Int.reduceLE, Int.reduceEq, Int.reduceToNat, decide_true, decide_false, Int.reduceNeg, Int.cast_ofNat_Int, sg, AO.sg, Option.isNone_none, tapeC, hjj]
    refine Cc_of ((next_ok l (a + 1 + 1) 3 (by omega) (in64_small _ (by omega) (by omega)))) ?_
    rintro h' r ⟨rfl, rfl⟩
    simp only [go_sem, ↓reduceIte, Nat.reduceLT, Nat.reduceLeDiff, Nat.reduceEqDiff, Nat.reduceAdd, Nat.reduceMul, Nat.reduceSub, reduceCtorEq, Int.reduceLT, Int.reduceLE, Int.reduceEq, Int.reduceToNat, decide_true, decide_false, Int.reduceNeg, Int.cast_ofNat_Int, sg, AO.sg, Option.isNone_none, tapeC]
    have hmod2 : (((ii : Int) + 2)).tmod (b : Int) = (((ii + 2) % b : Nat) : Int) := by
      rw [show (ii : Int) + 2 = ((ii + 2 : Nat) : Int) by omega, Int.tmod_eq_emod_of_nonneg (by omega)]
      exact (Int.natCast_emod _ _).symm
    have hwi : IntKind.i64.wrap ((ii : Int) + 2) = (ii : Int) + 2 := by rw [wrap_i64_id] <;> omega
    have hbne : ¬ (b : Int) = 0 := by omega
    have hm2 : (ii + 2) % b < b := Nat.mod_lt _ (by omega)
    cases d3 : decide (0 < nextV l (a + 1 + 1) 3)
    · skip
      have hJ0 : (0 : Int) ≤ ((jj : Nat) : Int) ∧ ((jj : Nat) : Int) < (b : Int) := by omega
      cases d4 : decide ((ii : Int) = ((jj : Nat) : Int))
      rotate_left
      · simp only [go_sem, ↓reduceIte, Nat.reduceLT, Nat.reduceLeDiff, Nat.reduceEqDiff, Nat.reduceAdd, Nat.reduceMul, Nat.reduceSub, reduceCtorEq, Int.reduceLT, Int.reduceLE, Int.reduceEq, Int.reduceToNat, decide_true, decide_false, Int.reduceNeg, Int.cast_ofNat_Int, sg, AO.sg, Option.isNone_none, d3, hwk, d4, hwk]
        refine ih2 (k, a + 1 + 1 + 1, g2) _ ⟨by simp only; omega, by simp only; omega, hg2l, hRP2⟩ (by simp only; omega) ?_
        (refine Wk.forget ?_; simp [Le, LeE, LeH, get, envIds, hpIds, KeepH, D.ids, idsL, AO.ids, setL, base]; done)
      simp only [go_sem, ↓reduceIte, Nat.reduceLT, Nat.reduceLeDiff, Nat.reduceEqDiff, Nat.reduceAdd, Nat.reduceMul, Nat.reduceSub, reduceCtorEq, Int.reduceLT, Int.reduceLE, Int.reduceEq, Int.reduceToNat, decide_true, decide_false, Int.reduceNeg, Int.cast_ofNat_Int, sg, AO.sg, Option.isNone_none, d3, hwk, d4, encG_len, hg2l, Int.toNat_natCast, hgi, hii0]
      refine Cc_of ((has_ok (g2.getD ii []) ((jj : Nat) : Int) (by omega))) ?_
      rintro h' r ⟨rfl, rfl⟩
      cases d5 : decide (((jj : Nat) : Int) ∈ g2.getD ii [])
      rotate_left
      · simp only [go_sem, ↓reduceIte, Nat.reduceLT, Nat.reduceLeDiff, Nat.reduceEqDiff, Nat.reduceAdd, Nat.reduceMul, Nat.reduceSub, reduceCtorEq, Int.reduceLT, Int.reduceLE, Int.reduceEq, Int.reduceToNat, decide_true, decide_false, Int.reduceNeg, Int.cast_ofNat_Int, sg, AO.sg, Option.isNone_none, d5, hwk]
        refine ih2 (k, a + 1 + 1 + 1, g2) _ ⟨by simp only; omega, by simp only; omega, hg2l, hRP2⟩ (by simp only; omega) ?_
        (refine Wk.forget ?_; simp [Le, LeE, LeH, get, envIds, hpIds, KeepH, D.ids, idsL, AO.ids, setL, base]; done)
      cases d6 : decide (((g2.getD ii []).length : Int) < 4)
      · simp only [go_sem, ↓reduceIte, Nat.reduceLT, Nat.reduceLeDiff, Nat.reduceEqDiff, Nat.reduceAdd, Nat.reduceMul, Nat.reduceSub, reduceCtorEq, Int.reduceLT, Int.reduceLE, Int.reduceEq, Int.reduceToNat, decide_true, decide_false, Int.reduceNeg, Int.cast_ofNat_Int, sg, AO.sg, Option.isNone_none, d5, encG_len, encI_len, hg2l, Int.toNat_natCast, hgi, hii0, d6, hwk]
        refine ih2 (k, a + 1 + 1 + 1, g2) _ ⟨by simp only; omega, by simp only; omega, hg2l, hRP2⟩ (by simp only; omega) ?_
        (refine Wk.forget ?_; simp [Le, LeE, LeH, get, envIds, hpIds, KeepH, D.ids, idsL, AO.ids, setL, base]; done)
      simp only [go_sem, ↓reduceIte, Nat.reduceLT, Nat.reduceLeDiff, Nat.reduceEqDiff, Nat.reduceAdd, Nat.reduceMul, Nat.reduceSub, reduceCtorEq, Int.reduceLT, Int.reduceLE, Int.reduceEq, Int.reduceToNat, decide_true, decide_false, Int.reduceNeg, Int.cast_ofNat_Int, sg, AO.sg, Option.isNone_none, d5, encG_len, encI_len, hg2l, Int.toNat_natCast, hgi, hii0, d6]
      refine X_any0 mixed (p := [(0, 0), (1, 0), (2, 0), (3, 0), (4, 0), (5, 0), (6, 0), (7, 0), (8, 0), (9, 0), (10, 0), (11, 0), (12, 0), (13, 2), (14, 0), (15, 3)]) (by kernel_rfl) (by simp [LeH, get]) ?_
      simp only [go_sem, ↓reduceIte, Nat.reduceLT, Nat.reduceLeDiff, Nat.reduceEqDiff, Nat.reduceAdd, Nat.reduceMul, Nat.reduceSub, reduceCtorEq, Int.reduceLT, Int.reduceLE, Int.reduceEq, Int.reduceToNat, decide_true, decide_false, Int.reduceNeg, Int.cast_ofNat_Int, sg, AO.sg, Option.isNone_none, encG_len, encI_len, hg2l, Int.toNat_natCast, hgi, hii0]
      refine Gh_of ((insert_ok (g2.getD ii []) ((jj : Nat) : Int) (by omega))) ?_
      rintro h' r ⟨rfl, rfl⟩
      simp only [go_sem, ↓reduceIte, Nat.reduceLT, Nat.reduceLeDiff, Nat.reduceEqDiff, Nat.reduceAdd, Nat.reduceMul, Nat.reduceSub, reduceCtorEq, Int.reduceLT, Int.reduceLE, Int.reduceEq, Int.reduceToNat, decide_true, decide_false, Int.reduceNeg, Int.cast_ofNat_Int, sg, AO.sg, Option.isNone_none, encG_len, hg2l, Int.toNat_natCast, hii0, hwk]
      refine ih2 (k, a + 1 + 1 + 1, g2.set ii (insV (g2.getD ii []) ((jj : Nat) : Int))) _ ⟨by simp only; omega, by simp only; omega, by simpa using hg2l, fun u hu => ?_⟩ (by simp only; omega) ?_
      · rw [getD_set]
        by_cases e : ii = u
        · subst e
          rw [if_pos ⟨rfl, by omega⟩]
          exact (hRP2 ii hu).ins hJ0.1 hJ0.2 (fun h => of_decide_eq_false d4 h.symm) (of_decide_eq_false d5) (by have := of_decide_eq_true d6; omega)
        · rw [if_neg (fun h => e h.1)]; exact hRP2 u hu
      · (refine Wk.forget ?_; simp [Le, LeE, LeH, get, envIds, hpIds, KeepH, D.ids, idsL, AO.ids, setL, base, encG_set, encG_tail]; done)
    · generalize (ii + 2) % b = J at hmod2 hm2
      have hJ0 : (0 : Int) ≤ ((J : Nat) : Int) ∧ ((J : Nat) : Int) < (b : Int) := by omega
      cases d4 : decide ((ii : Int) = ((J : Nat) : Int))
      rotate_left
      · simp only [go_sem, ↓reduceIte, Nat.reduceLT, Nat.reduceLeDiff, Nat.reduceEqDiff, Nat.reduceAdd, Nat.reduceMul, Nat.reduceSub, reduceCtorEq, Int.reduceLT, Int.reduceLE, Int.reduceEq, Int.reduceToNat, decide_true, decide_false, Int.reduceNeg, Int.cast_ofNat_Int, sg, AO.sg, Option.isNone_none, d3, hwi, hmod2, hbne, d4, hwk]
        refine ih2 (k, a + 1 + 1 + 1, g2) _ ⟨by simp only; omega, by simp only; omega, hg2l, hRP2⟩ (by simp only; omega) ?_
        (refine Wk.forget ?_; simp [Le, LeE, LeH, get, envIds, hpIds, KeepH, D.ids, idsL, AO.ids, setL, base]; done)
      simp only [go_sem, ↓reduceIte, Nat.reduceLT, Nat.reduceLeDiff, Nat.reduceEqDiff, Nat.reduceAdd, Nat.reduceMul, Nat.reduceSub, reduceCtorEq, Int.reduceLT, Int.reduceLE, Int.reduceEq, Int.reduceToNat, decide_true, decide_false, Int.reduceNeg, Int.cast_ofNat_Int, sg, AO.sg, Option.isNone_none, d3, hwi, hmod2, hbne, d4, encG_len, hg2l, Int.toNat_natCast, hgi, hii0]
      refine Cc_of ((has_ok (g2.getD ii []) ((J : Nat) : Int) (by omega))) ?_
      rintro h' r ⟨rfl, rfl⟩
      cases d5 : decide (((J : Nat) : Int) ∈ g2.getD ii [])
      rotate_left
      · simp only [go_sem, ↓reduceIte, Nat.reduceLT, Nat.reduceLeDiff, Nat.reduceEqDiff, Nat.reduceAdd, Nat.reduceMul, Nat.reduceSub, reduceCtorEq, Int.reduceLT, Int.reduceLE, Int.reduceEq, Int.reduceToNat, decide_true, decide_false, Int.reduceNeg, Int.cast_ofNat_Int, sg, AO.sg, Option.isNone_none, d5, hwk]
        refine ih2 (k, a + 1 + 1 + 1, g2) _ ⟨by simp only; omega, by simp only; omega, hg2l, hRP2⟩ (by simp only; omega) ?_
        (refine Wk.forget ?_; simp [Le, LeE, LeH, get, envIds, hpIds, KeepH, D.ids, idsL, AO.ids, setL, base]; done)
      cases d6 : decide (((g2.getD ii []).length : Int) < 4)
      · simp only [go_sem, ↓reduceIte, Nat.reduceLT, Nat.reduceLeDiff, Nat.reduceEqDiff, Nat.reduceAdd, Nat.reduceMul, Nat.reduceSub, reduceCtorEq, Int.reduceLT, Int.reduceLE, Int.reduceEq, Int.reduceToNat, decide_true, decide_false, Int.reduceNeg, Int.cast_ofNat_Int, sg, AO.sg, Option.isNone_none, d5, encG_len, encI_len, hg2l, Int.toNat_natCast, hgi, hii0, d6, hwk]
        refine ih2 (k, a + 1 + 1 + 1, g2) _ ⟨by simp only; omega, by simp only; omega, hg2l, hRP2⟩ (by simp only; omega) ?_
        (refine Wk.forget ?_; simp [Le, LeE, LeH, get, envIds, hpIds, KeepH, D.ids, idsL, AO.ids, setL, base]; done)
      simp only [go_sem, ↓reduceIte, Nat.reduceLT, Nat.reduceLeDiff, Nat.reduceEqDiff, Nat.reduceAdd, Nat.reduceMul, Nat.reduceSub, reduceCtorEq, Int.reduceLT, Int.reduceLE, Int.reduceEq, Int.reduceToNat, decide_true, decide_false, Int.reduceNeg, Int.cast_ofNat_Int, sg, AO.sg, Option.isNone_none, d5, encG_len, encI_len, hg2l, Int.toNat_natCast, hgi, hii0, d6]
      refine X_any0 mixed (p := [(0, 0), (1, 0), (2, 0), (3, 0), (4, 0), (5, 0), (6, 0), (7, 0), (8, 0), (9, 0), (10, 0), (11, 0), (12, 0), (13, 2), (14, 0), (15, 3)]) (by kernel_rfl) (by simp [LeH, get]) ?_
      simp only [go_sem, ↓reduceIte, Nat.reduceLT, Nat.reduceLeDiff, Nat.reduceEqDiff, Nat.reduceAdd, Nat.reduceMul, Nat.reduceSub, reduceCtorEq, Int.reduceLT, Int.reduceLE, Int.reduceEq, Int.reduceToNat, decide_true, decide_false, Int.reduceNeg, Int.cast_ofNat_Int, sg, AO.sg, Option.isNone_none, encG_len, encI_len, hg2l, Int.toNat_natCast, hgi, hii0]
      refine Gh_of ((insert_ok (g2.getD ii []) ((J : Nat) : Int) (by omega))) ?_
      rintro h' r ⟨rfl, rfl⟩
      simp only [go_sem, ↓reduceIte, Nat.reduceLT, Nat.reduceLeDiff, Nat.reduceEqDiff, Nat.reduceAdd, Nat.reduceMul, Nat.reduceSub, reduceCtorEq, Int.reduceLT, Int.reduceLE, Int.reduceEq, Int.reduceToNat, decide_true, decide_false, Int.reduceNeg, Int.cast_ofNat_Int, sg, AO.sg, Option.isNone_none, encG_len, hg2l, Int.toNat_natCast, hii0, hwk]
      refine ih2 (k, a + 1 + 1 + 1, g2.set ii (insV (g2.getD ii []) ((J : Nat) : Int))) _ ⟨by simp only; omega, by simp only; omega, by simpa using hg2l, fun u hu => ?_⟩ (by simp only; omega) ?_
      · rw [getD_set]
        by_cases e : ii = u
        · subst e
          rw [if_pos ⟨rfl, by omega⟩]
          exact (hRP2 ii hu).ins hJ0.1 hJ0.2 (fun h => of_decide_eq_false d4 h.symm) (of_decide_eq_false d5) (by have := of_decide_eq_true d6; omega)
        · rw [if_neg (fun h => e h.1)]; exact hRP2 u hu
      · (refine Wk.forget ?_; simp [Le, LeE, LeH, get, envIds, hpIds, KeepH, D.ids, idsL, AO.ids, setL, base, encG_set, encG_tail]; done)
end Go.Am
