/- The reference's check of the blocks of a network. Its inner part began as Chkg's. -/
import Derived.Test.YtefdjkakojfhnaaDoorChkg
namespace Go.Am
open Go Go.Proofs
set_option maxRecDepth 100000
set_option linter.unusedVariables false
set_option linter.unusedSimpArgs false
def xyP (b : Blk) : Prop := -9999 ≤ b.x ∧ b.x ≤ 9999 ∧ -9999 ≤ b.y ∧ b.y ≤ 9999
instance (b : Blk) : Decidable (xyP b) := by unfold xyP; exact inferInstance
def blocksP (n : Nt) : Prop := 1 ≤ n.blocks.length ∧ n.blocks.length ≤ 24 ∧ n.next.length = n.blocks.length ∧ ∀ i, i < n.blocks.length → xyP (n.blocks.getD i blk0) ∧ (n.next.getD i []).length ≤ 4 ∧ rowP n.blocks.length i (n.next.getD i [])
instance (n : Nt) : Decidable (blocksP n) := by unfold blocksP; exact inferInstance
set_option maxHeartbeats 800000 in
theorem blocks_ok (n : Nt) (hb : n.blocks.length ≤ 10000000) (hg : smallG n.next) : ACalls Tryd.prog 72 [.agg n.cs] [] fun h r => h = [] ∧ r = .p (.bool (decide (blocksP n))) := by
  obtain ⟨hg1, hg2⟩ := hg
  obtain ⟨bl, nx, sp, rb, cq, ca, cd, cp⟩ := n
  simp only at hb hg1 hg2
  refine ACalls_X Tryd.func72 rfl enters72 (by simp [Tryd.f72]) ?_
  cases d1 : decide ((bl.length : Int) < 1)
  rotate_left
  · simp only [go_sem, ↓reduceIte, Nat.reduceLT, Nat.reduceLeDiff, Nat.reduceEqDiff, Nat.reduceAdd, Nat.reduceMul, Nat.reduceSub, reduceCtorEq, Int.reduceLT, Int.reduceLE, Int.reduceEq, Int.reduceToNat, decide_true, decide_false, Int.reduceNeg, Int.cast_ofNat_Int, sg, AO.sg, Option.isNone_none, Nt.cs, encK_len, encG_len, d1]
    rw [decide_eq_false (fun hp => by have := hp.1; have hd := of_decide_eq_true d1; simp only at this; omega)]
  cases d2 : decide (24 < (bl.length : Int))
  rotate_left
  · simp only [go_sem, ↓reduceIte, Nat.reduceLT, Nat.reduceLeDiff, Nat.reduceEqDiff, Nat.reduceAdd, Nat.reduceMul, Nat.reduceSub, reduceCtorEq, Int.reduceLT, Int.reduceLE, Int.reduceEq, Int.reduceToNat, decide_true, decide_false, Int.reduceNeg, Int.cast_ofNat_Int, sg, AO.sg, Option.isNone_none, Nt.cs, encK_len, encG_len, d1, d2]
    rw [decide_eq_false (fun hp => by have := hp.2.1; simp at d2; simp only at this; omega)]
  cases d3 : decide ((nx.length : Int) = (bl.length : Int))
  · simp only [go_sem, ↓reduceIte, Nat.reduceLT, Nat.reduceLeDiff, Nat.reduceEqDiff, Nat.reduceAdd, Nat.reduceMul, Nat.reduceSub, reduceCtorEq, Int.reduceLT, Int.reduceLE, Int.reduceEq, Int.reduceToNat, decide_true, decide_false, Int.reduceNeg, Int.cast_ofNat_Int, sg, AO.sg, Option.isNone_none, Nt.cs, encK_len, encG_len, d1, d2, d3]
    rw [decide_eq_false (fun hp => by have := hp.2.2.1; have hd := of_decide_eq_false d3; simp only at this; omega)]
  have hl1 : 1 ≤ bl.length := by have := of_decide_eq_false d1; omega
  have hl2 : bl.length ≤ 24 := by have := of_decide_eq_false d2; omega
  have hl3 : nx.length = bl.length := by have := of_decide_eq_true d3; omega
  simp only [go_sem, ↓reduceIte, Nat.reduceLT, Nat.reduceLeDiff, Nat.reduceEqDiff, Nat.reduceAdd, Nat.reduceMul, Nat.reduceSub, reduceCtorEq, Int.reduceLT, Int.reduceLE, Int.reduceEq, Int.reduceToNat, decide_true, decide_false, Int.reduceNeg, Int.cast_ofNat_Int, sg, AO.sg, Option.isNone_none, Nt.cs, encK_len, encG_len, d1, d2, d3]
  clear d1 d2 d3
  refine X_loop_inv (fun i : Nat => ⟨[(1, .ptr 1 0), (3, .p (.int .i64 (i : Nat)))], [(1, .box (Nt.cs ⟨bl, nx, sp, rb, cq, ca, cd, cp⟩))], 114⟩) (fun i => i ≤ bl.length ∧ ∀ j, j < i → xyP (bl.getD j blk0) ∧ (nx.getD j []).length ≤ 4 ∧ rowP bl.length j (nx.getD j [])) (fun i => bl.length - i) 0 ⟨Nat.zero_le _, fun j hj => absurd hj (Nat.not_lt_zero _)⟩ (Wk.forget (by simp [Le, LeE, LeH, get, envIds, hpIds, KeepH, D.ids, idsL, AO.ids, setL, base, Nt.cs])) ?_
  rintro i n ⟨hi, hrows⟩ ih
  simp only [go_sem, ↓reduceIte, Nat.reduceLT, Nat.reduceLeDiff, Nat.reduceEqDiff, Nat.reduceAdd, Nat.reduceMul, Nat.reduceSub, reduceCtorEq, Int.reduceLT, Int.reduceLE, Int.reduceEq, Int.reduceToNat, decide_true, decide_false, Int.reduceNeg, Int.cast_ofNat_Int, sg, AO.sg, Option.isNone_none, Nt.cs, encK_len]
  refine Cn_split (fun h2 => ?_) (fun h2 => ?_)
  rotate_left
  · simp only [go_sem, ↓reduceIte, Nat.reduceLT, Nat.reduceLeDiff, Nat.reduceEqDiff, Nat.reduceAdd, Nat.reduceMul, Nat.reduceSub, reduceCtorEq, Int.reduceLT, Int.reduceLE, Int.reduceEq, Int.reduceToNat, decide_true, decide_false, Int.reduceNeg, Int.cast_ofNat_Int, sg, AO.sg, Option.isNone_none]
    have : i = bl.length := by simp at h2; omega
    subst this
    rw [decide_eq_true ⟨hl1, hl2, hl3, hrows⟩]
  have hlt : i < bl.length := by simp at h2; omega
  have hw := wrap_succ i (by omega)
  have hrl := hg2 _ (getD_mem nx i [] (by omega))
  have hgi := encG_get nx i (by omega)
  have hgb := encK_get bl i hlt
  have hbad2 : ¬ (xyP (bl.getD i blk0) ∧ (nx.getD i []).length ≤ 4 ∧ rowP bl.length i (nx.getD i [])) → decide (blocksP ⟨bl, nx, sp, rb, cq, ca, cd, cp⟩) = false := fun h => decide_eq_false (fun hp => h (hp.2.2.2 i hlt))
  have hgood2 : (xyP (bl.getD i blk0) ∧ (nx.getD i []).length ≤ 4 ∧ rowP bl.length i (nx.getD i [])) → ∀ j, j < i + 1 → xyP (bl.getD j blk0) ∧ (nx.getD j []).length ≤ 4 ∧ rowP bl.length j (nx.getD j []) := fun h j hj => by
    rcases Nat.lt_succ_iff_lt_or_eq.1 hj with h3 | rfl
    · exact hrows j h3
    · exact h
  generalize nx.getD i [] = r at hrl hgi hbad2 hgood2
  generalize bl.getD i blk0 = b at hgb hbad2 hgood2
  have hi0 : (0 : Int) ≤ (i : Int) ∧ (i : Int) < (nx.length : Int) := by omega
  have hi1 : (i : Int) < (bl.length : Int) := by omega
  cases c1 : decide (b.x < -9999)
  rotate_left
  · simp only [go_sem, ↓reduceIte, Nat.reduceLT, Nat.reduceLeDiff, Nat.reduceEqDiff, Nat.reduceAdd, Nat.reduceMul, Nat.reduceSub, reduceCtorEq, Int.reduceLT, Int.reduceLE, Int.reduceEq, Int.reduceToNat, decide_true, decide_false, Int.reduceNeg, Int.cast_ofNat_Int, sg, AO.sg, Option.isNone_none, encG_len, encK_len, encI_len, Nt.cs, Int.toNat_natCast, hgi, hgb, hi0, hi1, c1]
    rw [hbad2 (fun hp => by have := hp.1.1; simp at c1; omega)]
  cases c2 : decide (9999 < b.x)
  rotate_left
  · simp only [go_sem, ↓reduceIte, Nat.reduceLT, Nat.reduceLeDiff, Nat.reduceEqDiff, Nat.reduceAdd, Nat.reduceMul, Nat.reduceSub, reduceCtorEq, Int.reduceLT, Int.reduceLE, Int.reduceEq, Int.reduceToNat, decide_true, decide_false, Int.reduceNeg, Int.cast_ofNat_Int, sg, AO.sg, Option.isNone_none, encG_len, encK_len, encI_len, Nt.cs, Int.toNat_natCast, hgi, hgb, hi0, hi1, c1, c2]
    rw [hbad2 (fun hp => by have := hp.1.2.1; simp at c2; omega)]
  cases c3 : decide (b.y < -9999)
  rotate_left
  · simp only [go_sem, ↓reduceIte, Nat.reduceLT, Nat.reduceLeDiff, Nat.reduceEqDiff, Nat.reduceAdd, Nat.reduceMul, Nat.reduceSub, reduceCtorEq, Int.reduceLT, Int.reduceLE, Int.reduceEq, Int.reduceToNat, decide_true, decide_false, Int.reduceNeg, Int.cast_ofNat_Int, sg, AO.sg, Option.isNone_none, encG_len, encK_len, encI_len, Nt.cs, Int.toNat_natCast, hgi, hgb, hi0, hi1, c1, c2, c3]
    rw [hbad2 (fun hp => by have := hp.1.2.2.1; simp at c3; omega)]
  cases c4 : decide (9999 < b.y)
  rotate_left
  · simp only [go_sem, ↓reduceIte, Nat.reduceLT, Nat.reduceLeDiff, Nat.reduceEqDiff, Nat.reduceAdd, Nat.reduceMul, Nat.reduceSub, reduceCtorEq, Int.reduceLT, Int.reduceLE, Int.reduceEq, Int.reduceToNat, decide_true, decide_false, Int.reduceNeg, Int.cast_ofNat_Int, sg, AO.sg, Option.isNone_none, encG_len, encK_len, encI_len, Nt.cs, Int.toNat_natCast, hgi, hgb, hi0, hi1, c1, c2, c3, c4]
    rw [hbad2 (fun hp => by have := hp.1.2.2.2; simp at c4; omega)]
  cases c5 : decide (4 < (r.length : Int))
  rotate_left
  · simp only [go_sem, ↓reduceIte, Nat.reduceLT, Nat.reduceLeDiff, Nat.reduceEqDiff, Nat.reduceAdd, Nat.reduceMul, Nat.reduceSub, reduceCtorEq, Int.reduceLT, Int.reduceLE, Int.reduceEq, Int.reduceToNat, decide_true, decide_false, Int.reduceNeg, Int.cast_ofNat_Int, sg, AO.sg, Option.isNone_none, encG_len, encK_len, encI_len, Nt.cs, Int.toNat_natCast, hgi, hgb, hi0, hi1, c1, c2, c3, c4, c5]
    rw [hbad2 (fun hp => by have := hp.2.1; simp at c5; omega)]
  simp only [go_sem, ↓reduceIte, Nat.reduceLT, Nat.reduceLeDiff, Nat.reduceEqDiff, Nat.reduceAdd, Nat.reduceMul, Nat.reduceSub, reduceCtorEq, Int.reduceLT, Int.reduceLE, Int.reduceEq, Int.reduceToNat, decide_true, decide_false, Int.reduceNeg, Int.cast_ofNat_Int, sg, AO.sg, Option.isNone_none, encG_len, encK_len, encI_len, Nt.cs, Int.toNat_natCast, hgi, hgb, hi0, hi1, c1, c2, c3, c4, c5]
  have hxy : xyP b := by simp at c1 c2 c3 c4; exact ⟨c1, c2, c3, c4⟩
  have hr4 : r.length ≤ 4 := by simp at c5; omega
  clear c1 c2 c3 c4 c5
  have hbad : ¬ rowP bl.length i r → decide (blocksP ⟨bl, nx, sp, rb, cq, ca, cd, cp⟩) = false := fun h => hbad2 (fun hp => h hp.2.2)
  have hgood : rowP bl.length i r → ∀ j, j < i + 1 → xyP (bl.getD j blk0) ∧ (nx.getD j []).length ≤ 4 ∧ rowP bl.length j (nx.getD j []) := fun h => hgood2 ⟨hxy, hr4, h⟩
  refine X_loop_inv (fun k : Nat => ⟨[(1, .ptr 1 0), (3, .p (.int .i64 (i : Nat))), (4, .ptr 4 0), (5, .p (.int .i64 (k : Nat)))], [(1, .box (Nt.cs ⟨bl, nx, sp, rb, cq, ca, cd, cp⟩)), (4, .box [.p (.str b.name), .p (.int .i64 b.x), .p (.int .i64 b.y)])], 114⟩) (fun k => k ≤ r.length ∧ ∀ j, j < k → okAt bl.length i r j) (fun k => r.length - k) 0 ⟨Nat.zero_le _, fun j hj => absurd hj (Nat.not_lt_zero _)⟩ (Wk.forget (by simp [Le, LeE, LeH, get, envIds, hpIds, KeepH, D.ids, idsL, AO.ids, setL, base, Nt.cs])) ?_
  rintro k n2 ⟨hk, hok⟩ ih2
  simp only [go_sem, ↓reduceIte, Nat.reduceLT, Nat.reduceLeDiff, Nat.reduceEqDiff, Nat.reduceAdd, Nat.reduceMul, Nat.reduceSub, reduceCtorEq, Int.reduceLT, Int.reduceLE, Int.reduceEq, Int.reduceToNat, decide_true, decide_false, Int.reduceNeg, Int.cast_ofNat_Int, sg, AO.sg, Option.isNone_none, encG_len, encK_len, encI_len, Nt.cs, Int.toNat_natCast, hgi, hi0, hi1]
  refine Cn_split (fun h3 => ?_) (fun h3 => ?_)
  rotate_left
  · have : k = r.length := by simp at h3; omega
    subst this
    simp only [go_sem, ↓reduceIte, Nat.reduceLT, Nat.reduceLeDiff, Nat.reduceEqDiff, Nat.reduceAdd, Nat.reduceMul, Nat.reduceSub, reduceCtorEq, Int.reduceLT, Int.reduceLE, Int.reduceEq, Int.reduceToNat, decide_true, decide_false, Int.reduceNeg, Int.cast_ofNat_Int, sg, AO.sg, Option.isNone_none, hw]
    refine ih (i + 1) _ ⟨hlt, hgood hok⟩ (by omega) ?_
    (refine Wk.forget ?_; simp [Le, LeE, LeH, get, envIds, hpIds, KeepH, D.ids, idsL, AO.ids, setL, base, Nt.cs]; done)
  have hkt : k < r.length := by simp at h3; omega
  have hwk := wrap_succ k (by omega)
  have hgk := encI_get r k hkt
  have hk0 : (0 : Int) ≤ (k : Int) ∧ (k : Int) < (r.length : Int) := by omega
  have hat : okAt bl.length i r k ↔ (0 ≤ r.getD k 0 ∧ r.getD k 0 < (bl.length : Int) ∧ r.getD k 0 ≠ (i : Int) ∧ (0 < k → r.getD (k - 1) 0 < r.getD k 0)) := Iff.rfl
  have hne : ¬ okAt bl.length i r k → decide (blocksP ⟨bl, nx, sp, rb, cq, ca, cd, cp⟩) = false := fun h => hbad (fun hp => h (hp k hkt))
  have hyes : okAt bl.length i r k → ∀ j, j < k + 1 → okAt bl.length i r j := fun h j hj => by
    rcases Nat.lt_succ_iff_lt_or_eq.1 hj with h4 | rfl
    · exact hok j h4
    · exact h
  rcases k with _ | m
  · have hz0 : (0 : Int) < (r.length : Int) := by omega
    have hwz : IntKind.i64.wrap (0 + 1) = 1 := rfl
    generalize r.getD 0 0 = y at hgk hat
    cases c1 : decide (y < 0)
    rotate_left
    · simp only [go_sem, ↓reduceIte, Nat.reduceLT, Nat.reduceLeDiff, Nat.reduceEqDiff, Nat.reduceAdd, Nat.reduceMul, Nat.reduceSub, reduceCtorEq, Int.reduceLT, Int.reduceLE, Int.reduceEq, Int.reduceToNat, decide_true, decide_false, Int.reduceNeg, Int.cast_ofNat_Int, sg, AO.sg, Option.isNone_none, encG_len, encK_len, encI_len, Nt.cs, Int.toNat_natCast, hgi, hi0, hi1, hgk, hz0, c1]
      rw [hne (fun hp => by have := hat.1 hp; simp at c1; omega)]
    cases c2 : decide ((bl.length : Int) ≤ y)
    rotate_left
    · simp only [go_sem, ↓reduceIte, Nat.reduceLT, Nat.reduceLeDiff, Nat.reduceEqDiff, Nat.reduceAdd, Nat.reduceMul, Nat.reduceSub, reduceCtorEq, Int.reduceLT, Int.reduceLE, Int.reduceEq, Int.reduceToNat, decide_true, decide_false, Int.reduceNeg, Int.cast_ofNat_Int, sg, AO.sg, Option.isNone_none, encG_len, encK_len, encI_len, Nt.cs, Int.toNat_natCast, hgi, hi0, hi1, hgk, hz0, c1, c2]
      rw [hne (fun hp => by have := hat.1 hp; simp at c2; omega)]
    cases c3 : decide (y = (i : Int))
    rotate_left
    · simp only [go_sem, ↓reduceIte, Nat.reduceLT, Nat.reduceLeDiff, Nat.reduceEqDiff, Nat.reduceAdd, Nat.reduceMul, Nat.reduceSub, reduceCtorEq, Int.reduceLT, Int.reduceLE, Int.reduceEq, Int.reduceToNat, decide_true, decide_false, Int.reduceNeg, Int.cast_ofNat_Int, sg, AO.sg, Option.isNone_none, encG_len, encK_len, encI_len, Nt.cs, Int.toNat_natCast, hgi, hi0, hi1, hgk, hz0, c1, c2, c3]
      rw [hne (fun hp => by have := hat.1 hp; simp at c3; omega)]
    simp only [go_sem, ↓reduceIte, Nat.reduceLT, Nat.reduceLeDiff, Nat.reduceEqDiff, Nat.reduceAdd, Nat.reduceMul, Nat.reduceSub, reduceCtorEq, Int.reduceLT, Int.reduceLE, Int.reduceEq, Int.reduceToNat, decide_true, decide_false, Int.reduceNeg, Int.cast_ofNat_Int, sg, AO.sg, Option.isNone_none, encG_len, encK_len, encI_len, Nt.cs, Int.toNat_natCast, hgi, hi0, hi1, hgk, hz0, c1, c2, c3, hwz]
    refine ih2 (0 + 1) _ ⟨hkt, hyes (hat.2 (by simp at c1 c2 c3; exact ⟨by omega, by omega, c3, fun h => absurd h (Nat.lt_irrefl _)⟩))⟩ (by omega) ?_
    (refine Wk.forget ?_; simp [Le, LeE, LeH, get, envIds, hpIds, KeepH, D.ids, idsL, AO.ids, setL, base, Nt.cs]; done)
  · have hmt : m < r.length := by omega
    have hgm := encI_get r m hmt
    have hm0 : (0 : Int) ≤ (m : Int) ∧ (m : Int) < (r.length : Int) := by omega
    have hwp := wrap_pred m (by omega)
    have hkp : (0 : Int) < ((m + 1 : Nat) : Int) := by omega
    rw [show m + 1 - 1 = m from rfl] at hat
    generalize r.getD (m + 1) 0 = y at hgk hat
    generalize r.getD m 0 = z at hgm hat
    cases c1 : decide (y < 0)
    rotate_left
    · simp only [go_sem, ↓reduceIte, Nat.reduceLT, Nat.reduceLeDiff, Nat.reduceEqDiff, Nat.reduceAdd, Nat.reduceMul, Nat.reduceSub, reduceCtorEq, Int.reduceLT, Int.reduceLE, Int.reduceEq, Int.reduceToNat, decide_true, decide_false, Int.reduceNeg, Int.cast_ofNat_Int, sg, AO.sg, Option.isNone_none, encG_len, encK_len, encI_len, Nt.cs, Int.toNat_natCast, hgi, hi0, hi1, hgk, hk0, c1]
      rw [hne (fun hp => by have := hat.1 hp; simp at c1; omega)]
    cases c2 : decide ((bl.length : Int) ≤ y)
    rotate_left
    · simp only [go_sem, ↓reduceIte, Nat.reduceLT, Nat.reduceLeDiff, Nat.reduceEqDiff, Nat.reduceAdd, Nat.reduceMul, Nat.reduceSub, reduceCtorEq, Int.reduceLT, Int.reduceLE, Int.reduceEq, Int.reduceToNat, decide_true, decide_false, Int.reduceNeg, Int.cast_ofNat_Int, sg, AO.sg, Option.isNone_none, encG_len, encK_len, encI_len, Nt.cs, Int.toNat_natCast, hgi, hi0, hi1, hgk, hk0, c1, c2]
      rw [hne (fun hp => by have := hat.1 hp; simp at c2; omega)]
    cases c3 : decide (y = (i : Int))
    rotate_left
    · simp only [go_sem, ↓reduceIte, Nat.reduceLT, Nat.reduceLeDiff, Nat.reduceEqDiff, Nat.reduceAdd, Nat.reduceMul, Nat.reduceSub, reduceCtorEq, Int.reduceLT, Int.reduceLE, Int.reduceEq, Int.reduceToNat, decide_true, decide_false, Int.reduceNeg, Int.cast_ofNat_Int, sg, AO.sg, Option.isNone_none, encG_len, encK_len, encI_len, Nt.cs, Int.toNat_natCast, hgi, hi0, hi1, hgk, hk0, c1, c2, c3]
      rw [hne (fun hp => by have := hat.1 hp; simp at c3; omega)]
    cases c4 : decide (y ≤ z)
    rotate_left
    · simp only [go_sem, ↓reduceIte, Nat.reduceLT, Nat.reduceLeDiff, Nat.reduceEqDiff, Nat.reduceAdd, Nat.reduceMul, Nat.reduceSub, reduceCtorEq, Int.reduceLT, Int.reduceLE, Int.reduceEq, Int.reduceToNat, decide_true, decide_false, Int.reduceNeg, Int.cast_ofNat_Int, sg, AO.sg, Option.isNone_none, encG_len, encK_len, encI_len, Nt.cs, Int.toNat_natCast, hgi, hi0, hi1, hgk, hk0, hgm, hm0, hwp, hkp, c1, c2, c3, c4]
      rw [hne (fun hp => by have := (hat.1 hp).2.2.2 (by omega); simp at c4; omega)]
    simp only [go_sem, ↓reduceIte, Nat.reduceLT, Nat.reduceLeDiff, Nat.reduceEqDiff, Nat.reduceAdd, Nat.reduceMul, Nat.reduceSub, reduceCtorEq, Int.reduceLT, Int.reduceLE, Int.reduceEq, Int.reduceToNat, decide_true, decide_false, Int.reduceNeg, Int.cast_ofNat_Int, sg, AO.sg, Option.isNone_none, encG_len, encK_len, encI_len, Nt.cs, Int.toNat_natCast, hgi, hi0, hi1, hgk, hk0, hgm, hm0, hwp, hkp, c1, c2, c3, c4, hwk]
    refine ih2 (m + 1 + 1) _ ⟨hkt, hyes (hat.2 (by simp at c1 c2 c3 c4; exact ⟨by omega, by omega, c3, fun _ => by omega⟩))⟩ (by omega) ?_
    (refine Wk.forget ?_; simp [Le, LeE, LeH, get, envIds, hpIds, KeepH, D.ids, idsL, AO.ids, setL, base, Nt.cs]; done)
end Go.Am
