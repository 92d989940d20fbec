/- The reference's check of networks. -/
import Derived.Test.YtefdjkakojfhnaaDoorDistv
namespace Go.Am
open Go Go.Proofs
set_option maxRecDepth 100000
set_option linter.unusedVariables false
set_option linter.unusedSimpArgs false
def sumS : List Spr → Int
  | [] => 0
  | s :: r => s.slots + sumS r
theorem sumS_snoc (l : List Spr) (s : Spr) : sumS (l ++ [s]) = sumS l + s.slots := by
  induction l with
  | nil => simp [sumS]
  | cons x r ih => simp only [List.cons_append, sumS, ih]; omega
theorem take_snoc {α : Type} (l : List α) (i : Nat) (x : α) (h : i < l.length) : l.take (i + 1) = l.take i ++ [l.getD i x] := by
  rw [List.take_add_one, List.getD, List.getElem?_eq_getElem h]; rfl
def spurP (nb : Nat) (b : Int) (s : Spr) : Prop := 0 ≤ s.inn ∧ s.inn < (nb : Int) ∧ 0 ≤ s.out ∧ s.out < (nb : Int) ∧ 1 ≤ s.slots ∧ s.slots ≤ 4 ∧ s.base = b
instance (nb : Nat) (b : Int) (s : Spr) : Decidable (spurP nb b s) := by unfold spurP; exact inferInstance
def inD (x : Int) (s : Spr) : Bool := s.depot && (decide (s.base ≤ x) && decide (x < s.base + s.slots))
def spursP (nb : Nat) (l : List Spr) : Prop := ∀ i, i < l.length → spurP nb (nb + sumS (l.take i)) (l.getD i spr0)
instance (nb : Nat) (l : List Spr) : Decidable (spursP nb l) := by unfold spursP; exact inferInstance
def robotsP (sp : List Spr) (l : List Int) : Prop := ∀ i, i < l.length → sp.any (inD (l.getD i 0)) = true ∧ l.getD i 0 ∉ l.take i
instance (sp : List Spr) (l : List Int) : Decidable (robotsP sp l) := by unfold robotsP; exact inferInstance
def validN (n : Nt) : Prop := blocksP n ∧ n.spurs.length ≤ 6 ∧ namesP n ∧ n.robots.length ≤ 8 ∧ cfgP n.cq n.ca n.cd n.cp ∧ spursP n.blocks.length n.spurs ∧ robotsP n.spurs n.robots ∧ 0 < (n.spurs.filter Spr.depot).length
instance (n : Nt) : Decidable (validN n) := by unfold validN; exact inferInstance
theorem encI_take2 (l : List Int) (i : Nat) : (encI l).take i = encI (l.take i) := by simp [encI, List.map_take]
theorem sumS_rng (nb : Nat) (l : List Spr) (k : Nat) (hk : k ≤ l.length) (h : ∀ j, j < k → spurP nb (nb + sumS (l.take j)) (l.getD j spr0)) : 0 ≤ sumS (l.take k) ∧ sumS (l.take k) ≤ 4 * k := by
  induction k with
  | zero => simp [sumS]
  | succ k ih =>
    have h1 := ih (by omega) (fun j hj => h j (by omega))
    have h2 := h k (by omega)
    rw [take_snoc l k spr0 (by omega), sumS_snoc]
    obtain ⟨_, _, _, _, h5, h6, _⟩ := h2
    omega
def smallN (n : Nt) : Prop := n.blocks.length ≤ 10000000 ∧ smallG n.next ∧ n.spurs.length ≤ 10000000 ∧ n.robots.length ≤ 10000000
set_option maxHeartbeats 1600000 in
theorem validN_ok (n : Nt) (hsm : smallN n) : ACalls Tryd.prog 46 [.agg n.cs] [] fun h r => h = [] ∧ r = .p (.bool (decide (validN n))) := by
  have hB := blocks_ok n hsm.1 hsm.2.1
  have hN := names_ok n hsm.1 hsm.2.2.1
  have hC := configured_ok n.cq n.ca n.cd n.cp
  obtain ⟨_, _, hs1, hr1⟩ := hsm
  refine ACalls_X Tryd.func46 rfl enters46 (by simp [Tryd.f46]) ?_
  simp only [go_sem, ↓reduceIte, Nat.reduceLT, Nat.reduceLeDiff, Nat.reduceEqDiff, Nat.reduceAdd, Nat.reduceMul, Nat.reduceSub, reduceCtorEq, Int.reduceLT, Int.reduceLE, Int.reduceEq, Int.reduceToNat, decide_true, decide_false, Int.reduceNeg, Int.cast_ofNat_Int, sg, AO.sg, Option.isNone_none, Nt.cs]
  refine Cc_of ((hB)) ?_
  rintro h' r ⟨rfl, rfl⟩
  cases d1 : decide (blocksP n)
  · simp only [go_sem, ↓reduceIte, Nat.reduceLT, Nat.reduceLeDiff, Nat.reduceEqDiff, Nat.reduceAdd, Nat.reduceMul, Nat.reduceSub, reduceCtorEq, Int.reduceLT, Int.reduceLE, Int.reduceEq, Int.reduceToNat, decide_true, decide_false, Int.reduceNeg, Int.cast_ofNat_Int, sg, AO.sg, Option.isNone_none, d1]
    rw [decide_eq_false (fun hp => of_decide_eq_false d1 hp.1)]
  cases d2 : decide (6 < (n.spurs.length : Int))
  rotate_left
  · simp only [go_sem, ↓reduceIte, Nat.reduceLT, Nat.reduceLeDiff, Nat.reduceEqDiff, Nat.reduceAdd, Nat.reduceMul, Nat.reduceSub, reduceCtorEq, Int.reduceLT, Int.reduceLE, Int.reduceEq, Int.reduceToNat, decide_true, decide_false, Int.reduceNeg, Int.cast_ofNat_Int, sg, AO.sg, Option.isNone_none, Nt.cs, encP_len, d1, d2]
    rw [decide_eq_false (fun hp => by have := hp.2.1; have := of_decide_eq_true d2; omega)]
  simp only [go_sem, ↓reduceIte, Nat.reduceLT, Nat.reduceLeDiff, Nat.reduceEqDiff, Nat.reduceAdd, Nat.reduceMul, Nat.reduceSub, reduceCtorEq, Int.reduceLT, Int.reduceLE, Int.reduceEq, Int.reduceToNat, decide_true, decide_false, Int.reduceNeg, Int.cast_ofNat_Int, sg, AO.sg, Option.isNone_none, Nt.cs, encP_len, d1, d2]
  refine Cc_of ((hN)) ?_
  rintro h' r ⟨rfl, rfl⟩
  cases d3 : decide (namesP n)
  · simp only [go_sem, ↓reduceIte, Nat.reduceLT, Nat.reduceLeDiff, Nat.reduceEqDiff, Nat.reduceAdd, Nat.reduceMul, Nat.reduceSub, reduceCtorEq, Int.reduceLT, Int.reduceLE, Int.reduceEq, Int.reduceToNat, decide_true, decide_false, Int.reduceNeg, Int.cast_ofNat_Int, sg, AO.sg, Option.isNone_none, d3]
    rw [decide_eq_false (fun hp => of_decide_eq_false d3 hp.2.2.1)]
  cases d4 : decide (8 < (n.robots.length : Int))
  rotate_left
  · simp only [go_sem, ↓reduceIte, Nat.reduceLT, Nat.reduceLeDiff, Nat.reduceEqDiff, Nat.reduceAdd, Nat.reduceMul, Nat.reduceSub, reduceCtorEq, Int.reduceLT, Int.reduceLE, Int.reduceEq, Int.reduceToNat, decide_true, decide_false, Int.reduceNeg, Int.cast_ofNat_Int, sg, AO.sg, Option.isNone_none, Nt.cs, encI_len, d3, d4]
    rw [decide_eq_false (fun hp => by have := hp.2.2.2.1; have := of_decide_eq_true d4; omega)]
  simp only [go_sem, ↓reduceIte, Nat.reduceLT, Nat.reduceLeDiff, Nat.reduceEqDiff, Nat.reduceAdd, Nat.reduceMul, Nat.reduceSub, reduceCtorEq, Int.reduceLT, Int.reduceLE, Int.reduceEq, Int.reduceToNat, decide_true, decide_false, Int.reduceNeg, Int.cast_ofNat_Int, sg, AO.sg, Option.isNone_none, Nt.cs, encI_len, d3, d4]
  refine Cc_of ((hC)) ?_
  rintro h' r ⟨rfl, rfl⟩
  cases d5 : decide (cfgP n.cq n.ca n.cd n.cp)
  · simp only [go_sem, ↓reduceIte, Nat.reduceLT, Nat.reduceLeDiff, Nat.reduceEqDiff, Nat.reduceAdd, Nat.reduceMul, Nat.reduceSub, reduceCtorEq, Int.reduceLT, Int.reduceLE, Int.reduceEq, Int.reduceToNat, decide_true, decide_false, Int.reduceNeg, Int.cast_ofNat_Int, sg, AO.sg, Option.isNone_none, d5]
    rw [decide_eq_false (fun hp => of_decide_eq_false d5 hp.2.2.2.2.1)]
  simp only [go_sem, ↓reduceIte, Nat.reduceLT, Nat.reduceLeDiff, Nat.reduceEqDiff, Nat.reduceAdd, Nat.reduceMul, Nat.reduceSub, reduceCtorEq, Int.reduceLT, Int.reduceLE, Int.reduceEq, Int.reduceToNat, decide_true, decide_false, Int.reduceNeg, Int.cast_ofNat_Int, sg, AO.sg, Option.isNone_none, Nt.cs, encK_len, d5]
  clear hB hN hC
  have e1 := of_decide_eq_true d1
  have e2 := of_decide_eq_false d2
  have e3 := of_decide_eq_true d3
  have e4 := of_decide_eq_false d4
  have e5 := of_decide_eq_true d5
  clear d1 d2 d3 d4 d5
  have hb24 : n.blocks.length ≤ 24 := e1.2.1
  refine X_loop_inv (fun i : Nat => ⟨[(1, .ptr 1 0), (3, .p (.int .i64 ((n.blocks.length : Int) + sumS (n.spurs.take i)))), (4, .p (.int .i64 (((n.spurs.take i).filter Spr.depot).length : Nat))), (5, .p (.int .i64 (i : Nat)))], [(1, .box (Nt.cs n))], 163⟩)
    (fun i => i ≤ n.spurs.length ∧ ∀ j, j < i → spurP n.blocks.length (n.blocks.length + sumS (n.spurs.take j)) (n.spurs.getD j spr0)) (fun i => n.spurs.length - i) 0 ⟨Nat.zero_le _, fun j hj => absurd hj (Nat.not_lt_zero _)⟩ (Wk.forget (by simp [Le, LeE, LeH, get, envIds, hpIds, KeepH, D.ids, idsL, AO.ids, setL, base, Nt.cs, sumS])) ?_
  rintro i m ⟨hi, hall⟩ ih
  simp only [go_sem, ↓reduceIte, Nat.reduceLT, Nat.reduceLeDiff, Nat.reduceEqDiff, Nat.reduceAdd, Nat.reduceMul, Nat.reduceSub, reduceCtorEq, Int.reduceLT, Int.reduceLE, Int.reduceEq, Int.reduceToNat, decide_true, decide_false, Int.reduceNeg, Int.cast_ofNat_Int, sg, AO.sg, Option.isNone_none, Nt.cs, encP_len]
  refine Cn_split (fun h2 => ?_) (fun h2 => ?_)
  · have hlt : i < n.spurs.length := by simp at h2; omega
    have hw := wrap_succ i (by omega)
    have hg := encP_get n.spurs i hlt
    have hi0 : (0 : Int) ≤ (i : Int) ∧ (i : Int) < (n.spurs.length : Int) := by omega
    have hrng := sumS_rng n.blocks.length n.spurs i hi hall
    have hbad : ¬ spurP n.blocks.length (n.blocks.length + sumS (n.spurs.take i)) (n.spurs.getD i spr0) → decide (validN n) = false := fun h => decide_eq_false (fun hp => h (hp.2.2.2.2.2.1 i hlt))
    have hgood : spurP n.blocks.length (n.blocks.length + sumS (n.spurs.take i)) (n.spurs.getD i spr0) → ∀ j, j < i + 1 → spurP n.blocks.length (n.blocks.length + sumS (n.spurs.take j)) (n.spurs.getD j spr0) := fun h j hj => by
      rcases Nat.lt_succ_iff_lt_or_eq.1 hj with h3 | rfl
      · exact hall j h3
      · exact h
    have hts := take_snoc n.spurs i spr0 hlt
    have hfl : ((n.spurs.take i).filter Spr.depot).length ≤ i := by
      refine Nat.le_trans (List.length_filter_le _ _) ?_
      simp; omega
    generalize n.spurs.getD i spr0 = s at *
    obtain ⟨nm, dp, inn, out, sl, bs⟩ := s
    simp only [spurP] at hbad hgood
    generalize hS : sumS (n.spurs.take i) = S at *
    generalize hD : ((n.spurs.take i).filter Spr.depot).length = dn at *
    cases c1 : decide (inn < 0)
    rotate_left
    · simp only [go_sem, ↓reduceIte, Nat.reduceLT, Nat.reduceLeDiff, Nat.reduceEqDiff, Nat.reduceAdd, Nat.reduceMul, Nat.reduceSub, reduceCtorEq, Int.reduceLT, Int.reduceLE, Int.reduceEq, Int.reduceToNat, decide_true, decide_false, Int.reduceNeg, Int.cast_ofNat_Int, sg, AO.sg, Option.isNone_none, Nt.cs, encP_len, encK_len, Int.toNat_natCast, hg, hi0, c1]
      rw [hbad (fun hp => by have := of_decide_eq_true c1; omega)]
    cases c2 : decide ((n.blocks.length : Int) ≤ inn)
    rotate_left
    · simp only [go_sem, ↓reduceIte, Nat.reduceLT, Nat.reduceLeDiff, Nat.reduceEqDiff, Nat.reduceAdd, Nat.reduceMul, Nat.reduceSub, reduceCtorEq, Int.reduceLT, Int.reduceLE, Int.reduceEq, Int.reduceToNat, decide_true, decide_false, Int.reduceNeg, Int.cast_ofNat_Int, sg, AO.sg, Option.isNone_none, Nt.cs, encP_len, encK_len, Int.toNat_natCast, hg, hi0, c1, c2]
      rw [hbad (fun hp => by have := of_decide_eq_true c2; omega)]
    cases c3 : decide (out < 0)
    rotate_left
    · simp only [go_sem, ↓reduceIte, Nat.reduceLT, Nat.reduceLeDiff, Nat.reduceEqDiff, Nat.reduceAdd, Nat.reduceMul, Nat.reduceSub, reduceCtorEq, Int.reduceLT, Int.reduceLE, Int.reduceEq, Int.reduceToNat, decide_true, decide_false, Int.reduceNeg, Int.cast_ofNat_Int, sg, AO.sg, Option.isNone_none, Nt.cs, encP_len, encK_len, Int.toNat_natCast, hg, hi0, c1, c2, c3]
      rw [hbad (fun hp => by have := of_decide_eq_true c3; omega)]
    cases c4 : decide ((n.blocks.length : Int) ≤ out)
    rotate_left
    · simp only [go_sem, ↓reduceIte, Nat.reduceLT, Nat.reduceLeDiff, Nat.reduceEqDiff, Nat.reduceAdd, Nat.reduceMul, Nat.reduceSub, reduceCtorEq, Int.reduceLT, Int.reduceLE, Int.reduceEq, Int.reduceToNat, decide_true, decide_false, Int.reduceNeg, Int.cast_ofNat_Int, sg, AO.sg, Option.isNone_none, Nt.cs, encP_len, encK_len, Int.toNat_natCast, hg, hi0, c1, c2, c3, c4]
      rw [hbad (fun hp => by have := of_decide_eq_true c4; omega)]
    cases c5 : decide (sl < 1)
    rotate_left
    · simp only [go_sem, ↓reduceIte, Nat.reduceLT, Nat.reduceLeDiff, Nat.reduceEqDiff, Nat.reduceAdd, Nat.reduceMul, Nat.reduceSub, reduceCtorEq, Int.reduceLT, Int.reduceLE, Int.reduceEq, Int.reduceToNat, decide_true, decide_false, Int.reduceNeg, Int.cast_ofNat_Int, sg, AO.sg, Option.isNone_none, Nt.cs, encP_len, encK_len, Int.toNat_natCast, hg, hi0, c1, c2, c3, c4, c5]
      rw [hbad (fun hp => by have := of_decide_eq_true c5; omega)]
    cases c6 : decide (4 < sl)
    rotate_left
    · simp only [go_sem, ↓reduceIte, Nat.reduceLT, Nat.reduceLeDiff, Nat.reduceEqDiff, Nat.reduceAdd, Nat.reduceMul, Nat.reduceSub, reduceCtorEq, Int.reduceLT, Int.reduceLE, Int.reduceEq, Int.reduceToNat, decide_true, decide_false, Int.reduceNeg, Int.cast_ofNat_Int, sg, AO.sg, Option.isNone_none, Nt.cs, encP_len, encK_len, Int.toNat_natCast, hg, hi0, c1, c2, c3, c4, c5, c6]
      rw [hbad (fun hp => by have := of_decide_eq_true c6; omega)]
    cases c7 : decide (bs = (n.blocks.length : Int) + S)
    · simp only [go_sem, ↓reduceIte, Nat.reduceLT, Nat.reduceLeDiff, Nat.reduceEqDiff, Nat.reduceAdd, Nat.reduceMul, Nat.reduceSub, reduceCtorEq, Int.reduceLT, Int.reduceLE, Int.reduceEq, Int.reduceToNat, decide_true, decide_false, Int.reduceNeg, Int.cast_ofNat_Int, sg, AO.sg, Option.isNone_none, Nt.cs, encP_len, encK_len, Int.toNat_natCast, hg, hi0, c1, c2, c3, c4, c5, c6, c7]
      rw [hbad (fun hp => by have := of_decide_eq_false c7; omega)]
    have hsl : 1 ≤ sl ∧ sl ≤ 4 := by have := of_decide_eq_false c5; have := of_decide_eq_false c6; omega
    have hwb : IntKind.i64.wrap ((n.blocks.length : Int) + S + sl) = (n.blocks.length : Int) + S + sl := by rw [wrap_i64_id] <;> omega
    have hok := hgood (by have := of_decide_eq_false c1; have := of_decide_eq_false c2; have := of_decide_eq_false c3; have := of_decide_eq_false c4; have := of_decide_eq_true c7; omega)
    have hwd := wrap_succ dn (by omega)
    cases dp
    · simp only [go_sem, ↓reduceIte, Nat.reduceLT, Nat.reduceLeDiff, Nat.reduceEqDiff, Nat.reduceAdd, Nat.reduceMul, Nat.reduceSub, reduceCtorEq, Int.reduceLT, Int.reduceLE, Int.reduceEq, Int.reduceToNat, decide_true, decide_false, Int.reduceNeg, Int.cast_ofNat_Int, sg, AO.sg, Option.isNone_none, Nt.cs, encP_len, encK_len, Int.toNat_natCast, hg, hi0, c1, c2, c3, c4, c5, c6, c7, hwb, hw]
      refine ih (i + 1) _ ⟨hlt, hok⟩ (by omega) ?_
      (refine Wk.forget ?_; simp [Le, LeE, LeH, get, envIds, hpIds, KeepH, D.ids, idsL, AO.ids, setL, base, Nt.cs, hts, sumS_snoc, hS, hD, Int.add_assoc]; done)
    · simp only [go_sem, ↓reduceIte, Nat.reduceLT, Nat.reduceLeDiff, Nat.reduceEqDiff, Nat.reduceAdd, Nat.reduceMul, Nat.reduceSub, reduceCtorEq, Int.reduceLT, Int.reduceLE, Int.reduceEq, Int.reduceToNat, decide_true, decide_false, Int.reduceNeg, Int.cast_ofNat_Int, sg, AO.sg, Option.isNone_none, Nt.cs, encP_len, encK_len, Int.toNat_natCast, hg, hi0, c1, c2, c3, c4, c5, c6, c7, hwb, hw, hwd]
      refine ih (i + 1) _ ⟨hlt, hok⟩ (by omega) ?_
      (refine Wk.forget ?_; simp [Le, LeE, LeH, get, envIds, hpIds, KeepH, D.ids, idsL, AO.ids, setL, base, Nt.cs, hts, sumS_snoc, hS, hD, Int.add_assoc]; done)
  have : i = n.spurs.length := by simp at h2; omega
  subst this
  have hsp : spursP n.blocks.length n.spurs := hall
  rw [List.take_length]
  have hbnd : ∀ k, k < n.spurs.length → 0 ≤ (n.spurs.getD k spr0).base ∧ (n.spurs.getD k spr0).base ≤ 1000 ∧ 1 ≤ (n.spurs.getD k spr0).slots ∧ (n.spurs.getD k spr0).slots ≤ 4 := fun k hk => by
    have h3 := hsp k hk
    have h4 := sumS_rng n.blocks.length n.spurs k (by omega) (fun j hj => hsp j (by omega))
    obtain ⟨_, _, _, _, h5, h6, h7⟩ := h3
    omega
  clear ih hall
  generalize hD : (n.spurs.filter Spr.depot).length = dn
  simp only [go_sem, ↓reduceIte, Nat.reduceLT, Nat.reduceLeDiff, Nat.reduceEqDiff, Nat.reduceAdd, Nat.reduceMul, Nat.reduceSub, reduceCtorEq, Int.reduceLT, Int.reduceLE, Int.reduceEq, Int.reduceToNat, decide_true, decide_false, Int.reduceNeg, Int.cast_ofNat_Int, sg, AO.sg, Option.isNone_none]
  refine X_loop_inv (fun i : Nat => ⟨[(1, .ptr 1 0), (4, .p (.int .i64 (dn : Nat))), (7, .p (.int .i64 (i : Nat)))], [(1, .box (Nt.cs n))], 163⟩)
    (fun i => i ≤ n.robots.length ∧ ∀ j, j < i → n.spurs.any (inD (n.robots.getD j 0)) = true ∧ n.robots.getD j 0 ∉ n.robots.take j) (fun i => n.robots.length - i) 0 ⟨Nat.zero_le _, fun j hj => absurd hj (Nat.not_lt_zero _)⟩ (Wk.forget (by simp [Le, LeE, LeH, get, envIds, hpIds, KeepH, D.ids, idsL, AO.ids, setL, base, Nt.cs])) ?_
  rintro i m2 ⟨hi2, hall⟩ ih
  simp only [go_sem, ↓reduceIte, Nat.reduceLT, Nat.reduceLeDiff, Nat.reduceEqDiff, Nat.reduceAdd, Nat.reduceMul, Nat.reduceSub, reduceCtorEq, Int.reduceLT, Int.reduceLE, Int.reduceEq, Int.reduceToNat, decide_true, decide_false, Int.reduceNeg, Int.cast_ofNat_Int, sg, AO.sg, Option.isNone_none, Nt.cs, encI_len]
  refine Cn_split (fun h3 => ?_) (fun h3 => ?_)
  rotate_left
  · simp only [go_sem, ↓reduceIte, Nat.reduceLT, Nat.reduceLeDiff, Nat.reduceEqDiff, Nat.reduceAdd, Nat.reduceMul, Nat.reduceSub, reduceCtorEq, Int.reduceLT, Int.reduceLE, Int.reduceEq, Int.reduceToNat, decide_true, decide_false, Int.reduceNeg, Int.cast_ofNat_Int, sg, AO.sg, Option.isNone_none]
    have : i = n.robots.length := by simp at h3; omega
    subst this
    have hv : decide (validN n) = decide (0 < (dn : Int)) := by
      by_cases hdn : 0 < dn
      · rw [decide_eq_true (show validN n from ⟨e1, by omega, e3, by omega, e5, hsp, hall, by rw [hD]; exact hdn⟩), decide_eq_true (by omega)]
      · rw [decide_eq_false (fun hp : validN n => hdn (by have := hp.2.2.2.2.2.2.2; rw [hD] at this; exact this)), decide_eq_false (by omega)]
    rw [hv]
    try simp
  have hlt : i < n.robots.length := by simp at h3; omega
  have hw := wrap_succ i (by omega)
  have hgr := encI_get n.robots i hlt
  have hi0 : (0 : Int) ≤ (i : Int) ∧ (i : Int) < (n.robots.length : Int) := by omega
  have hbad : ¬ (n.spurs.any (inD (n.robots.getD i 0)) = true ∧ n.robots.getD i 0 ∉ n.robots.take i) → decide (validN n) = false := fun h => decide_eq_false (fun hp => h (hp.2.2.2.2.2.2.1 i hlt))
  have hgood : (n.spurs.any (inD (n.robots.getD i 0)) = true ∧ n.robots.getD i 0 ∉ n.robots.take i) → ∀ j, j < i + 1 → n.spurs.any (inD (n.robots.getD j 0)) = true ∧ n.robots.getD j 0 ∉ n.robots.take j := fun h j hj => by
    rcases Nat.lt_succ_iff_lt_or_eq.1 hj with h3 | rfl
    · exact hall j h3
    · exact h
  generalize n.robots.getD i 0 = x at hgr hbad hgood
  simp only [go_sem, ↓reduceIte, Nat.reduceLT, Nat.reduceLeDiff, Nat.reduceEqDiff, Nat.reduceAdd, Nat.reduceMul, Nat.reduceSub, reduceCtorEq, Int.reduceLT, Int.reduceLE, Int.reduceEq, Int.reduceToNat, decide_true, decide_false, Int.reduceNeg, Int.cast_ofNat_Int, sg, AO.sg, Option.isNone_none]
  refine X_loop_inv (fun k : Nat => ⟨[(1, .ptr 1 0), (4, .p (.int .i64 (dn : Nat))), (7, .p (.int .i64 (i : Nat))), (8, .p (.bool ((n.spurs.take k).any (inD x)))), (9, .p (.int .i64 (k : Nat)))], [(1, .box (Nt.cs n))], 163⟩)
    (fun k => k ≤ n.spurs.length) (fun k => n.spurs.length - k) 0 (Nat.zero_le _) (Wk.forget (by simp [Le, LeE, LeH, get, envIds, hpIds, KeepH, D.ids, idsL, AO.ids, setL, base, Nt.cs])) ?_
  rintro k m3 hk ih2
  simp only [go_sem, ↓reduceIte, Nat.reduceLT, Nat.reduceLeDiff, Nat.reduceEqDiff, Nat.reduceAdd, Nat.reduceMul, Nat.reduceSub, reduceCtorEq, Int.reduceLT, Int.reduceLE, Int.reduceEq, Int.reduceToNat, decide_true, decide_false, Int.reduceNeg, Int.cast_ofNat_Int, sg, AO.sg, Option.isNone_none, Nt.cs, encP_len]
  refine Cn_split (fun h4 => ?_) (fun h4 => ?_)
  · have hkt : k < n.spurs.length := by simp at h4; omega
    have hwk := wrap_succ k (by omega)
    have hgk := encP_get n.spurs k hkt
    have hk0 : (0 : Int) ≤ (k : Int) ∧ (k : Int) < (n.spurs.length : Int) := by omega
    have hb := hbnd k hkt
    have hts := take_snoc n.spurs k spr0 hkt
    generalize n.spurs.getD k spr0 = s at *
    obtain ⟨nm, dp, inn, out, sl, bs⟩ := s
    simp only at hb
    have hwb : IntKind.i64.wrap (bs + sl) = bs + sl := by rw [wrap_i64_id] <;> omega
    have han : (n.spurs.take (k + 1)).any (inD x) = ((n.spurs.take k).any (inD x) || (dp && (decide (bs ≤ x) && decide (x < bs + sl)))) := by
      rw [hts, List.any_append]; simp [inD]
    generalize (n.spurs.take k).any (inD x) = ok at *
    simp only [go_sem, ↓reduceIte, Nat.reduceLT, Nat.reduceLeDiff, Nat.reduceEqDiff, Nat.reduceAdd, Nat.reduceMul, Nat.reduceSub, reduceCtorEq, Int.reduceLT, Int.reduceLE, Int.reduceEq, Int.reduceToNat, decide_true, decide_false, Int.reduceNeg, Int.cast_ofNat_Int, sg, AO.sg, Option.isNone_none, Nt.cs, encP_len, Int.toNat_natCast, hgk, hk0]
    refine X_any0 mixed (p := [(0, 0), (1, 0), (2, 0), (3, 0), (4, 0), (5, 0), (6, 0), (7, 0), (8, 0), (9, 0), (10, 0), (11, 0), (12, 0), (13, 0), (14, 0), (15, 0), (16, 0), (17, 0), (18, 0), (19, 0), (20, 0), (21, 0), (22, 0), (23, 0), (24, 0), (25, 0), (26, 0), (27, 0), (28, 0)]) (by kernel_rfl) (by simp [LeH, get]) ?_
    cases ok
    rotate_left
    · simp only [go_sem, ↓reduceIte, Nat.reduceLT, Nat.reduceLeDiff, Nat.reduceEqDiff, Nat.reduceAdd, Nat.reduceMul, Nat.reduceSub, reduceCtorEq, Int.reduceLT, Int.reduceLE, Int.reduceEq, Int.reduceToNat, decide_true, decide_false, Int.reduceNeg, Int.cast_ofNat_Int, sg, AO.sg, Option.isNone_none, Nt.cs, hwk]
      refine ih2 (k + 1) _ hkt (by omega) ?_
      (refine Wk.forget ?_; simp [Le, LeE, LeH, get, envIds, hpIds, KeepH, D.ids, idsL, AO.ids, setL, base, Nt.cs, han]; done)
    cases dp
    · simp only [go_sem, ↓reduceIte, Nat.reduceLT, Nat.reduceLeDiff, Nat.reduceEqDiff, Nat.reduceAdd, Nat.reduceMul, Nat.reduceSub, reduceCtorEq, Int.reduceLT, Int.reduceLE, Int.reduceEq, Int.reduceToNat, decide_true, decide_false, Int.reduceNeg, Int.cast_ofNat_Int, sg, AO.sg, Option.isNone_none, Nt.cs, hwk]
      refine ih2 (k + 1) _ hkt (by omega) ?_
      (refine Wk.forget ?_; simp [Le, LeE, LeH, get, envIds, hpIds, KeepH, D.ids, idsL, AO.ids, setL, base, Nt.cs, han]; done)
    cases c1 : decide (bs ≤ x)
    · simp only [go_sem, ↓reduceIte, Nat.reduceLT, Nat.reduceLeDiff, Nat.reduceEqDiff, Nat.reduceAdd, Nat.reduceMul, Nat.reduceSub, reduceCtorEq, Int.reduceLT, Int.reduceLE, Int.reduceEq, Int.reduceToNat, decide_true, decide_false, Int.reduceNeg, Int.cast_ofNat_Int, sg, AO.sg, Option.isNone_none, Nt.cs, encI_len, Int.toNat_natCast, hgr, hi0, c1, hwk]
      refine ih2 (k + 1) _ hkt (by omega) ?_
      (refine Wk.forget ?_; simp [Le, LeE, LeH, get, envIds, hpIds, KeepH, D.ids, idsL, AO.ids, setL, base, Nt.cs, han, c1]; done)
    cases c2 : decide (x < bs + sl)
    · simp only [go_sem, ↓reduceIte, Nat.reduceLT, Nat.reduceLeDiff, Nat.reduceEqDiff, Nat.reduceAdd, Nat.reduceMul, Nat.reduceSub, reduceCtorEq, Int.reduceLT, Int.reduceLE, Int.reduceEq, Int.reduceToNat, decide_true, decide_false, Int.reduceNeg, Int.cast_ofNat_Int, sg, AO.sg, Option.isNone_none, Nt.cs, encI_len, Int.toNat_natCast, hgr, hi0, c1, hwb, c2, hwk]
      refine ih2 (k + 1) _ hkt (by omega) ?_
      (refine Wk.forget ?_; simp [Le, LeE, LeH, get, envIds, hpIds, KeepH, D.ids, idsL, AO.ids, setL, base, Nt.cs, han, c1, c2]; done)
    · simp only [go_sem, ↓reduceIte, Nat.reduceLT, Nat.reduceLeDiff, Nat.reduceEqDiff, Nat.reduceAdd, Nat.reduceMul, Nat.reduceSub, reduceCtorEq, Int.reduceLT, Int.reduceLE, Int.reduceEq, Int.reduceToNat, decide_true, decide_false, Int.reduceNeg, Int.cast_ofNat_Int, sg, AO.sg, Option.isNone_none, Nt.cs, encI_len, Int.toNat_natCast, hgr, hi0, c1, hwb, c2, hwk]
      refine ih2 (k + 1) _ hkt (by omega) ?_
      (refine Wk.forget ?_; simp [Le, LeE, LeH, get, envIds, hpIds, KeepH, D.ids, idsL, AO.ids, setL, base, Nt.cs, han, c1, c2]; done)
  have : k = n.spurs.length := by simp at h4; omega
  subst this
  rw [List.take_length]
  simp only [go_sem, ↓reduceIte, Nat.reduceLT, Nat.reduceLeDiff, Nat.reduceEqDiff, Nat.reduceAdd, Nat.reduceMul, Nat.reduceSub, reduceCtorEq, Int.reduceLT, Int.reduceLE, Int.reduceEq, Int.reduceToNat, decide_true, decide_false, Int.reduceNeg, Int.cast_ofNat_Int, sg, AO.sg, Option.isNone_none]
  refine X_any0 mixed (p := [(0, 0), (1, 0), (2, 0), (3, 0), (4, 0), (5, 0), (6, 0), (7, 0), (8, 0), (9, 0), (10, 0), (11, 0), (12, 2), (13, 0)]) (by kernel_rfl) (by simp [LeH, get]) ?_
  cases ho : n.spurs.any (inD x)
  · simp only [go_sem, ↓reduceIte, Nat.reduceLT, Nat.reduceLeDiff, Nat.reduceEqDiff, Nat.reduceAdd, Nat.reduceMul, Nat.reduceSub, reduceCtorEq, Int.reduceLT, Int.reduceLE, Int.reduceEq, Int.reduceToNat, decide_true, decide_false, Int.reduceNeg, Int.cast_ofNat_Int, sg, AO.sg, Option.isNone_none, ho]
    rw [hbad (fun hp => by rw [ho] at hp; cases hp.1)]
  simp only [go_sem, ↓reduceIte, Nat.reduceLT, Nat.reduceLeDiff, Nat.reduceEqDiff, Nat.reduceAdd, Nat.reduceMul, Nat.reduceSub, reduceCtorEq, Int.reduceLT, Int.reduceLE, Int.reduceEq, Int.reduceToNat, decide_true, decide_false, Int.reduceNeg, Int.cast_ofNat_Int, sg, AO.sg, Option.isNone_none, Nt.cs, encI_len, Int.toNat_natCast, hgr, hi0, ho, encI_take2]
  refine ⟨⟨by omega, by simp [Wid, encI]⟩, ?_⟩
  refine Gh_of ((has_ok (n.robots.take i) x (by simp; omega))) ?_
  rintro h' r ⟨rfl, rfl⟩
  cases hh : decide (x ∈ n.robots.take i)
  · simp only [go_sem, ↓reduceIte, Nat.reduceLT, Nat.reduceLeDiff, Nat.reduceEqDiff, Nat.reduceAdd, Nat.reduceMul, Nat.reduceSub, reduceCtorEq, Int.reduceLT, Int.reduceLE, Int.reduceEq, Int.reduceToNat, decide_true, decide_false, Int.reduceNeg, Int.cast_ofNat_Int, sg, AO.sg, Option.isNone_none, hh, hw]
    refine ih (i + 1) _ ⟨hlt, hgood ⟨ho, of_decide_eq_false hh⟩⟩ (by omega) ?_
    (refine Wk.forget ?_; simp [Le, LeE, LeH, get, envIds, hpIds, KeepH, D.ids, idsL, AO.ids, setL, base, Nt.cs]; done)
  · simp only [go_sem, ↓reduceIte, Nat.reduceLT, Nat.reduceLeDiff, Nat.reduceEqDiff, Nat.reduceAdd, Nat.reduceMul, Nat.reduceSub, reduceCtorEq, Int.reduceLT, Int.reduceLE, Int.reduceEq, Int.reduceToNat, decide_true, decide_false, Int.reduceNeg, Int.cast_ofNat_Int, sg, AO.sg, Option.isNone_none, hh]
    rw [hbad (fun hp => hp.2 (of_decide_eq_true hh))]
end Go.Am
