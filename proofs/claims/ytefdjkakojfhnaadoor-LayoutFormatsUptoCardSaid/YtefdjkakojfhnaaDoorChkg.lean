/- The reference's check of graphs. -/
import Derived.Test.YtefdjkakojfhnaaDoorHasi
namespace Go.Am
open Go Go.Proofs
set_option maxRecDepth 100000
set_option linter.unusedVariables false
set_option linter.unusedSimpArgs false
def okAt (nb i : Nat) (l : List Int) (k : Nat) : Prop := 0 ≤ l.getD k 0 ∧ l.getD k 0 < (nb : Int) ∧ l.getD k 0 ≠ (i : Int) ∧ (0 < k → l.getD (k - 1) 0 < l.getD k 0)
instance (nb i : Nat) (l : List Int) (k : Nat) : Decidable (okAt nb i l k) := by unfold okAt; exact inferInstance
def rowP (nb i : Nat) (l : List Int) : Prop := ∀ k, k < l.length → okAt nb i l k
instance (nb i : Nat) (l : List Int) : Decidable (rowP nb i l) := by unfold rowP; exact inferInstance
def gphP (g : List (List Int)) : Prop := g.length ≤ 24 ∧ ∀ i, i < g.length → rowP g.length i (g.getD i [])
instance (g : List (List Int)) : Decidable (gphP g) := by unfold gphP; exact inferInstance
def smallG (g : List (List Int)) : Prop := g.length ≤ 10000000 ∧ ∀ r ∈ g, r.length ≤ 10000000
theorem wrap_pred (m : Nat) (h : m < 9223372036854775807) : IntKind.i64.wrap (((m + 1 : Nat) : Int) - 1) = (m : Int) := by rw [wrap_i64_id] <;> omega
theorem valid4_ok (g : List (List Int)) (hg : smallG g) : ACalls Tryd.prog 104 [.p (.sl (encG g))] [] fun h r => h = [] ∧ r = .p (.bool (decide (gphP g))) := by
  obtain ⟨hg1, hg2⟩ := hg
  refine ACalls_X Tryd.func104 rfl enters104 (by simp [Tryd.f104]) ?_
  simp only [go_sem, ↓reduceIte, Nat.reduceLT, Nat.reduceLeDiff, Nat.reduceEqDiff, Nat.reduceAdd, Nat.reduceMul, Nat.reduceSub, reduceCtorEq, Int.reduceLT, Int.reduceLE, Int.reduceEq, Int.reduceToNat, decide_true, decide_false, Int.reduceNeg, Int.cast_ofNat_Int, sg, AO.sg, Option.isNone_none, encG_len]
  refine Cn_split (fun h1 => ?_) (fun h1 => ?_)
  · simp only [go_sem, ↓reduceIte, Nat.reduceLT, Nat.reduceLeDiff, Nat.reduceEqDiff, Nat.reduceAdd, Nat.reduceMul, Nat.reduceSub, reduceCtorEq, Int.reduceLT, Int.reduceLE, Int.reduceEq, Int.reduceToNat, decide_true, decide_false, Int.reduceNeg, Int.cast_ofNat_Int, sg, AO.sg, Option.isNone_none]
    rw [decide_eq_false (fun hp => ?_)]
    have := hp.1
    simp at h1
    omega
  have hlen : g.length ≤ 24 := by simp at h1; omega
  simp only [go_sem, ↓reduceIte, Nat.reduceLT, Nat.reduceLeDiff, Nat.reduceEqDiff, Nat.reduceAdd, Nat.reduceMul, Nat.reduceSub, reduceCtorEq, Int.reduceLT, Int.reduceLE, Int.reduceEq, Int.reduceToNat, decide_true, decide_false, Int.reduceNeg, Int.cast_ofNat_Int, sg, AO.sg, Option.isNone_none]
  refine X_loop_inv (fun i : Nat => ⟨[(0, .p (.sl (encG g))), (3, .p (.int .i64 (i : Nat)))], [], 60⟩) (fun i => i ≤ g.length ∧ ∀ j, j < i → rowP g.length j (g.getD j [])) (fun i => g.length - i) 0 ⟨Nat.zero_le _, fun j hj => absurd hj (Nat.not_lt_zero _)⟩ (Wk.forget (by simp [Le, LeE, LeH, get, envIds, hpIds, KeepH, D.ids, idsL, AO.ids, setL, base])) ?_
  rintro i n ⟨hi, hrows⟩ ih
  simp only [go_sem, ↓reduceIte, Nat.reduceLT, Nat.reduceLeDiff, Nat.reduceEqDiff, Nat.reduceAdd, Nat.reduceMul, Nat.reduceSub, reduceCtorEq, Int.reduceLT, Int.reduceLE, Int.reduceEq, Int.reduceToNat, decide_true, decide_false, Int.reduceNeg, Int.cast_ofNat_Int, sg, AO.sg, Option.isNone_none, encG_len]
  refine Cn_split (fun h2 => ?_) (fun h2 => ?_)
  rotate_left
  · simp only [go_sem, ↓reduceIte, Nat.reduceLT, Nat.reduceLeDiff, Nat.reduceEqDiff, Nat.reduceAdd, Nat.reduceMul, Nat.reduceSub, reduceCtorEq, Int.reduceLT, Int.reduceLE, Int.reduceEq, Int.reduceToNat, decide_true, decide_false, Int.reduceNeg, Int.cast_ofNat_Int, sg, AO.sg, Option.isNone_none]
    have : i = g.length := by simp at h2; omega
    subst this
    rw [decide_eq_true ⟨hlen, hrows⟩]
  have hlt : i < g.length := by simp at h2; omega
  have hw := wrap_succ i (by omega)
  have hrl := hg2 _ (getD_mem g i [] hlt)
  have hgi := encG_get g i hlt
  have hbad : ¬ rowP g.length i (g.getD i []) → decide (gphP g) = false := fun h => decide_eq_false (fun hp => h (hp.2 i hlt))
  have hgood : rowP g.length i (g.getD i []) → ∀ j, j < i + 1 → rowP g.length j (g.getD j []) := fun h j hj => by
    rcases Nat.lt_succ_iff_lt_or_eq.1 hj with h3 | rfl
    · exact hrows j h3
    · exact h
  generalize g.getD i [] = r at hrl hgi hbad hgood
  have hi0 : (0 : Int) ≤ (i : Int) ∧ (i : Int) < (g.length : Int) := by omega
  simp only [go_sem, ↓reduceIte, Nat.reduceLT, Nat.reduceLeDiff, Nat.reduceEqDiff, Nat.reduceAdd, Nat.reduceMul, Nat.reduceSub, reduceCtorEq, Int.reduceLT, Int.reduceLE, Int.reduceEq, Int.reduceToNat, decide_true, decide_false, Int.reduceNeg, Int.cast_ofNat_Int, sg, AO.sg, Option.isNone_none]
  refine X_loop_inv (fun k : Nat => ⟨[(0, .p (.sl (encG g))), (3, .p (.int .i64 (i : Nat))), (4, .p (.int .i64 (k : Nat)))], [], 60⟩) (fun k => k ≤ r.length ∧ ∀ j, j < k → okAt g.length i r j) (fun k => r.length - k) 0 ⟨Nat.zero_le _, fun j hj => absurd hj (Nat.not_lt_zero _)⟩ (Wk.forget (by simp [Le, LeE, LeH, get, envIds, hpIds, KeepH, D.ids, idsL, AO.ids, setL, base])) ?_
  rintro k n2 ⟨hk, hok⟩ ih2
  simp only [go_sem, ↓reduceIte, Nat.reduceLT, Nat.reduceLeDiff, Nat.reduceEqDiff, Nat.reduceAdd, Nat.reduceMul, Nat.reduceSub, reduceCtorEq, Int.reduceLT, Int.reduceLE, Int.reduceEq, Int.reduceToNat, decide_true, decide_false, Int.reduceNeg, Int.cast_ofNat_Int, sg, AO.sg, Option.isNone_none, encG_len, encI_len, Int.toNat_natCast, hgi, hi0]
  refine Cn_split (fun h3 => ?_) (fun h3 => ?_)
  rotate_left
  · have : k = r.length := by simp at h3; omega
    subst this
    simp only [go_sem, ↓reduceIte, Nat.reduceLT, Nat.reduceLeDiff, Nat.reduceEqDiff, Nat.reduceAdd, Nat.reduceMul, Nat.reduceSub, reduceCtorEq, Int.reduceLT, Int.reduceLE, Int.reduceEq, Int.reduceToNat, decide_true, decide_false, Int.reduceNeg, Int.cast_ofNat_Int, sg, AO.sg, Option.isNone_none, hw]
    refine ih (i + 1) _ ⟨hlt, hgood hok⟩ (by omega) ?_
    (refine Wk.forget ?_; simp [Le, LeE, LeH, get, envIds, hpIds, KeepH, D.ids, idsL, AO.ids, setL, base]; done)
  have hkt : k < r.length := by simp at h3; omega
  have hwk := wrap_succ k (by omega)
  have hgk := encI_get r k hkt
  have hk0 : (0 : Int) ≤ (k : Int) ∧ (k : Int) < (r.length : Int) := by omega
  have hat : okAt g.length i r k ↔ (0 ≤ r.getD k 0 ∧ r.getD k 0 < (g.length : Int) ∧ r.getD k 0 ≠ (i : Int) ∧ (0 < k → r.getD (k - 1) 0 < r.getD k 0)) := Iff.rfl
  have hne : ¬ okAt g.length i r k → decide (gphP g) = false := fun h => hbad (fun hp => h (hp k hkt))
  have hyes : okAt g.length i r k → ∀ j, j < k + 1 → okAt g.length i r j := fun h j hj => by
    rcases Nat.lt_succ_iff_lt_or_eq.1 hj with h4 | rfl
    · exact hok j h4
    · exact h
  rcases k with _ | m
  · have hz0 : (0 : Int) < (r.length : Int) := by omega
    have hwz : IntKind.i64.wrap (0 + 1) = 1 := rfl
    generalize r.getD 0 0 = y at hgk hat
    cases c1 : decide (y < 0)
    rotate_left
    · simp only [go_sem, ↓reduceIte, Nat.reduceLT, Nat.reduceLeDiff, Nat.reduceEqDiff, Nat.reduceAdd, Nat.reduceMul, Nat.reduceSub, reduceCtorEq, Int.reduceLT, Int.reduceLE, Int.reduceEq, Int.reduceToNat, decide_true, decide_false, Int.reduceNeg, Int.cast_ofNat_Int, sg, AO.sg, Option.isNone_none, encG_len, encI_len, Int.toNat_natCast, hgi, hi0, hgk, hz0, c1]
      rw [hne (fun hp => by have := hat.1 hp; simp at c1; omega)]
    cases c2 : decide ((g.length : Int) ≤ y)
    rotate_left
    · simp only [go_sem, ↓reduceIte, Nat.reduceLT, Nat.reduceLeDiff, Nat.reduceEqDiff, Nat.reduceAdd, Nat.reduceMul, Nat.reduceSub, reduceCtorEq, Int.reduceLT, Int.reduceLE, Int.reduceEq, Int.reduceToNat, decide_true, decide_false, Int.reduceNeg, Int.cast_ofNat_Int, sg, AO.sg, Option.isNone_none, encG_len, encI_len, Int.toNat_natCast, hgi, hi0, hgk, hz0, c1, c2]
      rw [hne (fun hp => by have := hat.1 hp; simp at c2; omega)]
    cases c3 : decide (y = (i : Int))
    rotate_left
    · simp only [go_sem, ↓reduceIte, Nat.reduceLT, Nat.reduceLeDiff, Nat.reduceEqDiff, Nat.reduceAdd, Nat.reduceMul, Nat.reduceSub, reduceCtorEq, Int.reduceLT, Int.reduceLE, Int.reduceEq, Int.reduceToNat, decide_true, decide_false, Int.reduceNeg, Int.cast_ofNat_Int, sg, AO.sg, Option.isNone_none, encG_len, encI_len, Int.toNat_natCast, hgi, hi0, hgk, hz0, c1, c2, c3]
      rw [hne (fun hp => by have := hat.1 hp; simp at c3; omega)]
    simp only [go_sem, ↓reduceIte, Nat.reduceLT, Nat.reduceLeDiff, Nat.reduceEqDiff, Nat.reduceAdd, Nat.reduceMul, Nat.reduceSub, reduceCtorEq, Int.reduceLT, Int.reduceLE, Int.reduceEq, Int.reduceToNat, decide_true, decide_false, Int.reduceNeg, Int.cast_ofNat_Int, sg, AO.sg, Option.isNone_none, encG_len, encI_len, Int.toNat_natCast, hgi, hi0, hgk, hz0, c1, c2, c3, hwz]
    refine ih2 (0 + 1) _ ⟨hkt, hyes (hat.2 (by simp at c1 c2 c3; exact ⟨by omega, by omega, c3, fun h => absurd h (Nat.lt_irrefl _)⟩))⟩ (by omega) ?_
    (refine Wk.forget ?_; simp [Le, LeE, LeH, get, envIds, hpIds, KeepH, D.ids, idsL, AO.ids, setL, base]; done)
  · have hmt : m < r.length := by omega
    have hgm := encI_get r m hmt
    have hm0 : (0 : Int) ≤ (m : Int) ∧ (m : Int) < (r.length : Int) := by omega
    have hwp := wrap_pred m (by omega)
    have hkp : (0 : Int) < ((m + 1 : Nat) : Int) := by omega
    rw [show m + 1 - 1 = m from rfl] at hat
    generalize r.getD (m + 1) 0 = y at hgk hat
    generalize r.getD m 0 = z at hgm hat
    cases c1 : decide (y < 0)
    rotate_left
    · simp only [go_sem, ↓reduceIte, Nat.reduceLT, Nat.reduceLeDiff, Nat.reduceEqDiff, Nat.reduceAdd, Nat.reduceMul, Nat.reduceSub, reduceCtorEq, Int.reduceLT, Int.reduceLE, Int.reduceEq, Int.reduceToNat, decide_true, decide_false, Int.reduceNeg, Int.cast_ofNat_Int, sg, AO.sg, Option.isNone_none, encG_len, encI_len, Int.toNat_natCast, hgi, hi0, hgk, hk0, c1]
      rw [hne (fun hp => by have := hat.1 hp; simp at c1; omega)]
    cases c2 : decide ((g.length : Int) ≤ y)
    rotate_left
    · simp only [go_sem, ↓reduceIte, Nat.reduceLT, Nat.reduceLeDiff, Nat.reduceEqDiff, Nat.reduceAdd, Nat.reduceMul, Nat.reduceSub, reduceCtorEq, Int.reduceLT, Int.reduceLE, Int.reduceEq, Int.reduceToNat, decide_true, decide_false, Int.reduceNeg, Int.cast_ofNat_Int, sg, AO.sg, Option.isNone_none, encG_len, encI_len, Int.toNat_natCast, hgi, hi0, hgk, hk0, c1, c2]
      rw [hne (fun hp => by have := hat.1 hp; simp at c2; omega)]
    cases c3 : decide (y = (i : Int))
    rotate_left
    · simp only [go_sem, ↓reduceIte, Nat.reduceLT, Nat.reduceLeDiff, Nat.reduceEqDiff, Nat.reduceAdd, Nat.reduceMul, Nat.reduceSub, reduceCtorEq, Int.reduceLT, Int.reduceLE, Int.reduceEq, Int.reduceToNat, decide_true, decide_false, Int.reduceNeg, Int.cast_ofNat_Int, sg, AO.sg, Option.isNone_none, encG_len, encI_len, Int.toNat_natCast, hgi, hi0, hgk, hk0, c1, c2, c3]
      rw [hne (fun hp => by have := hat.1 hp; simp at c3; omega)]
    cases c4 : decide (y ≤ z)
    rotate_left
    · simp only [go_sem, ↓reduceIte, Nat.reduceLT, Nat.reduceLeDiff, Nat.reduceEqDiff, Nat.reduceAdd, Nat.reduceMul, Nat.reduceSub, reduceCtorEq, Int.reduceLT, Int.reduceLE, Int.reduceEq, Int.reduceToNat, decide_true, decide_false, Int.reduceNeg, Int.cast_ofNat_Int, sg, AO.sg, Option.isNone_none, encG_len, encI_len, Int.toNat_natCast, hgi, hi0, hgk, hk0, hgm, hm0, hwp, hkp, c1, c2, c3, c4]
      rw [hne (fun hp => by have := (hat.1 hp).2.2.2 (by omega); simp at c4; omega)]
    simp only [go_sem, ↓reduceIte, Nat.reduceLT, Nat.reduceLeDiff, Nat.reduceEqDiff, Nat.reduceAdd, Nat.reduceMul, Nat.reduceSub, reduceCtorEq, Int.reduceLT, Int.reduceLE, Int.reduceEq, Int.reduceToNat, decide_true, decide_false, Int.reduceNeg, Int.cast_ofNat_Int, sg, AO.sg, Option.isNone_none, encG_len, encI_len, Int.toNat_natCast, hgi, hi0, hgk, hk0, hgm, hm0, hwp, hkp, c1, c2, c3, c4, hwk]
    refine ih2 (m + 1 + 1) _ ⟨hkt, hyes (hat.2 (by simp at c1 c2 c3 c4; exact ⟨by omega, by omega, c3, fun _ => by omega⟩))⟩ (by omega) ?_
    (refine Wk.forget ?_; simp [Le, LeE, LeH, get, envIds, hpIds, KeepH, D.ids, idsL, AO.ids, setL, base]; done)
end Go.Am
