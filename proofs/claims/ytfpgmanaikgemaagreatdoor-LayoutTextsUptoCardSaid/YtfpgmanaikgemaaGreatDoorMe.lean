/- Texts of this proof, merged: Distv, Nval, Distw, Girw, Girx, Flee, Flef. -/
import Derived.Test.YtfpgmanaikgemaaGreatDoorMd
section
/- The reference's distances, as a law in plain Lean. -/
namespace Go.Am
open Go Go.Proofs
set_option maxRecDepth 100000
set_option linter.unusedVariables false
set_option linter.unusedSimpArgs false
def encT (l : List Bool) : List (List Pd) := l.map fun b => [.bool b]
theorem encT_len (l : List Bool) : (encT l).length = l.length := by simp [encT]
theorem encT_get (l : List Bool) (i : Nat) (h : i < l.length) : (encT l).getD i [] = [.bool (l.getD i false)] := by simp [encT, List.getD, h]
theorem getD_set {α : Type} (l : List α) (i j : Nat) (x y : α) : (l.set i x).getD j y = if i = j ∧ i < l.length then x else l.getD j y := by
  simp only [List.getD, List.getElem?_set]
  by_cases h : i = j
  · subst h
    by_cases h2 : i < l.length
    · simp [h2]
    · simp [h2]
  · simp [h]
theorem getD_eq {α : Type} {l : List α} {k : Nat} {x : α} (h : k < l.length) : l.getD k x = l[k] := by simp [List.getD, h]
/-- One vertex of one round. -/
def vStep (g : List (List Int)) (sh : List Bool) (d : Int) (v : Nat) (o : List Int) : List Int :=
  if sh.getD v false = true ∨ 0 ≤ o.getD v 0 then o else if (g.getD v []).any (fun w => decide (o.getD w.toNat 0 = d - 1)) = true then o.set v d else o
def vLoop (g : List (List Int)) (sh : List Bool) (d : Int) : Nat → Nat → List Int → List Int
  | 0, _, o => o
  | f + 1, v, o => vLoop g sh d f (v + 1) (vStep g sh d v o)
def dLoop (g : List (List Int)) (sh : List Bool) : Nat → Nat → List Int → List Int
  | 0, _, o => o
  | f + 1, d, o => dLoop g sh f (d + 1) (vLoop g sh d g.length 0 o)
def distV (g : List (List Int)) (sh : List Bool) (goal : Nat) : List Int :=
  if sh.getD goal false = true then List.replicate g.length (-1) else dLoop g sh (g.length - 1) 1 ((List.replicate g.length (-1)).set goal 0)
theorem vStep_len (g : List (List Int)) (sh : List Bool) (d : Int) (v : Nat) (o : List Int) : (vStep g sh d v o).length = o.length := by 
  unfold vStep; split
  · rfl
  · split <;> simp
theorem vLoop_len (g : List (List Int)) (sh : List Bool) (d : Int) : ∀ (f v : Nat) (o : List Int), (vLoop g sh d f v o).length = o.length
  | 0, _, _ => rfl
  | f + 1, v, o => by rw [vLoop, vLoop_len g sh d f, vStep_len]
theorem dLoop_len (g : List (List Int)) (sh : List Bool) : ∀ (f d : Nat) (o : List Int), (dLoop g sh f d o).length = o.length
  | 0, _, _ => rfl
  | f + 1, d, o => by rw [dLoop, dLoop_len g sh f, vLoop_len]
theorem distV_len (g : List (List Int)) (sh : List Bool) (goal : Nat) : (distV g sh goal).length = g.length := by
  unfold distV; split
  · simp
  · rw [dLoop_len]; simp
/-- What distances are so far. -/
def DP (g : List (List Int)) (goal : Nat) (m : Int) (o : List Int) : Prop :=
  o.length = g.length ∧ ∀ v, v < g.length → o.getD v 0 = -1 ∨ (o.getD v 0 = 0 ∧ v = goal) ∨ (1 ≤ o.getD v 0 ∧ o.getD v 0 ≤ m ∧ ∃ w ∈ g.getD v [], o.getD w.toNat 0 = o.getD v 0 - 1)
theorem vStep_DP {g : List (List Int)} (hg : gphP g) {sh : List Bool} {goal : Nat} {d : Int} {v : Nat} {o : List Int} (hv : v < g.length) (hd : 1 ≤ d) (h : DP g goal d o) : DP g goal d (vStep g sh d v o) := by
  unfold vStep
  split
  · exact h
  rename_i h1
  split
  · rename_i h2
    obtain ⟨hl, hh⟩ := h
    have hneg : o.getD v 0 < 0 := by
      rcases Int.lt_or_le (o.getD v 0) 0 with h3 | h3
      · exact h3
      · exact absurd (Or.inr h3) h1
    refine ⟨by simpa using hl, fun u hu => ?_⟩
    rw [List.any_eq_true] at h2
    obtain ⟨w, hw, hwd⟩ := h2
    have hwd := of_decide_eq_true hwd
    have hset : ∀ j, j < g.length → (o.set v d).getD j 0 = if v = j then d else o.getD j 0 := fun j hj => by
      rw [getD_set]
      by_cases e : v = j
      · rw [if_pos ⟨e, by omega⟩, if_pos e]
      · rw [if_neg (fun h => e h.1), if_neg e]
    have hin : ∀ u, u < g.length → ∀ w ∈ g.getD u [], 0 ≤ w ∧ w < (g.length : Int) ∧ w ≠ (u : Int) := fun u hu w hw => by
      obtain ⟨k, hk, rfl⟩ := List.mem_iff_getElem.1 hw
      have := hg.2 u hu k hk
      unfold okAt at this
      have e1 : (g.getD u []).getD k 0 = (g.getD u [])[k] := getD_eq hk
      rw [e1] at this
      exact ⟨this.1, this.2.1, this.2.2.1⟩
    rw [hset u hu]
    by_cases e : v = u
    · subst e
      rw [if_pos rfl]
      have h3 := hin v hv w hw
      refine .inr (.inr ⟨hd, Int.le_refl _, w, hw, ?_⟩)
      rw [hset _ (by omega), if_neg (by omega)]
      exact hwd
    · rw [if_neg e]
      rcases hh u hu with h3 | h3 | ⟨h3, h4, w2, h5, h6⟩
      · exact .inl h3
      · exact .inr (.inl h3)
      · refine .inr (.inr ⟨h3, h4, w2, h5, ?_⟩)
        have h7 := hin u hu w2 h5
        rw [hset _ (by omega)]
        by_cases e2 : v = w2.toNat
        · rw [e2] at hneg; omega
        · rw [if_neg e2]; exact h6
  · exact h
theorem vLoop_DP {g : List (List Int)} (hg : gphP g) {sh : List Bool} {goal : Nat} {d : Int} (hd : 1 ≤ d) : ∀ (f v : Nat) (o : List Int), v + f ≤ g.length → DP g goal d o → DP g goal d (vLoop g sh d f v o)
  | 0, _, _, _, h => h
  | f + 1, v, o, hv, h => vLoop_DP hg hd f (v + 1) _ (by omega) (vStep_DP hg (by omega) hd h)
theorem DP.mono {g : List (List Int)} {goal : Nat} {m m' : Int} {o : List Int} (hm : m ≤ m') (h : DP g goal m o) : DP g goal m' o :=
  ⟨h.1, fun v hv => by
    rcases h.2 v hv with h3 | h3 | ⟨h3, h4, h5⟩
    · exact .inl h3
    · exact .inr (.inl h3)
    · exact .inr (.inr ⟨h3, by omega, h5⟩)⟩
theorem dLoop_DP {g : List (List Int)} (hg : gphP g) {sh : List Bool} {goal : Nat} : ∀ (f d : Nat) (o : List Int), 1 ≤ d → DP g goal d o → DP g goal (d + f : Nat) (dLoop g sh f d o)
  | 0, d, o, _, h => h.mono (by omega)
  | f + 1, d, o, hd, h => by
    have := dLoop_DP (sh := sh) hg f (d + 1) (vLoop g sh d g.length 0 o) (by omega) ((vLoop_DP hg (by omega) g.length 0 o (by omega) h).mono (by omega))
    rw [show d + 1 + f = d + (f + 1) by omega] at this
    exact this
theorem distV_DP {g : List (List Int)} (hg : gphP g) (sh : List Bool) (goal : Nat) (hgoal : goal < g.length) : DP g goal 24 (distV g sh goal) := by
  have hrep : ∀ v, v < g.length → (List.replicate g.length (-1 : Int)).getD v 0 = -1 := fun v hv => by simp [List.getD, hv]
  unfold distV
  split
  · exact ⟨by simp, fun v hv => .inl (hrep v hv)⟩
  · refine (dLoop_DP hg (g.length - 1) 1 _ (Nat.le_refl _) ⟨by simp, fun v hv => ?_⟩).mono (by have := hg.1; omega)
    rw [getD_set]
    by_cases e : goal = v
    · rw [if_pos ⟨e, by simpa using hgoal⟩]; exact .inr (.inl ⟨rfl, e.symm⟩)
    · rw [if_neg (fun h => e h.1)]; exact .inl (hrep v hv)
theorem row_in {g : List (List Int)} (hg : gphP g) {u : Nat} (hu : u < g.length) {k : Nat} (hk : k < (g.getD u []).length) : ∃ w : Nat, (g.getD u []).getD k 0 = (w : Int) ∧ w < g.length ∧ w ≠ u := by
  have := hg.2 u hu k hk
  unfold okAt at this
  exact ⟨((g.getD u []).getD k 0).toNat, by omega, by omega, by omega⟩
end Go.Am
end

section
/- The reference's check of networks. -/
namespace Go.Am
open Go Go.Proofs
set_option maxRecDepth 100000
set_option linter.unusedVariables false
set_option linter.unusedSimpArgs false
def sumS : List Spr → Int
  | [] => 0
  | s :: r => s.slots + sumS r
theorem sumS_snoc (l : List Spr) (s : Spr) : sumS (l ++ [s]) = sumS l + s.slots := by
  induction l with
  | nil => simp [sumS]
  | cons x r ih => simp only [List.cons_append, sumS, ih]; omega
theorem take_snoc {α : Type} (l : List α) (i : Nat) (x : α) (h : i < l.length) : l.take (i + 1) = l.take i ++ [l.getD i x] := by
  rw [List.take_add_one, List.getD, List.getElem?_eq_getElem h]; rfl
def spurP (nb : Nat) (b : Int) (s : Spr) : Prop := 0 ≤ s.inn ∧ s.inn < (nb : Int) ∧ 0 ≤ s.out ∧ s.out < (nb : Int) ∧ 1 ≤ s.slots ∧ s.slots ≤ 4 ∧ s.base = b
instance (nb : Nat) (b : Int) (s : Spr) : Decidable (spurP nb b s) := by unfold spurP; exact inferInstance
def inD (x : Int) (s : Spr) : Bool := s.depot && (decide (s.base ≤ x) && decide (x < s.base + s.slots))
def spursP (nb : Nat) (l : List Spr) : Prop := ∀ i, i < l.length → spurP nb (nb + sumS (l.take i)) (l.getD i spr0)
instance (nb : Nat) (l : List Spr) : Decidable (spursP nb l) := by unfold spursP; exact inferInstance
def robotsP (sp : List Spr) (l : List Int) : Prop := ∀ i, i < l.length → sp.any (inD (l.getD i 0)) = true ∧ l.getD i 0 ∉ l.take i
instance (sp : List Spr) (l : List Int) : Decidable (robotsP sp l) := by unfold robotsP; exact inferInstance
def validN (n : Nt) : Prop := blocksP n ∧ n.spurs.length ≤ 6 ∧ namesP n ∧ n.robots.length ≤ 8 ∧ cfgP n.cq n.ca n.cd n.cp ∧ spursP n.blocks.length n.spurs ∧ robotsP n.spurs n.robots ∧ 0 < (n.spurs.filter Spr.depot).length
instance (n : Nt) : Decidable (validN n) := by unfold validN; exact inferInstance
theorem encI_take2 (l : List Int) (i : Nat) : (encI l).take i = encI (l.take i) := by simp [encI, List.map_take]
theorem sumS_rng (nb : Nat) (l : List Spr) (k : Nat) (hk : k ≤ l.length) (h : ∀ j, j < k → spurP nb (nb + sumS (l.take j)) (l.getD j spr0)) : 0 ≤ sumS (l.take k) ∧ sumS (l.take k) ≤ 4 * k := by
  induction k with
  | zero => simp [sumS]
  | succ k ih =>
    have h1 := ih (by omega) (fun j hj => h j (by omega))
    have h2 := h k (by omega)
    rw [take_snoc l k spr0 (by omega), sumS_snoc]
    obtain ⟨_, _, _, _, h5, h6, _⟩ := h2
    omega
def smallN (n : Nt) : Prop := n.blocks.length ≤ 10000000 ∧ smallG n.next ∧ n.spurs.length ≤ 10000000 ∧ n.robots.length ≤ 10000000
set_option maxHeartbeats 1600000 in
theorem validN_ok (n : Nt) (hsm : smallN n) : ACalls Tryz.prog 27 [.agg n.cs] [] fun h r => h = [] ∧ r = .p (.bool (decide (validN n))) := by
  have hB := blocks_ok n hsm.1 hsm.2.1
  have hN := names_ok n hsm.1 hsm.2.2.1
  have hC := configured_ok n.cq n.ca n.cd n.cp
  obtain ⟨_, _, hs1, hr1⟩ := hsm
  refine ACalls_X Tryz.func27 rfl enters27 (by simp [Tryz.f27]) ?_
  simp only [go_sem, ↓reduceIte, Nat.reduceLT, Nat.reduceLeDiff, Nat.reduceEqDiff, Nat.reduceAdd, Nat.reduceMul, Nat.reduceSub, reduceCtorEq, Int.reduceLT, Int.reduceLE, Int.reduceEq, Int.reduceToNat, decide_true, decide_false, Int.reduceNeg, Int.cast_ofNat_Int, sg, AO.sg, Option.isNone_none, Nt.cs]
  refine Cc_of ((hB)) ?_
  rintro h' r ⟨rfl, rfl⟩
  cases d1 : decide (blocksP n)
  · simp only [go_sem, ↓reduceIte, Nat.reduceLT, Nat.reduceLeDiff, Nat.reduceEqDiff, Nat.reduceAdd, Nat.reduceMul, Nat.reduceSub, reduceCtorEq, Int.reduceLT, Int.reduceLE, Int.reduceEq, Int.reduceToNat, decide_true, decide_false, Int.reduceNeg, Int.cast_ofNat_Int, sg, AO.sg, Option.isNone_none, d1]
    rw [decide_eq_false (fun hp => of_decide_eq_false d1 hp.1)]
  cases d2 : decide (6 < (n.spurs.length : Int))
  rotate_left
  · simp only [go_sem, ↓reduceIte, Nat.reduceLT, Nat.reduceLeDiff, Nat.reduceEqDiff, Nat.reduceAdd, Nat.reduceMul, Nat.reduceSub, reduceCtorEq, Int.reduceLT, Int.reduceLE, Int.reduceEq, Int.reduceToNat, decide_true, decide_false, Int.reduceNeg, Int.cast_ofNat_Int, sg, AO.sg, Option.isNone_none, Nt.cs, encP_len, d1, d2]
    rw [decide_eq_false (fun hp => by have := hp.2.1; have := of_decide_eq_true d2; omega)]
  simp only [go_sem, ↓reduceIte, Nat.reduceLT, Nat.reduceLeDiff, Nat.reduceEqDiff, Nat.reduceAdd, Nat.reduceMul, Nat.reduceSub, reduceCtorEq, Int.reduceLT, Int.reduceLE, Int.reduceEq, Int.reduceToNat, decide_true, decide_false, Int.reduceNeg, Int.cast_ofNat_Int, sg, AO.sg, Option.isNone_none, Nt.cs, encP_len, d1, d2]
  refine Cc_of ((hN)) ?_
  rintro h' r ⟨rfl, rfl⟩
  cases d3 : decide (namesP n)
  · simp only [go_sem, ↓reduceIte, Nat.reduceLT, Nat.reduceLeDiff, Nat.reduceEqDiff, Nat.reduceAdd, Nat.reduceMul, Nat.reduceSub, reduceCtorEq, Int.reduceLT, Int.reduceLE, Int.reduceEq, Int.reduceToNat, decide_true, decide_false, Int.reduceNeg, Int.cast_ofNat_Int, sg, AO.sg, Option.isNone_none, d3]
    rw [decide_eq_false (fun hp => of_decide_eq_false d3 hp.2.2.1)]
  cases d4 : decide (8 < (n.robots.length : Int))
  rotate_left
  · simp only [go_sem, ↓reduceIte, Nat.reduceLT, Nat.reduceLeDiff, Nat.reduceEqDiff, Nat.reduceAdd, Nat.reduceMul, Nat.reduceSub, reduceCtorEq, Int.reduceLT, Int.reduceLE, Int.reduceEq, Int.reduceToNat, decide_true, decide_false, Int.reduceNeg, Int.cast_ofNat_Int, sg, AO.sg, Option.isNone_none, Nt.cs, encI_len, d3, d4]
    rw [decide_eq_false (fun hp => by have := hp.2.2.2.1; have := of_decide_eq_true d4; omega)]
  simp only [go_sem, ↓reduceIte, Nat.reduceLT, Nat.reduceLeDiff, Nat.reduceEqDiff, Nat.reduceAdd, Nat.reduceMul, Nat.reduceSub, reduceCtorEq, Int.reduceLT, Int.reduceLE, Int.reduceEq, Int.reduceToNat, decide_true, decide_false, Int.reduceNeg, Int.cast_ofNat_Int, sg, AO.sg, Option.isNone_none, Nt.cs, encI_len, d3, d4]
  refine Cc_of ((hC)) ?_
  rintro h' r ⟨rfl, rfl⟩
  cases d5 : decide (cfgP n.cq n.ca n.cd n.cp)
  · simp only [go_sem, ↓reduceIte, Nat.reduceLT, Nat.reduceLeDiff, Nat.reduceEqDiff, Nat.reduceAdd, Nat.reduceMul, Nat.reduceSub, reduceCtorEq, Int.reduceLT, Int.reduceLE, Int.reduceEq, Int.reduceToNat, decide_true, decide_false, Int.reduceNeg, Int.cast_ofNat_Int, sg, AO.sg, Option.isNone_none, d5]
    rw [decide_eq_false (fun hp => of_decide_eq_false d5 hp.2.2.2.2.1)]
  simp only [go_sem, ↓reduceIte, Nat.reduceLT, Nat.reduceLeDiff, Nat.reduceEqDiff, Nat.reduceAdd, Nat.reduceMul, Nat.reduceSub, reduceCtorEq, Int.reduceLT, Int.reduceLE, Int.reduceEq, Int.reduceToNat, decide_true, decide_false, Int.reduceNeg, Int.cast_ofNat_Int, sg, AO.sg, Option.isNone_none, Nt.cs, encK_len, d5]
  clear hB hN hC
  have e1 := of_decide_eq_true d1
  have e2 := of_decide_eq_false d2
  have e3 := of_decide_eq_true d3
  have e4 := of_decide_eq_false d4
  have e5 := of_decide_eq_true d5
  clear d1 d2 d3 d4 d5
  have hb24 : n.blocks.length ≤ 24 := e1.2.1
  refine X_loop_inv (fun i : Nat => ⟨[(1, .ptr 1 0), (3, .p (.int .i64 ((n.blocks.length : Int) + sumS (n.spurs.take i)))), (4, .p (.int .i64 (((n.spurs.take i).filter Spr.depot).length : Nat))), (5, .p (.int .i64 (i : Nat)))], [(1, .box (Nt.cs n))], 163⟩)
    (fun i => i ≤ n.spurs.length ∧ ∀ j, j < i → spurP n.blocks.length (n.blocks.length + sumS (n.spurs.take j)) (n.spurs.getD j spr0)) (fun i => n.spurs.length - i) 0 ⟨Nat.zero_le _, fun j hj => absurd hj (Nat.not_lt_zero _)⟩ (Wk.forget (by simp [Le, LeE, LeH, get, envIds, hpIds, KeepH, D.ids, idsL, AO.ids, setL, base, Nt.cs, sumS])) ?_
  rintro i m ⟨hi, hall⟩ ih
  simp only [go_sem, ↓reduceIte, Nat.reduceLT, Nat.reduceLeDiff, Nat.reduceEqDiff, Nat.reduceAdd, Nat.reduceMul, Nat.reduceSub, reduceCtorEq, Int.reduceLT, Int.reduceLE, Int.reduceEq, Int.reduceToNat, decide_true, decide_false, Int.reduceNeg, Int.cast_ofNat_Int, sg, AO.sg, Option.isNone_none, Nt.cs, encP_len]
  refine Cn_split (fun h2 => ?_) (fun h2 => ?_)
  · have hlt : i < n.spurs.length := by simp at h2; omega
    have hw := wrap_succ i (by omega)
    have hg := encP_get n.spurs i hlt
    have hi0 : (0 : Int) ≤ (i : Int) ∧ (i : Int) < (n.spurs.length : Int) := by omega
    have hrng := sumS_rng n.blocks.length n.spurs i hi hall
    have hbad : ¬ spurP n.blocks.length (n.blocks.length + sumS (n.spurs.take i)) (n.spurs.getD i spr0) → decide (validN n) = false := fun h => decide_eq_false (fun hp => h (hp.2.2.2.2.2.1 i hlt))
    have hgood : spurP n.blocks.length (n.blocks.length + sumS (n.spurs.take i)) (n.spurs.getD i spr0) → ∀ j, j < i + 1 → spurP n.blocks.length (n.blocks.length + sumS (n.spurs.take j)) (n.spurs.getD j spr0) := fun h j hj => by
      rcases Nat.lt_succ_iff_lt_or_eq.1 hj with h3 | rfl
      · exact hall j h3
      · exact h
    have hts := take_snoc n.spurs i spr0 hlt
    have hfl : ((n.spurs.take i).filter Spr.depot).length ≤ i := by
      refine Nat.le_trans (List.length_filter_le _ _) ?_
      simp; omega
    generalize n.spurs.getD i spr0 = s at *
    obtain ⟨nm, dp, inn, out, sl, bs⟩ := s
    simp only [spurP] at hbad hgood
    generalize hS : sumS (n.spurs.take i) = S at *
    generalize hD : ((n.spurs.take i).filter Spr.depot).length = dn at *
    cases c1 : decide (inn < 0)
    rotate_left
    · simp only [go_sem, ↓reduceIte, Nat.reduceLT, Nat.reduceLeDiff, Nat.reduceEqDiff, Nat.reduceAdd, Nat.reduceMul, Nat.reduceSub, reduceCtorEq, Int.reduceLT, Int.reduceLE, Int.reduceEq, Int.reduceToNat, decide_true, decide_false, Int.reduceNeg, Int.cast_ofNat_Int, sg, AO.sg, Option.isNone_none, Nt.cs, encP_len, encK_len, Int.toNat_natCast, hg, hi0, c1]
      rw [hbad (fun hp => by have := of_decide_eq_true c1; omega)]
    cases c2 : decide ((n.blocks.length : Int) ≤ inn)
    rotate_left
    · simp only [go_sem, ↓reduceIte, Nat.reduceLT, Nat.reduceLeDiff, Nat.reduceEqDiff, Nat.reduceAdd, Nat.reduceMul, Nat.reduceSub, reduceCtorEq, Int.reduceLT, Int.reduceLE, Int.reduceEq, Int.reduceToNat, decide_true, decide_false, Int.reduceNeg, Int.cast_ofNat_Int, sg, AO.sg, Option.isNone_none, Nt.cs, encP_len, encK_len, Int.toNat_natCast, hg, hi0, c1, c2]
      rw [hbad (fun hp => by have := of_decide_eq_true c2; omega)]
    cases c3 : decide (out < 0)
    rotate_left
    · simp only [go_sem, ↓reduceIte, Nat.reduceLT, Nat.reduceLeDiff, Nat.reduceEqDiff, Nat.reduceAdd, Nat.reduceMul, Nat.reduceSub, reduceCtorEq, Int.reduceLT, Int.reduceLE, Int.reduceEq, Int.reduceToNat, decide_true, decide_false, Int.reduceNeg, Int.cast_ofNat_Int, sg, AO.sg, Option.isNone_none, Nt.cs, encP_len, encK_len, Int.toNat_natCast, hg, hi0, c1, c2, c3]
      rw [hbad (fun hp => by have := of_decide_eq_true c3; omega)]
    cases c4 : decide ((n.blocks.length : Int) ≤ out)
    rotate_left
    · simp only [go_sem, ↓reduceIte, Nat.reduceLT, Nat.reduceLeDiff, Nat.reduceEqDiff, Nat.reduceAdd, Nat.reduceMul, Nat.reduceSub, reduceCtorEq, Int.reduceLT, Int.reduceLE, Int.reduceEq, Int.reduceToNat, decide_true, decide_false, Int.reduceNeg, Int.cast_ofNat_Int, sg, AO.sg, Option.isNone_none, Nt.cs, encP_len, encK_len, Int.toNat_natCast, hg, hi0, c1, c2, c3, c4]
      rw [hbad (fun hp => by have := of_decide_eq_true c4; omega)]
    cases c5 : decide (sl < 1)
    rotate_left
    · simp only [go_sem, ↓reduceIte, Nat.reduceLT, Nat.reduceLeDiff, Nat.reduceEqDiff, Nat.reduceAdd, Nat.reduceMul, Nat.reduceSub, reduceCtorEq, Int.reduceLT, Int.reduceLE, Int.reduceEq, Int.reduceToNat, decide_true, decide_false, Int.reduceNeg, Int.cast_ofNat_Int, sg, AO.sg, Option.isNone_none, Nt.cs, encP_len, encK_len, Int.toNat_natCast, hg, hi0, c1, c2, c3, c4, c5]
      rw [hbad (fun hp => by have := of_decide_eq_true c5; omega)]
    cases c6 : decide (4 < sl)
    rotate_left
    · simp only [go_sem, ↓reduceIte, Nat.reduceLT, Nat.reduceLeDiff, Nat.reduceEqDiff, Nat.reduceAdd, Nat.reduceMul, Nat.reduceSub, reduceCtorEq, Int.reduceLT, Int.reduceLE, Int.reduceEq, Int.reduceToNat, decide_true, decide_false, Int.reduceNeg, Int.cast_ofNat_Int, sg, AO.sg, Option.isNone_none, Nt.cs, encP_len, encK_len, Int.toNat_natCast, hg, hi0, c1, c2, c3, c4, c5, c6]
      rw [hbad (fun hp => by have := of_decide_eq_true c6; omega)]
    cases c7 : decide (bs = (n.blocks.length : Int) + S)
    · simp only [go_sem, ↓reduceIte, Nat.reduceLT, Nat.reduceLeDiff, Nat.reduceEqDiff, Nat.reduceAdd, Nat.reduceMul, Nat.reduceSub, reduceCtorEq, Int.reduceLT, Int.reduceLE, Int.reduceEq, Int.reduceToNat, decide_true, decide_false, Int.reduceNeg, Int.cast_ofNat_Int, sg, AO.sg, Option.isNone_none, Nt.cs, encP_len, encK_len, Int.toNat_natCast, hg, hi0, c1, c2, c3, c4, c5, c6, c7]
      rw [hbad (fun hp => by have := of_decide_eq_false c7; omega)]
    have hsl : 1 ≤ sl ∧ sl ≤ 4 := by have := of_decide_eq_false c5; have := of_decide_eq_false c6; omega
    have hwb : IntKind.i64.wrap ((n.blocks.length : Int) + S + sl) = (n.blocks.length : Int) + S + sl := by rw [wrap_i64_id] <;> omega
    have hok := hgood (by have := of_decide_eq_false c1; have := of_decide_eq_false c2; have := of_decide_eq_false c3; have := of_decide_eq_false c4; have := of_decide_eq_true c7; omega)
    have hwd := wrap_succ dn (by omega)
    cases dp
    · simp only [go_sem, ↓reduceIte, Nat.reduceLT, Nat.reduceLeDiff, Nat.reduceEqDiff, Nat.reduceAdd, Nat.reduceMul, Nat.reduceSub, reduceCtorEq, Int.reduceLT, Int.reduceLE, Int.reduceEq, Int.reduceToNat, decide_true, decide_false, Int.reduceNeg, Int.cast_ofNat_Int, sg, AO.sg, Option.isNone_none, Nt.cs, encP_len, encK_len, Int.toNat_natCast, hg, hi0, c1, c2, c3, c4, c5, c6, c7, hwb, hw]
      refine ih (i + 1) _ ⟨hlt, hok⟩ (by omega) ?_
      (refine Wk.forget ?_; simp [Le, LeE, LeH, get, envIds, hpIds, KeepH, D.ids, idsL, AO.ids, setL, base, Nt.cs, hts, sumS_snoc, hS, hD, Int.add_assoc]; done)
    · simp only [go_sem, ↓reduceIte, Nat.reduceLT, Nat.reduceLeDiff, Nat.reduceEqDiff, Nat.reduceAdd, Nat.reduceMul, Nat.reduceSub, reduceCtorEq, Int.reduceLT, Int.reduceLE, Int.reduceEq, Int.reduceToNat, decide_true, decide_false, Int.reduceNeg, Int.cast_ofNat_Int, sg, AO.sg, Option.isNone_none, Nt.cs, encP_len, encK_len, Int.toNat_natCast, hg, hi0, c1, c2, c3, c4, c5, c6, c7, hwb, hw, hwd]
      refine ih (i + 1) _ ⟨hlt, hok⟩ (by omega) ?_
      (refine Wk.forget ?_; simp [Le, LeE, LeH, get, envIds, hpIds, KeepH, D.ids, idsL, AO.ids, setL, base, Nt.cs, hts, sumS_snoc, hS, hD, Int.add_assoc]; done)
  have : i = n.spurs.length := by simp at h2; omega
  subst this
  have hsp : spursP n.blocks.length n.spurs := hall
  rw [List.take_length]
  have hbnd : ∀ k, k < n.spurs.length → 0 ≤ (n.spurs.getD k spr0).base ∧ (n.spurs.getD k spr0).base ≤ 1000 ∧ 1 ≤ (n.spurs.getD k spr0).slots ∧ (n.spurs.getD k spr0).slots ≤ 4 := fun k hk => by
    have h3 := hsp k hk
    have h4 := sumS_rng n.blocks.length n.spurs k (by omega) (fun j hj => hsp j (by omega))
    obtain ⟨_, _, _, _, h5, h6, h7⟩ := h3
    omega
  clear ih hall
  generalize hD : (n.spurs.filter Spr.depot).length = dn
  simp only [go_sem, ↓reduceIte, Nat.reduceLT, Nat.reduceLeDiff, Nat.reduceEqDiff, Nat.reduceAdd, Nat.reduceMul, Nat.reduceSub, reduceCtorEq, Int.reduceLT, Int.reduceLE, Int.reduceEq, Int.reduceToNat, decide_true, decide_false, Int.reduceNeg, Int.cast_ofNat_Int, sg, AO.sg, Option.isNone_none]
  refine X_loop_inv (fun i : Nat => ⟨[(1, .ptr 1 0), (4, .p (.int .i64 (dn : Nat))), (7, .p (.int .i64 (i : Nat)))], [(1, .box (Nt.cs n))], 163⟩)
    (fun i => i ≤ n.robots.length ∧ ∀ j, j < i → n.spurs.any (inD (n.robots.getD j 0)) = true ∧ n.robots.getD j 0 ∉ n.robots.take j) (fun i => n.robots.length - i) 0 ⟨Nat.zero_le _, fun j hj => absurd hj (Nat.not_lt_zero _)⟩ (Wk.forget (by simp [Le, LeE, LeH, get, envIds, hpIds, KeepH, D.ids, idsL, AO.ids, setL, base, Nt.cs])) ?_
  rintro i m2 ⟨hi2, hall⟩ ih
  simp only [go_sem, ↓reduceIte, Nat.reduceLT, Nat.reduceLeDiff, Nat.reduceEqDiff, Nat.reduceAdd, Nat.reduceMul, Nat.reduceSub, reduceCtorEq, Int.reduceLT, Int.reduceLE, Int.reduceEq, Int.reduceToNat, decide_true, decide_false, Int.reduceNeg, Int.cast_ofNat_Int, sg, AO.sg, Option.isNone_none, Nt.cs, encI_len]
  refine Cn_split (fun h3 => ?_) (fun h3 => ?_)
  rotate_left
  · simp only [go_sem, ↓reduceIte, Nat.reduceLT, Nat.reduceLeDiff, Nat.reduceEqDiff, Nat.reduceAdd, Nat.reduceMul, Nat.reduceSub, reduceCtorEq, Int.reduceLT, Int.reduceLE, Int.reduceEq, Int.reduceToNat, decide_true, decide_false, Int.reduceNeg, Int.cast_ofNat_Int, sg, AO.sg, Option.isNone_none]
    have : i = n.robots.length := by simp at h3; omega
    subst this
    have hv : decide (validN n) = decide (0 < (dn : Int)) := by
      by_cases hdn : 0 < dn
      · rw [decide_eq_true (show validN n from ⟨e1, by omega, e3, by omega, e5, hsp, hall, by rw [hD]; exact hdn⟩), decide_eq_true (by omega)]
      · rw [decide_eq_false (fun hp : validN n => hdn (by have := hp.2.2.2.2.2.2.2; rw [hD] at this; exact this)), decide_eq_false (by omega)]
    rw [hv]
    try simp
  have hlt : i < n.robots.length := by simp at h3; omega
  have hw := wrap_succ i (by omega)
  have hgr := encI_get n.robots i hlt
  have hi0 : (0 : Int) ≤ (i : Int) ∧ (i : Int) < (n.robots.length : Int) := by omega
  have hbad : ¬ (n.spurs.any (inD (n.robots.getD i 0)) = true ∧ n.robots.getD i 0 ∉ n.robots.take i) → decide (validN n) = false := fun h => decide_eq_false (fun hp => h (hp.2.2.2.2.2.2.1 i hlt))
  have hgood : (n.spurs.any (inD (n.robots.getD i 0)) = true ∧ n.robots.getD i 0 ∉ n.robots.take i) → ∀ j, j < i + 1 → n.spurs.any (inD (n.robots.getD j 0)) = true ∧ n.robots.getD j 0 ∉ n.robots.take j := fun h j hj => by
    rcases Nat.lt_succ_iff_lt_or_eq.1 hj with h3 | rfl
    · exact hall j h3
    · exact h
  generalize n.robots.getD i 0 = x at hgr hbad hgood
  simp only [go_sem, ↓reduceIte, Nat.reduceLT, Nat.reduceLeDiff, Nat.reduceEqDiff, Nat.reduceAdd, Nat.reduceMul, Nat.reduceSub, reduceCtorEq, Int.reduceLT, Int.reduceLE, Int.reduceEq, Int.reduceToNat, decide_true, decide_false, Int.reduceNeg, Int.cast_ofNat_Int, sg, AO.sg, Option.isNone_none]
  refine X_loop_inv (fun k : Nat => ⟨[(1, .ptr 1 0), (4, .p (.int .i64 (dn : Nat))), (7, .p (.int .i64 (i : Nat))), (8, .p (.bool ((n.spurs.take k).any (inD x)))), (9, .p (.int .i64 (k : Nat)))], [(1, .box (Nt.cs n))], 163⟩)
    (fun k => k ≤ n.spurs.length) (fun k => n.spurs.length - k) 0 (Nat.zero_le _) (Wk.forget (by simp [Le, LeE, LeH, get, envIds, hpIds, KeepH, D.ids, idsL, AO.ids, setL, base, Nt.cs])) ?_
  rintro k m3 hk ih2
  simp only [go_sem, ↓reduceIte, Nat.reduceLT, Nat.reduceLeDiff, Nat.reduceEqDiff, Nat.reduceAdd, Nat.reduceMul, Nat.reduceSub, reduceCtorEq, Int.reduceLT, Int.reduceLE, Int.reduceEq, Int.reduceToNat, decide_true, decide_false, Int.reduceNeg, Int.cast_ofNat_Int, sg, AO.sg, Option.isNone_none, Nt.cs, encP_len]
  refine Cn_split (fun h4 => ?_) (fun h4 => ?_)
  · have hkt : k < n.spurs.length := by simp at h4; omega
    have hwk := wrap_succ k (by omega)
    have hgk := encP_get n.spurs k hkt
    have hk0 : (0 : Int) ≤ (k : Int) ∧ (k : Int) < (n.spurs.length : Int) := by omega
    have hb := hbnd k hkt
    have hts := take_snoc n.spurs k spr0 hkt
    generalize n.spurs.getD k spr0 = s at *
    obtain ⟨nm, dp, inn, out, sl, bs⟩ := s
    simp only at hb
    have hwb : IntKind.i64.wrap (bs + sl) = bs + sl := by rw [wrap_i64_id] <;> omega
    have han : (n.spurs.take (k + 1)).any (inD x) = ((n.spurs.take k).any (inD x) || (dp && (decide (bs ≤ x) && decide (x < bs + sl)))) := by
      rw [hts, List.any_append]; simp [inD]
    generalize (n.spurs.take k).any (inD x) = ok at *
    simp only [go_sem, ↓reduceIte, Nat.reduceLT, Nat.reduceLeDiff, Nat.reduceEqDiff, Nat.reduceAdd, Nat.reduceMul, Nat.reduceSub, reduceCtorEq, Int.reduceLT, Int.reduceLE, Int.reduceEq, Int.reduceToNat, decide_true, decide_false, Int.reduceNeg, Int.cast_ofNat_Int, sg, AO.sg, Option.isNone_none, Nt.cs, encP_len, Int.toNat_natCast, hgk, hk0]
    refine X_any0 mixed (p := [(0, 0), (1, 0), (2, 0), (3, 0), (4, 0), (5, 0), (6, 0), (7, 0), (8, 0), (9, 0), (10, 0), (11, 0), (12, 0), (13, 0), (14, 0), (15, 0), (16, 0), (17, 0), (18, 0), (19, 0), (20, 0), (21, 0), (22, 0), (23, 0), (24, 0), (25, 0), (26, 0), (27, 0), (28, 0)]) (by kernel_rfl) (by simp [LeH, get]) ?_
    cases ok
    rotate_left
    · simp only [go_sem, ↓reduceIte, Nat.reduceLT, Nat.reduceLeDiff, Nat.reduceEqDiff, Nat.reduceAdd, Nat.reduceMul, Nat.reduceSub, reduceCtorEq, Int.reduceLT, Int.reduceLE, Int.reduceEq, Int.reduceToNat, decide_true, decide_false, Int.reduceNeg, Int.cast_ofNat_Int, sg, AO.sg, Option.isNone_none, Nt.cs, hwk]
      refine ih2 (k + 1) _ hkt (by omega) ?_
      (refine Wk.forget ?_; simp [Le, LeE, LeH, get, envIds, hpIds, KeepH, D.ids, idsL, AO.ids, setL, base, Nt.cs, han]; done)
    cases dp
    · simp only [go_sem, ↓reduceIte, Nat.reduceLT, Nat.reduceLeDiff, Nat.reduceEqDiff, Nat.reduceAdd, Nat.reduceMul, Nat.reduceSub, reduceCtorEq, Int.reduceLT, Int.reduceLE, Int.reduceEq, Int.reduceToNat, decide_true, decide_false, Int.reduceNeg, Int.cast_ofNat_Int, sg, AO.sg, Option.isNone_none, Nt.cs, hwk]
      refine ih2 (k + 1) _ hkt (by omega) ?_
      (refine Wk.forget ?_; simp [Le, LeE, LeH, get, envIds, hpIds, KeepH, D.ids, idsL, AO.ids, setL, base, Nt.cs, han]; done)
    cases c1 : decide (bs ≤ x)
    · simp only [go_sem, ↓reduceIte, Nat.reduceLT, Nat.reduceLeDiff, Nat.reduceEqDiff, Nat.reduceAdd, Nat.reduceMul, Nat.reduceSub, reduceCtorEq, Int.reduceLT, Int.reduceLE, Int.reduceEq, Int.reduceToNat, decide_true, decide_false, Int.reduceNeg, Int.cast_ofNat_Int, sg, AO.sg, Option.isNone_none, Nt.cs, encI_len, Int.toNat_natCast, hgr, hi0, c1, hwk]
      refine ih2 (k + 1) _ hkt (by omega) ?_
      (refine Wk.forget ?_; simp [Le, LeE, LeH, get, envIds, hpIds, KeepH, D.ids, idsL, AO.ids, setL, base, Nt.cs, han, c1]; done)
    cases c2 : decide (x < bs + sl)
    · simp only [go_sem, ↓reduceIte, Nat.reduceLT, Nat.reduceLeDiff, Nat.reduceEqDiff, Nat.reduceAdd, Nat.reduceMul, Nat.reduceSub, reduceCtorEq, Int.reduceLT, Int.reduceLE, Int.reduceEq, Int.reduceToNat, decide_true, decide_false, Int.reduceNeg, Int.cast_ofNat_Int, sg, AO.sg, Option.isNone_none, Nt.cs, encI_len, Int.toNat_natCast, hgr, hi0, c1, hwb, c2, hwk]
      refine ih2 (k + 1) _ hkt (by omega) ?_
      (refine Wk.forget ?_; simp [Le, LeE, LeH, get, envIds, hpIds, KeepH, D.ids, idsL, AO.ids, setL, base, Nt.cs, han, c1, c2]; done)
    · simp only [go_sem, ↓reduceIte, Nat.reduceLT, Nat.reduceLeDiff, Nat.reduceEqDiff, Nat.reduceAdd, Nat.reduceMul, Nat.reduceSub, reduceCtorEq, Int.reduceLT, Int.reduceLE, Int.reduceEq, Int.reduceToNat, decide_true, decide_false, Int.reduceNeg, Int.cast_ofNat_Int, sg, AO.sg, Option.isNone_none, Nt.cs, encI_len, Int.toNat_natCast, hgr, hi0, c1, hwb, c2, hwk]
      refine ih2 (k + 1) _ hkt (by omega) ?_
      (refine Wk.forget ?_; simp [Le, LeE, LeH, get, envIds, hpIds, KeepH, D.ids, idsL, AO.ids, setL, base, Nt.cs, han, c1, c2]; done)
  have : k = n.spurs.length := by simp at h4; omega
  subst this
  rw [List.take_length]
  simp only [go_sem, ↓reduceIte, Nat.reduceLT, Nat.reduceLeDiff, Nat.reduceEqDiff, Nat.reduceAdd, Nat.reduceMul, Nat.reduceSub, reduceCtorEq, Int.reduceLT, Int.reduceLE, Int.reduceEq, Int.reduceToNat, decide_true, decide_false, Int.reduceNeg, Int.cast_ofNat_Int, sg, AO.sg, Option.isNone_none]
  refine X_any0 mixed (p := [(0, 0), (1, 0), (2, 0), (3, 0), (4, 0), (5, 0), (6, 0), (7, 0), (8, 0), (9, 0), (10, 0), (11, 0), (12, 2), (13, 0)]) (by kernel_rfl) (by simp [LeH, get]) ?_
  cases ho : n.spurs.any (inD x)
  · simp only [go_sem, ↓reduceIte, Nat.reduceLT, Nat.reduceLeDiff, Nat.reduceEqDiff, Nat.reduceAdd, Nat.reduceMul, Nat.reduceSub, reduceCtorEq, Int.reduceLT, Int.reduceLE, Int.reduceEq, Int.reduceToNat, decide_true, decide_false, Int.reduceNeg, Int.cast_ofNat_Int, sg, AO.sg, Option.isNone_none, ho]
    rw [hbad (fun hp => by rw [ho] at hp; cases hp.1)]
  simp only [go_sem, ↓reduceIte, Nat.reduceLT, Nat.reduceLeDiff, Nat.reduceEqDiff, Nat.reduceAdd, Nat.reduceMul, Nat.reduceSub, reduceCtorEq, Int.reduceLT, Int.reduceLE, Int.reduceEq, Int.reduceToNat, decide_true, decide_false, Int.reduceNeg, Int.cast_ofNat_Int, sg, AO.sg, Option.isNone_none, Nt.cs, encI_len, Int.toNat_natCast, hgr, hi0, ho, encI_take2]
  refine ⟨⟨by omega, by simp [Wid, encI]⟩, ?_⟩
  refine Gh_of ((has_ok (n.robots.take i) x (by simp; omega))) ?_
  rintro h' r ⟨rfl, rfl⟩
  cases hh : decide (x ∈ n.robots.take i)
  · simp only [go_sem, ↓reduceIte, Nat.reduceLT, Nat.reduceLeDiff, Nat.reduceEqDiff, Nat.reduceAdd, Nat.reduceMul, Nat.reduceSub, reduceCtorEq, Int.reduceLT, Int.reduceLE, Int.reduceEq, Int.reduceToNat, decide_true, decide_false, Int.reduceNeg, Int.cast_ofNat_Int, sg, AO.sg, Option.isNone_none, hh, hw]
    refine ih (i + 1) _ ⟨hlt, hgood ⟨ho, of_decide_eq_false hh⟩⟩ (by omega) ?_
    (refine Wk.forget ?_; simp [Le, LeE, LeH, get, envIds, hpIds, KeepH, D.ids, idsL, AO.ids, setL, base, Nt.cs]; done)
  · simp only [go_sem, ↓reduceIte, Nat.reduceLT, Nat.reduceLeDiff, Nat.reduceEqDiff, Nat.reduceAdd, Nat.reduceMul, Nat.reduceSub, reduceCtorEq, Int.reduceLT, Int.reduceLE, Int.reduceEq, Int.reduceToNat, decide_true, decide_false, Int.reduceNeg, Int.cast_ofNat_Int, sg, AO.sg, Option.isNone_none, hh]
    rw [hbad (fun hp => hp.2 (of_decide_eq_true hh))]
end Go.Am
end

section
/- The reference's distances: the walk. -/
namespace Go.Am
open Go Go.Proofs
set_option maxRecDepth 100000
set_option linter.unusedVariables false
set_option linter.unusedSimpArgs false
theorem any_take_succ {α : Type} (p : α → Bool) (l : List α) (k : Nat) (x : α) (h : k < l.length) : (l.take (k + 1)).any p = ((l.take k).any p || p (l.getD k x)) := by
  rw [take_snoc l k x h, List.any_append]; simp
theorem encI_tail (l : List Int) (i : Nat) : ((encI l)[i]?.getD []).tail = [] := by
  unfold encI
  rw [List.getElem?_map]
  cases l[i]? <;> rfl
set_option maxHeartbeats 800000 in
theorem dist_ok (g : List (List Int)) (sh : List Bool) (goal : Nat) (hg : gphP g) (hsh : sh.length = g.length) (hgoal : goal < g.length) :
    ACalls Tryz.prog 145 [.p (.sl (encG g)), .p (.sl (encT sh)), .p (.int .i64 (goal : Nat))] [] fun h r => h = [] ∧ r = .p (.sl (encI (distV g sh goal))) := by
  have hlen := hg.1
  refine ACalls_X Tryz.func145 rfl enters145 (by simp [Tryz.f145]) ?_
  simp only [go_sem, ↓reduceIte, Nat.reduceLT, Nat.reduceLeDiff, Nat.reduceEqDiff, Nat.reduceAdd, Nat.reduceMul, Nat.reduceSub, reduceCtorEq, Int.reduceLT, Int.reduceLE, Int.reduceEq, Int.reduceToNat, decide_true, decide_false, Int.reduceNeg, Int.cast_ofNat_Int, sg, AO.sg, Option.isNone_none, encG_len]
  refine ⟨by omega, ?_⟩
  refine X_loop_inv (fun q : Nat × List Int => ⟨[(0, .p (.sl (encG g))), (1, .p (.sl (encT sh))), (2, .p (.int .i64 (goal : Nat))), (7, .ref 14 0 g.length g.length), (8, .p (.int .i64 (q.1 : Nat)))], [(14, .arr 3 1 (encI q.2))], 82⟩)
    (fun q => q.1 ≤ g.length ∧ q.2.length = g.length ∧ ∀ j, j < q.1 → q.2.getD j 0 = -1) (fun q => g.length - q.1) (0, List.replicate g.length 0) ⟨Nat.zero_le _, by simp, fun j hj => absurd hj (Nat.not_lt_zero _)⟩ (Wk.forget (by simp [Le, LeE, LeH, get, envIds, hpIds, KeepH, D.ids, idsL, AO.ids, setL, base, encI])) ?_
  rintro ⟨i, o⟩ m ⟨hi, ho, hm⟩ ih
  simp only at hi ho hm
  simp only [go_sem, ↓reduceIte, Nat.reduceLT, Nat.reduceLeDiff, Nat.reduceEqDiff, Nat.reduceAdd, Nat.reduceMul, Nat.reduceSub, reduceCtorEq, Int.reduceLT, Int.reduceLE, Int.reduceEq, Int.reduceToNat, decide_true, decide_false, Int.reduceNeg, Int.cast_ofNat_Int, sg, AO.sg, Option.isNone_none, encG_len]
  refine Cn_split (fun h2 => ?_) (fun h2 => ?_)
  · have hlt : i < g.length := by simp at h2; omega
    have hw := wrap_succ i (by omega)
    have hi0 : (0 : Int) ≤ (i : Int) ∧ (i : Int) < (g.length : Int) := by omega
    simp only [go_sem, ↓reduceIte, Nat.reduceLT, Nat.reduceLeDiff, Nat.reduceEqDiff, Nat.reduceAdd, Nat.reduceMul, Nat.reduceSub, reduceCtorEq, Int.reduceLT, Int.reduceLE, Int.reduceEq, Int.reduceToNat, decide_true, decide_false, Int.reduceNeg, Int.cast_ofNat_Int, sg, AO.sg, Option.isNone_none, encI_len, ho, Int.toNat_natCast, hi0, hw]
    refine ih (i + 1, o.set i (-1)) _ ⟨hlt, by simpa using ho, fun j hj => ?_⟩ (by simp only; omega) ?_
    · rw [getD_set]
      by_cases e : i = j
      · rw [if_pos ⟨e, by omega⟩]
      · rw [if_neg (fun h => e h.1)]; exact hm j (by omega)
    · (refine Wk.forget ?_; simp [Le, LeE, LeH, get, envIds, hpIds, KeepH, D.ids, idsL, AO.ids, setL, base, encI_set, encI_tail]; done)
  have hie : i = g.length := by simp at h2; omega
  subst hie
  have hoe : o = List.replicate g.length (-1) := by
    refine List.ext_getElem (by simp [ho]) fun j h3 h4 => ?_
    have := hm j (by omega)
    rw [getD_eq h3] at this
    simpa using this
  subst hoe
  clear ih hm
  have hgsh := encT_get sh goal (by omega)
  have hg0 : (0 : Int) ≤ (goal : Int) ∧ (goal : Int) < (g.length : Int) := by omega
  simp only [go_sem, ↓reduceIte, Nat.reduceLT, Nat.reduceLeDiff, Nat.reduceEqDiff, Nat.reduceAdd, Nat.reduceMul, Nat.reduceSub, reduceCtorEq, Int.reduceLT, Int.reduceLE, Int.reduceEq, Int.reduceToNat, decide_true, decide_false, Int.reduceNeg, Int.cast_ofNat_Int, sg, AO.sg, Option.isNone_none, encT_len, hsh, Int.toNat_natCast, hgsh, hg0]
  cases hs : sh.getD goal false
  rotate_left
  · simp only [go_sem, ↓reduceIte, Nat.reduceLT, Nat.reduceLeDiff, Nat.reduceEqDiff, Nat.reduceAdd, Nat.reduceMul, Nat.reduceSub, reduceCtorEq, Int.reduceLT, Int.reduceLE, Int.reduceEq, Int.reduceToNat, decide_true, decide_false, Int.reduceNeg, Int.cast_ofNat_Int, sg, AO.sg, Option.isNone_none, hs]
    refine end_pure ?_
    simp only [go_sem, ↓reduceIte, Nat.reduceLT, Nat.reduceLeDiff, Nat.reduceEqDiff, Nat.reduceAdd, Nat.reduceMul, Nat.reduceSub, reduceCtorEq, Int.reduceLT, Int.reduceLE, Int.reduceEq, Int.reduceToNat, decide_true, decide_false, Int.reduceNeg, Int.cast_ofNat_Int, sg, AO.sg, Option.isNone_none]
    unfold distV
    rw [if_pos hs]
    simp [encI]
  simp only [go_sem, ↓reduceIte, Nat.reduceLT, Nat.reduceLeDiff, Nat.reduceEqDiff, Nat.reduceAdd, Nat.reduceMul, Nat.reduceSub, reduceCtorEq, Int.reduceLT, Int.reduceLE, Int.reduceEq, Int.reduceToNat, decide_true, decide_false, Int.reduceNeg, Int.cast_ofNat_Int, sg, AO.sg, Option.isNone_none, hs, encI_len, List.length_replicate, Int.toNat_natCast, hg0]
  have hdv : distV g sh goal = dLoop g sh (g.length - 1) 1 ((List.replicate g.length (-1)).set goal 0) := by unfold distV; rw [if_neg (by rw [hs]; simp)]
  refine X_loop_inv (fun q : Nat × List Int => ⟨[(0, .p (.sl (encG g))), (1, .p (.sl (encT sh))), (7, .ref 14 0 g.length g.length), (9, .p (.int .i64 (q.1 : Nat)))], [(14, .arr 3 1 (encI q.2))], 82⟩)
    (fun q => 1 ≤ q.1 ∧ q.1 ≤ 24 ∧ q.2.length = g.length ∧ dLoop g sh (g.length - q.1) q.1 q.2 = distV g sh goal) (fun q => g.length - q.1) (1, (List.replicate g.length (-1)).set goal 0) ⟨Nat.le_refl _, by omega, by simp, hdv.symm⟩ (Wk.forget (by simp [Le, LeE, LeH, get, envIds, hpIds, KeepH, D.ids, idsL, AO.ids, setL, base, encI_set, encI_tail])) ?_
  rintro ⟨d, o⟩ m2 ⟨hd1, hd24, ho, he⟩ ih
  simp only at hd1 hd24 ho he
  simp only [go_sem, ↓reduceIte, Nat.reduceLT, Nat.reduceLeDiff, Nat.reduceEqDiff, Nat.reduceAdd, Nat.reduceMul, Nat.reduceSub, reduceCtorEq, Int.reduceLT, Int.reduceLE, Int.reduceEq, Int.reduceToNat, decide_true, decide_false, Int.reduceNeg, Int.cast_ofNat_Int, sg, AO.sg, Option.isNone_none, encG_len]
  refine Cn_split (fun h3 => ?_) (fun h3 => ?_)
  rotate_left
  · simp only [go_sem, ↓reduceIte, Nat.reduceLT, Nat.reduceLeDiff, Nat.reduceEqDiff, Nat.reduceAdd, Nat.reduceMul, Nat.reduceSub, reduceCtorEq, Int.reduceLT, Int.reduceLE, Int.reduceEq, Int.reduceToNat, decide_true, decide_false, Int.reduceNeg, Int.cast_ofNat_Int, sg, AO.sg, Option.isNone_none]
    refine end_pure ?_
    simp only [go_sem, ↓reduceIte, Nat.reduceLT, Nat.reduceLeDiff, Nat.reduceEqDiff, Nat.reduceAdd, Nat.reduceMul, Nat.reduceSub, reduceCtorEq, Int.reduceLT, Int.reduceLE, Int.reduceEq, Int.reduceToNat, decide_true, decide_false, Int.reduceNeg, Int.cast_ofNat_Int, sg, AO.sg, Option.isNone_none]
    have : g.length - d = 0 := by simp at h3; omega
    rw [this] at he
    simp only [dLoop] at he
    rw [← he, List.take_of_length_le (by rw [encI_len]; omega)]
    try simp [encI_len, ho]
  have hdt : d < g.length := by simp at h3; omega
  have hwd := wrap_succ d (by omega)
  have hwp : IntKind.i64.wrap ((d : Int) - 1) = (d : Int) - 1 := by rw [wrap_i64_id] <;> omega
  rw [show g.length - d = (g.length - (d + 1)) + 1 by omega] at he
  simp only [dLoop] at he
  generalize hT : vLoop g sh d g.length 0 o = T at he
  simp only [go_sem, ↓reduceIte, Nat.reduceLT, Nat.reduceLeDiff, Nat.reduceEqDiff, Nat.reduceAdd, Nat.reduceMul, Nat.reduceSub, reduceCtorEq, Int.reduceLT, Int.reduceLE, Int.reduceEq, Int.reduceToNat, decide_true, decide_false, Int.reduceNeg, Int.cast_ofNat_Int, sg, AO.sg, Option.isNone_none]
  refine X_loop_inv (fun q : Nat × List Int => ⟨[(0, .p (.sl (encG g))), (1, .p (.sl (encT sh))), (7, .ref 14 0 g.length g.length), (9, .p (.int .i64 (d : Nat))), (10, .p (.int .i64 (q.1 : Nat)))], [(14, .arr 3 1 (encI q.2))], 82⟩)
    (fun q => q.1 ≤ g.length ∧ q.2.length = g.length ∧ vLoop g sh d (g.length - q.1) q.1 q.2 = T) (fun q => g.length - q.1) (0, o) ⟨Nat.zero_le _, ho, hT⟩ (Wk.forget (by simp [Le, LeE, LeH, get, envIds, hpIds, KeepH, D.ids, idsL, AO.ids, setL, base])) ?_
  rintro ⟨v, o1⟩ m3 ⟨hv, ho1, he1⟩ ih1
  simp only at hv ho1 he1
  simp only [go_sem, ↓reduceIte, Nat.reduceLT, Nat.reduceLeDiff, Nat.reduceEqDiff, Nat.reduceAdd, Nat.reduceMul, Nat.reduceSub, reduceCtorEq, Int.reduceLT, Int.reduceLE, Int.reduceEq, Int.reduceToNat, decide_true, decide_false, Int.reduceNeg, Int.cast_ofNat_Int, sg, AO.sg, Option.isNone_none, encG_len]
  refine Cn_split (fun h4 => ?_) (fun h4 => ?_)
  rotate_left
  · have : g.length - v = 0 := by simp at h4; omega
    rw [this] at he1
    simp only [vLoop] at he1
    simp only [go_sem, ↓reduceIte, Nat.reduceLT, Nat.reduceLeDiff, Nat.reduceEqDiff, Nat.reduceAdd, Nat.reduceMul, Nat.reduceSub, reduceCtorEq, Int.reduceLT, Int.reduceLE, Int.reduceEq, Int.reduceToNat, decide_true, decide_false, Int.reduceNeg, Int.cast_ofNat_Int, sg, AO.sg, Option.isNone_none, hwd]
    refine ih (d + 1, o1) _ ⟨by omega, by omega, ho1, by rw [he1]; exact he⟩ (by simp only; omega) ?_
    (refine Wk.forget ?_; simp [Le, LeE, LeH, get, envIds, hpIds, KeepH, D.ids, idsL, AO.ids, setL, base]; done)
  have hvt : v < g.length := by simp at h4; omega
  have hwv := wrap_succ v (by omega)
  rw [show g.length - v = (g.length - (v + 1)) + 1 by omega] at he1
  simp only [vLoop] at he1
  have hgs := encT_get sh v (by omega)
  have hgo := encI_get o1 v (by omega)
  have hv0 : (0 : Int) ≤ (v : Int) ∧ (v : Int) < (g.length : Int) := by omega
  cases c1 : sh.getD v false
  rotate_left
  · simp only [go_sem, ↓reduceIte, Nat.reduceLT, Nat.reduceLeDiff, Nat.reduceEqDiff, Nat.reduceAdd, Nat.reduceMul, Nat.reduceSub, reduceCtorEq, Int.reduceLT, Int.reduceLE, Int.reduceEq, Int.reduceToNat, decide_true, decide_false, Int.reduceNeg, Int.cast_ofNat_Int, sg, AO.sg, Option.isNone_none, encT_len, encI_len, hsh, ho1, Int.toNat_natCast, hgs, hgo, hv0, c1, hwv]
    refine ih1 (v + 1, o1) _ ⟨hvt, ho1, ?_⟩ (by simp only; omega) ?_
    · rw [← he1]; unfold vStep; rw [if_pos (.inl c1)]
    · (refine Wk.forget ?_; simp [Le, LeE, LeH, get, envIds, hpIds, KeepH, D.ids, idsL, AO.ids, setL, base]; done)
  cases c2 : decide (0 ≤ o1.getD v 0)
  rotate_left
  · simp only [go_sem, ↓reduceIte, Nat.reduceLT, Nat.reduceLeDiff, Nat.reduceEqDiff, Nat.reduceAdd, Nat.reduceMul, Nat.reduceSub, reduceCtorEq, Int.reduceLT, Int.reduceLE, Int.reduceEq, Int.reduceToNat, decide_true, decide_false, Int.reduceNeg, Int.cast_ofNat_Int, sg, AO.sg, Option.isNone_none, encT_len, encI_len, hsh, ho1, Int.toNat_natCast, hgs, hgo, hv0, c1, c2, hwv]
    refine ih1 (v + 1, o1) _ ⟨hvt, ho1, ?_⟩ (by simp only; omega) ?_
    · rw [← he1]; unfold vStep; rw [if_pos (.inr (of_decide_eq_true c2))]
    · (refine Wk.forget ?_; simp [Le, LeE, LeH, get, envIds, hpIds, KeepH, D.ids, idsL, AO.ids, setL, base]; done)
  simp only [go_sem, ↓reduceIte, Nat.reduceLT, Nat.reduceLeDiff, Nat.reduceEqDiff, Nat.reduceAdd, Nat.reduceMul, Nat.reduceSub, reduceCtorEq, Int.reduceLT, Int.reduceLE, Int.reduceEq, Int.reduceToNat, decide_true, decide_false, Int.reduceNeg, Int.cast_ofNat_Int, sg, AO.sg, Option.isNone_none, encT_len, encI_len, hsh, ho1, Int.toNat_natCast, hgs, hgo, hv0, c1, c2]
  have hst : vStep g sh d v o1 = if (g.getD v []).any (fun w => decide (o1.getD w.toNat 0 = (d : Int) - 1)) = true then o1.set v d else o1 := by
    unfold vStep
    rw [if_neg (by rintro (h | h); · rw [c1] at h; cases h
                   · exact of_decide_eq_false c2 h)]
  rw [hst] at he1
  have hrow : ∀ k, k < (g.getD v []).length → ∃ w : Nat, (g.getD v []).getD k 0 = (w : Int) ∧ w < g.length ∧ w ≠ v := fun k hk => row_in hg hvt hk
  have hrl : (g.getD v []).length ≤ 24 := by
    have hP := hg.2 v hvt
    have key : ∀ k, k ≤ (g.getD v []).length → ∀ j, j < k → (j : Int) ≤ (g.getD v []).getD j 0 := by
      intro k
      induction k with
      | zero => intro _ j hj; omega
      | succ k ihk =>
        intro hk j hj
        rcases Nat.lt_succ_iff_lt_or_eq.1 hj with h5 | rfl
        · exact ihk (by omega) j h5
        · have h6 := hP j (by omega)
          unfold okAt at h6
          rcases j with _ | j
          · exact h6.1
          · have h7 := ihk (by omega) j (by omega)
            have h8 := h6.2.2.2 (by omega)
            rw [show j + 1 - 1 = j from rfl] at h8
            omega
    rcases Nat.eq_zero_or_pos (g.getD v []).length with h5 | h5
    · omega
    · have h6 := key _ (Nat.le_refl _) ((g.getD v []).length - 1) (by omega)
      obtain ⟨w, h7, h8, _⟩ := hrow ((g.getD v []).length - 1) (by omega)
      omega
  have hgv := encG_get g v hvt
  generalize g.getD v [] = row at *
  clear hst c1 c2 hgs hgo
  refine X_loop_inv (fun k : Nat => ⟨[(0, .p (.sl (encG g))), (1, .p (.sl (encT sh))), (7, .ref 14 0 g.length g.length), (9, .p (.int .i64 (d : Nat))), (10, .p (.int .i64 (v : Nat))), (11, .p (.int .i64 (k : Nat)))],
      [(14, .arr 3 1 (encI (if (row.take k).any (fun w => decide (o1.getD w.toNat 0 = (d : Int) - 1)) = true then o1.set v d else o1)))], 82⟩)
    (fun k => k ≤ row.length) (fun k => row.length - k) 0 (Nat.zero_le _) (Wk.forget (by simp [Le, LeE, LeH, get, envIds, hpIds, KeepH, D.ids, idsL, AO.ids, setL, base])) ?_
  rintro k m4 hk ih2
  simp only [go_sem, ↓reduceIte, Nat.reduceLT, Nat.reduceLeDiff, Nat.reduceEqDiff, Nat.reduceAdd, Nat.reduceMul, Nat.reduceSub, reduceCtorEq, Int.reduceLT, Int.reduceLE, Int.reduceEq, Int.reduceToNat, decide_true, decide_false, Int.reduceNeg, Int.cast_ofNat_Int, sg, AO.sg, Option.isNone_none, encG_len, encI_len, Int.toNat_natCast, hgv, hv0]
  refine Cn_split (fun h5 => ?_) (fun h5 => ?_)
  rotate_left
  · have : k = row.length := by simp at h5; omega
    subst this
    rw [List.take_length]
    clear ih2
    generalize row.any (fun w => decide (o1.getD w.toNat 0 = (d : Int) - 1)) = an at *
    simp only [go_sem, ↓reduceIte, Nat.reduceLT, Nat.reduceLeDiff, Nat.reduceEqDiff, Nat.reduceAdd, Nat.reduceMul, Nat.reduceSub, reduceCtorEq, Int.reduceLT, Int.reduceLE, Int.reduceEq, Int.reduceToNat, decide_true, decide_false, Int.reduceNeg, Int.cast_ofNat_Int, sg, AO.sg, Option.isNone_none, hwv]
    refine ih1 (v + 1, if an = true then o1.set v d else o1) _ ⟨hvt, ?_, he1⟩ (by simp only; omega) ?_
    · simp only; split <;> simp [ho1]
    · (refine Wk.forget ?_; simp [Le, LeE, LeH, get, envIds, hpIds, KeepH, D.ids, idsL, AO.ids, setL, base]; done)
  have hkt : k < row.length := by simp at h5; omega
  have hwk := wrap_succ k (by omega)
  obtain ⟨w, hw, hwl, hwv2⟩ := hrow k hkt
  have hgk := encI_get row k hkt
  rw [hw] at hgk
  have hk0 : (0 : Int) ≤ (k : Int) ∧ (k : Int) < (row.length : Int) := by omega
  have hw0 : (0 : Int) ≤ (w : Int) ∧ (w : Int) < (g.length : Int) := by omega
  have hts := any_take_succ (fun w => decide (o1.getD w.toNat 0 = (d : Int) - 1)) row k 0 hkt
  rw [hw] at hts
  simp only [Int.toNat_natCast] at hts
  generalize (row.take k).any (fun w => decide (o1.getD w.toNat 0 = (d : Int) - 1)) = an at *
  have hol : (if an = true then o1.set v d else o1).length = g.length := by split <;> simp [ho1]
  have hgw := encI_get (if an = true then o1.set v d else o1) w (by omega)
  have hgw2 : (if an = true then o1.set v d else o1).getD w 0 = o1.getD w 0 := by
    split
    · rw [getD_set, if_neg (fun h => hwv2 h.1.symm)]
    · rfl
  rw [hgw2] at hgw
  have hset : (if an = true then o1.set v d else o1).set v d = o1.set v d := by split <;> simp
  generalize hq : (if an = true then o1.set v d else o1) = q at *
  simp only [go_sem, ↓reduceIte, Nat.reduceLT, Nat.reduceLeDiff, Nat.reduceEqDiff, Nat.reduceAdd, Nat.reduceMul, Nat.reduceSub, reduceCtorEq, Int.reduceLT, Int.reduceLE, Int.reduceEq, Int.reduceToNat, decide_true, decide_false, Int.reduceNeg, Int.cast_ofNat_Int, sg, AO.sg, Option.isNone_none, encG_len, encI_len, Int.toNat_natCast, hgv, hv0, hgk, hk0, hol, hgw, hw0, hwp]
  cases c3 : decide (o1.getD w 0 = (d : Int) - 1)
  · simp only [go_sem, ↓reduceIte, Nat.reduceLT, Nat.reduceLeDiff, Nat.reduceEqDiff, Nat.reduceAdd, Nat.reduceMul, Nat.reduceSub, reduceCtorEq, Int.reduceLT, Int.reduceLE, Int.reduceEq, Int.reduceToNat, decide_true, decide_false, Int.reduceNeg, Int.cast_ofNat_Int, sg, AO.sg, Option.isNone_none, c3, hwk]
    refine ih2 (k + 1) _ hkt (by omega) ?_
    rw [hts, c3, Bool.or_false, hq]
    (refine Wk.forget ?_; simp [Le, LeE, LeH, get, envIds, hpIds, KeepH, D.ids, idsL, AO.ids, setL, base]; done)
  · simp only [go_sem, ↓reduceIte, Nat.reduceLT, Nat.reduceLeDiff, Nat.reduceEqDiff, Nat.reduceAdd, Nat.reduceMul, Nat.reduceSub, reduceCtorEq, Int.reduceLT, Int.reduceLE, Int.reduceEq, Int.reduceToNat, decide_true, decide_false, Int.reduceNeg, Int.cast_ofNat_Int, sg, AO.sg, Option.isNone_none, c3, hwk, encI_len, hol, Int.toNat_natCast, hv0]
    refine ih2 (k + 1) _ hkt (by omega) ?_
    rw [hts, c3, Bool.or_true, if_pos rfl, ← hset, encI_set]
    (refine Wk.forget ?_; simp [Le, LeE, LeH, get, envIds, hpIds, KeepH, D.ids, idsL, AO.ids, setL, base, encI_tail]; done)
end Go.Am
end

section
/- The reference's paths and girth: no more than that they end and what their lengths are. -/
namespace Go.Am
open Go Go.Proofs
set_option maxRecDepth 100000
set_option linter.unusedVariables false
set_option linter.unusedSimpArgs false
theorem check4_ok (g : List (List Int)) (sh : List Bool) (hg : smallG g) : ACalls Tryz.prog 94 [.p (.sl (encG g)), .p (.sl (encT sh))] [] fun h r => h = [] ∧ r = .p (.int .i64 (if gphP g then (if sh.length = g.length then 0 else 19) else 20)) := by
  refine ACalls_X Tryz.func94 rfl enters94 (by simp [Tryz.f94]) ?_
  simp only [go_sem, ↓reduceIte, Nat.reduceLT, Nat.reduceLeDiff, Nat.reduceEqDiff, Nat.reduceAdd, Nat.reduceMul, Nat.reduceSub, reduceCtorEq, Int.reduceLT, Int.reduceLE, Int.reduceEq, Int.reduceToNat, decide_true, decide_false, Int.reduceNeg, Int.cast_ofNat_Int, sg, AO.sg, Option.isNone_none]
  refine Cc_of ((valid4_ok g hg)) ?_
  rintro h' r ⟨rfl, rfl⟩
  cases c1 : decide (gphP g)
  · simp only [go_sem, ↓reduceIte, Nat.reduceLT, Nat.reduceLeDiff, Nat.reduceEqDiff, Nat.reduceAdd, Nat.reduceMul, Nat.reduceSub, reduceCtorEq, Int.reduceLT, Int.reduceLE, Int.reduceEq, Int.reduceToNat, decide_true, decide_false, Int.reduceNeg, Int.cast_ofNat_Int, sg, AO.sg, Option.isNone_none, c1]
    rw [if_neg (of_decide_eq_false c1)]
  simp only [go_sem, ↓reduceIte, Nat.reduceLT, Nat.reduceLeDiff, Nat.reduceEqDiff, Nat.reduceAdd, Nat.reduceMul, Nat.reduceSub, reduceCtorEq, Int.reduceLT, Int.reduceLE, Int.reduceEq, Int.reduceToNat, decide_true, decide_false, Int.reduceNeg, Int.cast_ofNat_Int, sg, AO.sg, Option.isNone_none, c1, encT_len, encG_len]
  rw [if_pos (of_decide_eq_true c1)]
  cases c2 : decide ((sh.length : Int) = (g.length : Int))
  · simp only [go_sem, ↓reduceIte, Nat.reduceLT, Nat.reduceLeDiff, Nat.reduceEqDiff, Nat.reduceAdd, Nat.reduceMul, Nat.reduceSub, reduceCtorEq, Int.reduceLT, Int.reduceLE, Int.reduceEq, Int.reduceToNat, decide_true, decide_false, Int.reduceNeg, Int.cast_ofNat_Int, sg, AO.sg, Option.isNone_none, c2]
    rw [if_neg (fun h => of_decide_eq_false c2 (by omega))]
  · simp only [go_sem, ↓reduceIte, Nat.reduceLT, Nat.reduceLeDiff, Nat.reduceEqDiff, Nat.reduceAdd, Nat.reduceMul, Nat.reduceSub, reduceCtorEq, Int.reduceLT, Int.reduceLE, Int.reduceEq, Int.reduceToNat, decide_true, decide_false, Int.reduceNeg, Int.cast_ofNat_Int, sg, AO.sg, Option.isNone_none, c2]
    rw [if_pos (by have := of_decide_eq_true c2; omega)]
def hopV (g : List (List Int)) (D : List Int) (v : Nat) : Int := if 0 < D.getD v 0 then ((g.getD v []).find? (fun w => decide (D.getD w.toNat 0 = D.getD v 0 - 1))).getD (-1) else -1
theorem distV_rng {g : List (List Int)} (hg : gphP g) (sh : List Bool) {goal : Nat} (hgoal : goal < g.length) {v : Nat} (hv : v < g.length) : -1 ≤ (distV g sh goal).getD v 0 ∧ (distV g sh goal).getD v 0 ≤ 24 := by
  rcases (distV_DP hg sh goal hgoal).2 v hv with h | h | h <;> omega
theorem row_len {g : List (List Int)} (hg : gphP g) {u : Nat} (hu : u < g.length) : (g.getD u []).length ≤ 24 := by
  have hP := hg.2 u hu
  have key : ∀ k, k ≤ (g.getD u []).length → ∀ j, j < k → (j : Int) ≤ (g.getD u []).getD j 0 := by
    intro k
    induction k with
    | zero => intro _ j hj; omega
    | succ k ihk =>
      intro hk j hj
      rcases Nat.lt_succ_iff_lt_or_eq.1 hj with h5 | rfl
      · exact ihk (by omega) j h5
      · have h6 := hP j (by omega)
        unfold okAt at h6
        rcases j with _ | j
        · exact h6.1
        · have h7 := ihk (by omega) j (by omega)
          have h8 := h6.2.2.2 (by omega)
          rw [show j + 1 - 1 = j from rfl] at h8
          omega
  have hl := hg.1
  rcases Nat.eq_zero_or_pos (g.getD u []).length with h5 | h5
  · omega
  · have h6 := key _ (Nat.le_refl _) ((g.getD u []).length - 1) (by omega)
    obtain ⟨w, h7, h8, _⟩ := row_in hg hu (k := (g.getD u []).length - 1) (by omega)
    omega
def jm1 (j : Nat) : Int := (j : Int) - 1
set_option maxHeartbeats 800000 in
theorem hops_ok (g : List (List Int)) (sh : List Bool) (goal : Nat) (hg : gphP g) (hsh : sh.length = g.length) (hgoal : goal < g.length) :
    ACalls Tryz.prog 172 [.p (.sl (encG g)), .p (.sl (encT sh)), .p (.int .i64 (goal : Nat))] [] fun h r => h = [] ∧ ∃ o : List Int, r = .p (.sl (encI o)) ∧ o.length = g.length ∧ ∀ v, v < g.length → o.getD v 0 = hopV g (distV g sh goal) v := by
  have hlen := hg.1
  have hDl := distV_len g sh goal
  have hDr : ∀ v, v < g.length → -1 ≤ (distV g sh goal).getD v 0 ∧ (distV g sh goal).getD v 0 ≤ 24 := fun v hv => distV_rng hg sh hgoal hv
  have hd := dist_ok g sh goal hg hsh hgoal
  refine ACalls_X Tryz.func172 rfl enters172 (by simp [Tryz.f172]) ?_
  simp only [go_sem, ↓reduceIte, Nat.reduceLT, Nat.reduceLeDiff, Nat.reduceEqDiff, Nat.reduceAdd, Nat.reduceMul, Nat.reduceSub, reduceCtorEq, Int.reduceLT, Int.reduceLE, Int.reduceEq, Int.reduceToNat, decide_true, decide_false, Int.reduceNeg, Int.cast_ofNat_Int, sg, AO.sg, Option.isNone_none]
  refine Cc_of ((hd)) ?_
  rintro h' r ⟨rfl, rfl⟩
  generalize distV g sh goal = ds at *
  clear hd
  simp only [go_sem, ↓reduceIte, Nat.reduceLT, Nat.reduceLeDiff, Nat.reduceEqDiff, Nat.reduceAdd, Nat.reduceMul, Nat.reduceSub, reduceCtorEq, Int.reduceLT, Int.reduceLE, Int.reduceEq, Int.reduceToNat, decide_true, decide_false, Int.reduceNeg, Int.cast_ofNat_Int, sg, AO.sg, Option.isNone_none, encG_len]
  refine ⟨by omega, ?_⟩
  refine X_loop_inv (fun q : Nat × List Int => ⟨[(0, .p (.sl (encG g))), (7, .p (.sl (encI ds))), (8, .ref 18 0 g.length g.length), (9, .p (.int .i64 (q.1 : Nat)))], [(18, .arr 3 1 (encI q.2))], 67⟩)
    (fun q => q.1 ≤ g.length ∧ q.2.length = g.length ∧ ∀ v, v < q.1 → q.2.getD v 0 = hopV g ds v) (fun q => g.length - q.1) (0, List.replicate g.length 0) ⟨Nat.zero_le _, by simp, fun j hj => absurd hj (Nat.not_lt_zero _)⟩ (Wk.forget (by simp [Le, LeE, LeH, get, envIds, hpIds, KeepH, D.ids, idsL, AO.ids, setL, base, encI])) ?_
  rintro ⟨v, o⟩ m ⟨hv, ho, hall⟩ ih
  simp only at hv ho hall
  simp only [go_sem, ↓reduceIte, Nat.reduceLT, Nat.reduceLeDiff, Nat.reduceEqDiff, Nat.reduceAdd, Nat.reduceMul, Nat.reduceSub, reduceCtorEq, Int.reduceLT, Int.reduceLE, Int.reduceEq, Int.reduceToNat, decide_true, decide_false, Int.reduceNeg, Int.cast_ofNat_Int, sg, AO.sg, Option.isNone_none, encG_len]
  refine Cn_split (fun h2 => ?_) (fun h2 => ?_)
  rotate_left
  · simp only [go_sem, ↓reduceIte, Nat.reduceLT, Nat.reduceLeDiff, Nat.reduceEqDiff, Nat.reduceAdd, Nat.reduceMul, Nat.reduceSub, reduceCtorEq, Int.reduceLT, Int.reduceLE, Int.reduceEq, Int.reduceToNat, decide_true, decide_false, Int.reduceNeg, Int.cast_ofNat_Int, sg, AO.sg, Option.isNone_none]
    refine end_pure ?_
    simp only [go_sem, ↓reduceIte, Nat.reduceLT, Nat.reduceLeDiff, Nat.reduceEqDiff, Nat.reduceAdd, Nat.reduceMul, Nat.reduceSub, reduceCtorEq, Int.reduceLT, Int.reduceLE, Int.reduceEq, Int.reduceToNat, decide_true, decide_false, Int.reduceNeg, Int.cast_ofNat_Int, sg, AO.sg, Option.isNone_none]
    have : v = g.length := by simp at h2; omega
    subst this
    refine ⟨by rw [encI_len]; omega, o, ?_, ho, hall⟩
    rw [List.take_of_length_le (by rw [encI_len]; omega)]
  have hvt : v < g.length := by simp at h2; omega
  have hwv := wrap_succ v (by omega)
  have hv0 : (0 : Int) ≤ (v : Int) ∧ (v : Int) < (g.length : Int) := by omega
  have hgv := encG_get g v hvt
  have hrow : ∀ k, k < (g.getD v []).length → ∃ w : Nat, (g.getD v []).getD k 0 = (w : Int) ∧ w < g.length ∧ w ≠ v := fun k hk => row_in hg hvt hk
  have hrl := row_len hg hvt
  have hDv := encI_get ds v (by omega)
  have hDvr := hDr v hvt
  have hhv : hopV g ds v = if 0 < ds.getD v 0 then ((g.getD v []).find? (fun w => decide (ds.getD w.toNat 0 = ds.getD v 0 - 1))).getD (-1) else -1 := rfl
  generalize g.getD v [] = row at *
  generalize hdv : ds.getD v 0 = dv at *
  have hwl : IntKind.i64.wrap ((row.length : Int) - 1) = jm1 row.length := by unfold jm1; rw [wrap_i64_id] <;> omega
  simp only [go_sem, ↓reduceIte, Nat.reduceLT, Nat.reduceLeDiff, Nat.reduceEqDiff, Nat.reduceAdd, Nat.reduceMul, Nat.reduceSub, reduceCtorEq, Int.reduceLT, Int.reduceLE, Int.reduceEq, Int.reduceToNat, decide_true, decide_false, Int.reduceNeg, Int.cast_ofNat_Int, sg, AO.sg, Option.isNone_none, encG_len, encI_len, ho, Int.toNat_natCast, hv0, hgv, hwl]
  refine X_loop_inv (fun j : Nat => ⟨[(0, .p (.sl (encG g))), (7, .p (.sl (encI ds))), (8, .ref 18 0 g.length g.length), (9, .p (.int .i64 (v : Nat))), (10, .p (.int .i64 (jm1 j)))],
      [(18, .arr 3 1 (encI (o.set v (((row.drop j).find? (fun w => decide (ds.getD w.toNat 0 = dv - 1))).getD (-1)))))], 67⟩)
    (fun j => j ≤ row.length ∧ (j = row.length ∨ 0 < dv)) (fun j => j) row.length ⟨Nat.le_refl _, .inl rfl⟩ (Wk.forget (by simp [Le, LeE, LeH, get, envIds, hpIds, KeepH, D.ids, idsL, AO.ids, setL, base, encI_set, encI_tail, List.drop_length])) ?_
  rintro j m2 ⟨hj, hjd⟩ ih2
  have hset : ∀ x, ∀ u, u < v + 1 → x = hopV g ds v → (o.set v x).getD u 0 = hopV g ds u := fun x u hu hx => by
    rw [getD_set]
    by_cases e : v = u
    · subst e; rw [if_pos ⟨rfl, by omega⟩]; exact hx
    · rw [if_neg (fun h => e h.1)]; exact hall u (by omega)
  rcases j with _ | j
  · have hz : ¬ (0 : Int) ≤ jm1 0 := by unfold jm1; omega
    simp only [go_sem, ↓reduceIte, Nat.reduceLT, Nat.reduceLeDiff, Nat.reduceEqDiff, Nat.reduceAdd, Nat.reduceMul, Nat.reduceSub, reduceCtorEq, Int.reduceLT, Int.reduceLE, Int.reduceEq, Int.reduceToNat, decide_true, decide_false, Int.reduceNeg, Int.cast_ofNat_Int, sg, AO.sg, Option.isNone_none, hz, hwv]
    refine ih (v + 1, o.set v ((row.find? (fun w => decide (ds.getD w.toNat 0 = dv - 1))).getD (-1))) _ ⟨hvt, by simp [ho], fun u hu => hset _ u hu ?_⟩ (by simp only; omega) ?_
    · rw [hhv]
      rcases hjd with h3 | h3
      · have : row = [] := List.length_eq_zero_iff.1 h3.symm
        subst this
        simp
      · rw [if_pos h3]
    · (refine Wk.forget ?_; simp [Le, LeE, LeH, get, envIds, hpIds, KeepH, D.ids, idsL, AO.ids, setL, base]; done)
  · have hj1 : jm1 (j + 1) = (j : Int) := by unfold jm1; omega
    have hjn : (0 : Int) ≤ (j : Int) := by omega
    have hwj : IntKind.i64.wrap ((j : Int) - 1) = jm1 j := by unfold jm1; rw [wrap_i64_id] <;> omega
    cases c1 : decide (0 < dv)
    · have hjl : j + 1 = row.length := by
        rcases hjd with h3 | h3
        · exact h3
        · exact absurd h3 (of_decide_eq_false c1)
      have hdrop : row.drop (j + 1) = [] := by rw [hjl]; simp
      rw [hdrop]
      simp only [go_sem, ↓reduceIte, Nat.reduceLT, Nat.reduceLeDiff, Nat.reduceEqDiff, Nat.reduceAdd, Nat.reduceMul, Nat.reduceSub, reduceCtorEq, Int.reduceLT, Int.reduceLE, Int.reduceEq, Int.reduceToNat, decide_true, decide_false, Int.reduceNeg, Int.cast_ofNat_Int, sg, AO.sg, Option.isNone_none, hj1, hjn, encI_len, hDl, Int.toNat_natCast, hv0, hDv, c1, hwv]
      refine ih (v + 1, o.set v (-1)) _ ⟨hvt, by simp [ho], fun u hu => hset _ u hu ?_⟩ (by simp only; omega) ?_
      · rw [hhv, if_neg (of_decide_eq_false c1)]
      · (refine Wk.forget ?_; simp [Le, LeE, LeH, get, envIds, hpIds, KeepH, D.ids, idsL, AO.ids, setL, base]; done)
    have hjt : j < row.length := by omega
    obtain ⟨w, hw, hwl2, hwne⟩ := hrow j hjt
    have hgj := encI_get row j hjt
    rw [hw] at hgj
    have hj0 : (0 : Int) ≤ (j : Int) ∧ (j : Int) < (row.length : Int) := by omega
    have hw0 : (0 : Int) ≤ (w : Int) ∧ (w : Int) < (g.length : Int) := by omega
    have hDw := encI_get ds w (by omega)
    have hwd : IntKind.i64.wrap (dv - 1) = dv - 1 := by rw [wrap_i64_id] <;> omega
    have hdr : row.drop j = (w : Int) :: row.drop (j + 1) := by rw [drop_getD row j 0 hjt, hw]
    simp only [go_sem, ↓reduceIte, Nat.reduceLT, Nat.reduceLeDiff, Nat.reduceEqDiff, Nat.reduceAdd, Nat.reduceMul, Nat.reduceSub, reduceCtorEq, Int.reduceLT, Int.reduceLE, Int.reduceEq, Int.reduceToNat, decide_true, decide_false, Int.reduceNeg, Int.cast_ofNat_Int, sg, AO.sg, Option.isNone_none, hj1, hjn, encI_len, encG_len, hDl, Int.toNat_natCast, hv0, hDv, c1, hgv, hgj, hj0]
    refine X_any0 mixed (p := [(0, 0), (1, 0), (2, 0), (3, 0), (4, 0), (5, 0), (6, 0), (7, 0), (8, 0), (9, 0)]) (by kernel_rfl) (by simp [LeH, get]) ?_
    simp only [go_sem, ↓reduceIte, Nat.reduceLT, Nat.reduceLeDiff, Nat.reduceEqDiff, Nat.reduceAdd, Nat.reduceMul, Nat.reduceSub, reduceCtorEq, Int.reduceLT, Int.reduceLE, Int.reduceEq, Int.reduceToNat, decide_true, decide_false, Int.reduceNeg, Int.cast_ofNat_Int, sg, AO.sg, Option.isNone_none, encI_len, hDl, Int.toNat_natCast, hv0, hDv, hDw, hw0, hwd]
    cases c2 : decide (ds.getD w 0 = dv - 1)
    · simp only [go_sem, ↓reduceIte, Nat.reduceLT, Nat.reduceLeDiff, Nat.reduceEqDiff, Nat.reduceAdd, Nat.reduceMul, Nat.reduceSub, reduceCtorEq, Int.reduceLT, Int.reduceLE, Int.reduceEq, Int.reduceToNat, decide_true, decide_false, Int.reduceNeg, Int.cast_ofNat_Int, sg, AO.sg, Option.isNone_none, c2, hwj]
      refine ih2 j _ ⟨by omega, .inr (of_decide_eq_true c1)⟩ (by omega) ?_
      rw [hdr, List.find?_cons_of_neg (by simp only [Int.toNat_natCast]; simpa using of_decide_eq_false c2)]
      (refine Wk.forget ?_; simp [Le, LeE, LeH, get, envIds, hpIds, KeepH, D.ids, idsL, AO.ids, setL, base]; done)
    · simp only [go_sem, ↓reduceIte, Nat.reduceLT, Nat.reduceLeDiff, Nat.reduceEqDiff, Nat.reduceAdd, Nat.reduceMul, Nat.reduceSub, reduceCtorEq, Int.reduceLT, Int.reduceLE, Int.reduceEq, Int.reduceToNat, decide_true, decide_false, Int.reduceNeg, Int.cast_ofNat_Int, sg, AO.sg, Option.isNone_none, c2, hwj, encI_len, List.length_set, ho, Int.toNat_natCast, hv0]
      refine ih2 j _ ⟨by omega, .inr (of_decide_eq_true c1)⟩ (by omega) ?_
      rw [hdr, List.find?_cons_of_pos (by simp only [Int.toNat_natCast]; exact c2)]
      generalize ((row.drop (j + 1)).find? (fun w => decide (ds.getD w.toNat 0 = dv - 1))).getD (-1) = y0
      rw [show o.set v ((some (w : Int)).getD (-1)) = (o.set v y0).set v (w : Int) by simp, encI_set (o.set v y0)]
      (refine Wk.forget ?_; simp [Le, LeE, LeH, get, envIds, hpIds, KeepH, D.ids, idsL, AO.ids, setL, base, encI_tail]; done)
end Go.Am
end

section
/- The reference's First, through and Girth. -/
namespace Go.Am
open Go Go.Proofs
set_option maxRecDepth 100000
set_option linter.unusedVariables false
set_option linter.unusedSimpArgs false
theorem wid_encI (l : List Int) : Wid 1 (encI l) := by
  intro e he
  unfold encI at he
  obtain ⟨x, _, rfl⟩ := List.mem_map.1 he
  rfl
theorem hop_next {g : List (List Int)} (hg : gphP g) (sh : List Bool) {goal cur : Nat} (hgoal : goal < g.length) (hc : cur < g.length) (hne : cur ≠ goal) (h0 : 0 ≤ (distV g sh goal).getD cur 0) :
    ∃ w : Nat, hopV g (distV g sh goal) cur = (w : Int) ∧ w < g.length ∧ (distV g sh goal).getD w 0 = (distV g sh goal).getD cur 0 - 1 ∧ 1 ≤ (distV g sh goal).getD cur 0 := by
  have hdp := (distV_DP hg sh goal hgoal).2 cur hc
  generalize distV g sh goal = ds at *
  rcases hdp with h | h | ⟨h1, h2, w, h3, h4⟩
  · omega
  · exact absurd h.2 hne
  · unfold hopV
    rw [if_pos (by omega)]
    have hs : ((g.getD cur []).find? (fun w => decide (ds.getD w.toNat 0 = ds.getD cur 0 - 1))).isSome := by
      rw [List.find?_isSome]
      exact ⟨w, h3, decide_eq_true h4⟩
    obtain ⟨u, hu⟩ := Option.isSome_iff_exists.1 hs
    have hm := List.mem_of_find?_eq_some hu
    have hp : ds.getD u.toNat 0 = ds.getD cur 0 - 1 := by have := List.find?_some hu; simpa using this
    obtain ⟨k, hk, hku⟩ := List.mem_iff_getElem.1 hm
    obtain ⟨x, hx1, hx2, _⟩ := row_in hg hc hk
    rw [getD_eq hk, hku] at hx1
    rw [hu]
    subst hx1
    exact ⟨x, rfl, hx2, by simpa using hp, h1⟩
theorem first_ok (g : List (List Int)) (sh : List Bool) (src goal : Nat) (hg : gphP g) (hsh : sh.length = g.length) (hgoal : goal < g.length) (hsrc : src < g.length) (h0 : 0 ≤ (distV g sh goal).getD src 0) :
    ACalls Tryz.prog 146 [.p (.sl (encG g)), .p (.sl (encT sh)), .p (.int .i64 (src : Nat)), .p (.int .i64 (goal : Nat))] [] fun h r => h = [] ∧ ∃ o : List Int, r = .p (.sl (encI o)) ∧ 1 ≤ o.length ∧ o.length ≤ 26 := by
  have hDl := distV_len g sh goal
  have hnext : ∀ cur, cur < g.length → cur ≠ goal → 0 ≤ (distV g sh goal).getD cur 0 → _ := fun cur hc hne h => hop_next hg sh hgoal hc hne h
  have hrng := (distV_rng hg sh hgoal hsrc).2
  have hd := dist_ok g sh goal hg hsh hgoal
  have hh := hops_ok g sh goal hg hsh hgoal
  refine ACalls_X Tryz.func146 rfl enters146 (by simp [Tryz.f146]) ?_
  simp only [go_sem, ↓reduceIte, Nat.reduceLT, Nat.reduceLeDiff, Nat.reduceEqDiff, Nat.reduceAdd, Nat.reduceMul, Nat.reduceSub, reduceCtorEq, Int.reduceLT, Int.reduceLE, Int.reduceEq, Int.reduceToNat, decide_true, decide_false, Int.reduceNeg, Int.cast_ofNat_Int, sg, AO.sg, Option.isNone_none]
  refine Cc_of ((hd)) ?_
  rintro h' r ⟨rfl, rfl⟩
  generalize distV g sh goal = ds at *
  clear hd
  have hDv := encI_get ds src (by omega)
  have hs0 : (0 : Int) ≤ (src : Int) ∧ (src : Int) < (g.length : Int) := by omega
  have hneg : ¬ ds.getD src 0 < 0 := by omega
  simp only [go_sem, ↓reduceIte, Nat.reduceLT, Nat.reduceLeDiff, Nat.reduceEqDiff, Nat.reduceAdd, Nat.reduceMul, Nat.reduceSub, reduceCtorEq, Int.reduceLT, Int.reduceLE, Int.reduceEq, Int.reduceToNat, decide_true, decide_false, Int.reduceNeg, Int.cast_ofNat_Int, sg, AO.sg, Option.isNone_none, encI_len, hDl, Int.toNat_natCast, hDv, hs0, hneg]
  refine Cc_of hh ?_
  rintro h' r ⟨rfl, hp, rfl, hpl, hpv⟩
  simp only [go_sem, ↓reduceIte, Nat.reduceLT, Nat.reduceLeDiff, Nat.reduceEqDiff, Nat.reduceAdd, Nat.reduceMul, Nat.reduceSub, reduceCtorEq, Int.reduceLT, Int.reduceLE, Int.reduceEq, Int.reduceToNat, decide_true, decide_false, Int.reduceNeg, Int.cast_ofNat_Int, sg, AO.sg, Option.isNone_none]
  refine X_loop_inv (fun q : Nat × List Int => ⟨[(2, .p (.int .i64 (q.1 : Nat))), (3, .p (.int .i64 (goal : Nat))), (9, .p (.sl (encI hp))), (10, .ref 24 0 q.2.length q.2.length)], [(24, .arr 3 1 (encI q.2))], 37⟩)
    (fun q => q.1 < g.length ∧ 0 ≤ ds.getD q.1 0 ∧ 1 ≤ q.2.length ∧ (q.2.length : Int) + ds.getD q.1 0 ≤ 25) (fun q => (ds.getD q.1 0).toNat) (src, [(src : Int)]) ⟨hsrc, h0, Nat.le_refl _, by show ((1 : Nat) : Int) + ds.getD src 0 ≤ 25; omega⟩ (Wk.forget (by simp [Le, LeE, LeH, get, envIds, hpIds, KeepH, D.ids, idsL, AO.ids, setL, base, encI])) ?_
  rintro ⟨cur, o⟩ m ⟨hc, hc0, ho1, ho2⟩ ih
  simp only at hc hc0 ho1 ho2
  simp only [go_sem, ↓reduceIte, Nat.reduceLT, Nat.reduceLeDiff, Nat.reduceEqDiff, Nat.reduceAdd, Nat.reduceMul, Nat.reduceSub, reduceCtorEq, Int.reduceLT, Int.reduceLE, Int.reduceEq, Int.reduceToNat, decide_true, decide_false, Int.reduceNeg, Int.cast_ofNat_Int, sg, AO.sg, Option.isNone_none]
  cases c1 : decide ((cur : Int) = (goal : Int))
  · have hne : cur ≠ goal := fun e => of_decide_eq_false c1 (by rw [e])
    obtain ⟨w, hw1, hw2, hw3, hw4⟩ := hnext cur hc hne hc0
    have hgc := encI_get hp cur (by omega)
    rw [hpv cur hc, hw1] at hgc
    have hc2 : (0 : Int) ≤ (cur : Int) ∧ (cur : Int) < (g.length : Int) := by omega
    simp only [go_sem, ↓reduceIte, Nat.reduceLT, Nat.reduceLeDiff, Nat.reduceEqDiff, Nat.reduceAdd, Nat.reduceMul, Nat.reduceSub, reduceCtorEq, Int.reduceLT, Int.reduceLE, Int.reduceEq, Int.reduceToNat, decide_true, decide_false, Int.reduceNeg, Int.cast_ofNat_Int, sg, AO.sg, Option.isNone_none, c1, encI_len, hpl, Int.toNat_natCast, hgc, hc2]
    refine ⟨⟨wid1 _ _ rfl, by omega⟩, ?_⟩
    refine ih (w, o ++ [(w : Int)]) _ ⟨hw2, by simp only; omega, by simp, by show (((o ++ [(w : Int)]).length : Nat) : Int) + ds.getD w 0 ≤ 25; rw [List.length_append, List.length_singleton]; omega⟩ (by simp only; omega) ?_
    (refine Wk.forget ?_; simp [Le, LeE, LeH, get, envIds, hpIds, KeepH, D.ids, idsL, AO.ids, setL, base, encI_snoc, encI_len]; done)
  · simp only [go_sem, ↓reduceIte, Nat.reduceLT, Nat.reduceLeDiff, Nat.reduceEqDiff, Nat.reduceAdd, Nat.reduceMul, Nat.reduceSub, reduceCtorEq, Int.reduceLT, Int.reduceLE, Int.reduceEq, Int.reduceToNat, decide_true, decide_false, Int.reduceNeg, Int.cast_ofNat_Int, sg, AO.sg, Option.isNone_none, c1]
    refine end_pure ?_
    simp only [go_sem, ↓reduceIte, Nat.reduceLT, Nat.reduceLeDiff, Nat.reduceEqDiff, Nat.reduceAdd, Nat.reduceMul, Nat.reduceSub, reduceCtorEq, Int.reduceLT, Int.reduceLE, Int.reduceEq, Int.reduceToNat, decide_true, decide_false, Int.reduceNeg, Int.cast_ofNat_Int, sg, AO.sg, Option.isNone_none]
    refine ⟨by rw [encI_len], o, ?_, ho1, by omega⟩
    rw [encI_take _ _ (Nat.le_refl _)]
set_option maxHeartbeats 800000 in
theorem through_ok (g : List (List Int)) (sh : List Bool) (v : Nat) (hg : gphP g) (hsh : sh.length = g.length) (hv : v < g.length) :
    ACalls Tryz.prog 113 [.p (.sl (encG g)), .p (.sl (encT sh)), .p (.int .i64 (v : Nat))] [] fun h r => h = [] ∧ ∃ o : List Int, r = .p (.sl (encI o)) ∧ o.length ≤ 30 := by
  have hDl := distV_len g sh v
  have hd := dist_ok g sh v hg hsh hv
  have hf := fun src hs h0 => first_ok g sh src v hg hsh hv hs h0
  have hgs := encT_get sh v (by omega)
  have hv0 : (0 : Int) ≤ (v : Int) ∧ (v : Int) < (g.length : Int) := by omega
  refine ACalls_X Tryz.func113 rfl enters113 (by simp [Tryz.f113]) ?_
  simp only [go_sem, ↓reduceIte, Nat.reduceLT, Nat.reduceLeDiff, Nat.reduceEqDiff, Nat.reduceAdd, Nat.reduceMul, Nat.reduceSub, reduceCtorEq, Int.reduceLT, Int.reduceLE, Int.reduceEq, Int.reduceToNat, decide_true, decide_false, Int.reduceNeg, Int.cast_ofNat_Int, sg, AO.sg, Option.isNone_none, encT_len, hsh, Int.toNat_natCast, hgs, hv0]
  cases hs : sh.getD v false
  rotate_left
  · simp only [go_sem, ↓reduceIte, Nat.reduceLT, Nat.reduceLeDiff, Nat.reduceEqDiff, Nat.reduceAdd, Nat.reduceMul, Nat.reduceSub, reduceCtorEq, Int.reduceLT, Int.reduceLE, Int.reduceEq, Int.reduceToNat, decide_true, decide_false, Int.reduceNeg, Int.cast_ofNat_Int, sg, AO.sg, Option.isNone_none, hs]
    refine end_pure ?_
    simp only [go_sem, ↓reduceIte, Nat.reduceLT, Nat.reduceLeDiff, Nat.reduceEqDiff, Nat.reduceAdd, Nat.reduceMul, Nat.reduceSub, reduceCtorEq, Int.reduceLT, Int.reduceLE, Int.reduceEq, Int.reduceToNat, decide_true, decide_false, Int.reduceNeg, Int.cast_ofNat_Int, sg, AO.sg, Option.isNone_none]
    exact ⟨[], rfl, by simp⟩
  simp only [go_sem, ↓reduceIte, Nat.reduceLT, Nat.reduceLeDiff, Nat.reduceEqDiff, Nat.reduceAdd, Nat.reduceMul, Nat.reduceSub, reduceCtorEq, Int.reduceLT, Int.reduceLE, Int.reduceEq, Int.reduceToNat, decide_true, decide_false, Int.reduceNeg, Int.cast_ofNat_Int, sg, AO.sg, Option.isNone_none, hs]
  refine Cc_of ((hd)) ?_
  rintro h' r ⟨rfl, rfl⟩
  generalize distV g sh v = ds at *
  clear hd hs hgs
  have hrow : ∀ k, k < (g.getD v []).length → ∃ w : Nat, (g.getD v []).getD k 0 = (w : Int) ∧ w < g.length ∧ w ≠ v := fun k hk => row_in hg hv hk
  have hrl := row_len hg hv
  have hgv := encG_get g v hv
  generalize g.getD v [] = row at *
  simp only [go_sem, ↓reduceIte, Nat.reduceLT, Nat.reduceLeDiff, Nat.reduceEqDiff, Nat.reduceAdd, Nat.reduceMul, Nat.reduceSub, reduceCtorEq, Int.reduceLT, Int.reduceLE, Int.reduceEq, Int.reduceToNat, decide_true, decide_false, Int.reduceNeg, Int.cast_ofNat_Int, sg, AO.sg, Option.isNone_none]
  refine X_loop_inv (fun q : Nat × Int => ⟨[(0, .p (.sl (encG g))), (1, .p (.sl (encT sh))), (2, .p (.int .i64 (v : Nat))), (7, .p (.sl (encI ds))), (8, .p (.int .i64 q.2)), (9, .p (.int .i64 (q.1 : Nat)))], [], 72⟩)
    (fun q => q.1 ≤ row.length ∧ (q.2 = -1 ∨ ∃ b : Nat, q.2 = (b : Int) ∧ b < g.length ∧ 0 ≤ ds.getD b 0)) (fun q => row.length - q.1) (0, -1) ⟨Nat.zero_le _, .inl rfl⟩ (Wk.forget (by simp [Le, LeE, LeH, get, envIds, hpIds, KeepH, D.ids, idsL, AO.ids, setL, base])) ?_
  rintro ⟨k, bst⟩ m ⟨hk, hb⟩ ih
  simp only at hk hb
  simp only [go_sem, ↓reduceIte, Nat.reduceLT, Nat.reduceLeDiff, Nat.reduceEqDiff, Nat.reduceAdd, Nat.reduceMul, Nat.reduceSub, reduceCtorEq, Int.reduceLT, Int.reduceLE, Int.reduceEq, Int.reduceToNat, decide_true, decide_false, Int.reduceNeg, Int.cast_ofNat_Int, sg, AO.sg, Option.isNone_none, encG_len, encI_len, Int.toNat_natCast, hgv, hv0]
  refine Cn_split (fun h3 => ?_) (fun h3 => ?_)
  · have hkt : k < row.length := by simp at h3; omega
    have hwk := wrap_succ k (by omega)
    obtain ⟨w, hw, hwl, _⟩ := hrow k hkt
    have hgk := encI_get row k hkt
    rw [hw] at hgk
    have hk0 : (0 : Int) ≤ (k : Int) ∧ (k : Int) < (row.length : Int) := by omega
    have hw0 : (0 : Int) ≤ (w : Int) ∧ (w : Int) < (g.length : Int) := by omega
    have hDw := encI_get ds w (by omega)
    simp only [go_sem, ↓reduceIte, Nat.reduceLT, Nat.reduceLeDiff, Nat.reduceEqDiff, Nat.reduceAdd, Nat.reduceMul, Nat.reduceSub, reduceCtorEq, Int.reduceLT, Int.reduceLE, Int.reduceEq, Int.reduceToNat, decide_true, decide_false, Int.reduceNeg, Int.cast_ofNat_Int, sg, AO.sg, Option.isNone_none, encG_len, encI_len, Int.toNat_natCast, hgv, hv0, hgk, hk0]
    refine X_any0 mixed (p := [(0, 0), (1, 0), (2, 0), (3, 0), (4, 0), (5, 0), (6, 0), (7, 0), (8, 0), (9, 0), (10, 0), (11, 0), (12, 0), (13, 0), (14, 0), (15, 0), (16, 0), (17, 0), (18, 0), (19, 0)]) (by kernel_rfl) (by simp [LeH, get]) ?_
    cases c1 : decide (0 ≤ ds.getD w 0)
    · simp only [go_sem, ↓reduceIte, Nat.reduceLT, Nat.reduceLeDiff, Nat.reduceEqDiff, Nat.reduceAdd, Nat.reduceMul, Nat.reduceSub, reduceCtorEq, Int.reduceLT, Int.reduceLE, Int.reduceEq, Int.reduceToNat, decide_true, decide_false, Int.reduceNeg, Int.cast_ofNat_Int, sg, AO.sg, Option.isNone_none, encI_len, hDl, Int.toNat_natCast, hDw, hw0, c1, hwk]
      refine ih (k + 1, bst) _ ⟨hkt, hb⟩ (by simp only; omega) ?_
      (refine Wk.forget ?_; simp [Le, LeE, LeH, get, envIds, hpIds, KeepH, D.ids, idsL, AO.ids, setL, base]; done)
    have hnw : ∃ b : Nat, (w : Int) = (b : Int) ∧ b < g.length ∧ 0 ≤ ds.getD b 0 := ⟨w, rfl, hwl, of_decide_eq_true c1⟩
    rcases hb with rfl | ⟨b, rfl, hbl, hb0⟩
    · simp only [go_sem, ↓reduceIte, Nat.reduceLT, Nat.reduceLeDiff, Nat.reduceEqDiff, Nat.reduceAdd, Nat.reduceMul, Nat.reduceSub, reduceCtorEq, Int.reduceLT, Int.reduceLE, Int.reduceEq, Int.reduceToNat, decide_true, decide_false, Int.reduceNeg, Int.cast_ofNat_Int, sg, AO.sg, Option.isNone_none, encI_len, hDl, Int.toNat_natCast, hDw, hw0, c1, hwk]
      refine ih (k + 1, (w : Int)) _ ⟨hkt, .inr hnw⟩ (by simp only; omega) ?_
      (refine Wk.forget ?_; simp [Le, LeE, LeH, get, envIds, hpIds, KeepH, D.ids, idsL, AO.ids, setL, base]; done)
    · have hDb := encI_get ds b (by omega)
      have hbi : (0 : Int) ≤ (b : Int) ∧ (b : Int) < (g.length : Int) := by omega
      have hbn : ¬ (b : Int) < 0 := by omega
      cases c2 : decide (ds.getD w 0 < ds.getD b 0)
      · simp only [go_sem, ↓reduceIte, Nat.reduceLT, Nat.reduceLeDiff, Nat.reduceEqDiff, Nat.reduceAdd, Nat.reduceMul, Nat.reduceSub, reduceCtorEq, Int.reduceLT, Int.reduceLE, Int.reduceEq, Int.reduceToNat, decide_true, decide_false, Int.reduceNeg, Int.cast_ofNat_Int, sg, AO.sg, Option.isNone_none, encI_len, hDl, Int.toNat_natCast, hDw, hw0, c1, hbn, hDb, hbi, c2, hwk]
        refine ih (k + 1, (b : Int)) _ ⟨hkt, .inr ⟨b, rfl, hbl, hb0⟩⟩ (by simp only; omega) ?_
        (refine Wk.forget ?_; simp [Le, LeE, LeH, get, envIds, hpIds, KeepH, D.ids, idsL, AO.ids, setL, base]; done)
      · simp only [go_sem, ↓reduceIte, Nat.reduceLT, Nat.reduceLeDiff, Nat.reduceEqDiff, Nat.reduceAdd, Nat.reduceMul, Nat.reduceSub, reduceCtorEq, Int.reduceLT, Int.reduceLE, Int.reduceEq, Int.reduceToNat, decide_true, decide_false, Int.reduceNeg, Int.cast_ofNat_Int, sg, AO.sg, Option.isNone_none, encI_len, hDl, Int.toNat_natCast, hDw, hw0, c1, hbn, hDb, hbi, c2, hwk]
        refine ih (k + 1, (w : Int)) _ ⟨hkt, .inr hnw⟩ (by simp only; omega) ?_
        (refine Wk.forget ?_; simp [Le, LeE, LeH, get, envIds, hpIds, KeepH, D.ids, idsL, AO.ids, setL, base]; done)
  · rcases hb with rfl | ⟨b, rfl, hbl, hb0⟩
    · simp only [go_sem, ↓reduceIte, Nat.reduceLT, Nat.reduceLeDiff, Nat.reduceEqDiff, Nat.reduceAdd, Nat.reduceMul, Nat.reduceSub, reduceCtorEq, Int.reduceLT, Int.reduceLE, Int.reduceEq, Int.reduceToNat, decide_true, decide_false, Int.reduceNeg, Int.cast_ofNat_Int, sg, AO.sg, Option.isNone_none]
      refine end_pure ?_
      simp only [go_sem, ↓reduceIte, Nat.reduceLT, Nat.reduceLeDiff, Nat.reduceEqDiff, Nat.reduceAdd, Nat.reduceMul, Nat.reduceSub, reduceCtorEq, Int.reduceLT, Int.reduceLE, Int.reduceEq, Int.reduceToNat, decide_true, decide_false, Int.reduceNeg, Int.cast_ofNat_Int, sg, AO.sg, Option.isNone_none]
      exact ⟨[], rfl, by simp⟩
    · have hbn : ¬ (b : Int) < 0 := by omega
      simp only [go_sem, ↓reduceIte, Nat.reduceLT, Nat.reduceLeDiff, Nat.reduceEqDiff, Nat.reduceAdd, Nat.reduceMul, Nat.reduceSub, reduceCtorEq, Int.reduceLT, Int.reduceLE, Int.reduceEq, Int.reduceToNat, decide_true, decide_false, Int.reduceNeg, Int.cast_ofNat_Int, sg, AO.sg, Option.isNone_none, hbn]
      refine Cc_of (hf b hbl hb0) ?_
      rintro h' r ⟨rfl, o, rfl, ho1, ho2⟩
      have hwo : IntKind.i64.wrap ((o.length : Int) - 1) = ((o.length - 1 : Nat) : Int) := by rw [wrap_i64_id] <;> omega
      simp only [go_sem, ↓reduceIte, Nat.reduceLT, Nat.reduceLeDiff, Nat.reduceEqDiff, Nat.reduceAdd, Nat.reduceMul, Nat.reduceSub, reduceCtorEq, Int.reduceLT, Int.reduceLE, Int.reduceEq, Int.reduceToNat, decide_true, decide_false, Int.reduceNeg, Int.cast_ofNat_Int, sg, AO.sg, Option.isNone_none, encI_len, hwo, Int.toNat_natCast, encI_take2]
      have htl : (o.take (o.length - 1)).length ≤ o.length := by simp
      refine ⟨⟨by omega, wid_encI _⟩, ?_⟩
      refine ⟨⟨wid_encI _, by omega⟩, ?_⟩
      refine end_pure ?_
      simp only [go_sem, ↓reduceIte, Nat.reduceLT, Nat.reduceLeDiff, Nat.reduceEqDiff, Nat.reduceAdd, Nat.reduceMul, Nat.reduceSub, reduceCtorEq, Int.reduceLT, Int.reduceLE, Int.reduceEq, Int.reduceToNat, decide_true, decide_false, Int.reduceNeg, Int.cast_ofNat_Int, sg, AO.sg, Option.isNone_none]
      refine ⟨?_, (v : Int) :: o.take (o.length - 1), ?_, by simp; omega⟩
      · simp [encI]
      · simp [encI, List.take_take]
theorem girth_ok (g : List (List Int)) (sh : List Bool) (hg : gphP g) (hsm : smallG g) (hsh : sh.length = g.length) :
    ACalls Tryz.prog 71 [.p (.sl (encG g)), .p (.sl (encT sh))] [] fun h r => h = [] ∧ ∃ o : List Int, r = .tup [.p (.int .i64 (o.length : Nat)), .p (.sl (encI o)), .p (.int .i64 0)] ∧ o.length ≤ 30 := by
  have ht := fun v hv => through_ok g sh v hg hsh hv
  have hl := hg.1
  refine ACalls_X Tryz.func71 rfl enters71 (by simp [Tryz.f71]) ?_
  simp only [go_sem, ↓reduceIte, Nat.reduceLT, Nat.reduceLeDiff, Nat.reduceEqDiff, Nat.reduceAdd, Nat.reduceMul, Nat.reduceSub, reduceCtorEq, Int.reduceLT, Int.reduceLE, Int.reduceEq, Int.reduceToNat, decide_true, decide_false, Int.reduceNeg, Int.cast_ofNat_Int, sg, AO.sg, Option.isNone_none]
  refine Cc_of ((check4_ok g sh hsm)) ?_
  rintro h' r ⟨rfl, rfl⟩
  rw [if_pos hg, if_pos hsh]
  simp only [go_sem, ↓reduceIte, Nat.reduceLT, Nat.reduceLeDiff, Nat.reduceEqDiff, Nat.reduceAdd, Nat.reduceMul, Nat.reduceSub, reduceCtorEq, Int.reduceLT, Int.reduceLE, Int.reduceEq, Int.reduceToNat, decide_true, decide_false, Int.reduceNeg, Int.cast_ofNat_Int, sg, AO.sg, Option.isNone_none]
  refine X_loop_inv (fun q : Nat × List Int => ⟨[(0, .p (.sl (encG g))), (1, .p (.sl (encT sh))), (8, .p (.sl (encI q.2))), (9, .p (.int .i64 (q.1 : Nat)))], [], 46⟩)
    (fun q => q.1 ≤ g.length ∧ q.2.length ≤ 30) (fun q => g.length - q.1) (0, []) ⟨Nat.zero_le _, by simp⟩ ((Wk.nil (t := 8) (q := 42) (sz := 1) 3 rfl rfl (by decide)).trans ((Wk.pure (t := 8) (id := 42) (sz := 1) (e := 3) (es := []) rfl rfl).trans (Wk.forget (by simp [Le, LeE, LeH, get, envIds, hpIds, KeepH, D.ids, idsL, AO.ids, setL, base, encI])))) ?_
  rintro ⟨v, bst⟩ m ⟨hv, hb⟩ ih
  simp only at hv hb
  simp only [go_sem, ↓reduceIte, Nat.reduceLT, Nat.reduceLeDiff, Nat.reduceEqDiff, Nat.reduceAdd, Nat.reduceMul, Nat.reduceSub, reduceCtorEq, Int.reduceLT, Int.reduceLE, Int.reduceEq, Int.reduceToNat, decide_true, decide_false, Int.reduceNeg, Int.cast_ofNat_Int, sg, AO.sg, Option.isNone_none, encG_len]
  refine Cn_split (fun h3 => ?_) (fun h3 => ?_)
  · have hvt : v < g.length := by simp at h3; omega
    have hwv := wrap_succ v (by omega)
    simp only [go_sem, ↓reduceIte, Nat.reduceLT, Nat.reduceLeDiff, Nat.reduceEqDiff, Nat.reduceAdd, Nat.reduceMul, Nat.reduceSub, reduceCtorEq, Int.reduceLT, Int.reduceLE, Int.reduceEq, Int.reduceToNat, decide_true, decide_false, Int.reduceNeg, Int.cast_ofNat_Int, sg, AO.sg, Option.isNone_none]
    refine Cc_of (ht v hvt) ?_
    rintro h' r ⟨rfl, o, rfl, ho⟩
    simp only [go_sem, ↓reduceIte, Nat.reduceLT, Nat.reduceLeDiff, Nat.reduceEqDiff, Nat.reduceAdd, Nat.reduceMul, Nat.reduceSub, reduceCtorEq, Int.reduceLT, Int.reduceLE, Int.reduceEq, Int.reduceToNat, decide_true, decide_false, Int.reduceNeg, Int.cast_ofNat_Int, sg, AO.sg, Option.isNone_none, encI_len]
    cases c1 : decide (0 < (o.length : Int))
    · simp only [go_sem, ↓reduceIte, Nat.reduceLT, Nat.reduceLeDiff, Nat.reduceEqDiff, Nat.reduceAdd, Nat.reduceMul, Nat.reduceSub, reduceCtorEq, Int.reduceLT, Int.reduceLE, Int.reduceEq, Int.reduceToNat, decide_true, decide_false, Int.reduceNeg, Int.cast_ofNat_Int, sg, AO.sg, Option.isNone_none, encI_len, c1, hwv]
      refine ih (v + 1, bst) _ ⟨hvt, hb⟩ (by simp only; omega) ?_
      (refine Wk.forget ?_; simp [Le, LeE, LeH, get, envIds, hpIds, KeepH, D.ids, idsL, AO.ids, setL, base]; done)
    cases c2 : decide ((bst.length : Int) = 0)
    rotate_left
    · simp only [go_sem, ↓reduceIte, Nat.reduceLT, Nat.reduceLeDiff, Nat.reduceEqDiff, Nat.reduceAdd, Nat.reduceMul, Nat.reduceSub, reduceCtorEq, Int.reduceLT, Int.reduceLE, Int.reduceEq, Int.reduceToNat, decide_true, decide_false, Int.reduceNeg, Int.cast_ofNat_Int, sg, AO.sg, Option.isNone_none, encI_len, c1, c2, hwv]
      refine ih (v + 1, o) _ ⟨hvt, ho⟩ (by simp only; omega) ?_
      (refine Wk.forget ?_; simp [Le, LeE, LeH, get, envIds, hpIds, KeepH, D.ids, idsL, AO.ids, setL, base]; done)
    cases c3 : decide ((o.length : Int) < (bst.length : Int))
    · simp only [go_sem, ↓reduceIte, Nat.reduceLT, Nat.reduceLeDiff, Nat.reduceEqDiff, Nat.reduceAdd, Nat.reduceMul, Nat.reduceSub, reduceCtorEq, Int.reduceLT, Int.reduceLE, Int.reduceEq, Int.reduceToNat, decide_true, decide_false, Int.reduceNeg, Int.cast_ofNat_Int, sg, AO.sg, Option.isNone_none, encI_len, c1, c2, c3, hwv]
      refine ih (v + 1, bst) _ ⟨hvt, hb⟩ (by simp only; omega) ?_
      (refine Wk.forget ?_; simp [Le, LeE, LeH, get, envIds, hpIds, KeepH, D.ids, idsL, AO.ids, setL, base]; done)
    · simp only [go_sem, ↓reduceIte, Nat.reduceLT, Nat.reduceLeDiff, Nat.reduceEqDiff, Nat.reduceAdd, Nat.reduceMul, Nat.reduceSub, reduceCtorEq, Int.reduceLT, Int.reduceLE, Int.reduceEq, Int.reduceToNat, decide_true, decide_false, Int.reduceNeg, Int.cast_ofNat_Int, sg, AO.sg, Option.isNone_none, encI_len, c1, c2, c3, hwv]
      refine ih (v + 1, o) _ ⟨hvt, ho⟩ (by simp only; omega) ?_
      (refine Wk.forget ?_; simp [Le, LeE, LeH, get, envIds, hpIds, KeepH, D.ids, idsL, AO.ids, setL, base]; done)
  · simp only [go_sem, ↓reduceIte, Nat.reduceLT, Nat.reduceLeDiff, Nat.reduceEqDiff, Nat.reduceAdd, Nat.reduceMul, Nat.reduceSub, reduceCtorEq, Int.reduceLT, Int.reduceLE, Int.reduceEq, Int.reduceToNat, decide_true, decide_false, Int.reduceNeg, Int.cast_ofNat_Int, sg, AO.sg, Option.isNone_none, encI_len]
    refine end_pure ?_
    simp only [go_sem, ↓reduceIte, Nat.reduceLT, Nat.reduceLeDiff, Nat.reduceEqDiff, Nat.reduceAdd, Nat.reduceMul, Nat.reduceSub, reduceCtorEq, Int.reduceLT, Int.reduceLE, Int.reduceEq, Int.reduceToNat, decide_true, decide_false, Int.reduceNeg, Int.cast_ofNat_Int, sg, AO.sg, Option.isNone_none]
    exact ⟨bst, rfl, hb⟩
end Go.Am
end

section
/- The reference's slots and fleet. -/
namespace Go.Am
open Go Go.Proofs
set_option maxRecDepth 100000
set_option linter.unusedVariables false
set_option linter.unusedSimpArgs false
def cellsV (n : Nt) : Int := (n.blocks.length : Int) + sumS n.spurs
theorem sumS_mono {nb : Nat} {l : List Spr} (h : spursP nb l) : ∀ (k i : Nat), i + k ≤ l.length → sumS (l.take i) ≤ sumS (l.take (i + k))
  | 0, _, _ => Int.le_refl _
  | k + 1, i, hk => by
    have h1 := sumS_mono h k i (by omega)
    have h2 := h (i + k) (by omega)
    obtain ⟨_, _, _, _, h5, _, _⟩ := h2
    rw [show i + (k + 1) = (i + k) + 1 by omega, take_snoc l (i + k) spr0 (by omega), sumS_snoc]
    omega
theorem spur_rng {nb : Nat} {l : List Spr} (h : spursP nb l) {i : Nat} (hi : i < l.length) :
    (nb : Int) ≤ (l.getD i spr0).base ∧ (l.getD i spr0).base + (l.getD i spr0).slots ≤ (nb : Int) + sumS l ∧ (l.getD i spr0).base = (nb : Int) + sumS (l.take i) := by
  obtain ⟨_, _, _, _, h5, h6, h7⟩ := h i hi
  have h1 := sumS_rng nb l i (by omega) (fun j hj => h j (by omega))
  have h2 := sumS_mono h (l.length - (i + 1)) (i + 1) (by omega)
  rw [show i + 1 + (l.length - (i + 1)) = l.length by omega, List.take_length, take_snoc l i spr0 hi, sumS_snoc] at h2
  omega
theorem sumS_all {nb : Nat} {l : List Spr} (h : spursP nb l) : 0 ≤ sumS l ∧ sumS l ≤ 4 * l.length := by
  have := sumS_rng nb l l.length (Nat.le_refl _) h
  rw [List.take_length] at this
  exact this
theorem cells_ok (n : Nt) (hn : validN n) : ACalls Tryz.prog 73 [.agg n.cs] [] fun h r => h = [] ∧ r = .p (.int .i64 (cellsV n)) := by
  obtain ⟨e1, e2, e3, e4, e5, hsp, e7, e8⟩ := hn
  have hb24 := e1.2.1
  refine ACalls_X Tryz.func73 rfl enters73 (by simp [Tryz.f73]) ?_
  simp only [go_sem, ↓reduceIte, Nat.reduceLT, Nat.reduceLeDiff, Nat.reduceEqDiff, Nat.reduceAdd, Nat.reduceMul, Nat.reduceSub, reduceCtorEq, Int.reduceLT, Int.reduceLE, Int.reduceEq, Int.reduceToNat, decide_true, decide_false, Int.reduceNeg, Int.cast_ofNat_Int, sg, AO.sg, Option.isNone_none, Nt.cs, encK_len]
  refine X_loop_inv (fun i : Nat => ⟨[(1, .ptr 1 0), (3, .p (.int .i64 ((n.blocks.length : Int) + sumS (n.spurs.take i)))), (4, .p (.int .i64 (i : Nat)))], [(1, .box (Nt.cs n))], 24⟩)
    (fun i => i ≤ n.spurs.length) (fun i => n.spurs.length - i) 0 (Nat.zero_le _) (Wk.forget (by simp [Le, LeE, LeH, get, envIds, hpIds, KeepH, D.ids, idsL, AO.ids, setL, base, Nt.cs, sumS])) ?_
  rintro i m hi ih
  simp only [go_sem, ↓reduceIte, Nat.reduceLT, Nat.reduceLeDiff, Nat.reduceEqDiff, Nat.reduceAdd, Nat.reduceMul, Nat.reduceSub, reduceCtorEq, Int.reduceLT, Int.reduceLE, Int.reduceEq, Int.reduceToNat, decide_true, decide_false, Int.reduceNeg, Int.cast_ofNat_Int, sg, AO.sg, Option.isNone_none, Nt.cs, encP_len]
  refine Cn_split (fun h2 => ?_) (fun h2 => ?_)
  · have hlt : i < n.spurs.length := by simp at h2; omega
    have hw := wrap_succ i (by omega)
    have hg := encP_get n.spurs i hlt
    have hi0 : (0 : Int) ≤ (i : Int) ∧ (i : Int) < (n.spurs.length : Int) := by omega
    have hr := sumS_rng n.blocks.length n.spurs (i + 1) hlt (fun j hj => hsp j (by omega))
    have hts : sumS (n.spurs.take (i + 1)) = sumS (n.spurs.take i) + (n.spurs.getD i spr0).slots := by rw [take_snoc n.spurs i spr0 hlt, sumS_snoc]
    rw [hts] at hr
    have hwb : IntKind.i64.wrap ((n.blocks.length : Int) + sumS (n.spurs.take i) + (n.spurs.getD i spr0).slots) = (n.blocks.length : Int) + sumS (n.spurs.take i) + (n.spurs.getD i spr0).slots := by rw [wrap_i64_id] <;> omega
    simp only [go_sem, ↓reduceIte, Nat.reduceLT, Nat.reduceLeDiff, Nat.reduceEqDiff, Nat.reduceAdd, Nat.reduceMul, Nat.reduceSub, reduceCtorEq, Int.reduceLT, Int.reduceLE, Int.reduceEq, Int.reduceToNat, decide_true, decide_false, Int.reduceNeg, Int.cast_ofNat_Int, sg, AO.sg, Option.isNone_none, Nt.cs, encP_len, Int.toNat_natCast, hg, hi0, hwb, hw]
    refine ih (i + 1) _ hlt (by omega) ?_
    (refine Wk.forget ?_; simp [Le, LeE, LeH, get, envIds, hpIds, KeepH, D.ids, idsL, AO.ids, setL, base, Nt.cs, hts, Int.add_assoc]; done)
  · simp only [go_sem, ↓reduceIte, Nat.reduceLT, Nat.reduceLeDiff, Nat.reduceEqDiff, Nat.reduceAdd, Nat.reduceMul, Nat.reduceSub, reduceCtorEq, Int.reduceLT, Int.reduceLE, Int.reduceEq, Int.reduceToNat, decide_true, decide_false, Int.reduceNeg, Int.cast_ofNat_Int, sg, AO.sg, Option.isNone_none]
    have : i = n.spurs.length := by simp at h2; omega
    subst this
    rw [List.take_length]
    rfl
def openB (sh : List Bool) (s : Spr) : Bool := !sh.getD s.inn.toNat false && (!sh.getD s.out.toNat false && (List.range s.slots.toNat).all fun j => !sh.getD (s.base.toNat + j) false)
theorem open_ok (n : Nt) (hn : validN n) (sh : List Bool) (hsh : (sh.length : Int) = cellsV n) (s : Nat) (hs : s < n.spurs.length) :
    ACalls Tryz.prog 114 [.agg n.cs, .p (.sl (encT sh)), .p (.int .i64 (s : Nat))] [] fun h r => h = [] ∧ r = .p (.bool (openB sh (n.spurs.getD s spr0))) := by
  obtain ⟨e1, e2, e3, e4, e5, hsp, e7, e8⟩ := hn
  have hb24 := e1.2.1
  obtain ⟨i1, i2, i3, i4, i5, i6, i7⟩ := hsp s hs
  obtain ⟨r1, r2, r3⟩ := spur_rng hsp hs
  have hall := sumS_all hsp
  have hg := encP_get n.spurs s hs
  have hs0 : (0 : Int) ≤ (s : Int) ∧ (s : Int) < (n.spurs.length : Int) := by omega
  unfold cellsV at hsh
  refine ACalls_X Tryz.func114 rfl enters114 (by simp [Tryz.f114]) ?_
  simp only [go_sem, ↓reduceIte, Nat.reduceLT, Nat.reduceLeDiff, Nat.reduceEqDiff, Nat.reduceAdd, Nat.reduceMul, Nat.reduceSub, reduceCtorEq, Int.reduceLT, Int.reduceLE, Int.reduceEq, Int.reduceToNat, decide_true, decide_false, Int.reduceNeg, Int.cast_ofNat_Int, sg, AO.sg, Option.isNone_none, Nt.cs, encP_len, Int.toNat_natCast, hg, hs0]
  generalize n.spurs.getD s spr0 = sp at *
  clear hg
  obtain ⟨nm, dp, inn, out, sl, bs⟩ := sp
  simp only at i1 i2 i3 i4 i5 i6 i7 r1 r2 r3
  obtain ⟨a, rfl⟩ : ∃ a : Nat, inn = (a : Int) := ⟨inn.toNat, by omega⟩
  obtain ⟨b, rfl⟩ : ∃ b : Nat, out = (b : Int) := ⟨out.toNat, by omega⟩
  obtain ⟨c, rfl⟩ : ∃ c : Nat, bs = (c : Int) := ⟨bs.toNat, by omega⟩
  obtain ⟨d, rfl⟩ : ∃ d : Nat, sl = (d : Int) := ⟨sl.toNat, by omega⟩
  have ha := encT_get sh a (by omega)
  have hb := encT_get sh b (by omega)
  have ha0 : (0 : Int) ≤ (a : Int) ∧ (a : Int) < (sh.length : Int) := by omega
  have hb0 : (0 : Int) ≤ (b : Int) ∧ (b : Int) < (sh.length : Int) := by omega
  have hO : openB sh ⟨nm, dp, a, b, d, c⟩ = (!sh.getD a false && (!sh.getD b false && (List.range d).all fun j => !sh.getD (c + j) false)) := by simp [openB]
  cases c1 : sh.getD a false
  rotate_left
  · simp only [go_sem, ↓reduceIte, Nat.reduceLT, Nat.reduceLeDiff, Nat.reduceEqDiff, Nat.reduceAdd, Nat.reduceMul, Nat.reduceSub, reduceCtorEq, Int.reduceLT, Int.reduceLE, Int.reduceEq, Int.reduceToNat, decide_true, decide_false, Int.reduceNeg, Int.cast_ofNat_Int, sg, AO.sg, Option.isNone_none, encT_len, Int.toNat_natCast, ha, ha0, c1]
    rw [hO, c1]; simp
  cases c2 : sh.getD b false
  rotate_left
  · simp only [go_sem, ↓reduceIte, Nat.reduceLT, Nat.reduceLeDiff, Nat.reduceEqDiff, Nat.reduceAdd, Nat.reduceMul, Nat.reduceSub, reduceCtorEq, Int.reduceLT, Int.reduceLE, Int.reduceEq, Int.reduceToNat, decide_true, decide_false, Int.reduceNeg, Int.cast_ofNat_Int, sg, AO.sg, Option.isNone_none, encT_len, Int.toNat_natCast, ha, ha0, c1, hb, hb0, c2]
    rw [hO, c1, c2]; simp
  simp only [go_sem, ↓reduceIte, Nat.reduceLT, Nat.reduceLeDiff, Nat.reduceEqDiff, Nat.reduceAdd, Nat.reduceMul, Nat.reduceSub, reduceCtorEq, Int.reduceLT, Int.reduceLE, Int.reduceEq, Int.reduceToNat, decide_true, decide_false, Int.reduceNeg, Int.cast_ofNat_Int, sg, AO.sg, Option.isNone_none, encT_len, Int.toNat_natCast, ha, ha0, c1, hb, hb0, c2]
  rw [hO, c1, c2]
  refine X_loop_inv (fun j : Nat => ⟨[(1, .p (.sl (encT sh))), (7, .ptr 7 0), (8, .p (.int .i64 ((c + j : Nat) : Int)))], [(7, .box [.p (.str nm), .p (.bool dp), .p (.int .i64 (a : Nat)), .p (.int .i64 (b : Nat)), .p (.int .i64 (d : Nat)), .p (.int .i64 (c : Nat))])], 41⟩)
    (fun j => j ≤ d ∧ ∀ u, u < j → sh.getD (c + u) false = false) (fun j => d - j) 0 ⟨Nat.zero_le _, fun u hu => absurd hu (Nat.not_lt_zero _)⟩ (Wk.forget (by simp [Le, LeE, LeH, get, envIds, hpIds, KeepH, D.ids, idsL, AO.ids, setL, base])) ?_
  rintro j m ⟨hj, hall2⟩ ih
  have hwe : IntKind.i64.wrap ((c : Int) + (d : Int)) = (c : Int) + (d : Int) := by rw [wrap_i64_id] <;> omega
  simp only [go_sem, ↓reduceIte, Nat.reduceLT, Nat.reduceLeDiff, Nat.reduceEqDiff, Nat.reduceAdd, Nat.reduceMul, Nat.reduceSub, reduceCtorEq, Int.reduceLT, Int.reduceLE, Int.reduceEq, Int.reduceToNat, decide_true, decide_false, Int.reduceNeg, Int.cast_ofNat_Int, sg, AO.sg, Option.isNone_none, hwe]
  refine Cn_split (fun h2 => ?_) (fun h2 => ?_)
  · have hjt : j < d := by simp at h2; omega
    have hw := wrap_succ (c + j) (by omega)
    have hgj := encT_get sh (c + j) (by omega)
    have hj0 : (0 : Int) ≤ ((c + j : Nat) : Int) ∧ ((c + j : Nat) : Int) < (sh.length : Int) := by omega
    simp only [go_sem, ↓reduceIte, Nat.reduceLT, Nat.reduceLeDiff, Nat.reduceEqDiff, Nat.reduceAdd, Nat.reduceMul, Nat.reduceSub, reduceCtorEq, Int.reduceLT, Int.reduceLE, Int.reduceEq, Int.reduceToNat, decide_true, decide_false, Int.reduceNeg, Int.cast_ofNat_Int, sg, AO.sg, Option.isNone_none, encT_len, Int.toNat_natCast, hgj, hj0]
    cases c3 : sh.getD (c + j) false
    · simp only [go_sem, ↓reduceIte, Nat.reduceLT, Nat.reduceLeDiff, Nat.reduceEqDiff, Nat.reduceAdd, Nat.reduceMul, Nat.reduceSub, reduceCtorEq, Int.reduceLT, Int.reduceLE, Int.reduceEq, Int.reduceToNat, decide_true, decide_false, Int.reduceNeg, Int.cast_ofNat_Int, sg, AO.sg, Option.isNone_none, c3, hw]
      refine ih (j + 1) _ ⟨hjt, fun u hu => ?_⟩ (by omega) ?_
      · rcases Nat.lt_succ_iff_lt_or_eq.1 hu with h5 | rfl
        · exact hall2 u h5
        · exact c3
      · (refine Wk.forget ?_; simp [Le, LeE, LeH, get, envIds, hpIds, KeepH, D.ids, idsL, AO.ids, setL, base, Nat.add_assoc]; done)
    · simp only [go_sem, ↓reduceIte, Nat.reduceLT, Nat.reduceLeDiff, Nat.reduceEqDiff, Nat.reduceAdd, Nat.reduceMul, Nat.reduceSub, reduceCtorEq, Int.reduceLT, Int.reduceLE, Int.reduceEq, Int.reduceToNat, decide_true, decide_false, Int.reduceNeg, Int.cast_ofNat_Int, sg, AO.sg, Option.isNone_none, c3]
      have hex : ((List.range d).all fun j => !sh.getD (c + j) false) = false := by
        rw [List.all_eq_false]
        exact ⟨j, List.mem_range.2 hjt, by rw [c3]; simp⟩
      rw [hex]
  · simp only [go_sem, ↓reduceIte, Nat.reduceLT, Nat.reduceLeDiff, Nat.reduceEqDiff, Nat.reduceAdd, Nat.reduceMul, Nat.reduceSub, reduceCtorEq, Int.reduceLT, Int.reduceLE, Int.reduceEq, Int.reduceToNat, decide_true, decide_false, Int.reduceNeg, Int.cast_ofNat_Int, sg, AO.sg, Option.isNone_none]
    have : j = d := by simp at h2; omega
    subst this
    have hal : ((List.range j).all fun j => !sh.getD (c + j) false) = true := by
      rw [List.all_eq_true]
      intro u hu
      rw [hall2 u (List.mem_range.1 hu)]; rfl
    rw [hal]
/-- The slots of the open depots. -/
def slotsV (sh : List Bool) : List Spr → Int
  | [] => 0
  | s :: r => (if s.depot && openB sh s then s.slots else 0) + slotsV sh r
theorem slotsV_snoc (sh : List Bool) (l : List Spr) (s : Spr) : slotsV sh (l ++ [s]) = slotsV sh l + (if s.depot && openB sh s then s.slots else 0) := by
  induction l with
  | nil => simp [slotsV]
  | cons x r ih => simp only [List.cons_append, slotsV, ih]; omega
theorem slotsV_rng (sh : List Bool) {nb : Nat} {l : List Spr} (h : spursP nb l) : ∀ k, k ≤ l.length → 0 ≤ slotsV sh (l.take k) ∧ slotsV sh (l.take k) ≤ 4 * k
  | 0, _ => by simp [slotsV]
  | k + 1, hk => by
    have h1 := slotsV_rng sh h k (by omega)
    obtain ⟨_, _, _, _, h5, h6, _⟩ := h k (by omega)
    rw [take_snoc l k spr0 (by omega), slotsV_snoc]
    split <;> omega
theorem slots_ok (n : Nt) (hn : validN n) (sh : List Bool) (hsh : (sh.length : Int) = cellsV n) :
    ACalls Tryz.prog 72 [.agg n.cs, .p (.sl (encT sh))] [] fun h r => h = [] ∧ r = .p (.int .i64 (slotsV sh n.spurs)) := by
  have hO := fun s hs => open_ok n hn sh hsh s hs
  obtain ⟨e1, e2, e3, e4, e5, hsp, e7, e8⟩ := hn
  refine ACalls_X Tryz.func72 rfl enters72 (by simp [Tryz.f72]) ?_
  simp only [go_sem, ↓reduceIte, Nat.reduceLT, Nat.reduceLeDiff, Nat.reduceEqDiff, Nat.reduceAdd, Nat.reduceMul, Nat.reduceSub, reduceCtorEq, Int.reduceLT, Int.reduceLE, Int.reduceEq, Int.reduceToNat, decide_true, decide_false, Int.reduceNeg, Int.cast_ofNat_Int, sg, AO.sg, Option.isNone_none, Nt.cs]
  refine X_loop_inv (fun i : Nat => ⟨[(1, .p (.sl (encT sh))), (2, .ptr 2 0), (5, .p (.int .i64 (slotsV sh (n.spurs.take i)))), (6, .p (.int .i64 (i : Nat)))], [(2, .box (Nt.cs n))], 35⟩)
    (fun i => i ≤ n.spurs.length) (fun i => n.spurs.length - i) 0 (Nat.zero_le _) (Wk.forget (by simp [Le, LeE, LeH, get, envIds, hpIds, KeepH, D.ids, idsL, AO.ids, setL, base, Nt.cs, slotsV])) ?_
  rintro i m hi ih
  simp only [go_sem, ↓reduceIte, Nat.reduceLT, Nat.reduceLeDiff, Nat.reduceEqDiff, Nat.reduceAdd, Nat.reduceMul, Nat.reduceSub, reduceCtorEq, Int.reduceLT, Int.reduceLE, Int.reduceEq, Int.reduceToNat, decide_true, decide_false, Int.reduceNeg, Int.cast_ofNat_Int, sg, AO.sg, Option.isNone_none, Nt.cs, encP_len]
  refine Cn_split (fun h2 => ?_) (fun h2 => ?_)
  · have hlt : i < n.spurs.length := by simp at h2; omega
    have hw := wrap_succ i (by omega)
    have hg := encP_get n.spurs i hlt
    have hi0 : (0 : Int) ≤ (i : Int) ∧ (i : Int) < (n.spurs.length : Int) := by omega
    have hr := slotsV_rng sh hsp i hi
    have hts : slotsV sh (n.spurs.take (i + 1)) = slotsV sh (n.spurs.take i) + (if (n.spurs.getD i spr0).depot && openB sh (n.spurs.getD i spr0) then (n.spurs.getD i spr0).slots else 0) := by rw [take_snoc n.spurs i spr0 hlt, slotsV_snoc]
    have hOi := hO i hlt
    obtain ⟨_, _, _, _, i5, i6, _⟩ := hsp i hlt
    generalize n.spurs.getD i spr0 = s at *
    have hwb : IntKind.i64.wrap (slotsV sh (n.spurs.take i) + s.slots) = slotsV sh (n.spurs.take i) + s.slots := by rw [wrap_i64_id] <;> omega
    generalize slotsV sh (n.spurs.take i) = S at *
    cases c1 : s.depot
    · simp only [go_sem, ↓reduceIte, Nat.reduceLT, Nat.reduceLeDiff, Nat.reduceEqDiff, Nat.reduceAdd, Nat.reduceMul, Nat.reduceSub, reduceCtorEq, Int.reduceLT, Int.reduceLE, Int.reduceEq, Int.reduceToNat, decide_true, decide_false, Int.reduceNeg, Int.cast_ofNat_Int, sg, AO.sg, Option.isNone_none, Nt.cs, encP_len, Int.toNat_natCast, hg, hi0, c1, hw]
      refine ih (i + 1) _ hlt (by omega) ?_
      (refine Wk.forget ?_; simp [Le, LeE, LeH, get, envIds, hpIds, KeepH, D.ids, idsL, AO.ids, setL, base, Nt.cs, hts, c1]; done)
    simp only [go_sem, ↓reduceIte, Nat.reduceLT, Nat.reduceLeDiff, Nat.reduceEqDiff, Nat.reduceAdd, Nat.reduceMul, Nat.reduceSub, reduceCtorEq, Int.reduceLT, Int.reduceLE, Int.reduceEq, Int.reduceToNat, decide_true, decide_false, Int.reduceNeg, Int.cast_ofNat_Int, sg, AO.sg, Option.isNone_none, Nt.cs, encP_len, Int.toNat_natCast, hg, hi0, c1]
    refine Cc_of ((hOi)) ?_
    rintro h' r ⟨rfl, rfl⟩
    cases c2 : openB sh s
    · simp only [go_sem, ↓reduceIte, Nat.reduceLT, Nat.reduceLeDiff, Nat.reduceEqDiff, Nat.reduceAdd, Nat.reduceMul, Nat.reduceSub, reduceCtorEq, Int.reduceLT, Int.reduceLE, Int.reduceEq, Int.reduceToNat, decide_true, decide_false, Int.reduceNeg, Int.cast_ofNat_Int, sg, AO.sg, Option.isNone_none, c2, hw]
      refine ih (i + 1) _ hlt (by omega) ?_
      (refine Wk.forget ?_; simp [Le, LeE, LeH, get, envIds, hpIds, KeepH, D.ids, idsL, AO.ids, setL, base, Nt.cs, hts, c1, c2]; done)
    · simp only [go_sem, ↓reduceIte, Nat.reduceLT, Nat.reduceLeDiff, Nat.reduceEqDiff, Nat.reduceAdd, Nat.reduceMul, Nat.reduceSub, reduceCtorEq, Int.reduceLT, Int.reduceLE, Int.reduceEq, Int.reduceToNat, decide_true, decide_false, Int.reduceNeg, Int.cast_ofNat_Int, sg, AO.sg, Option.isNone_none, Nt.cs, encP_len, Int.toNat_natCast, hg, hi0, c1, c2, hwb, hw]
      refine ih (i + 1) _ hlt (by omega) ?_
      (refine Wk.forget ?_; simp [Le, LeE, LeH, get, envIds, hpIds, KeepH, D.ids, idsL, AO.ids, setL, base, Nt.cs, hts, c1, c2]; done)
  · simp only [go_sem, ↓reduceIte, Nat.reduceLT, Nat.reduceLeDiff, Nat.reduceEqDiff, Nat.reduceAdd, Nat.reduceMul, Nat.reduceSub, reduceCtorEq, Int.reduceLT, Int.reduceLE, Int.reduceEq, Int.reduceToNat, decide_true, decide_false, Int.reduceNeg, Int.cast_ofNat_Int, sg, AO.sg, Option.isNone_none]
    have : i = n.spurs.length := by simp at h2; omega
    subst this
    rw [List.take_length]
end Go.Am
end

section
/- The reference's fleet: of its cap only that it is at most the slots. -/
namespace Go.Am
open Go Go.Proofs
set_option maxRecDepth 100000
set_option linter.unusedVariables false
set_option linter.unusedSimpArgs false
theorem encT_rep (n : Nat) (b : Bool) : encT (List.replicate n b) = List.replicate n [.bool b] := by simp [encT]
theorem take_rep (n : Nat) : List.take n (List.replicate n [Pd.bool false]) = encT (List.replicate n false) := by simp [encT]
theorem graph_of_valid {n : Nt} (hn : validN n) : gphP n.next ∧ smallG n.next ∧ n.next.length = n.blocks.length := by
  obtain ⟨⟨h1, h2, h3, h4⟩, _⟩ := hn
  refine ⟨⟨by omega, fun i hi => ?_⟩, ⟨by omega, fun r hr => ?_⟩, h3⟩
  · rw [h3]; exact (h4 i (by omega)).2.2
  · obtain ⟨i, hi, rfl⟩ := List.mem_iff_getElem.1 hr
    have := (h4 i (by omega)).2.1
    rw [getD_eq hi] at this
    omega
theorem small_of_valid {n : Nt} (hn : validN n) : smallN n := by
  have hg := graph_of_valid hn
  obtain ⟨⟨h1, h2, h3, h4⟩, h5, h6, h7, _⟩ := hn
  exact ⟨by omega, hg.2.1, by omega, by omega⟩
theorem fleet_ok (n : Nt) (hn : validN n) : ACalls Tryz.prog 31 [.agg n.cs] [] fun h r => h = [] ∧ ∃ (o : List Int) (sl cap : Int), r = .tup [.agg [.p (.int .i64 (o.length : Nat)), .p (.sl (encI o)), .p (.int .i64 sl), .p (.int .i64 cap)], .p (.int .i64 0)] ∧ cap ≤ sl ∧ sl = slotsV (List.replicate (cellsV n).toNat false) n.spurs := by
  have hV := validN_ok n (small_of_valid hn)
  rw [decide_eq_true hn] at hV
  obtain ⟨hg, hsm, hnl⟩ := graph_of_valid hn
  have hG := girth_ok n.next (List.replicate n.next.length false) hg hsm (by simp)
  have hC := cells_ok n hn
  have hS := fun (c : Nat) (hc : (c : Int) = cellsV n) => slots_ok n hn (List.replicate c false) (by simpa using hc)
  have hsp := hn.2.2.2.2.2.1
  have hb24 := hn.1.2.1
  have hs6 := hn.2.1
  have hall := sumS_all hsp
  obtain ⟨c, hc⟩ : ∃ c : Nat, cellsV n = (c : Int) := ⟨(cellsV n).toNat, by unfold cellsV; omega⟩
  have hc2 : c ≤ 48 := by unfold cellsV at hc; omega
  have hS := hS c hc.symm
  have hsr := slotsV_rng (List.replicate c false) hsp n.spurs.length (Nat.le_refl _)
  rw [List.take_length] at hsr
  rw [hc] at hC ⊢
  rw [Int.toNat_natCast]
  generalize slotsV (List.replicate c false) n.spurs = S at *
  rw [hnl] at hG
  refine ACalls_X Tryz.func31 rfl enters31 (by simp [Tryz.f31]) ?_
  simp only [go_sem, ↓reduceIte, Nat.reduceLT, Nat.reduceLeDiff, Nat.reduceEqDiff, Nat.reduceAdd, Nat.reduceMul, Nat.reduceSub, reduceCtorEq, Int.reduceLT, Int.reduceLE, Int.reduceEq, Int.reduceToNat, decide_true, decide_false, Int.reduceNeg, Int.cast_ofNat_Int, sg, AO.sg, Option.isNone_none, Nt.cs]
  refine Cc_of ((hV)) ?_
  rintro h' r ⟨rfl, rfl⟩
  simp only [go_sem, ↓reduceIte, Nat.reduceLT, Nat.reduceLeDiff, Nat.reduceEqDiff, Nat.reduceAdd, Nat.reduceMul, Nat.reduceSub, reduceCtorEq, Int.reduceLT, Int.reduceLE, Int.reduceEq, Int.reduceToNat, decide_true, decide_false, Int.reduceNeg, Int.cast_ofNat_Int, sg, AO.sg, Option.isNone_none, Nt.cs]
  refine X_any0 mixed (p := [(0, 0), (1, 0), (2, 0), (3, 0), (4, 0), (5, 1), (6, 2), (7, 0), (8, 0), (9, 0), (10, 0), (11, 0), (12, 0), (13, 0)]) (by kernel_rfl) (by simp [LeH, get]) ?_
  simp only [go_sem, ↓reduceIte, Nat.reduceLT, Nat.reduceLeDiff, Nat.reduceEqDiff, Nat.reduceAdd, Nat.reduceMul, Nat.reduceSub, reduceCtorEq, Int.reduceLT, Int.reduceLE, Int.reduceEq, Int.reduceToNat, decide_true, decide_false, Int.reduceNeg, Int.cast_ofNat_Int, sg, AO.sg, Option.isNone_none, Nt.cs, encK_len, Int.toNat_natCast, List.length_replicate, take_rep]
  refine ⟨by omega, ?_⟩
  refine Gh_of hG ?_
  rintro h' r ⟨rfl, o, rfl, ho⟩
  simp only [go_sem, ↓reduceIte, Nat.reduceLT, Nat.reduceLeDiff, Nat.reduceEqDiff, Nat.reduceAdd, Nat.reduceMul, Nat.reduceSub, reduceCtorEq, Int.reduceLT, Int.reduceLE, Int.reduceEq, Int.reduceToNat, decide_true, decide_false, Int.reduceNeg, Int.cast_ofNat_Int, sg, AO.sg, Option.isNone_none, Nt.cs]
  refine X_any0 mixed (p := [(0, 0), (1, 0), (2, 0), (3, 0), (8, 1), (4, 2), (5, 1), (6, 2), (7, 0), (9, 3)]) (by kernel_rfl) (by simp [LeH, get]) ?_
  simp only [go_sem, ↓reduceIte, Nat.reduceLT, Nat.reduceLeDiff, Nat.reduceEqDiff, Nat.reduceAdd, Nat.reduceMul, Nat.reduceSub, reduceCtorEq, Int.reduceLT, Int.reduceLE, Int.reduceEq, Int.reduceToNat, decide_true, decide_false, Int.reduceNeg, Int.cast_ofNat_Int, sg, AO.sg, Option.isNone_none, Nt.cs]
  refine Gh_of ((hC)) ?_
  rintro h' r ⟨rfl, rfl⟩
  simp only [go_sem, ↓reduceIte, Nat.reduceLT, Nat.reduceLeDiff, Nat.reduceEqDiff, Nat.reduceAdd, Nat.reduceMul, Nat.reduceSub, reduceCtorEq, Int.reduceLT, Int.reduceLE, Int.reduceEq, Int.reduceToNat, decide_true, decide_false, Int.reduceNeg, Int.cast_ofNat_Int, sg, AO.sg, Option.isNone_none, Nt.cs, Int.toNat_natCast, List.length_replicate, take_rep]
  refine ⟨by omega, ?_⟩
  refine Gh_of ((hS)) ?_
  rintro h' r ⟨rfl, rfl⟩
  simp only [go_sem, ↓reduceIte, Nat.reduceLT, Nat.reduceLeDiff, Nat.reduceEqDiff, Nat.reduceAdd, Nat.reduceMul, Nat.reduceSub, reduceCtorEq, Int.reduceLT, Int.reduceLE, Int.reduceEq, Int.reduceToNat, decide_true, decide_false, Int.reduceNeg, Int.cast_ofNat_Int, sg, AO.sg, Option.isNone_none, Nt.cs]
  cases c1 : decide (0 < (o.length : Int))
  · simp only [go_sem, ↓reduceIte, Nat.reduceLT, Nat.reduceLeDiff, Nat.reduceEqDiff, Nat.reduceAdd, Nat.reduceMul, Nat.reduceSub, reduceCtorEq, Int.reduceLT, Int.reduceLE, Int.reduceEq, Int.reduceToNat, decide_true, decide_false, Int.reduceNeg, Int.cast_ofNat_Int, sg, AO.sg, Option.isNone_none, c1]
    refine end_pure ?_
    simp only [go_sem, ↓reduceIte, Nat.reduceLT, Nat.reduceLeDiff, Nat.reduceEqDiff, Nat.reduceAdd, Nat.reduceMul, Nat.reduceSub, reduceCtorEq, Int.reduceLT, Int.reduceLE, Int.reduceEq, Int.reduceToNat, decide_true, decide_false, Int.reduceNeg, Int.cast_ofNat_Int, sg, AO.sg, Option.isNone_none]
    exact ⟨o, S, S, rfl, Int.le_refl _, rfl⟩
  · have hw1 : IntKind.i64.wrap ((o.length : Int) - 1) = (o.length : Int) - 1 := by rw [wrap_i64_id] <;> omega
    simp only [go_sem, ↓reduceIte, Nat.reduceLT, Nat.reduceLeDiff, Nat.reduceEqDiff, Nat.reduceAdd, Nat.reduceMul, Nat.reduceSub, reduceCtorEq, Int.reduceLT, Int.reduceLE, Int.reduceEq, Int.reduceToNat, decide_true, decide_false, Int.reduceNeg, Int.cast_ofNat_Int, sg, AO.sg, Option.isNone_none, c1, hw1]
    refine end_pure ?_
    simp only [go_sem, ↓reduceIte, Nat.reduceLT, Nat.reduceLeDiff, Nat.reduceEqDiff, Nat.reduceAdd, Nat.reduceMul, Nat.reduceSub, reduceCtorEq, Int.reduceLT, Int.reduceLE, Int.reduceEq, Int.reduceToNat, decide_true, decide_false, Int.reduceNeg, Int.cast_ofNat_Int, sg, AO.sg, Option.isNone_none]
    exact ⟨o, S, _, rfl, by omega, rfl⟩
end Go.Am
end
