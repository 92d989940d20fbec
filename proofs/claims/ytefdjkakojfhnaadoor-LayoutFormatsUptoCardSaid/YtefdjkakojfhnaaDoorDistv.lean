/- The reference's distances, as a law in plain Lean. -/
import Derived.Test.YtefdjkakojfhnaaDoorNnam
namespace Go.Am
open Go Go.Proofs
set_option maxRecDepth 100000
set_option linter.unusedVariables false
set_option linter.unusedSimpArgs false
def encT (l : List Bool) : List (List Pd) := l.map fun b => [.bool b]
theorem encT_len (l : List Bool) : (encT l).length = l.length := by simp [encT]
theorem encT_get (l : List Bool) (i : Nat) (h : i < l.length) : (encT l).getD i [] = [.bool (l.getD i false)] := by simp [encT, List.getD, h]
theorem getD_set {α : Type} (l : List α) (i j : Nat) (x y : α) : (l.set i x).getD j y = if i = j ∧ i < l.length then x else l.getD j y := by
  simp only [List.getD, List.getElem?_set]
  by_cases h : i = j
  · subst h
    by_cases h2 : i < l.length
    · simp [h2]
    · simp [h2]
  · simp [h]
theorem getD_eq {α : Type} {l : List α} {k : Nat} {x : α} (h : k < l.length) : l.getD k x = l[k] := by simp [List.getD, h]
/-- One vertex of one round. -/
def vStep (g : List (List Int)) (sh : List Bool) (d : Int) (v : Nat) (o : List Int) : List Int :=
  if sh.getD v false = true ∨ 0 ≤ o.getD v 0 then o else if (g.getD v []).any (fun w => decide (o.getD w.toNat 0 = d - 1)) = true then o.set v d else o
def vLoop (g : List (List Int)) (sh : List Bool) (d : Int) : Nat → Nat → List Int → List Int
  | 0, _, o => o
  | f + 1, v, o => vLoop g sh d f (v + 1) (vStep g sh d v o)
def dLoop (g : List (List Int)) (sh : List Bool) : Nat → Nat → List Int → List Int
  | 0, _, o => o
  | f + 1, d, o => dLoop g sh f (d + 1) (vLoop g sh d g.length 0 o)
def distV (g : List (List Int)) (sh : List Bool) (goal : Nat) : List Int :=
  if sh.getD goal false = true then List.replicate g.length (-1) else dLoop g sh (g.length - 1) 1 ((List.replicate g.length (-1)).set goal 0)
theorem vStep_len (g : List (List Int)) (sh : List Bool) (d : Int) (v : Nat) (o : List Int) : (vStep g sh d v o).length = o.length := by 
  unfold vStep; split
  · rfl
  · split <;> simp
theorem vLoop_len (g : List (List Int)) (sh : List Bool) (d : Int) : ∀ (f v : Nat) (o : List Int), (vLoop g sh d f v o).length = o.length
  | 0, _, _ => rfl
  | f + 1, v, o => by rw [vLoop, vLoop_len g sh d f, vStep_len]
theorem dLoop_len (g : List (List Int)) (sh : List Bool) : ∀ (f d : Nat) (o : List Int), (dLoop g sh f d o).length = o.length
  | 0, _, _ => rfl
  | f + 1, d, o => by rw [dLoop, dLoop_len g sh f, vLoop_len]
theorem distV_len (g : List (List Int)) (sh : List Bool) (goal : Nat) : (distV g sh goal).length = g.length := by
  unfold distV; split
  · simp
  · rw [dLoop_len]; simp
/-- What distances are so far. -/
def DP (g : List (List Int)) (goal : Nat) (m : Int) (o : List Int) : Prop :=
  o.length = g.length ∧ ∀ v, v < g.length → o.getD v 0 = -1 ∨ (o.getD v 0 = 0 ∧ v = goal) ∨ (1 ≤ o.getD v 0 ∧ o.getD v 0 ≤ m ∧ ∃ w ∈ g.getD v [], o.getD w.toNat 0 = o.getD v 0 - 1)
theorem vStep_DP {g : List (List Int)} (hg : gphP g) {sh : List Bool} {goal : Nat} {d : Int} {v : Nat} {o : List Int} (hv : v < g.length) (hd : 1 ≤ d) (h : DP g goal d o) : DP g goal d (vStep g sh d v o) := by
  unfold vStep
  split
  · exact h
  rename_i h1
  split
  · rename_i h2
    obtain ⟨hl, hh⟩ := h
    have hneg : o.getD v 0 < 0 := by
      rcases Int.lt_or_le (o.getD v 0) 0 with h3 | h3
      · exact h3
      · exact absurd (Or.inr h3) h1
    refine ⟨by simpa using hl, fun u hu => ?_⟩
    rw [List.any_eq_true] at h2
    obtain ⟨w, hw, hwd⟩ := h2
    have hwd := of_decide_eq_true hwd
    have hset : ∀ j, j < g.length → (o.set v d).getD j 0 = if v = j then d else o.getD j 0 := fun j hj => by
      rw [getD_set]
      by_cases e : v = j
      · rw [if_pos ⟨e, by omega⟩, if_pos e]
      · rw [if_neg (fun h => e h.1), if_neg e]
    have hin : ∀ u, u < g.length → ∀ w ∈ g.getD u [], 0 ≤ w ∧ w < (g.length : Int) ∧ w ≠ (u : Int) := fun u hu w hw => by
      obtain ⟨k, hk, rfl⟩ := List.mem_iff_getElem.1 hw
      have := hg.2 u hu k hk
      unfold okAt at this
      have e1 : (g.getD u []).getD k 0 = (g.getD u [])[k] := getD_eq hk
      rw [e1] at this
      exact ⟨this.1, this.2.1, this.2.2.1⟩
    rw [hset u hu]
    by_cases e : v = u
    · subst e
      rw [if_pos rfl]
      have h3 := hin v hv w hw
      refine .inr (.inr ⟨hd, Int.le_refl _, w, hw, ?_⟩)
      rw [hset _ (by omega), if_neg (by omega)]
      exact hwd
    · rw [if_neg e]
      rcases hh u hu with h3 | h3 | ⟨h3, h4, w2, h5, h6⟩
      · exact .inl h3
      · exact .inr (.inl h3)
      · refine .inr (.inr ⟨h3, h4, w2, h5, ?_⟩)
        have h7 := hin u hu w2 h5
        rw [hset _ (by omega)]
        by_cases e2 : v = w2.toNat
        · rw [e2] at hneg; omega
        · rw [if_neg e2]; exact h6
  · exact h
theorem vLoop_DP {g : List (List Int)} (hg : gphP g) {sh : List Bool} {goal : Nat} {d : Int} (hd : 1 ≤ d) : ∀ (f v : Nat) (o : List Int), v + f ≤ g.length → DP g goal d o → DP g goal d (vLoop g sh d f v o)
  | 0, _, _, _, h => h
  | f + 1, v, o, hv, h => vLoop_DP hg hd f (v + 1) _ (by omega) (vStep_DP hg (by omega) hd h)
theorem DP.mono {g : List (List Int)} {goal : Nat} {m m' : Int} {o : List Int} (hm : m ≤ m') (h : DP g goal m o) : DP g goal m' o :=
  ⟨h.1, fun v hv => by
    rcases h.2 v hv with h3 | h3 | ⟨h3, h4, h5⟩
    · exact .inl h3
    · exact .inr (.inl h3)
    · exact .inr (.inr ⟨h3, by omega, h5⟩)⟩
theorem dLoop_DP {g : List (List Int)} (hg : gphP g) {sh : List Bool} {goal : Nat} : ∀ (f d : Nat) (o : List Int), 1 ≤ d → DP g goal d o → DP g goal (d + f : Nat) (dLoop g sh f d o)
  | 0, d, o, _, h => h.mono (by omega)
  | f + 1, d, o, hd, h => by
    have := dLoop_DP (sh := sh) hg f (d + 1) (vLoop g sh d g.length 0 o) (by omega) ((vLoop_DP hg (by omega) g.length 0 o (by omega) h).mono (by omega))
    rw [show d + 1 + f = d + (f + 1) by omega] at this
    exact this
theorem distV_DP {g : List (List Int)} (hg : gphP g) (sh : List Bool) (goal : Nat) (hgoal : goal < g.length) : DP g goal 24 (distV g sh goal) := by
  have hrep : ∀ v, v < g.length → (List.replicate g.length (-1 : Int)).getD v 0 = -1 := fun v hv => by simp [List.getD, hv]
  unfold distV
  split
  · exact ⟨by simp, fun v hv => .inl (hrep v hv)⟩
  · refine (dLoop_DP hg (g.length - 1) 1 _ (Nat.le_refl _) ⟨by simp, fun v hv => ?_⟩).mono (by have := hg.1; omega)
    rw [getD_set]
    by_cases e : goal = v
    · rw [if_pos ⟨e, by simpa using hgoal⟩]; exact .inr (.inl ⟨rfl, e.symm⟩)
    · rw [if_neg (fun h => e h.1)]; exact .inl (hrep v hv)
theorem row_in {g : List (List Int)} (hg : gphP g) {u : Nat} (hu : u < g.length) {k : Nat} (hk : k < (g.getD u []).length) : ∃ w : Nat, (g.getD u []).getD k 0 = (w : Int) ∧ w < g.length ∧ w ≠ u := by
  have := hg.2 u hu k hk
  unfold okAt at this
  exact ⟨((g.getD u []).getD k 0).toNat, by omega, by omega, by omega⟩
end Go.Am
