/- The slots of the depots: as many as counted, and one of them is free: plain Lean. -/
import Derived.Test.YtefdjkakojfhnaaDoorFlef
namespace Go.Am
open Go Go.Proofs
set_option maxRecDepth 100000
set_option linter.unusedVariables false
set_option linter.unusedSimpArgs false
theorem ph_le : ∀ (a b : List Int), a.Nodup → (∀ x ∈ a, x ∈ b) → a.length ≤ b.length
  | [], _, _, _ => by simp
  | x :: a, b, hn, hs => by
    rw [List.nodup_cons] at hn
    have hx := hs x (by simp)
    have h1 := ph_le a (b.erase x) hn.2 (fun y hy => (List.mem_erase_of_ne (fun e => hn.1 (by rw [← e]; exact hy))).2 (hs y (by simp [hy])))
    rw [List.length_erase_of_mem hx] at h1
    have := List.length_pos_of_mem hx
    simp only [List.length_cons]; omega
def slotL (s : Spr) : List Int := if s.depot = true then (List.range s.slots.toNat).map (fun j => s.base + ((j : Nat) : Int)) else []
def slotList (l : List Spr) : List Int := l.flatMap slotL
theorem slotList_snoc (l : List Spr) (s : Spr) : slotList (l ++ [s]) = slotList l ++ slotL s := by simp [slotList]
theorem slotL_mem {s : Spr} {x : Int} : x ∈ slotL s ↔ inD x s = true := by
  unfold slotL inD
  by_cases h : s.depot = true
  · rw [if_pos h, h]
    simp only [List.mem_map, List.mem_range, Bool.true_and, Bool.and_eq_true, decide_eq_true_eq]
    constructor
    · rintro ⟨j, hj, rfl⟩; omega
    · rintro ⟨h1, h2⟩; exact ⟨(x - s.base).toNat, by omega, by omega⟩
  · have h2 : s.depot = false := by simpa using h
    rw [if_neg h, h2]; simp
theorem slotL_nodup (s : Spr) : (slotL s).Nodup := by
  unfold slotL
  split
  · rw [List.nodup_iff_pairwise_ne, List.pairwise_map]
    exact (List.pairwise_lt_range).imp fun h => by omega
  · exact List.nodup_nil
theorem slotList_ok {nb : Nat} {l : List Spr} (h : spursP nb l) : ∀ k, k ≤ l.length → (slotList (l.take k)).Nodup ∧ ∀ x ∈ slotList (l.take k), x < (nb : Int) + sumS (l.take k)
  | 0, _ => by simp [slotList]
  | k + 1, hk => by
    obtain ⟨h1, h2⟩ := slotList_ok h k (by omega)
    have hs := h k (by omega)
    rw [take_snoc l k spr0 (by omega), slotList_snoc, sumS_snoc]
    generalize l.getD k spr0 = s at *
    obtain ⟨_, _, _, _, h5, h6, h7⟩ := hs
    have hm : ∀ x ∈ slotL s, s.base ≤ x ∧ x < s.base + s.slots := fun x hx => by
      have := slotL_mem.1 hx
      unfold inD at this
      simp at this
      exact ⟨this.2.1, this.2.2⟩
    refine ⟨?_, fun x hx => ?_⟩
    · rw [List.nodup_append]
      refine ⟨h1, slotL_nodup s, fun x hx y hy e => ?_⟩
      have h8 := h2 x hx
      have h9 := hm y hy
      omega
    · rcases List.mem_append.1 hx with hx | hx
      · have := h2 x hx; omega
      · have := hm x hx; omega
theorem getD_rep (c k : Nat) : (List.replicate c false).getD k false = false := by
  simp only [List.getD, List.getElem?_replicate]; split <;> rfl
theorem openB_rep (c : Nat) (s : Spr) : openB (List.replicate c false) s = true := by
  unfold openB
  simp only [getD_rep]
  simp
theorem slotsV_list {nb : Nat} {l : List Spr} (h : spursP nb l) (c : Nat) : ∀ k, k ≤ l.length → slotsV (List.replicate c false) (l.take k) = ((slotList (l.take k)).length : Int)
  | 0, _ => by simp [slotsV, slotList]
  | k + 1, hk => by
    have h1 := slotsV_list h c k (by omega)
    have hs := h k (by omega)
    rw [take_snoc l k spr0 (by omega), slotsV_snoc, slotList_snoc, List.length_append, h1, openB_rep]
    obtain ⟨_, _, _, _, h5, h6, h7⟩ := hs
    generalize l.getD k spr0 = s at *
    unfold slotL
    cases hd : s.depot
    · simp
    · simp; omega
/-- One slot is free. -/
theorem free_slot {nb : Nat} {l : List Spr} (h : spursP nb l) (c : Nat) {rb : List Int} (hr : (rb.length : Int) < slotsV (List.replicate c false) l) : ∃ s ∈ l, ∃ j : Nat, s.depot = true ∧ (j : Int) < s.slots ∧ s.base + (j : Int) ∉ rb := by
  have h1 := slotsV_list h c l.length (Nat.le_refl _)
  have h2 := (slotList_ok h l.length (Nat.le_refl _)).1
  rw [List.take_length] at h1 h2
  have hne : ¬ ∀ x ∈ slotList l, x ∈ rb := fun hh => by have := ph_le _ rb h2 hh; omega
  have : ∃ x, x ∈ slotList l ∧ x ∉ rb := Classical.byContradiction fun hc => hne fun x hx => Classical.byContradiction fun hx2 => hc ⟨x, hx, hx2⟩
  obtain ⟨x, hx, hx2⟩ := this
  obtain ⟨s, hs, hxs⟩ := List.mem_flatMap.1 hx
  have h3 := slotL_mem.1 hxs
  unfold inD at h3
  simp at h3
  exact ⟨s, hs, (x - s.base).toNat, h3.1, by omega, by rw [show s.base + (((x - s.base).toNat : Nat) : Int) = x by omega]; exact hx2⟩
end Go.Am
