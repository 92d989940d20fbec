/- What the generator makes, and that it is valid: plain Lean. -/
import Derived.Test.YtefdjkakojfhnaaDoorRing
namespace Go.Am
open Go Go.Proofs
set_option maxRecDepth 100000
set_option linter.unusedVariables false
set_option linter.unusedSimpArgs false
def digT (i : Nat) : List UInt8 := if i < 10 then [UInt8.ofNat (48 + i)] else [UInt8.ofNat (48 + i / 10), UInt8.ofNat (48 + i % 10)]
theorem digN_T (i : Nat) (h : i < 100) : digN i = digT i := by
  unfold digT
  by_cases h1 : i < 10
  · rw [if_pos h1, digN_small i h1]
  · rw [if_neg h1, digN_big i h1, digN_small (i / 10) (by omega)]; rfl
theorem digT_inj : ∀ i, i < 24 → ∀ j, j < 24 → digT i = digT j → i = j := by decide
theorem nameB_b : ∀ i, i < 24 → nameB (98 :: digT i) = true := by decide
theorem nameB_s : ∀ i, i < 24 → nameB (115 :: digT i) = true := by decide
/-- What the generator makes. -/
structure NetP (n : Nt) : Prop where
  nb : 1 ≤ n.blocks.length ∧ n.blocks.length ≤ 10
  bl : ∀ i, i < n.blocks.length → (n.blocks.getD i blk0).name = 98 :: digN i ∧ xyP (n.blocks.getD i blk0)
  nl : n.next.length = n.blocks.length
  nx : ∀ i, i < n.blocks.length → RP n.blocks.length i (n.next.getD i [])
  ns : 3 ≤ n.spurs.length ∧ n.spurs.length ≤ 5
  sp : ∀ i, i < n.spurs.length → (n.spurs.getD i spr0).name = 115 :: digN i ∧ (i = 0 → (n.spurs.getD i spr0).depot = true) ∧ (i = 1 ∨ i = 2 → (n.spurs.getD i spr0).depot = false)
  ss : spursP n.blocks.length n.spurs
  rl : n.robots.length ≤ 3
  rb : robotsP n.spurs n.robots
  cf : cfgP n.cq n.ca n.cd n.cp
theorem namesN_get {n : Nt} (i : Nat) (hi : i < (namesN n).length) : (namesN n).getD i [] = if i < n.blocks.length then (n.blocks.getD i blk0).name else (n.spurs.getD (i - n.blocks.length) spr0).name := by
  have hl : (namesN n).length = n.blocks.length + n.spurs.length := by simp [namesN]
  have hi2 : i < n.blocks.length + n.spurs.length := by omega
  rw [getD_eq hi]
  unfold namesN at hi ⊢
  by_cases h : i < n.blocks.length
  · rw [if_pos h, List.getElem_append_left (by simpa using h), List.getElem_map, getD_eq h]
  · rw [if_neg h, List.getElem_append_right (by simpa using h), List.getElem_map, getD_eq (show i - n.blocks.length < n.spurs.length by omega)]
    simp
theorem NetP.valid {n : Nt} (h : NetP n) : validN n := by
  obtain ⟨nb, bl, nl, nx, ns, sp, ss, rl, rb, cf⟩ := h
  refine ⟨⟨nb.1, by omega, nl, fun i hi => ⟨(bl i hi).2, (nx i hi).2.2.1, (nx i hi).row⟩⟩, by omega, fun i hi => ?_, by omega, cf, ss, rb, ?_⟩
  · have hl : (namesN n).length = n.blocks.length + n.spurs.length := by simp [namesN]
    have key : ∀ j, j < (namesN n).length → ∃ c d, (namesN n).getD j [] = c :: digT d ∧ d < 24 ∧ ((j < n.blocks.length ∧ c = 98 ∧ d = j) ∨ (n.blocks.length ≤ j ∧ c = 115 ∧ d = j - n.blocks.length)) := by
      intro j hj
      rw [namesN_get j hj]
      by_cases h1 : j < n.blocks.length
      · rw [if_pos h1, (bl j h1).1, digN_T j (by omega)]
        exact ⟨98, j, rfl, by omega, .inl ⟨h1, rfl, rfl⟩⟩
      · rw [if_neg h1, (sp (j - n.blocks.length) (by omega)).1, digN_T _ (by omega)]
        exact ⟨115, j - n.blocks.length, rfl, by omega, .inr ⟨by omega, rfl, rfl⟩⟩
    obtain ⟨c, d, h1, h2, h3⟩ := key i hi
    refine ⟨?_, fun k hk => ?_⟩
    · rw [h1]
      rcases h3 with ⟨_, rfl, _⟩ | ⟨_, rfl, _⟩
      · exact nameB_b d h2
      · exact nameB_s d h2
    · obtain ⟨c2, d2, h4, h5, h6⟩ := key k (by omega)
      rw [h1, h4]
      intro he
      rw [List.cons.injEq] at he
      have hd := digT_inj d h2 d2 h5 he.2
      rcases h3 with ⟨_, rfl, rfl⟩ | ⟨_, rfl, rfl⟩ <;> rcases h6 with ⟨_, rfl, rfl⟩ | ⟨_, rfl, rfl⟩
      · omega
      · exact absurd he.1 (by decide)
      · exact absurd he.1 (by decide)
      · omega
  · have h0 := (sp 0 (by omega)).2.1 rfl
    rw [List.length_filter_pos_iff]
    exact ⟨_, getD_mem n.spurs 0 spr0 (by omega), h0⟩
end Go.Am
