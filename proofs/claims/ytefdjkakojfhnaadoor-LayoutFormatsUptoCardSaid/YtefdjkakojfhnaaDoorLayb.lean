/- The plain law behind LayoutBack: what Parse returns is valid, and its lines are read back. -/
import Derived.Test.YtefdjkakojfhnaaDoorItod
namespace Go.Am
open Go Go.Proofs
set_option maxRecDepth 100000
set_option linter.unusedVariables false
set_option linter.unusedSimpArgs false
theorem numOf_rng (neg : Bool) (l : List UInt8) (h : (numOf neg l).2 = true) : -9999 ≤ (numOf neg l).1 ∧ (numOf neg l).1 ≤ 9999 := by
  cases l with
  | nil => simp [numOf] at h
  | cons b r =>
    simp only [numOf] at h ⊢
    by_cases h1 : 4 < r.length + 1 ∨ ((b.toNat : Int) = 48 ∧ (neg = true ∨ 1 < r.length + 1))
    · rw [if_pos h1] at h; cases h
    · rw [if_neg h1] at h ⊢
      by_cases h2 : digsB (b :: r) = true
      · rw [if_pos h2]
        have h3 : ∀ c ∈ b :: r, 48 ≤ c.toNat ∧ c.toNat ≤ 57 := fun c hc => by
          have := List.all_eq_true.1 h2 c hc
          simp [digB] at this; omega
        have h4 : (b :: r).length ≤ 4 := by simp only [List.length_cons]; omega
        have h5 := valD_le (b :: r) h3 (b :: r).length (Nat.le_refl _) h4
        have h6 := p10 (b :: r).length h4
        rw [List.take_length] at h5
        simp only
        split <;> omega
      · rw [if_neg h2] at h; cases h
theorem numV_rng (s : List UInt8) (h : (numV s).2 = true) : -9999 ≤ (numV s).1 ∧ (numV s).1 ≤ 9999 := by
  unfold numV at h ⊢
  split
  · rename_i h1; rw [if_pos h1] at h; exact numOf_rng _ _ h
  · rename_i h1; rw [if_neg h1] at h; exact numOf_rng _ _ h
theorem rd_ok : ∀ (k : Nat) (l : List (List UInt8)) (d : Dc), (rd k l d).2 = 0 →
    (rd k l d).1 = { d with names := d.names ++ l.take k, nums := d.nums ++ (l.drop k).map fun s => (numV s).1 } ∧ (∀ s ∈ l.take k, nameB s = true) ∧ ∀ s ∈ l.drop k, (numV s).2 = true
  | k, [], d, _ => by
    cases k <;> simp [rd]
  | 0, s :: r, d, h => by
    simp only [rd] at h ⊢
    split
    · rename_i h1
      rw [if_pos h1] at h
      obtain ⟨h2, h3, h4⟩ := rd_ok 0 r _ h
      rw [h2]
      refine ⟨by simp, by simp, fun x hx => ?_⟩
      simp only [List.drop_zero, List.mem_cons] at hx h4
      rcases hx with rfl | hx
      · exact h1
      · exact h4 x hx
    · rename_i h1
      rw [if_neg h1] at h; simp at h
  | k + 1, s :: r, d, h => by
    simp only [rd] at h ⊢
    split
    · rename_i h1
      rw [if_pos h1] at h
      obtain ⟨h2, h3, h4⟩ := rd_ok k r _ h
      rw [h2]
      refine ⟨by simp, fun x hx => ?_, by simpa using h4⟩
      simp only [List.take_succ_cons, List.mem_cons] at hx
      rcases hx with rfl | hx
      · exact h1
      · exact h3 x hx
    · rename_i h1
      rw [if_neg h1] at h; simp at h
theorem rd_names : ∀ (ns l : List (List UInt8)) (d : Dc), (∀ s ∈ ns, nameB s = true) → rd ns.length (ns ++ l) d = rd 0 l { d with names := d.names ++ ns }
  | [], l, d, _ => by simp
  | s :: r, l, d, h => by
    have h1 := rd_names r l { d with names := d.names ++ [s] } (fun x hx => h x (by simp [hx]))
    simp only [List.length_cons, List.cons_append, rd, h s (by simp), if_true]
    rw [h1]
    simp
theorem rd_nums : ∀ (ks : List Int) (d : Dc), (∀ n ∈ ks, -9999 ≤ n ∧ n ≤ 9999) → rd 0 (ks.map digV) d = ({ d with nums := d.nums ++ ks }, 0)
  | [], d, _ => by simp [rd]
  | n :: r, d, h => by
    have h0 := h n (by simp)
    have hn := numV_digV n (by omega) (by omega)
    rw [if_pos h0] at hn
    have h1 := rd_nums r { d with nums := d.nums ++ [n] } (fun x hx => h x (by simp [hx]))
    simp only [List.map_cons, rd, hn, if_true]
    rw [h1]
    simp
def formLine (x : Dc) : List (List UInt8) := (formJ x.word.toNat).word :: x.names ++ x.nums.map digV
theorem wordV_form (j : Nat) (h1 : 1 ≤ j) (h2 : j < 7) : wordV (formJ j).word = (j : Int) := by
  rcases j with _ | _ | _ | _ | _ | _ | _ | j
  · omega
  all_goals first | omega | decide
theorem valid_iff (x : Dc) : validV x = true ↔ (1 ≤ x.word ∧ x.word ≤ 6) ∧ (x.nums.length : Int) = (shapeV x.word).2 ∧ ((x.names.length : Int) = (shapeV x.word).1 ∨ ((shapeV x.word).1 < (x.names.length : Int) ∧ x.word = 2)) ∧
    (∀ s ∈ x.names, nameB s = true) ∧ ∀ n ∈ x.nums, -9999 ≤ n ∧ n ≤ 9999 := by
  unfold validV
  simp only [Bool.and_eq_true, Bool.or_eq_true, decide_eq_true_eq, List.all_eq_true, Bool.not_eq_true', Bool.or_eq_false_iff, decide_eq_false_iff_not, Int.not_lt]
theorem oneV_valid (num : Int) (fs : List (List UInt8)) (h : (oneV num fs).2 = 0) : validV (oneV num fs).1 = true ∧ (oneV num fs).1.line = num := by
  unfold oneV at h ⊢
  cases fs with
  | nil => simp at h
  | cons w rest =>
    simp only at h ⊢
    obtain ⟨j, hj, hw⟩ := wordV_rng w
    rw [hw] at h ⊢
    by_cases h0 : (j : Int) = 0
    · rw [if_pos h0] at h; simp at h
    · rw [if_neg h0] at h ⊢
      by_cases hl : (rest.length : Int) < (shapeV j).1 + (shapeV j).2 ∨ ((shapeV j).1 + (shapeV j).2 < (rest.length : Int) ∧ (j : Int) ≠ 2)
      · rw [if_pos hl] at h; simp at h
      · rw [if_neg hl] at h ⊢
        obtain ⟨h1, h2, h3⟩ := rd_ok _ _ _ h
        obtain ⟨_, _, _, hs4, hs5⟩ := form_sig j hj (by omega)
        rw [h1]
        refine ⟨(valid_iff _).2 ⟨by simp only; omega, ?_, ?_, ?_, ?_⟩, rfl⟩
        · simp; omega
        · simp only [List.nil_append, List.length_take]
          by_cases h5 : (shapeV j).1 + (shapeV j).2 < (rest.length : Int)
          · have h6 : (j : Int) = 2 := Classical.byContradiction fun h6 => hl (.inr ⟨h5, h6⟩)
            refine .inr ⟨?_, h6⟩
            omega
          · left; omega
        · simpa using h2
        · intro n hn
          simp only [List.nil_append, List.mem_map] at hn
          obtain ⟨s, hs, rfl⟩ := hn
          exact numV_rng s (h3 s hs)
theorem oneV_back (x : Dc) (h : validV x = true) : oneV x.line (formLine x) = (x, 0) := by
  obtain ⟨h1, h2, h3, h4, h5⟩ := (valid_iff x).1 h
  obtain ⟨word, line, names, nums⟩ := x
  simp only at h1 h2 h3 h4 h5
  obtain ⟨j, rfl⟩ : ∃ j : Nat, word = (j : Int) := ⟨word.toNat, by omega⟩
  obtain ⟨_, _, _, hs4, hs5⟩ := form_sig j (by omega) (by omega)
  have hw := wordV_form j (by omega) (by omega)
  simp only [formLine, oneV, Int.toNat_natCast, List.cons_append]
  rw [hw, if_neg (by omega), if_neg (by simp; omega)]
  have hk : (names ++ nums.map digV).length - (shapeV j).2.toNat = names.length := by simp; omega
  rw [hk, rd_names names _ _ h4, rd_nums _ _ h5]
  simp
/-- Format: P2.2. -/
def fmtV : List Dc → List Ln → List Ln × Int
  | [], acc => (acc, 0)
  | x :: r, acc => if validV x then fmtV r (acc ++ [⟨x.line, formLine x⟩]) else ([], 20)
theorem parseV_valid : ∀ (l : List Ln) (acc : List Dc), (parseV l acc).2.2 = 0 → (∀ x ∈ acc, validV x = true) → ∀ x ∈ (parseV l acc).1, validV x = true
  | [], acc, _, h => by simpa [parseV] using h
  | x :: r, acc, h0, h => by
    simp only [parseV] at h0 ⊢
    split
    · rename_i h1
      rw [if_pos h1] at h0
      refine parseV_valid r _ h0 fun y hy => ?_
      simp only [List.mem_append, List.mem_singleton] at hy
      rcases hy with hy | rfl
      · exact h y hy
      · exact (oneV_valid _ _ h1).1
    · simp
theorem fmtV_all : ∀ (d : List Dc) (acc : List Ln), (∀ x ∈ d, validV x = true) → fmtV d acc = (acc ++ d.map fun x => ⟨x.line, formLine x⟩, 0)
  | [], acc, _ => by simp [fmtV]
  | x :: r, acc, h => by
    simp only [fmtV, h x (by simp), if_true]
    rw [fmtV_all r _ (fun y hy => h y (by simp [hy]))]
    simp
theorem parseV_back : ∀ (d acc : List Dc), (∀ x ∈ d, validV x = true) → parseV (d.map fun x => ⟨x.line, formLine x⟩) acc = (acc ++ d, 0, 0)
  | [], acc, _ => by simp [parseV]
  | x :: r, acc, h => by
    simp only [List.map_cons, parseV, oneV_back x (h x (by simp)), if_true]
    rw [parseV_back r _ (fun y hy => h y (by simp [hy]))]
    simp
end Go.Am
