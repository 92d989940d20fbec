/- Number reads a decimal form back. -/
import Derived.Test.YtefdjkakojfhnaaDoorDigi
namespace Go.Am
open Go Go.Proofs
set_option maxRecDepth 100000
set_option linter.unusedVariables false
set_option linter.unusedSimpArgs false
/-- Number of a decimal form. -/
theorem dig_u8 (k : Nat) (h : k < 10) : ((UInt8.ofNat (48 + k)).toNat : Int) = 48 + k := by simp; omega
theorem digN_val (k : Nat) : ∀ n : Nat, n < 10 ^ (k + 1) → valD (digN n) = (n : Int) ∧ digsB (digN n) = true ∧ digN n ≠ [] ∧ (n ≠ 0 → (((digN n).getD 0 0).toNat : Int) ≠ 48) := by
  induction k with
  | zero =>
    intro n h
    have h1 : n < 10 := by simpa using h
    rw [digN_small n h1]
    refine ⟨by simp [valD]; omega, by simp [digsB, digB]; omega, by simp, fun h2 => ?_⟩
    simp only [List.getD_cons_zero, dig_u8 n h1]; omega
  | succ k ih =>
    intro n h
    by_cases h1 : n < 10
    · rw [digN_small n h1]
      refine ⟨by simp [valD]; omega, by simp [digsB, digB]; omega, by simp, fun h2 => ?_⟩
      simp only [List.getD_cons_zero, dig_u8 n h1]; omega
    · obtain ⟨i1, i2, i3, i4⟩ := ih (n / 10) (by rw [Nat.pow_succ] at h; omega)
      rw [digN_big n h1]
      have h10 : n % 10 < 10 := Nat.mod_lt _ (by decide)
      refine ⟨?_, ?_, by simp, fun _ => ?_⟩
      · unfold valD at i1 ⊢
        rw [List.foldl_append, i1]
        simp only [List.foldl_cons, List.foldl_nil, dig_u8 _ h10]
        omega
      · unfold digsB at i2 ⊢
        rw [List.all_append, i2]
        simp only [List.all_cons, List.all_nil, dig_u8 _ h10]
        simp [digB]; omega
      · have : (digN (n / 10) ++ [UInt8.ofNat (48 + n % 10)]).getD 0 0 = (digN (n / 10)).getD 0 0 := by
          cases hd : digN (n / 10) with
          | nil => exact (i3 hd).elim
          | cons x xs => rfl
        rw [this]
        exact i4 (by omega)
theorem digN_ge : ∀ (k n : Nat), 10 ^ k ≤ n → k + 1 ≤ (digN n).length
  | 0, n, h => by
    by_cases h1 : n < 10
    · rw [digN_small n h1]; simp
    · rw [digN_big n h1]; simp
  | k + 1, n, h => by
    have h1 : ¬ n < 10 := by rw [Nat.pow_succ] at h; have := Nat.one_le_pow k 10 (by decide); omega
    have := digN_ge k (n / 10) (by rw [Nat.pow_succ] at h; omega)
    rw [digN_big n h1]; simp; omega
theorem numOf_digN (neg : Bool) (n : Nat) (h : n < 1000000) (h0 : neg = true → n ≠ 0) : numOf neg (digN n) = if n ≤ 9999 then (if neg then 0 - (n : Int) else n, true) else (0, false) := by
  obtain ⟨h1, h2, h3, h4⟩ := digN_val 5 n (by omega)
  have hlen : (digN n).length ≤ 4 ↔ n ≤ 9999 := by
    constructor
    · intro h5
      by_cases h6 : n ≤ 9999
      · exact h6
      · have := digN_ge 4 n (by omega); omega
    · intro h5; exact digN_len 3 n (by omega)
  cases hd : digN n with
  | nil => exact (h3 hd).elim
  | cons b r =>
    rw [hd] at h1 h2 h4 hlen
    simp only [List.length_cons, List.getD_cons_zero] at hlen h4
    by_cases h5 : n ≤ 9999
    · have hl : ¬ 4 < r.length + 1 := by have := hlen.2 h5; omega
      have hb : ¬ ((b.toNat : Int) = 48 ∧ (neg = true ∨ 1 < r.length + 1)) := by
        rintro ⟨h6, h7⟩
        have hn0 : n = 0 := Classical.byContradiction fun h8 => h4 h8 h6
        rcases h7 with h7 | h7
        · exact h0 h7 hn0
        · subst hn0
          rw [digN_small 0 (by decide)] at hd
          cases hd
          simp at h7
      rw [if_pos h5]
      simp only [numOf, hl, hb, or_self, if_false, h2, if_true, h1]
    · have hl : 4 < r.length + 1 := by omega
      rw [if_neg h5]
      simp only [numOf, hl, true_or, if_true]
theorem digN_first (n : Nat) (h : n < 1000000) : ∃ b r, digN n = b :: r ∧ b ≠ 45 := by
  obtain ⟨_, h2, h3, _⟩ := digN_val 5 n (by omega)
  cases hd : digN n with
  | nil => exact (h3 hd).elim
  | cons b r =>
    rw [hd] at h2
    refine ⟨b, r, rfl, ?_⟩
    rintro rfl
    simp [digsB, digB] at h2
theorem numV_digV (n : Int) (h1 : -1000000 < n) (h2 : n < 1000000) : numV (digV n) = if -9999 ≤ n ∧ n ≤ 9999 then (n, true) else (0, false) := by
  unfold digV
  by_cases hn : n < 0
  · rw [if_pos hn]
    have hp : hasP (45 :: digN (-n).toNat) [45] = true := by simp [hasP]
    unfold numV
    rw [if_pos hp]
    simp only [List.drop_succ_cons, List.drop_zero]
    rw [numOf_digN true _ (by omega) (fun _ => by omega)]
    by_cases h3 : -9999 ≤ n
    · have h5 : (-n).toNat ≤ 9999 := by omega
      have h6 : -9999 ≤ n ∧ n ≤ 9999 := by omega
      rw [if_pos h5, if_pos h6]
      simp; omega
    · have h5 : ¬ (-n).toNat ≤ 9999 := by omega
      have h6 : ¬ (-9999 ≤ n ∧ n ≤ 9999) := by omega
      rw [if_neg h5, if_neg h6]
  · rw [if_neg hn]
    obtain ⟨b, r, hd, hb⟩ := digN_first n.toNat (by omega)
    have hp : hasP (digN n.toNat) [45] = false := by rw [hd]; simp [hasP, hb]
    unfold numV
    rw [hp]
    simp only [Bool.false_eq_true, if_false]
    rw [numOf_digN false _ (by omega) (fun h => by cases h)]
    by_cases h3 : n ≤ 9999
    · have h5 : n.toNat ≤ 9999 := by omega
      have h6 : -9999 ≤ n ∧ n ≤ 9999 := by omega
      rw [if_pos h5, if_pos h6]
      simp; omega
    · have h5 : ¬ n.toNat ≤ 9999 := by omega
      have h6 : ¬ (-9999 ≤ n ∧ n ≤ 9999) := by omega
      rw [if_neg h5, if_neg h6]
theorem numV_plus (l : List UInt8) : (numV (43 :: l)).2 = false := by
  have hp : hasP (43 :: l) [45] = false := by simp [hasP]
  unfold numV
  rw [hp]
  simp only [Bool.false_eq_true, if_false, numOf]
  split
  · rfl
  · simp [digsB, digB]
theorem numV_zero (l : List UInt8) (h : l ≠ []) : (numV (48 :: l)).2 = false := by
  have hp : hasP (48 :: l) [45] = false := by simp [hasP]
  unfold numV
  rw [hp]
  cases l with
  | nil => exact (h rfl).elim
  | cons b r => simp [numOf]
theorem digV_len (n : Int) (h1 : -1000000 < n) (h2 : n < 1000000) : (digV n).length ≤ 7 ∧ digV n ≠ [] := by
  unfold digV
  split
  · have := digN_len 5 (-n).toNat (by omega); simp; omega
  · have h3 := digN_len 5 n.toNat (by omega)
    have h4 := (digN_val 5 n.toNat (by omega)).2.2.1
    exact ⟨by omega, h4⟩
end Go.Am
