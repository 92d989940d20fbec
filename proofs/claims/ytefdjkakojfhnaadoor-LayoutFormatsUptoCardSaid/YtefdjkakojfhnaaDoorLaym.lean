/- What the lines of the law are bounded by. -/
import Derived.Test.YtefdjkakojfhnaaDoorMkln
namespace Go.Am
open Go Go.Proofs
set_option maxRecDepth 100000
set_option linter.unusedVariables false
set_option linter.unusedSimpArgs false
theorem parseV_app (b : List Ln) : ∀ (a : List Ln) (acc : List Dc), (parseV a acc).2.2 ≠ 0 → parseV (a ++ b) acc = parseV a acc
  | [], acc, h => (h rfl).elim
  | x :: r, acc, h => by
    simp only [List.cons_append, parseV] at h ⊢
    split
    · rename_i hz; rw [if_pos hz] at h; exact parseV_app b r _ h
    · rfl
theorem parseV_err (l : List Ln) : ∀ (acc : List Dc), (parseV l acc).2.2 ≠ 0 → (parseV l acc).1 = [] := by
  induction l with
  | nil => intro acc h; exact (h rfl).elim
  | cons x r ih =>
    intro acc h
    simp only [parseV] at h ⊢
    split
    · rename_i hz; rw [if_pos hz] at h; exact ih _ h
    · rfl
theorem rd_small : ∀ (k : Nat) (l : List (List UInt8)) (d : Dc), (rd k l d).1.names.length ≤ d.names.length + l.length ∧ (rd k l d).1.nums.length ≤ d.nums.length + l.length
  | _, [], d => by simp [rd]
  | 0, s :: r, d => by
    simp only [rd]
    split
    · have := rd_small 0 r { d with nums := d.nums ++ [(numV s).1] }
      simp at this ⊢; omega
    · simp [dc0]
  | k + 1, s :: r, d => by
    simp only [rd]
    split
    · have := rd_small k r { d with names := d.names ++ [s] }
      simp at this ⊢; omega
    · simp [dc0]
theorem oneV_small (num : Int) (fs : List (List UInt8)) : (oneV num fs).1.names.length ≤ fs.length ∧ (oneV num fs).1.nums.length ≤ fs.length := by
  unfold oneV
  cases fs with
  | nil => simp [dc0]
  | cons w rest =>
    simp only
    split
    · simp [dc0]
    · split
      · simp [dc0]
      · have := rd_small (rest.length - (shapeV (wordV w)).2.toNat) rest ⟨wordV w, num, [], []⟩
        simp at this ⊢; omega
def smallL (l : List Ln) : Prop := l.length ≤ 4000000 ∧ ∀ x ∈ l, x.fs.length ≤ 4000000
theorem parseV_small (B : Nat) : ∀ (l : List Ln) (acc : List Dc), (∀ x ∈ l, x.fs.length ≤ B) → (∀ d ∈ acc, d.names.length ≤ B ∧ d.nums.length ≤ B) →
    (parseV l acc).1.length ≤ acc.length + l.length ∧ ∀ d ∈ (parseV l acc).1, d.names.length ≤ B ∧ d.nums.length ≤ B
  | [], acc, _, h => ⟨by simp [parseV], h⟩
  | x :: r, acc, hl, h => by
    simp only [parseV]
    split
    · have h1 := parseV_small B r (acc ++ [(oneV x.num x.fs).1]) (fun y hy => hl y (by simp [hy])) (fun d hd => by
        simp only [List.mem_append, List.mem_singleton] at hd
        rcases hd with hd | rfl
        · exact h d hd
        · have := oneV_small x.num x.fs; have := hl x (by simp); omega)
      refine ⟨by have := h1.1; simp at this ⊢; omega, h1.2⟩
    · simp
theorem smallC_parse (l : List Ln) (h : smallL l) : smallC (parseV l []).1 := by
  have := parseV_small 4000000 l [] h.2 (by simp)
  refine ⟨by have := this.1; have := h.1; simp at *; omega, fun x hx => by have := this.2 x hx; omega⟩
theorem nmL_len (l : List Int) (nw : Int) : ∀ (f at_ i : Nat) (fs : List (List UInt8)), (nmL l nw f at_ i fs).2.length ≤ fs.length + f
  | 0, _, _, _ => by simp [nmL]
  | f + 1, at_, i, fs => by
    simp only [nmL]
    split
    · have := nmL_len l nw f (at_ + 1 + 1) (i + 1) (fs ++ [partsL.getD (nextV l (at_ + 1) 3).toNat []])
      simp at this ⊢; omega
    · simp
theorem nuL_len (l : List Int) : ∀ (k at_ : Nat) (fs : List (List UInt8)), (nuL l k at_ fs).2.length ≤ fs.length + k
  | 0, _, _ => by simp [nuL]
  | k + 1, at_, fs => by
    simp only [nuL]
    have := nuL_len l k (at_ + 1) (fs ++ [partsL.getD (3 + nextV l at_ 4).toNat []])
    simp at this ⊢; omega
theorem numsL_le (k : Nat) : (numsL.getD k 0).toNat ≤ 4 := by
  rcases k with _ | _ | _ | _ | _ | _ | _ | k
  all_goals first | decide | simp [numsL]
theorem lnV_len (l : List Int) (at_ : Nat) : (lnV l at_).1.fs.length ≤ 11 := by
  have h1 := nmL_len l (namesL.getD (wV l at_).toNat 0) 6 (aV l at_ + 1) 0 [wordsL.getD (wV l at_).toNat []]
  have h2 := nuL_len l (numsL.getD (wV l at_).toNat 0).toNat (p1V l at_).1 (p1V l at_).2
  have h3 := numsL_le (wV l at_).toNat
  have h4 : (p2V l at_).2.length ≤ 11 := by
    simp only [p2V]
    simp only [p1V] at h2 ⊢
    simp only [List.length_cons, List.length_nil] at h1
    omega
  unfold lnV
  split
  · simpa using h4
  · simpa using h4
theorem mkV_small (l : List Int) : ∀ (k at_ : Nat) (acc : List Ln), (∀ x ∈ acc, x.fs.length ≤ 11) → (mkV l k at_ acc).length = acc.length + k ∧ ∀ x ∈ mkV l k at_ acc, x.fs.length ≤ 11
  | 0, _, acc, h => ⟨by simp [mkV], h⟩
  | k + 1, at_, acc, h => by
    have := mkV_small l k (lnV l at_).2 (acc ++ [(lnV l at_).1]) (fun x hx => by
      simp only [List.mem_append, List.mem_singleton] at hx
      rcases hx with hx | rfl
      · exact h x hx
      · exact lnV_len l at_)
    refine ⟨by have := this.1; simp only [mkV]; simp at this; omega, this.2⟩
theorem linesV_small (l : List Int) : (linesV l).length ≤ 6 ∧ ∀ x ∈ linesV l, x.fs.length ≤ 11 := by
  obtain ⟨k, h1, h2⟩ := nextV_rng l 0 6 (by omega)
  have := mkV_small l k 1 [] (by simp)
  unfold linesV
  rw [h1]
  simp only [Int.toNat_natCast]
  exact ⟨by have := this.1; simp at this; omega, this.2⟩
end Go.Am
