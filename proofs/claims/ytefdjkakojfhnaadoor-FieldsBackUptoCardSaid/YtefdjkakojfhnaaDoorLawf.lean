/- FieldsLines and FieldsFirst, as contracts. -/
import Derived.Test.YtefdjkakojfhnaaDoorKno1
namespace Go.Am
open Go Go.Proofs
set_option maxRecDepth 100000
set_option linter.unusedVariables false
set_option linter.unusedSimpArgs false
theorem fld_len : ∀ (t : List UInt8) (c : Option (List UInt8)) (acc : List (List UInt8)), (fld t c acc).1.length ≤ acc.length + c.toList.length + t.length
  | [], none, acc => by simp [fld]
  | [], some cur, acc => by simp [fld]
  | b :: r, c, acc => by
    simp only [fld]
    split
    · simp
    · split
      · have := fld_len r none (acc ++ c.toList)
        simp at this ⊢; omega
      · split
        · split
          · simp
          · have := fld_len r (some (c.getD [] ++ [b])) acc
            simp at this ⊢; omega
        · simp
theorem scanL_small (B : Nat) : ∀ (S : List (List UInt8)) (k : Nat) (acc : List Ln), (∀ t ∈ S, t.length ≤ B) → (∀ x ∈ acc, x.fs.length ≤ B) →
    (scanL S k acc).1.length ≤ acc.length + S.length ∧ ∀ x ∈ (scanL S k acc).1, x.fs.length ≤ B
  | [], k, acc, _, h => by simpa [scanL] using h
  | t :: r, k, acc, hS, h => by
    simp only [scanL]
    split
    · have hl : (fld t none []).1.length ≤ B := by
        have h1 := fld_len t none []
        have h2 := hS t (by simp)
        simp at h1; omega
      have h3 := scanL_small B r (k + 1) (if 0 < (fld t none []).1.length then acc ++ [⟨(k : Nat), (fld t none []).1⟩] else acc) (fun y hy => hS y (by simp [hy])) (fun x hx => by
        split at hx
        · simp only [List.mem_append, List.mem_singleton] at hx
          rcases hx with hx | rfl
          · exact h x hx
          · exact hl
        · exact h x hx)
      have h4 : (if 0 < (fld t none []).1.length then acc ++ [⟨(k : Nat), (fld t none []).1⟩] else acc).length ≤ acc.length + 1 := by split <;> simp
      have h5 := h3.1
      exact ⟨by simp only [List.length_cons]; omega, h3.2⟩
    · simp
theorem fLines_small (s : List UInt8) : (fLines s).1.length ≤ 10000000 ∧ ∀ x ∈ (fLines s).1, x.fs.length ≤ 10000000 := by
  unfold fLines
  split
  · simp
  · rename_i h
    have h1 := splitL_len 10 s
    have h2 : s.count 10 ≤ s.length := List.count_le_length
    have h3 := scanL_small 6000 (splitL 10 s) 1 [] (fun t ht => by have := splitL_small 10 s t ht; omega) (by simp)
    refine ⟨by have := h3.1; simp at this; omega, fun x hx => by have := h3.2 x hx; omega⟩
theorem fieldsLines_ok (s : List UInt8) (l : List Int) : ACalls Tryd.prog 3 [.p (.str s), .p (.sl (encI l))] [] fun h r => h = [] ∧ r = .p (.bool true) := by
  refine ACalls_X Tryd.func3 rfl enters3 (by simp [Tryd.f3]) ?_
  simp only [go_sem, ↓reduceIte, Nat.reduceLT, Nat.reduceLeDiff, Nat.reduceEqDiff, Nat.reduceAdd, Nat.reduceMul, Nat.reduceSub, reduceCtorEq, Int.reduceLT, Int.reduceLE, Int.reduceEq, Int.reduceToNat, decide_true, decide_false, Int.reduceNeg, Int.cast_ofNat_Int, sg, AO.sg, Option.isNone_none]
  refine Cc_of known1_ok ?_
  rintro h' r ⟨rfl, rfl⟩
  simp only [go_sem, ↓reduceIte, Nat.reduceLT, Nat.reduceLeDiff, Nat.reduceEqDiff, Nat.reduceAdd, Nat.reduceMul, Nat.reduceSub, reduceCtorEq, Int.reduceLT, Int.reduceLE, Int.reduceEq, Int.reduceToNat, decide_true, decide_false, Int.reduceNeg, Int.cast_ofNat_Int, sg, AO.sg, Option.isNone_none]
  refine Cc_of (text_ok l) ?_
  rintro h' r ⟨rfl, rfl⟩
  simp only [go_sem, ↓reduceIte, Nat.reduceLT, Nat.reduceLeDiff, Nat.reduceEqDiff, Nat.reduceAdd, Nat.reduceMul, Nat.reduceSub, reduceCtorEq, Int.reduceLT, Int.reduceLE, Int.reduceEq, Int.reduceToNat, decide_true, decide_false, Int.reduceNeg, Int.cast_ofNat_Int, sg, AO.sg, Option.isNone_none]
  refine X_loop_inv (fun i => ⟨[(5, .ref 18 0 2 2), (6, .p (.int .i64 (i : Nat)))], [(18, .arr 9 1 [[.str s], [.str (textV l)]])], 55⟩) (fun i => i ≤ 2) (fun i => 2 - i) 0 (by omega) (Wk.forget (by simp [Le, LeE, LeH, get, envIds, hpIds, KeepH, D.ids, idsL, AO.ids, setL, base])) ?_
  rintro i n hi ih
  simp only [go_sem, ↓reduceIte, Nat.reduceLT, Nat.reduceLeDiff, Nat.reduceEqDiff, Nat.reduceAdd, Nat.reduceMul, Nat.reduceSub, reduceCtorEq, Int.reduceLT, Int.reduceLE, Int.reduceEq, Int.reduceToNat, decide_true, decide_false, Int.reduceNeg, Int.cast_ofNat_Int, sg, AO.sg, Option.isNone_none]
  refine Cn_split (fun h2 => ?_) (fun h2 => ?_)
  · obtain ⟨t, hg⟩ : ∃ t, ([[Pd.str s], [Pd.str (textV l)]] : List (List Pd)).getD i [] = [.str t] := by
      have : i = 0 ∨ i = 1 := by simp at h2; omega
      rcases this with rfl | rfl
      · exact ⟨s, rfl⟩
      · exact ⟨textV l, rfl⟩
    have hi2 : (i : Int) < 2 := by simpa using h2
    have hi0 : (0 : Int) ≤ (i : Int) := by omega
    have hw := wrap_succ i (by omega)
    simp only [go_sem, ↓reduceIte, Nat.reduceLT, Nat.reduceLeDiff, Nat.reduceEqDiff, Nat.reduceAdd, Nat.reduceMul, Nat.reduceSub, reduceCtorEq, Int.reduceLT, Int.reduceLE, Int.reduceEq, Int.reduceToNat, decide_true, decide_false, Int.reduceNeg, Int.cast_ofNat_Int, sg, AO.sg, Option.isNone_none, Int.toNat_natCast, hg, hi2, hi0]
    refine Cc_of (lines1_ok t) ?_
    rintro h' r ⟨rfl, rfl⟩
    simp only [go_sem, ↓reduceIte, Nat.reduceLT, Nat.reduceLeDiff, Nat.reduceEqDiff, Nat.reduceAdd, Nat.reduceMul, Nat.reduceSub, reduceCtorEq, Int.reduceLT, Int.reduceLE, Int.reduceEq, Int.reduceToNat, decide_true, decide_false, Int.reduceNeg, Int.cast_ofNat_Int, sg, AO.sg, Option.isNone_none, Int.toNat_natCast, hg, hi2, hi0, linesR]
    refine Cc_of (lines2_ok t) ?_
    rintro h' r ⟨rfl, rfl⟩
    simp only [go_sem, ↓reduceIte, Nat.reduceLT, Nat.reduceLeDiff, Nat.reduceEqDiff, Nat.reduceAdd, Nat.reduceMul, Nat.reduceSub, reduceCtorEq, Int.reduceLT, Int.reduceLE, Int.reduceEq, Int.reduceToNat, decide_true, decide_false, Int.reduceNeg, Int.cast_ofNat_Int, sg, AO.sg, Option.isNone_none, linesR]
    refine Cc_of (sameLines_ok _ _ (fLines_small t)) ?_
    rintro h' r ⟨rfl, rfl⟩
    simp only [go_sem, ↓reduceIte, Nat.reduceLT, Nat.reduceLeDiff, Nat.reduceEqDiff, Nat.reduceAdd, Nat.reduceMul, Nat.reduceSub, reduceCtorEq, Int.reduceLT, Int.reduceLE, Int.reduceEq, Int.reduceToNat, decide_true, decide_false, Int.reduceNeg, Int.cast_ofNat_Int, sg, AO.sg, Option.isNone_none, hw]
    refine ih (i + 1) _ (by omega) (by omega) (Wk.forget (by simp [Le, LeE, LeH, get, envIds, hpIds, KeepH, D.ids, idsL, AO.ids, setL, base]))
  · simp only [go_sem, ↓reduceIte, Nat.reduceLT, Nat.reduceLeDiff, Nat.reduceEqDiff, Nat.reduceAdd, Nat.reduceMul, Nat.reduceSub, reduceCtorEq, Int.reduceLT, Int.reduceLE, Int.reduceEq, Int.reduceToNat, decide_true, decide_false, Int.reduceNeg, Int.cast_ofNat_Int, sg, AO.sg, Option.isNone_none]
theorem scanL_app : ∀ (S T : List (List UInt8)) (k : Nat) (acc : List Ln), (scanL S k acc).2.2 ≠ 0 → scanL (S ++ T) k acc = scanL S k acc
  | [], T, k, acc, h => (h rfl).elim
  | t :: r, T, k, acc, h => by
    simp only [List.cons_append, scanL] at h ⊢
    split
    · rename_i hz; rw [if_pos hz] at h; exact scanL_app r T _ _ h
    · rfl
theorem splitL_app (c : UInt8) (t : List UInt8) : ∀ s : List UInt8, splitL c (s ++ c :: t) = splitL c s ++ splitL c t
  | [] => by simp [splitL]
  | b :: r => by
    have ih := splitL_app c t r
    simp only [List.cons_append, splitL]
    split
    · rw [ih]; rfl
    · rw [ih]
      cases hs : splitL c r with
      | nil => exact (splitL_ne c r hs).elim
      | cons x xs => rfl
theorem fieldsFirst_ok (l m : List Int) : ACalls Tryd.prog 5 [.p (.sl (encI l)), .p (.sl (encI m))] [] fun h r => h = [] ∧ r = .p (.bool true) := by
  have hl := textV_len l
  have hm := textV_len m
  refine ACalls_X Tryd.func5 rfl enters5 (by simp [Tryd.f5]) ?_
  simp only [go_sem, ↓reduceIte, Nat.reduceLT, Nat.reduceLeDiff, Nat.reduceEqDiff, Nat.reduceAdd, Nat.reduceMul, Nat.reduceSub, reduceCtorEq, Int.reduceLT, Int.reduceLE, Int.reduceEq, Int.reduceToNat, decide_true, decide_false, Int.reduceNeg, Int.cast_ofNat_Int, sg, AO.sg, Option.isNone_none]
  refine Cc_of known1_ok ?_
  rintro h' r ⟨rfl, rfl⟩
  simp only [go_sem, ↓reduceIte, Nat.reduceLT, Nat.reduceLeDiff, Nat.reduceEqDiff, Nat.reduceAdd, Nat.reduceMul, Nat.reduceSub, reduceCtorEq, Int.reduceLT, Int.reduceLE, Int.reduceEq, Int.reduceToNat, decide_true, decide_false, Int.reduceNeg, Int.cast_ofNat_Int, sg, AO.sg, Option.isNone_none]
  refine Cc_of (text_ok l) ?_
  rintro h' r ⟨rfl, rfl⟩
  simp only [go_sem, ↓reduceIte, Nat.reduceLT, Nat.reduceLeDiff, Nat.reduceEqDiff, Nat.reduceAdd, Nat.reduceMul, Nat.reduceSub, reduceCtorEq, Int.reduceLT, Int.reduceLE, Int.reduceEq, Int.reduceToNat, decide_true, decide_false, Int.reduceNeg, Int.cast_ofNat_Int, sg, AO.sg, Option.isNone_none]
  refine Cc_of (lines1_ok (textV l)) ?_
  rintro h' r ⟨rfl, rfl⟩
  simp only [go_sem, ↓reduceIte, Nat.reduceLT, Nat.reduceLeDiff, Nat.reduceEqDiff, Nat.reduceAdd, Nat.reduceMul, Nat.reduceSub, reduceCtorEq, Int.reduceLT, Int.reduceLE, Int.reduceEq, Int.reduceToNat, decide_true, decide_false, Int.reduceNeg, Int.cast_ofNat_Int, sg, AO.sg, Option.isNone_none, linesR]
  refine ⟨by unfold maxLen; omega, Cc_of (text_ok m) ?_⟩
  rintro h' r ⟨rfl, rfl⟩
  simp only [go_sem, ↓reduceIte, Nat.reduceLT, Nat.reduceLeDiff, Nat.reduceEqDiff, Nat.reduceAdd, Nat.reduceMul, Nat.reduceSub, reduceCtorEq, Int.reduceLT, Int.reduceLE, Int.reduceEq, Int.reduceToNat, decide_true, decide_false, Int.reduceNeg, Int.cast_ofNat_Int, sg, AO.sg, Option.isNone_none]
  have happ : textV l ++ [10] ++ textV m = textV l ++ 10 :: textV m := by simp
  refine ⟨by unfold maxLen; simp; omega, ?_⟩
  rw [happ]
  refine Cc_of (lines1_ok _) ?_
  rintro h' r ⟨rfl, rfl⟩
  by_cases he : (fLines (textV l)).2.2 = 0
  · simp only [go_sem, ↓reduceIte, Nat.reduceLT, Nat.reduceLeDiff, Nat.reduceEqDiff, Nat.reduceAdd, Nat.reduceMul, Nat.reduceSub, reduceCtorEq, Int.reduceLT, Int.reduceLE, Int.reduceEq, Int.reduceToNat, decide_true, decide_false, Int.reduceNeg, Int.cast_ofNat_Int, sg, AO.sg, Option.isNone_none, linesR, he]
  · have h1 : fLines (textV l) = scanL (splitL 10 (textV l)) 1 [] := by unfold fLines; rw [if_neg (by omega)]
    have h2 : fLines (textV l ++ 10 :: textV m) = fLines (textV l) := by
      rw [h1] at he ⊢
      unfold fLines
      rw [if_neg (by simp; omega), splitL_app]
      exact scanL_app _ _ _ _ he
    simp only [go_sem, ↓reduceIte, Nat.reduceLT, Nat.reduceLeDiff, Nat.reduceEqDiff, Nat.reduceAdd, Nat.reduceMul, Nat.reduceSub, reduceCtorEq, Int.reduceLT, Int.reduceLE, Int.reduceEq, Int.reduceToNat, decide_true, decide_false, Int.reduceNeg, Int.cast_ofNat_Int, sg, AO.sg, Option.isNone_none, linesR, he, h2]
end Go.Am
