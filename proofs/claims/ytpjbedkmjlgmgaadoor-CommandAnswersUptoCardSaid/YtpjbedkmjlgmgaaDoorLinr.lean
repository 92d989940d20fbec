/- The reference's Lines. -/
import Derived.Test.YtpjbedkmjlgmgaaDoorFldr
namespace Go.Am
open Go Go.Proofs
set_option maxRecDepth 100000
set_option linter.unusedVariables false
set_option linter.unusedSimpArgs false
/-- What is left of the lines: the present line so far, then the rest. -/
theorem splitL_cons (c b : UInt8) (r : List UInt8) (h : b ≠ c) : ∃ x xs, splitL c r = x :: xs ∧ splitL c (b :: r) = (b :: x) :: xs := by
  cases hs : splitL c r with
  | nil => exact (splitL_ne c r hs).elim
  | cons x xs => exact ⟨x, xs, rfl, by simp [splitL, h, hs]⟩
/-- The lines of a text that begins with 'pre', which has no line feed. -/
def withP (pre : List UInt8) : List (List UInt8) → List (List UInt8)
  | [] => [pre]
  | x :: xs => (pre ++ x) :: xs
theorem withP_nil (c : UInt8) (r : List UInt8) : withP [] (splitL c r) = splitL c r := by
  cases hs : splitL c r with
  | nil => exact (splitL_ne c r hs).elim
  | cons x xs => simp [withP]
theorem withP_sep (c : UInt8) (pre r : List UInt8) : withP pre (splitL c (c :: r)) = pre :: splitL c r := by simp [splitL, withP]
theorem withP_more (c b : UInt8) (pre r : List UInt8) (h : b ≠ c) : withP pre (splitL c (b :: r)) = withP (pre ++ [b]) (splitL c r) := by
  obtain ⟨x, xs, h1, h2⟩ := splitL_cons c b r h
  rw [h1, h2]
  simp [withP]
theorem withP_end (c : UInt8) (pre : List UInt8) : withP pre (splitL c []) = [pre] := by simp [splitL, withP]
theorem lines2_ok (s : List UInt8) : ACalls Tryd.prog 25 [.p (.str s)] [] fun h r => h = [] ∧ r = linesR (fLines s) := by
  refine ACalls_X Tryd.func25 rfl enters25 (by simp [Tryd.f25]) ?_
  cases hlen : decide ((6000 : Int) < (s.length : Int))
  · have hl : s.length ≤ 6000 := by have := of_decide_eq_false hlen; omega
    have hfl : fLines s = scanL (splitL 10 s) 1 [] := by unfold fLines; rw [if_neg (by omega)]
    rw [hfl]
    clear hfl
    simp only [go_sem, ↓reduceIte, Nat.reduceLT, Nat.reduceLeDiff, Nat.reduceEqDiff, Nat.reduceAdd, Nat.reduceMul, Nat.reduceSub, reduceCtorEq, Int.reduceLT, Int.reduceLE, Int.reduceEq, Int.reduceToNat, decide_true, decide_false, Int.reduceNeg, Int.cast_ofNat_Int, sg, AO.sg, Option.isNone_none, hlen]
    refine X_loop_inv (fun q : Nat × Nat × Nat × List Ln => ⟨[(0, .p (.str s)), (5, .ref 50 0 q.2.2.2.length q.2.2.2.length), (6, .p (.int .i64 (q.2.1 : Nat))), (7, .p (.int .i64 (q.2.2.1 : Nat))), (8, .p (.int .i64 (q.1 : Nat)))], [(50, .arr 51 2 (encL q.2.2.2))], 56⟩)
      (fun q => (q.1 ≤ s.length + 1 ∧ q.2.1 ≤ q.1 + 1 ∧ q.2.2.2.length ≤ q.1) ∧ ((q.1 ≤ s.length ∧ q.2.2.1 ≤ q.1 ∧ scanL (withP ((s.take q.1).drop q.2.2.1) (splitL 10 (s.drop q.1))) q.2.1 q.2.2.2 = scanL (splitL 10 s) 1 []) ∨ (q.1 = s.length + 1 ∧ scanL [] q.2.1 q.2.2.2 = scanL (splitL 10 s) 1 []))) (fun q => s.length + 1 - q.1) (0, 1, 0, [])
      ⟨⟨by simp, by simp, by simp⟩, .inl ⟨by simp, by simp, by simp [withP_nil]⟩⟩ ((Wk.nil (t := 5) (q := 50) (sz := 2) 51 rfl rfl (by decide)).trans (Wk.forget (by simp [Le, LeE, LeH, get, envIds, hpIds, KeepH, D.ids, idsL, AO.ids, setL, base, encL]))) ?_
    rintro ⟨i, num, fr, acc⟩ n ⟨⟨hi, hnum, hacc⟩, he⟩ ih
    simp only at hi hnum hacc he
    have hi0 : (0 : Int) ≤ (i : Int) := by omega
    have hw : IntKind.i64.wrap ((i : Int) + 1) = ((i + 1 : Nat) : Int) := by rw [wrap_i64_id] <;> omega
    have hwn : IntKind.i64.wrap ((num : Int) + 1) = ((num + 1 : Nat) : Int) := by rw [wrap_i64_id] <;> omega
    rcases he with ⟨hil, hfr, he⟩ | ⟨hil, he⟩
    · have hil' : (i : Int) ≤ (s.length : Int) := by omega
      have hfr0 : (0 : Int) ≤ (fr : Int) ∧ (fr : Int) ≤ (i : Int) ∧ (i : Int) ≤ (s.length : Int) := by omega
      have hsz : ((s.take i).drop fr).length ≤ 100000000 := by simp; omega
      simp only [go_sem, ↓reduceIte, Nat.reduceLT, Nat.reduceLeDiff, Nat.reduceEqDiff, Nat.reduceAdd, Nat.reduceMul, Nat.reduceSub, reduceCtorEq, Int.reduceLT, Int.reduceLE, Int.reduceEq, Int.reduceToNat, decide_true, decide_false, Int.reduceNeg, Int.cast_ofNat_Int, sg, AO.sg, Option.isNone_none, hil']
      cases hend : decide ((i : Int) < (s.length : Int))
      rotate_left
      · have hlt : i < s.length := by have := of_decide_eq_true hend; omega
        have hilt : (i : Int) < (s.length : Int) := by omega
        have htk : (s.take (i + 1)).drop fr = (s.take i).drop fr ++ [s.getD i 0] := by
          rw [List.take_succ_eq_append_getElem hlt, List.drop_append_of_le_length (by simp; omega)]
          simp [List.getD, hlt]
        rw [drop_getD s i 0 hlt] at he
        generalize hb : s.getD i 0 = b at *
        cases h10 : decide ((b.toNat : Int) = 10)
        · have hb10 : b ≠ 10 := by rintro rfl; simp at h10
          simp only [go_sem, ↓reduceIte, Nat.reduceLT, Nat.reduceLeDiff, Nat.reduceEqDiff, Nat.reduceAdd, Nat.reduceMul, Nat.reduceSub, reduceCtorEq, Int.reduceLT, Int.reduceLE, Int.reduceEq, Int.reduceToNat, decide_true, decide_false, Int.reduceNeg, Int.cast_ofNat_Int, sg, AO.sg, Option.isNone_none, Int.toNat_natCast, hil', hilt, hi0, hb, hend, h10, hw]
          rw [withP_more _ _ _ _ hb10, ← htk] at he
          refine ih (i + 1, num, fr, acc) _ ⟨⟨by simp only; omega, by simp only; omega, by simp only; omega⟩, .inl ⟨hlt, by simp only; omega, he⟩⟩ (by simp only; omega) ?_
          (refine Wk.forget ?_; simp [Le, LeE, LeH, get, envIds, hpIds, KeepH, D.ids, idsL, AO.ids, setL, base]; done)
        · have hb10 : b = 10 := by
            have := of_decide_eq_true h10
            exact UInt8.toNat_inj.1 (by simp; omega)
          subst hb10
          rw [withP_sep] at he
          simp only [go_sem, ↓reduceIte, Nat.reduceLT, Nat.reduceLeDiff, Nat.reduceEqDiff, Nat.reduceAdd, Nat.reduceMul, Nat.reduceSub, reduceCtorEq, Int.reduceLT, Int.reduceLE, Int.reduceEq, Int.reduceToNat, decide_true, decide_false, Int.reduceNeg, Int.cast_ofNat_Int, sg, AO.sg, Option.isNone_none, Int.toNat_natCast, hil', hilt, hi0, hb, hend, h10, hfr0]
          refine Cc_of (fields2_ok _ hsz) ?_
          rintro h' r ⟨rfl, rfl⟩
          generalize (s.take i).drop fr = t at *
          by_cases hz : (fld t none []).2 = 0
          · by_cases hp : 0 < (fld t none []).1.length
            · have hp' : (0 : Int) < ((fld t none []).1.length : Int) := by omega
              simp only [go_sem, ↓reduceIte, Nat.reduceLT, Nat.reduceLeDiff, Nat.reduceEqDiff, Nat.reduceAdd, Nat.reduceMul, Nat.reduceSub, reduceCtorEq, Int.reduceLT, Int.reduceLE, Int.reduceEq, Int.reduceToNat, decide_true, decide_false, Int.reduceNeg, Int.cast_ofNat_Int, sg, AO.sg, Option.isNone_none, hz, hw, hwn, encS_len, encL_len, hp']
              refine ⟨⟨wid1 _ _ rfl, by omega⟩, ?_⟩
              refine ih (i + 1, num + 1, i + 1, acc ++ [⟨(num : Nat), (fld t none []).1⟩]) _ ⟨⟨by simp only; omega, by simp only; omega, by simp; omega⟩, .inl ⟨hlt, by simp, ?_⟩⟩ (by simp only; omega) ?_
              · rw [← he]
                simp [scanL, hz, hp, withP_nil]
              · (refine Wk.forget ?_; simp [Le, LeE, LeH, get, envIds, hpIds, KeepH, D.ids, idsL, AO.ids, setL, base, encL_snoc, encL_len]; done)
            · have hp' : ¬ (0 : Int) < ((fld t none []).1.length : Int) := by omega
              simp only [go_sem, ↓reduceIte, Nat.reduceLT, Nat.reduceLeDiff, Nat.reduceEqDiff, Nat.reduceAdd, Nat.reduceMul, Nat.reduceSub, reduceCtorEq, Int.reduceLT, Int.reduceLE, Int.reduceEq, Int.reduceToNat, decide_true, decide_false, Int.reduceNeg, Int.cast_ofNat_Int, sg, AO.sg, Option.isNone_none, hz, hw, hwn, encS_len, hp']
              refine ih (i + 1, num + 1, i + 1, acc) _ ⟨⟨by simp only; omega, by simp only; omega, by simp only; omega⟩, .inl ⟨hlt, by simp, ?_⟩⟩ (by simp only; omega) ?_
              · rw [← he]
                simp [scanL, hz, hp, withP_nil]
              · (refine Wk.forget ?_; simp [Le, LeE, LeH, get, envIds, hpIds, KeepH, D.ids, idsL, AO.ids, setL, base]; done)
          · simp only [go_sem, ↓reduceIte, Nat.reduceLT, Nat.reduceLeDiff, Nat.reduceEqDiff, Nat.reduceAdd, Nat.reduceMul, Nat.reduceSub, reduceCtorEq, Int.reduceLT, Int.reduceLE, Int.reduceEq, Int.reduceToNat, decide_true, decide_false, Int.reduceNeg, Int.cast_ofNat_Int, sg, AO.sg, Option.isNone_none, hz]
            refine end_pure ?_
            simp only [go_sem, ↓reduceIte, Nat.reduceLT, Nat.reduceLeDiff, Nat.reduceEqDiff, Nat.reduceAdd, Nat.reduceMul, Nat.reduceSub, reduceCtorEq, Int.reduceLT, Int.reduceLE, Int.reduceEq, Int.reduceToNat, decide_true, decide_false, Int.reduceNeg, Int.cast_ofNat_Int, sg, AO.sg, Option.isNone_none]
            rw [← he]
            simp [scanL, hz, linesR, encL]
      · have hieq : i = s.length := by have := of_decide_eq_false hend; omega
        rw [show s.drop i = [] from List.drop_of_length_le (by omega), withP_end] at he
        simp only [go_sem, ↓reduceIte, Nat.reduceLT, Nat.reduceLeDiff, Nat.reduceEqDiff, Nat.reduceAdd, Nat.reduceMul, Nat.reduceSub, reduceCtorEq, Int.reduceLT, Int.reduceLE, Int.reduceEq, Int.reduceToNat, decide_true, decide_false, Int.reduceNeg, Int.cast_ofNat_Int, sg, AO.sg, Option.isNone_none, Int.toNat_natCast, hil', hi0, hend, hfr0]
        refine Cc_of (fields2_ok _ hsz) ?_
        rintro h' r ⟨rfl, rfl⟩
        generalize (s.take i).drop fr = t at *
        by_cases hz : (fld t none []).2 = 0
        · by_cases hp : 0 < (fld t none []).1.length
          · have hp' : (0 : Int) < ((fld t none []).1.length : Int) := by omega
            simp only [go_sem, ↓reduceIte, Nat.reduceLT, Nat.reduceLeDiff, Nat.reduceEqDiff, Nat.reduceAdd, Nat.reduceMul, Nat.reduceSub, reduceCtorEq, Int.reduceLT, Int.reduceLE, Int.reduceEq, Int.reduceToNat, decide_true, decide_false, Int.reduceNeg, Int.cast_ofNat_Int, sg, AO.sg, Option.isNone_none, hz, hw, hwn, encS_len, encL_len, hp']
            refine ⟨⟨wid1 _ _ rfl, by omega⟩, ?_⟩
            refine ih (i + 1, num + 1, i + 1, acc ++ [⟨(num : Nat), (fld t none []).1⟩]) _ ⟨⟨by simp only; omega, by simp only; omega, by simp; omega⟩, .inr ⟨by simp only; omega, ?_⟩⟩ (by simp only; omega) ?_
            · rw [← he]
              simp [scanL, hz, hp]
            · (refine Wk.forget ?_; simp [Le, LeE, LeH, get, envIds, hpIds, KeepH, D.ids, idsL, AO.ids, setL, base, encL_snoc, encL_len]; done)
          · have hp' : ¬ (0 : Int) < ((fld t none []).1.length : Int) := by omega
            simp only [go_sem, ↓reduceIte, Nat.reduceLT, Nat.reduceLeDiff, Nat.reduceEqDiff, Nat.reduceAdd, Nat.reduceMul, Nat.reduceSub, reduceCtorEq, Int.reduceLT, Int.reduceLE, Int.reduceEq, Int.reduceToNat, decide_true, decide_false, Int.reduceNeg, Int.cast_ofNat_Int, sg, AO.sg, Option.isNone_none, hz, hw, hwn, encS_len, hp']
            refine ih (i + 1, num + 1, i + 1, acc) _ ⟨⟨by simp only; omega, by simp only; omega, by simp only; omega⟩, .inr ⟨by simp only; omega, ?_⟩⟩ (by simp only; omega) ?_
            · rw [← he]
              simp [scanL, hz, hp]
            · (refine Wk.forget ?_; simp [Le, LeE, LeH, get, envIds, hpIds, KeepH, D.ids, idsL, AO.ids, setL, base]; done)
        · simp only [go_sem, ↓reduceIte, Nat.reduceLT, Nat.reduceLeDiff, Nat.reduceEqDiff, Nat.reduceAdd, Nat.reduceMul, Nat.reduceSub, reduceCtorEq, Int.reduceLT, Int.reduceLE, Int.reduceEq, Int.reduceToNat, decide_true, decide_false, Int.reduceNeg, Int.cast_ofNat_Int, sg, AO.sg, Option.isNone_none, hz]
          refine end_pure ?_
          simp only [go_sem, ↓reduceIte, Nat.reduceLT, Nat.reduceLeDiff, Nat.reduceEqDiff, Nat.reduceAdd, Nat.reduceMul, Nat.reduceSub, reduceCtorEq, Int.reduceLT, Int.reduceLE, Int.reduceEq, Int.reduceToNat, decide_true, decide_false, Int.reduceNeg, Int.cast_ofNat_Int, sg, AO.sg, Option.isNone_none]
          rw [← he]
          simp [scanL, hz, linesR, encL]
    · have hil' : ¬ (i : Int) ≤ (s.length : Int) := by omega
      simp only [go_sem, ↓reduceIte, Nat.reduceLT, Nat.reduceLeDiff, Nat.reduceEqDiff, Nat.reduceAdd, Nat.reduceMul, Nat.reduceSub, reduceCtorEq, Int.reduceLT, Int.reduceLE, Int.reduceEq, Int.reduceToNat, decide_true, decide_false, Int.reduceNeg, Int.cast_ofNat_Int, sg, AO.sg, Option.isNone_none, hil']
      refine end_pure ?_
      simp only [go_sem, ↓reduceIte, Nat.reduceLT, Nat.reduceLeDiff, Nat.reduceEqDiff, Nat.reduceAdd, Nat.reduceMul, Nat.reduceSub, reduceCtorEq, Int.reduceLT, Int.reduceLE, Int.reduceEq, Int.reduceToNat, decide_true, decide_false, Int.reduceNeg, Int.cast_ofNat_Int, sg, AO.sg, Option.isNone_none]
      rw [← he]
      simp [scanL, linesR, encL_len, encL_take]
  · have hl : 6000 < s.length := by have := of_decide_eq_true hlen; omega
    have hf : fLines s = ([], 0, 1) := by unfold fLines; rw [if_pos hl]
    rw [hf]
    simp only [go_sem, ↓reduceIte, Nat.reduceLT, Nat.reduceLeDiff, Nat.reduceEqDiff, Nat.reduceAdd, Nat.reduceMul, Nat.reduceSub, reduceCtorEq, Int.reduceLT, Int.reduceLE, Int.reduceEq, Int.reduceToNat, decide_true, decide_false, Int.reduceNeg, Int.cast_ofNat_Int, sg, AO.sg, Option.isNone_none, hlen]
    refine end_pure ?_
    simp only [go_sem, ↓reduceIte, Nat.reduceLT, Nat.reduceLeDiff, Nat.reduceEqDiff, Nat.reduceAdd, Nat.reduceMul, Nat.reduceSub, reduceCtorEq, Int.reduceLT, Int.reduceLE, Int.reduceEq, Int.reduceToNat, decide_true, decide_false, Int.reduceNeg, Int.cast_ofNat_Int, sg, AO.sg, Option.isNone_none]
    try simp [linesR, encL]
theorem splitL_app (c : UInt8) (t : List UInt8) : ∀ s : List UInt8, splitL c (s ++ c :: t) = splitL c s ++ splitL c t
  | [] => by simp [splitL]
  | b :: r => by
    have ih := splitL_app c t r
    simp only [List.cons_append, splitL]
    split
    · rw [ih]; rfl
    · rw [ih]
      cases hs : splitL c r with
      | nil => exact (splitL_ne c r hs).elim
      | cons x xs => rfl
theorem fld_len : ∀ (t : List UInt8) (c : Option (List UInt8)) (acc : List (List UInt8)), (fld t c acc).1.length ≤ acc.length + c.toList.length + t.length
  | [], none, acc => by simp [fld]
  | [], some cur, acc => by simp [fld]
  | b :: r, c, acc => by
    simp only [fld]
    split
    · simp
    · split
      · have := fld_len r none (acc ++ c.toList)
        simp at this ⊢; omega
      · split
        · split
          · simp
          · have := fld_len r (some (c.getD [] ++ [b])) acc
            simp at this ⊢; omega
        · simp
theorem scanL_small (B : Nat) : ∀ (S : List (List UInt8)) (k : Nat) (acc : List Ln), (∀ t ∈ S, t.length ≤ B) → (∀ x ∈ acc, x.fs.length ≤ B) →
    (scanL S k acc).1.length ≤ acc.length + S.length ∧ ∀ x ∈ (scanL S k acc).1, x.fs.length ≤ B
  | [], k, acc, _, h => by simpa [scanL] using h
  | t :: r, k, acc, hS, h => by
    simp only [scanL]
    split
    · have hl : (fld t none []).1.length ≤ B := by
        have h1 := fld_len t none []
        have h2 := hS t (by simp)
        simp at h1; omega
      have h3 := scanL_small B r (k + 1) (if 0 < (fld t none []).1.length then acc ++ [⟨(k : Nat), (fld t none []).1⟩] else acc) (fun y hy => hS y (by simp [hy])) (fun x hx => by
        split at hx
        · simp only [List.mem_append, List.mem_singleton] at hx
          rcases hx with hx | rfl
          · exact h x hx
          · exact hl
        · exact h x hx)
      have h4 : (if 0 < (fld t none []).1.length then acc ++ [⟨(k : Nat), (fld t none []).1⟩] else acc).length ≤ acc.length + 1 := by split <;> simp
      have h5 := h3.1
      exact ⟨by simp only [List.length_cons]; omega, h3.2⟩
    · simp
theorem fLines_small (s : List UInt8) : (fLines s).1.length ≤ 10000000 ∧ ∀ x ∈ (fLines s).1, x.fs.length ≤ 10000000 := by
  unfold fLines
  split
  · simp
  · rename_i h
    have h1 := splitL_len 10 s
    have h2 : s.count 10 ≤ s.length := List.count_le_length
    have h3 := scanL_small 6000 (splitL 10 s) 1 [] (fun t ht => by have := splitL_small 10 s t ht; omega) (by simp)
    refine ⟨by have := h3.1; simp at this; omega, fun x hx => by have := h3.2 x hx; omega⟩
end Go.Am
