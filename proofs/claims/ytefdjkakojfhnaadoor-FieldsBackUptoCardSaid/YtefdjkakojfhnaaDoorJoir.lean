/- The reference's Formed, Words and Join. -/
import Derived.Test.YtefdjkakojfhnaaDoorJoip
namespace Go.Am
open Go Go.Proofs
set_option maxRecDepth 100000
set_option linter.unusedVariables false
set_option linter.unusedSimpArgs false
theorem wordsV_snoc (l : List (List UInt8)) (x : List UInt8) (h : l ≠ []) : wordsV (l ++ [x]) = wordsV l ++ [32] ++ x := by
  cases l with
  | nil => exact (h rfl).elim
  | cons y r => simp [wordsV]
theorem szF_app (a b : List (List UInt8)) : szF (a ++ b) = szF a + szF b := by
  induction a with
  | nil => simp [szF]
  | cons x r ih => simp only [List.cons_append, szF, ih]; omega
theorem szF_take (l : List (List UInt8)) (i : Nat) : szF (l.take i) ≤ szF l := by
  have := szF_app (l.take i) (l.drop i)
  rw [List.take_append_drop] at this
  omega
theorem wordsV_le (l : List (List UInt8)) : (wordsV l).length ≤ szF l := by
  cases l with
  | nil => simp [wordsV, szF]
  | cons x r => have := wordsV_len (x :: r) (by simp); omega
theorem words_ok (fs : List (List UInt8)) (hl : fs.length ≤ 100000000) (hs : szF fs ≤ 1000000000000) : ACalls Tryd.prog 63 [.p (.sl (encS fs))] [] fun h r => h = [] ∧ r = .p (.str (wordsV fs)) := by
  refine ACalls_X Tryd.func63 rfl enters63 (by simp [Tryd.f63]) ?_
  simp only [go_sem, ↓reduceIte, Nat.reduceLT, Nat.reduceLeDiff, Nat.reduceEqDiff, Nat.reduceAdd, Nat.reduceMul, Nat.reduceSub, reduceCtorEq, Int.reduceLT, Int.reduceLE, Int.reduceEq, Int.reduceToNat, decide_true, decide_false, Int.reduceNeg, Int.cast_ofNat_Int, sg, AO.sg, Option.isNone_none]
  refine X_loop_inv (fun i : Nat => ⟨[(0, .p (.sl (encS fs))), (3, .p (.str (wordsV (fs.take i)))), (4, .p (.int .i64 (i : Nat)))], [], 22⟩) (fun i => i ≤ fs.length) (fun i => fs.length - i) 0 (Nat.zero_le _) (Wk.forget (by simp [Le, LeE, LeH, get, envIds, hpIds, KeepH, D.ids, idsL, AO.ids, setL, base, List.take_zero, wordsV])) ?_
  intro i n hi ih
  simp only [go_sem, ↓reduceIte, Nat.reduceLT, Nat.reduceLeDiff, Nat.reduceEqDiff, Nat.reduceAdd, Nat.reduceMul, Nat.reduceSub, reduceCtorEq, Int.reduceLT, Int.reduceLE, Int.reduceEq, Int.reduceToNat, decide_true, decide_false, Int.reduceNeg, Int.cast_ofNat_Int, sg, AO.sg, Option.isNone_none, encS_len]
  refine Cn_split (fun h1 => ?_) (fun h1 => ?_)
  · have hlt : i < fs.length := by simp at h1; omega
    have hi0 : (0 : Int) ≤ (i : Int) ∧ (i : Int) < (fs.length : Int) := by omega
    have hw := wrap_succ i (by omega)
    have hg := encS_get fs i hlt
    have htk : fs.take (i + 1) = fs.take i ++ [fs.getD i []] := by
      rw [List.take_succ_eq_append_getElem hlt]; simp [List.getD, hlt]
    have hszt := szF_take fs (i + 1)
    have hszl := wordsV_le (fs.take i)
    rw [htk, szF_app] at hszt
    generalize hx : fs.getD i [] = x at *
    simp only [szF] at hszt
    by_cases h0 : i = 0
    · subst h0
      have hx0 : fs.take (0 + 1) = [x] := by rw [htk]; simp
      have hd : (0 : Int) < (fs.length : Int) := by omega
      have hw11 : IntKind.i64.wrap 1 = 1 := rfl
      simp only [go_sem, ↓reduceIte, Nat.reduceLT, Nat.reduceLeDiff, Nat.reduceEqDiff, Nat.reduceAdd, Nat.reduceMul, Nat.reduceSub, reduceCtorEq, Int.reduceLT, Int.reduceLE, Int.reduceEq, Int.reduceToNat, decide_true, decide_false, Int.reduceNeg, Int.cast_ofNat_Int, sg, AO.sg, Option.isNone_none, encS_len, Int.toNat_natCast, hg, hd, Int.reduceToNat, List.take_zero, wordsV]
      refine ⟨by unfold maxLen; simp [wordsV]; omega, ?_⟩
      refine ih (0 + 1) _ hlt (by omega) (Wk.forget (by simp [Le, LeE, LeH, get, envIds, hpIds, KeepH, D.ids, idsL, AO.ids, setL, base, hx0, wordsV, List.flatMap_nil, hw11]))
    · have hne : fs.take i ≠ [] := by
        intro h
        have := congrArg List.length h
        simp at this
        rcases this with h | h
        · exact h0 h
        · subst h; simp at hlt
      have hd : (0 : Int) < (i : Int) := by omega
      have hsn := wordsV_snoc (fs.take i) x hne
      rw [← htk] at hsn
      simp only [go_sem, ↓reduceIte, Nat.reduceLT, Nat.reduceLeDiff, Nat.reduceEqDiff, Nat.reduceAdd, Nat.reduceMul, Nat.reduceSub, reduceCtorEq, Int.reduceLT, Int.reduceLE, Int.reduceEq, Int.reduceToNat, decide_true, decide_false, Int.reduceNeg, Int.cast_ofNat_Int, sg, AO.sg, Option.isNone_none, encS_len, Int.toNat_natCast, hg, hd, hi0]
      refine ⟨by unfold maxLen; simp; omega, by unfold maxLen; simp; omega, ?_⟩
      simp only [go_sem, ↓reduceIte, Nat.reduceLT, Nat.reduceLeDiff, Nat.reduceEqDiff, Nat.reduceAdd, Nat.reduceMul, Nat.reduceSub, reduceCtorEq, Int.reduceLT, Int.reduceLE, Int.reduceEq, Int.reduceToNat, decide_true, decide_false, Int.reduceNeg, Int.cast_ofNat_Int, sg, AO.sg, Option.isNone_none, hw]
      refine ih (i + 1) _ hlt (by omega) (Wk.forget (by simp [Le, LeE, LeH, get, envIds, hpIds, KeepH, D.ids, idsL, AO.ids, setL, base, hsn]))
  · have hie : i = fs.length := by simp at h1; omega
    subst hie
    simp only [go_sem, ↓reduceIte, Nat.reduceLT, Nat.reduceLeDiff, Nat.reduceEqDiff, Nat.reduceAdd, Nat.reduceMul, Nat.reduceSub, reduceCtorEq, Int.reduceLT, Int.reduceLE, Int.reduceEq, Int.reduceToNat, decide_true, decide_false, Int.reduceNeg, Int.cast_ofNat_Int, sg, AO.sg, Option.isNone_none, List.take_length]
theorem formed_ok (l : List Ln) (hl : l.length ≤ 4000000 ∧ ∀ x ∈ l, x.fs.length ≤ 4000000 ∧ ∀ s ∈ x.fs, s.length ≤ 4000000) : ACalls Tryd.prog 62 [.p (.sl (encL l))] [] fun h r => h = [] ∧ r = .p (.bool (formB 0 l)) := by
  obtain ⟨hl, hz⟩ := hl
  refine ACalls_X Tryd.func62 rfl enters62 (by simp [Tryd.f62]) ?_
  simp only [go_sem, ↓reduceIte, Nat.reduceLT, Nat.reduceLeDiff, Nat.reduceEqDiff, Nat.reduceAdd, Nat.reduceMul, Nat.reduceSub, reduceCtorEq, Int.reduceLT, Int.reduceLE, Int.reduceEq, Int.reduceToNat, decide_true, decide_false, Int.reduceNeg, Int.cast_ofNat_Int, sg, AO.sg, Option.isNone_none]
  refine X_loop_inv (fun i : Nat => ⟨[(0, .p (.sl (encL l))), (3, .p (.int .i64 (i : Nat)))], [], 82⟩)
    (fun i => i ≤ l.length ∧ (i = 0 ∨ (0 < i ∧ 1 ≤ (l.getD (i - 1) ln0).num)) ∧ formB (if i = 0 then 0 else (l.getD (i - 1) ln0).num) (l.drop i) = formB 0 l) (fun i => l.length - i) 0 ⟨Nat.zero_le _, .inl rfl, by simp⟩ (Wk.forget (by simp [Le, LeE, LeH, get, envIds, hpIds, KeepH, D.ids, idsL, AO.ids, setL, base])) ?_
  rintro i n ⟨hi, hn1, hf⟩ ih
  simp only [go_sem, ↓reduceIte, Nat.reduceLT, Nat.reduceLeDiff, Nat.reduceEqDiff, Nat.reduceAdd, Nat.reduceMul, Nat.reduceSub, reduceCtorEq, Int.reduceLT, Int.reduceLE, Int.reduceEq, Int.reduceToNat, decide_true, decide_false, Int.reduceNeg, Int.cast_ofNat_Int, sg, AO.sg, Option.isNone_none, encL_len]
  refine Cn_split (fun h1 => ?_) (fun h1 => ?_)
  rotate_left
  · have hie : i = l.length := by simp at h1; omega
    subst hie
    simp only [go_sem, ↓reduceIte, Nat.reduceLT, Nat.reduceLeDiff, Nat.reduceEqDiff, Nat.reduceAdd, Nat.reduceMul, Nat.reduceSub, reduceCtorEq, Int.reduceLT, Int.reduceLE, Int.reduceEq, Int.reduceToNat, decide_true, decide_false, Int.reduceNeg, Int.cast_ofNat_Int, sg, AO.sg, Option.isNone_none]
    rw [← hf]
    simp [formB]
  have hlt : i < l.length := by simp at h1; omega
  have hi0 : (0 : Int) ≤ (i : Int) ∧ (i : Int) < (l.length : Int) := by omega
  have hw := wrap_succ i (by omega)
  have hg := encL_get l i hlt
  have hzx := hz _ (getD_mem l i ln0 hlt)
  rw [drop_getD l i ln0 hlt] at hf
  generalize hx : l.getD i ln0 = x at *
  obtain ⟨num, fs⟩ := x
  simp only at hg hzx
  rcases hn1 with h0 | ⟨h0, hp1⟩
  · simp only [h0, if_true] at hf
    rw [← h0] at hf
    have hi1 : ¬ (0 : Int) < (i : Int) := by omega
    simp only [go_sem, ↓reduceIte, Nat.reduceLT, Nat.reduceLeDiff, Nat.reduceEqDiff, Nat.reduceAdd, Nat.reduceMul, Nat.reduceSub, reduceCtorEq, Int.reduceLT, Int.reduceLE, Int.reduceEq, Int.reduceToNat, decide_true, decide_false, Int.reduceNeg, Int.cast_ofNat_Int, sg, AO.sg, Option.isNone_none]
    refine X_any0 mixed (p := [(0, 0), (1, 0), (2, 0), (3, 0), (4, 0), (5, 0), (6, 0), (7, 0), (8, 0), (9, 0), (10, 0), (11, 0), (12, 0), (13, 0), (14, 0), (15, 0), (16, 0), (17, 0), (18, 0), (19, 0), (20, 0), (21, 0), (22, 0), (23, 0), (24, 0), (25, 0), (26, 0), (27, 0), (28, 0), (29, 0), (30, 0), (31, 0), (32, 0)]) (by kernel_rfl) (by simp [LeH, get]) ?_
    by_cases c1 : num < 1
    · simp only [go_sem, ↓reduceIte, Nat.reduceLT, Nat.reduceLeDiff, Nat.reduceEqDiff, Nat.reduceAdd, Nat.reduceMul, Nat.reduceSub, reduceCtorEq, Int.reduceLT, Int.reduceLE, Int.reduceEq, Int.reduceToNat, decide_true, decide_false, Int.reduceNeg, Int.cast_ofNat_Int, sg, AO.sg, Option.isNone_none, encL_len, Int.toNat_natCast, hg, hi0, hi1, c1]
      have : ¬ 0 < num := by omega
      rw [← hf]
      simp [formB, this]
    by_cases c2 : (fs.length : Int) = 0
    · simp only [go_sem, ↓reduceIte, Nat.reduceLT, Nat.reduceLeDiff, Nat.reduceEqDiff, Nat.reduceAdd, Nat.reduceMul, Nat.reduceSub, reduceCtorEq, Int.reduceLT, Int.reduceLE, Int.reduceEq, Int.reduceToNat, decide_true, decide_false, Int.reduceNeg, Int.cast_ofNat_Int, sg, AO.sg, Option.isNone_none, encL_len, encS_len, Int.toNat_natCast, hg, hi0, hi1, c1, c2]
      have : fs = [] := List.eq_nil_of_length_eq_zero (by omega)
      rw [← hf]
      simp [formB, this]
    simp only [go_sem, ↓reduceIte, Nat.reduceLT, Nat.reduceLeDiff, Nat.reduceEqDiff, Nat.reduceAdd, Nat.reduceMul, Nat.reduceSub, reduceCtorEq, Int.reduceLT, Int.reduceLE, Int.reduceEq, Int.reduceToNat, decide_true, decide_false, Int.reduceNeg, Int.cast_ofNat_Int, sg, AO.sg, Option.isNone_none, encL_len, encS_len, Int.toNat_natCast, hg, hi0, hi1, c1, c2]
    have hne : fs ≠ [] := by rintro rfl; simp at c2
    have hlast : 0 < num := by omega
    have h1n : 1 ≤ num := by omega
    refine X_loop_inv (fun j : Nat => ⟨[(0, .p (.sl (encL l))), (3, .p (.int .i64 (i : Nat))), (4, .p (.int .i64 (j : Nat)))], [], 82⟩) (fun j => j ≤ fs.length ∧ (fs.drop j).all propB = fs.all propB) (fun j => fs.length - j) 0 ⟨Nat.zero_le _, by simp⟩ (Wk.forget (by simp [Le, LeE, LeH, get, envIds, hpIds, KeepH, D.ids, idsL, AO.ids, setL, base])) ?_
    rintro j n2 ⟨hj, hal⟩ ih2
    simp only [go_sem, ↓reduceIte, Nat.reduceLT, Nat.reduceLeDiff, Nat.reduceEqDiff, Nat.reduceAdd, Nat.reduceMul, Nat.reduceSub, reduceCtorEq, Int.reduceLT, Int.reduceLE, Int.reduceEq, Int.reduceToNat, decide_true, decide_false, Int.reduceNeg, Int.cast_ofNat_Int, sg, AO.sg, Option.isNone_none, encL_len, Int.toNat_natCast, hg, hi0, encS_len]
    refine Cn_split (fun h2 => ?_) (fun h2 => ?_)
    · have hjt : j < fs.length := by simp at h2; omega
      have hj0 : (0 : Int) ≤ (j : Int) ∧ (j : Int) < (fs.length : Int) := by omega
      have hwj := wrap_succ j (by omega)
      have hgj := encS_get fs j hjt
      have hsx := hzx.2 _ (getD_mem fs j [] hjt)
      rw [drop_getD fs j [] hjt] at hal
      generalize fs.getD j [] = s at *
      simp only [go_sem, ↓reduceIte, Nat.reduceLT, Nat.reduceLeDiff, Nat.reduceEqDiff, Nat.reduceAdd, Nat.reduceMul, Nat.reduceSub, reduceCtorEq, Int.reduceLT, Int.reduceLE, Int.reduceEq, Int.reduceToNat, decide_true, decide_false, Int.reduceNeg, Int.cast_ofNat_Int, sg, AO.sg, Option.isNone_none, encL_len, Int.toNat_natCast, hg, hi0, encS_len, hgj, hj0]
      have badS : propB s = false → formB 0 l = false := fun h => by
        have : fs.all propB = false := by rw [← hal]; simp [h]
        rw [← hf]; simp [formB, this]
      by_cases hs0 : s = []
      · subst hs0
        simp only [go_sem, ↓reduceIte, Nat.reduceLT, Nat.reduceLeDiff, Nat.reduceEqDiff, Nat.reduceAdd, Nat.reduceMul, Nat.reduceSub, reduceCtorEq, Int.reduceLT, Int.reduceLE, Int.reduceEq, Int.reduceToNat, decide_true, decide_false, Int.reduceNeg, Int.cast_ofNat_Int, sg, AO.sg, Option.isNone_none]
        rw [badS rfl]
      by_cases hs12 : (12 : Int) < (s.length : Int)
      · simp only [go_sem, ↓reduceIte, Nat.reduceLT, Nat.reduceLeDiff, Nat.reduceEqDiff, Nat.reduceAdd, Nat.reduceMul, Nat.reduceSub, reduceCtorEq, Int.reduceLT, Int.reduceLE, Int.reduceEq, Int.reduceToNat, decide_true, decide_false, Int.reduceNeg, Int.cast_ofNat_Int, sg, AO.sg, Option.isNone_none, hs0, hs12]
        have : ¬ s.length ≤ 12 := by omega
        rw [badS (by simp [propB, this])]
      simp only [go_sem, ↓reduceIte, Nat.reduceLT, Nat.reduceLeDiff, Nat.reduceEqDiff, Nat.reduceAdd, Nat.reduceMul, Nat.reduceSub, reduceCtorEq, Int.reduceLT, Int.reduceLE, Int.reduceEq, Int.reduceToNat, decide_true, decide_false, Int.reduceNeg, Int.cast_ofNat_Int, sg, AO.sg, Option.isNone_none, hs0, hs12]
      have hs12' : s.length ≤ 12 := by omega
      have hpp : propB s = s.all fun b => allB b.toNat := by simp [propB, hs0, hs12']
      refine X_loop_inv (fun q : Nat => ⟨[(0, .p (.sl (encL l))), (3, .p (.int .i64 (i : Nat))), (4, .p (.int .i64 (j : Nat))), (5, .p (.str s)), (6, .p (.int .i64 (q : Nat)))], [], 82⟩) (fun q => q ≤ s.length ∧ ((s.drop q).all fun b => allB b.toNat) = propB s) (fun q => s.length - q) 0 ⟨Nat.zero_le _, by simp [hpp]⟩ (Wk.forget (by simp [Le, LeE, LeH, get, envIds, hpIds, KeepH, D.ids, idsL, AO.ids, setL, base])) ?_
      rintro q n3 ⟨hq, hqa⟩ ih3
      simp only [go_sem, ↓reduceIte, Nat.reduceLT, Nat.reduceLeDiff, Nat.reduceEqDiff, Nat.reduceAdd, Nat.reduceMul, Nat.reduceSub, reduceCtorEq, Int.reduceLT, Int.reduceLE, Int.reduceEq, Int.reduceToNat, decide_true, decide_false, Int.reduceNeg, Int.cast_ofNat_Int, sg, AO.sg, Option.isNone_none]
      refine Cn_split (fun h3 => ?_) (fun h3 => ?_)
      · have hqt : q < s.length := by simp at h3; omega
        have hq0 : (0 : Int) ≤ (q : Int) ∧ (q : Int) < (s.length : Int) := by omega
        have hwq := wrap_succ q (by omega)
        rw [drop_getD s q 0 hqt] at hqa
        generalize hb : s.getD q 0 = b at *
        simp only [go_sem, ↓reduceIte, Nat.reduceLT, Nat.reduceLeDiff, Nat.reduceEqDiff, Nat.reduceAdd, Nat.reduceMul, Nat.reduceSub, reduceCtorEq, Int.reduceLT, Int.reduceLE, Int.reduceEq, Int.reduceToNat, decide_true, decide_false, Int.reduceNeg, Int.cast_ofNat_Int, sg, AO.sg, Option.isNone_none, Int.toNat_natCast, hq0, hb]
        refine Cc_of ((allowed2_ok (b.toNat : Int))) ?_
        rintro h' r ⟨rfl, rfl⟩
        cases ha : allB b.toNat
        · simp only [go_sem, ↓reduceIte, Nat.reduceLT, Nat.reduceLeDiff, Nat.reduceEqDiff, Nat.reduceAdd, Nat.reduceMul, Nat.reduceSub, reduceCtorEq, Int.reduceLT, Int.reduceLE, Int.reduceEq, Int.reduceToNat, decide_true, decide_false, Int.reduceNeg, Int.cast_ofNat_Int, sg, AO.sg, Option.isNone_none, ha]
          rw [badS (by rw [← hqa]; simp [ha])]
        · simp only [go_sem, ↓reduceIte, Nat.reduceLT, Nat.reduceLeDiff, Nat.reduceEqDiff, Nat.reduceAdd, Nat.reduceMul, Nat.reduceSub, reduceCtorEq, Int.reduceLT, Int.reduceLE, Int.reduceEq, Int.reduceToNat, decide_true, decide_false, Int.reduceNeg, Int.cast_ofNat_Int, sg, AO.sg, Option.isNone_none, ha, hwq]
          refine ih3 (q + 1) _ ⟨hqt, by rw [← hqa]; simp [ha]⟩ (by omega) (Wk.forget (by simp [Le, LeE, LeH, get, envIds, hpIds, KeepH, D.ids, idsL, AO.ids, setL, base]))
      · have hqe : q = s.length := by simp at h3; omega
        subst hqe
        rw [List.drop_length] at hqa
        simp only [List.all_nil] at hqa
        simp only [go_sem, ↓reduceIte, Nat.reduceLT, Nat.reduceLeDiff, Nat.reduceEqDiff, Nat.reduceAdd, Nat.reduceMul, Nat.reduceSub, reduceCtorEq, Int.reduceLT, Int.reduceLE, Int.reduceEq, Int.reduceToNat, decide_true, decide_false, Int.reduceNeg, Int.cast_ofNat_Int, sg, AO.sg, Option.isNone_none, hwj]
        refine ih2 (j + 1) _ ⟨hjt, by rw [← hal]; simp [← hqa]⟩ (by omega) (Wk.forget (by simp [Le, LeE, LeH, get, envIds, hpIds, KeepH, D.ids, idsL, AO.ids, setL, base]))
    · have hje : j = fs.length := by simp at h2; omega
      subst hje
      rw [List.drop_length] at hal
      simp only [List.all_nil] at hal
      simp only [go_sem, ↓reduceIte, Nat.reduceLT, Nat.reduceLeDiff, Nat.reduceEqDiff, Nat.reduceAdd, Nat.reduceMul, Nat.reduceSub, reduceCtorEq, Int.reduceLT, Int.reduceLE, Int.reduceEq, Int.reduceToNat, decide_true, decide_false, Int.reduceNeg, Int.cast_ofNat_Int, sg, AO.sg, Option.isNone_none, hw]
      refine ih (i + 1) _ ⟨hlt, .inr ⟨by omega, by rw [Nat.add_sub_cancel, hx]; simp only; omega⟩, ?_⟩ (by omega) (Wk.forget (by simp [Le, LeE, LeH, get, envIds, hpIds, KeepH, D.ids, idsL, AO.ids, setL, base]))
      rw [← hf, if_neg (by omega), Nat.add_sub_cancel, hx]
      simp only [formB, ← hal, hne, hlast, decide_true, Bool.true_and, ne_eq, not_false_eq_true]
  · rw [if_neg (by omega)] at hf
    have hgp := encL_get l (i - 1) (by omega)
    generalize hy : l.getD (i - 1) ln0 = y at *
    obtain ⟨pn, pf⟩ := y
    simp only at hgp hf hp1
    have hi1 : (0 : Int) < (i : Int) := by omega
    have hip : (0 : Int) ≤ ((i - 1 : Nat) : Int) ∧ ((i - 1 : Nat) : Int) < (l.length : Int) := by omega
    have hwp : IntKind.i64.wrap ((i : Int) - 1) = ((i - 1 : Nat) : Int) := by rw [wrap_i64_id] <;> omega
    simp only [go_sem, ↓reduceIte, Nat.reduceLT, Nat.reduceLeDiff, Nat.reduceEqDiff, Nat.reduceAdd, Nat.reduceMul, Nat.reduceSub, reduceCtorEq, Int.reduceLT, Int.reduceLE, Int.reduceEq, Int.reduceToNat, decide_true, decide_false, Int.reduceNeg, Int.cast_ofNat_Int, sg, AO.sg, Option.isNone_none]
    refine X_any0 mixed (p := [(0, 0), (1, 0), (2, 0), (3, 0), (4, 0), (5, 0), (6, 0), (7, 0), (8, 0), (9, 0), (10, 0), (11, 0), (12, 0), (13, 0), (14, 0), (15, 0), (16, 0), (17, 0), (18, 0), (19, 0), (20, 0), (21, 0), (22, 0), (23, 0), (24, 0), (25, 0), (26, 0), (27, 0), (28, 0), (29, 0), (30, 0), (31, 0), (32, 0)]) (by kernel_rfl) (by simp [LeH, get]) ?_
    by_cases c1 : num < 1
    · simp only [go_sem, ↓reduceIte, Nat.reduceLT, Nat.reduceLeDiff, Nat.reduceEqDiff, Nat.reduceAdd, Nat.reduceMul, Nat.reduceSub, reduceCtorEq, Int.reduceLT, Int.reduceLE, Int.reduceEq, Int.reduceToNat, decide_true, decide_false, Int.reduceNeg, Int.cast_ofNat_Int, sg, AO.sg, Option.isNone_none, encL_len, Int.toNat_natCast, hg, hi0, hi1, c1]
      have : ¬ pn < num := by omega
      rw [← hf]
      simp [formB, this]
    by_cases c0 : num ≤ pn
    · simp only [go_sem, ↓reduceIte, Nat.reduceLT, Nat.reduceLeDiff, Nat.reduceEqDiff, Nat.reduceAdd, Nat.reduceMul, Nat.reduceSub, reduceCtorEq, Int.reduceLT, Int.reduceLE, Int.reduceEq, Int.reduceToNat, decide_true, decide_false, Int.reduceNeg, Int.cast_ofNat_Int, sg, AO.sg, Option.isNone_none, encL_len, Int.toNat_natCast, hg, hi0, hi1, c1, hwp, hip, hgp, c0]
      have : ¬ pn < num := by omega
      rw [← hf]
      simp [formB, this]
    by_cases c2 : (fs.length : Int) = 0
    · simp only [go_sem, ↓reduceIte, Nat.reduceLT, Nat.reduceLeDiff, Nat.reduceEqDiff, Nat.reduceAdd, Nat.reduceMul, Nat.reduceSub, reduceCtorEq, Int.reduceLT, Int.reduceLE, Int.reduceEq, Int.reduceToNat, decide_true, decide_false, Int.reduceNeg, Int.cast_ofNat_Int, sg, AO.sg, Option.isNone_none, encL_len, encS_len, Int.toNat_natCast, hg, hi0, hi1, c1, c2, hwp, hip, hgp, c0]
      have : fs = [] := List.eq_nil_of_length_eq_zero (by omega)
      rw [← hf]
      simp [formB, this]
    simp only [go_sem, ↓reduceIte, Nat.reduceLT, Nat.reduceLeDiff, Nat.reduceEqDiff, Nat.reduceAdd, Nat.reduceMul, Nat.reduceSub, reduceCtorEq, Int.reduceLT, Int.reduceLE, Int.reduceEq, Int.reduceToNat, decide_true, decide_false, Int.reduceNeg, Int.cast_ofNat_Int, sg, AO.sg, Option.isNone_none, encL_len, encS_len, Int.toNat_natCast, hg, hi0, hi1, c1, c2, hwp, hip, hgp, c0]
    have hne : fs ≠ [] := by rintro rfl; simp at c2
    have hlast : pn < num := by omega
    have h1n : 1 ≤ num := by omega
    refine X_loop_inv (fun j : Nat => ⟨[(0, .p (.sl (encL l))), (3, .p (.int .i64 (i : Nat))), (4, .p (.int .i64 (j : Nat)))], [], 82⟩) (fun j => j ≤ fs.length ∧ (fs.drop j).all propB = fs.all propB) (fun j => fs.length - j) 0 ⟨Nat.zero_le _, by simp⟩ (Wk.forget (by simp [Le, LeE, LeH, get, envIds, hpIds, KeepH, D.ids, idsL, AO.ids, setL, base])) ?_
    rintro j n2 ⟨hj, hal⟩ ih2
    simp only [go_sem, ↓reduceIte, Nat.reduceLT, Nat.reduceLeDiff, Nat.reduceEqDiff, Nat.reduceAdd, Nat.reduceMul, Nat.reduceSub, reduceCtorEq, Int.reduceLT, Int.reduceLE, Int.reduceEq, Int.reduceToNat, decide_true, decide_false, Int.reduceNeg, Int.cast_ofNat_Int, sg, AO.sg, Option.isNone_none, encL_len, Int.toNat_natCast, hg, hi0, encS_len]
    refine Cn_split (fun h2 => ?_) (fun h2 => ?_)
    · have hjt : j < fs.length := by simp at h2; omega
      have hj0 : (0 : Int) ≤ (j : Int) ∧ (j : Int) < (fs.length : Int) := by omega
      have hwj := wrap_succ j (by omega)
      have hgj := encS_get fs j hjt
      have hsx := hzx.2 _ (getD_mem fs j [] hjt)
      rw [drop_getD fs j [] hjt] at hal
      generalize fs.getD j [] = s at *
      simp only [go_sem, ↓reduceIte, Nat.reduceLT, Nat.reduceLeDiff, Nat.reduceEqDiff, Nat.reduceAdd, Nat.reduceMul, Nat.reduceSub, reduceCtorEq, Int.reduceLT, Int.reduceLE, Int.reduceEq, Int.reduceToNat, decide_true, decide_false, Int.reduceNeg, Int.cast_ofNat_Int, sg, AO.sg, Option.isNone_none, encL_len, Int.toNat_natCast, hg, hi0, encS_len, hgj, hj0]
      have badS : propB s = false → formB 0 l = false := fun h => by
        have : fs.all propB = false := by rw [← hal]; simp [h]
        rw [← hf]; simp [formB, this]
      by_cases hs0 : s = []
      · subst hs0
        simp only [go_sem, ↓reduceIte, Nat.reduceLT, Nat.reduceLeDiff, Nat.reduceEqDiff, Nat.reduceAdd, Nat.reduceMul, Nat.reduceSub, reduceCtorEq, Int.reduceLT, Int.reduceLE, Int.reduceEq, Int.reduceToNat, decide_true, decide_false, Int.reduceNeg, Int.cast_ofNat_Int, sg, AO.sg, Option.isNone_none]
        rw [badS rfl]
      by_cases hs12 : (12 : Int) < (s.length : Int)
      · simp only [go_sem, ↓reduceIte, Nat.reduceLT, Nat.reduceLeDiff, Nat.reduceEqDiff, Nat.reduceAdd, Nat.reduceMul, Nat.reduceSub, reduceCtorEq, Int.reduceLT, Int.reduceLE, Int.reduceEq, Int.reduceToNat, decide_true, decide_false, Int.reduceNeg, Int.cast_ofNat_Int, sg, AO.sg, Option.isNone_none, hs0, hs12]
        have : ¬ s.length ≤ 12 := by omega
        rw [badS (by simp [propB, this])]
      simp only [go_sem, ↓reduceIte, Nat.reduceLT, Nat.reduceLeDiff, Nat.reduceEqDiff, Nat.reduceAdd, Nat.reduceMul, Nat.reduceSub, reduceCtorEq, Int.reduceLT, Int.reduceLE, Int.reduceEq, Int.reduceToNat, decide_true, decide_false, Int.reduceNeg, Int.cast_ofNat_Int, sg, AO.sg, Option.isNone_none, hs0, hs12]
      have hs12' : s.length ≤ 12 := by omega
      have hpp : propB s = s.all fun b => allB b.toNat := by simp [propB, hs0, hs12']
      refine X_loop_inv (fun q : Nat => ⟨[(0, .p (.sl (encL l))), (3, .p (.int .i64 (i : Nat))), (4, .p (.int .i64 (j : Nat))), (5, .p (.str s)), (6, .p (.int .i64 (q : Nat)))], [], 82⟩) (fun q => q ≤ s.length ∧ ((s.drop q).all fun b => allB b.toNat) = propB s) (fun q => s.length - q) 0 ⟨Nat.zero_le _, by simp [hpp]⟩ (Wk.forget (by simp [Le, LeE, LeH, get, envIds, hpIds, KeepH, D.ids, idsL, AO.ids, setL, base])) ?_
      rintro q n3 ⟨hq, hqa⟩ ih3
      simp only [go_sem, ↓reduceIte, Nat.reduceLT, Nat.reduceLeDiff, Nat.reduceEqDiff, Nat.reduceAdd, Nat.reduceMul, Nat.reduceSub, reduceCtorEq, Int.reduceLT, Int.reduceLE, Int.reduceEq, Int.reduceToNat, decide_true, decide_false, Int.reduceNeg, Int.cast_ofNat_Int, sg, AO.sg, Option.isNone_none]
      refine Cn_split (fun h3 => ?_) (fun h3 => ?_)
      · have hqt : q < s.length := by simp at h3; omega
        have hq0 : (0 : Int) ≤ (q : Int) ∧ (q : Int) < (s.length : Int) := by omega
        have hwq := wrap_succ q (by omega)
        rw [drop_getD s q 0 hqt] at hqa
        generalize hb : s.getD q 0 = b at *
        simp only [go_sem, ↓reduceIte, Nat.reduceLT, Nat.reduceLeDiff, Nat.reduceEqDiff, Nat.reduceAdd, Nat.reduceMul, Nat.reduceSub, reduceCtorEq, Int.reduceLT, Int.reduceLE, Int.reduceEq, Int.reduceToNat, decide_true, decide_false, Int.reduceNeg, Int.cast_ofNat_Int, sg, AO.sg, Option.isNone_none, Int.toNat_natCast, hq0, hb]
        refine Cc_of ((allowed2_ok (b.toNat : Int))) ?_
        rintro h' r ⟨rfl, rfl⟩
        cases ha : allB b.toNat
        · simp only [go_sem, ↓reduceIte, Nat.reduceLT, Nat.reduceLeDiff, Nat.reduceEqDiff, Nat.reduceAdd, Nat.reduceMul, Nat.reduceSub, reduceCtorEq, Int.reduceLT, Int.reduceLE, Int.reduceEq, Int.reduceToNat, decide_true, decide_false, Int.reduceNeg, Int.cast_ofNat_Int, sg, AO.sg, Option.isNone_none, ha]
          rw [badS (by rw [← hqa]; simp [ha])]
        · simp only [go_sem, ↓reduceIte, Nat.reduceLT, Nat.reduceLeDiff, Nat.reduceEqDiff, Nat.reduceAdd, Nat.reduceMul, Nat.reduceSub, reduceCtorEq, Int.reduceLT, Int.reduceLE, Int.reduceEq, Int.reduceToNat, decide_true, decide_false, Int.reduceNeg, Int.cast_ofNat_Int, sg, AO.sg, Option.isNone_none, ha, hwq]
          refine ih3 (q + 1) _ ⟨hqt, by rw [← hqa]; simp [ha]⟩ (by omega) (Wk.forget (by simp [Le, LeE, LeH, get, envIds, hpIds, KeepH, D.ids, idsL, AO.ids, setL, base]))
      · have hqe : q = s.length := by simp at h3; omega
        subst hqe
        rw [List.drop_length] at hqa
        simp only [List.all_nil] at hqa
        simp only [go_sem, ↓reduceIte, Nat.reduceLT, Nat.reduceLeDiff, Nat.reduceEqDiff, Nat.reduceAdd, Nat.reduceMul, Nat.reduceSub, reduceCtorEq, Int.reduceLT, Int.reduceLE, Int.reduceEq, Int.reduceToNat, decide_true, decide_false, Int.reduceNeg, Int.cast_ofNat_Int, sg, AO.sg, Option.isNone_none, hwj]
        refine ih2 (j + 1) _ ⟨hjt, by rw [← hal]; simp [← hqa]⟩ (by omega) (Wk.forget (by simp [Le, LeE, LeH, get, envIds, hpIds, KeepH, D.ids, idsL, AO.ids, setL, base]))
    · have hje : j = fs.length := by simp at h2; omega
      subst hje
      rw [List.drop_length] at hal
      simp only [List.all_nil] at hal
      simp only [go_sem, ↓reduceIte, Nat.reduceLT, Nat.reduceLeDiff, Nat.reduceEqDiff, Nat.reduceAdd, Nat.reduceMul, Nat.reduceSub, reduceCtorEq, Int.reduceLT, Int.reduceLE, Int.reduceEq, Int.reduceToNat, decide_true, decide_false, Int.reduceNeg, Int.cast_ofNat_Int, sg, AO.sg, Option.isNone_none, hw]
      refine ih (i + 1) _ ⟨hlt, .inr ⟨by omega, by rw [Nat.add_sub_cancel, hx]; simp only; omega⟩, ?_⟩ (by omega) (Wk.forget (by simp [Le, LeE, LeH, get, envIds, hpIds, KeepH, D.ids, idsL, AO.ids, setL, base]))
      rw [← hf, if_neg (by omega), Nat.add_sub_cancel, hx]
      simp only [formB, ← hal, hne, hlast, decide_true, Bool.true_and, ne_eq, not_false_eq_true]
theorem join2_ok (l : List Ln) (hl : l.length ≤ 4000000 ∧ ∀ x ∈ l, x.fs.length ≤ 4000000 ∧ x.num ≤ 9223372036854775807 ∧ ∀ s ∈ x.fs, s.length ≤ 4000000) : ACalls Tryd.prog 34 [.p (.sl (encL l))] [] fun h r => h = [] ∧ r = joinR (joinV l) := by
  refine ACalls_X Tryd.func34 rfl enters34 (by simp [Tryd.f34]) ?_
  simp only [go_sem, ↓reduceIte, Nat.reduceLT, Nat.reduceLeDiff, Nat.reduceEqDiff, Nat.reduceAdd, Nat.reduceMul, Nat.reduceSub, reduceCtorEq, Int.reduceLT, Int.reduceLE, Int.reduceEq, Int.reduceToNat, decide_true, decide_false, Int.reduceNeg, Int.cast_ofNat_Int, sg, AO.sg, Option.isNone_none]
  refine Cc_of ((formed_ok l ⟨hl.1, fun x hx => ⟨(hl.2 x hx).1, (hl.2 x hx).2.2⟩⟩)) ?_
  rintro h' r ⟨rfl, rfl⟩
  obtain ⟨hl, hz⟩ := hl
  cases hform : formB 0 l
  · simp only [go_sem, ↓reduceIte, Nat.reduceLT, Nat.reduceLeDiff, Nat.reduceEqDiff, Nat.reduceAdd, Nat.reduceMul, Nat.reduceSub, reduceCtorEq, Int.reduceLT, Int.reduceLE, Int.reduceEq, Int.reduceToNat, decide_true, decide_false, Int.reduceNeg, Int.cast_ofNat_Int, sg, AO.sg, Option.isNone_none, hform]
    rw [show joinV l = ([], 20) by simp [joinV, hform]]
    refine end_pure ?_
    simp only [go_sem, ↓reduceIte, Nat.reduceLT, Nat.reduceLeDiff, Nat.reduceEqDiff, Nat.reduceAdd, Nat.reduceMul, Nat.reduceSub, reduceCtorEq, Int.reduceLT, Int.reduceLE, Int.reduceEq, Int.reduceToNat, decide_true, decide_false, Int.reduceNeg, Int.cast_ofNat_Int, sg, AO.sg, Option.isNone_none]
    rfl
  simp only [go_sem, ↓reduceIte, Nat.reduceLT, Nat.reduceLeDiff, Nat.reduceEqDiff, Nat.reduceAdd, Nat.reduceMul, Nat.reduceSub, reduceCtorEq, Int.reduceLT, Int.reduceLE, Int.reduceEq, Int.reduceToNat, decide_true, decide_false, Int.reduceNeg, Int.cast_ofNat_Int, sg, AO.sg, Option.isNone_none, hform]
  have big : 6000 < (textL 1 l).length → joinV l = ([], 1) := fun h => by simp [joinV, hform, h]
  refine X_loop_inv (fun q : Nat × Nat × List UInt8 => ⟨[(0, .p (.sl (encL l))), (4, .p (.str q.2.2)), (5, .p (.int .i64 (q.2.1 : Nat))), (6, .p (.int .i64 (q.1 : Nat)))], [], 50⟩)
    (fun q => q.1 ≤ l.length ∧ (1 ≤ q.2.1 ∧ q.2.1 ≤ q.2.2.length + 1 ∧ q.2.2.length ≤ 6000) ∧ formB ((q.2.1 - 1 : Nat) : Int) (l.drop q.1) = true ∧ q.2.2 ++ textL q.2.1 (l.drop q.1) = textL 1 l) (fun q => l.length - q.1) (0, 1, [])
    ⟨Nat.zero_le _, by simp, by simpa using hform, by simp⟩ (Wk.forget (by simp [Le, LeE, LeH, get, envIds, hpIds, KeepH, D.ids, idsL, AO.ids, setL, base])) ?_
  rintro ⟨i, num, txt⟩ n ⟨hi, hnum, hf, ht⟩ ih
  simp only at hi hnum hf ht
  simp only [go_sem, ↓reduceIte, Nat.reduceLT, Nat.reduceLeDiff, Nat.reduceEqDiff, Nat.reduceAdd, Nat.reduceMul, Nat.reduceSub, reduceCtorEq, Int.reduceLT, Int.reduceLE, Int.reduceEq, Int.reduceToNat, decide_true, decide_false, Int.reduceNeg, Int.cast_ofNat_Int, sg, AO.sg, Option.isNone_none, encL_len]
  refine Cn_split (fun h1 => ?_) (fun h1 => ?_)
  rotate_left
  · have hie : i = l.length := by simp at h1; omega
    subst hie
    rw [List.drop_length] at ht
    simp only [textL, List.append_nil] at ht
    subst ht
    simp only [go_sem, ↓reduceIte, Nat.reduceLT, Nat.reduceLeDiff, Nat.reduceEqDiff, Nat.reduceAdd, Nat.reduceMul, Nat.reduceSub, reduceCtorEq, Int.reduceLT, Int.reduceLE, Int.reduceEq, Int.reduceToNat, decide_true, decide_false, Int.reduceNeg, Int.cast_ofNat_Int, sg, AO.sg, Option.isNone_none]
    rw [show joinV l = (textL 1 l, 0) by have : ¬ 6000 < (textL 1 l).length := by omega
                                         simp [joinV, hform, this]]
    refine end_pure ?_
    simp only [go_sem, ↓reduceIte, Nat.reduceLT, Nat.reduceLeDiff, Nat.reduceEqDiff, Nat.reduceAdd, Nat.reduceMul, Nat.reduceSub, reduceCtorEq, Int.reduceLT, Int.reduceLE, Int.reduceEq, Int.reduceToNat, decide_true, decide_false, Int.reduceNeg, Int.cast_ofNat_Int, sg, AO.sg, Option.isNone_none]
    rfl
  have hlt : i < l.length := by simp at h1; omega
  have hi0 : (0 : Int) ≤ (i : Int) ∧ (i : Int) < (l.length : Int) := by omega
  have hw := wrap_succ i (by omega)
  have hg := encL_get l i hlt
  have hzx := hz _ (getD_mem l i ln0 hlt)
  rw [drop_getD l i ln0 hlt] at hf ht
  generalize l.getD i ln0 = x at *
  obtain ⟨xn, fs⟩ := x
  obtain ⟨f1, f2, f3, f4⟩ := formB_cons.1 hf
  simp only at hg hzx f1 f2 f3 f4
  obtain ⟨m, rfl⟩ : ∃ m : Nat, xn = (m : Int) := ⟨xn.toNat, by omega⟩
  simp only [textL, Int.toNat_natCast] at ht
  have hlen := congrArg List.length ht
  simp only [List.length_append, List.length_replicate, List.length_cons] at hlen
  have hwl := wordsV_len fs f2
  have hle : num ≤ m := by omega
  have hws : IntKind.i64.wrap ((m : Int) - (num : Int)) = ((m - num : Nat) : Int) := by rw [wrap_i64_id] <;> omega
  by_cases hgap : (6000 : Int) < ((m - num : Nat) : Int)
  · simp only [go_sem, ↓reduceIte, Nat.reduceLT, Nat.reduceLeDiff, Nat.reduceEqDiff, Nat.reduceAdd, Nat.reduceMul, Nat.reduceSub, reduceCtorEq, Int.reduceLT, Int.reduceLE, Int.reduceEq, Int.reduceToNat, decide_true, decide_false, Int.reduceNeg, Int.cast_ofNat_Int, sg, AO.sg, Option.isNone_none, encL_len, Int.toNat_natCast, hg, hi0, hws, hgap]
    rw [big (by omega)]
    refine end_pure ?_
    simp only [go_sem, ↓reduceIte, Nat.reduceLT, Nat.reduceLeDiff, Nat.reduceEqDiff, Nat.reduceAdd, Nat.reduceMul, Nat.reduceSub, reduceCtorEq, Int.reduceLT, Int.reduceLE, Int.reduceEq, Int.reduceToNat, decide_true, decide_false, Int.reduceNeg, Int.cast_ofNat_Int, sg, AO.sg, Option.isNone_none]
    rfl
  simp only [go_sem, ↓reduceIte, Nat.reduceLT, Nat.reduceLeDiff, Nat.reduceEqDiff, Nat.reduceAdd, Nat.reduceMul, Nat.reduceSub, reduceCtorEq, Int.reduceLT, Int.reduceLE, Int.reduceEq, Int.reduceToNat, decide_true, decide_false, Int.reduceNeg, Int.cast_ofNat_Int, sg, AO.sg, Option.isNone_none, encL_len, Int.toNat_natCast, hg, hi0, hws, hgap]
  have hwords : szF fs ≤ 60000000 := by
    have key : ∀ r : List (List UInt8), (∀ s ∈ r, propB s = true) → szF r ≤ 13 * r.length := by
      intro r
      induction r with
      | nil => intro _; simp [szF]
      | cons s r ih => intro h; have h1 := ih (fun y hy => h y (by simp [hy])); have h2 := (propB_iff.1 (h s (by simp))).2.1; simp only [szF, List.length_cons]; omega
    have := key fs f3
    omega
  refine X_loop_inv (fun q : Nat => ⟨[(0, .p (.sl (encL l))), (4, .p (.str (txt ++ List.replicate (q - num) 10))), (5, .p (.int .i64 (q : Nat))), (6, .p (.int .i64 (i : Nat)))], [], 50⟩) (fun q => num ≤ q ∧ q ≤ m) (fun q => m - q) num ⟨Nat.le_refl _, hle⟩ (Wk.forget (by simp [Le, LeE, LeH, get, envIds, hpIds, KeepH, D.ids, idsL, AO.ids, setL, base, Nat.sub_self, List.replicate_zero, List.append_nil])) ?_
  rintro q n2 ⟨hq1, hq2⟩ ih2
  simp only [go_sem, ↓reduceIte, Nat.reduceLT, Nat.reduceLeDiff, Nat.reduceEqDiff, Nat.reduceAdd, Nat.reduceMul, Nat.reduceSub, reduceCtorEq, Int.reduceLT, Int.reduceLE, Int.reduceEq, Int.reduceToNat, decide_true, decide_false, Int.reduceNeg, Int.cast_ofNat_Int, sg, AO.sg, Option.isNone_none, encL_len, Int.toNat_natCast, hg, hi0]
  refine Cn_split (fun h2 => ?_) (fun h2 => ?_)
  · have hqm : q < m := by simp at h2; omega
    have hwq := wrap_succ q (by omega)
    have hrep : txt ++ List.replicate (q - num) 10 ++ [10] = txt ++ List.replicate (q + 1 - num) (10 : UInt8) := by
      rw [show q + 1 - num = (q - num) + 1 by omega, List.replicate_succ', List.append_assoc]
    simp only [go_sem, ↓reduceIte, Nat.reduceLT, Nat.reduceLeDiff, Nat.reduceEqDiff, Nat.reduceAdd, Nat.reduceMul, Nat.reduceSub, reduceCtorEq, Int.reduceLT, Int.reduceLE, Int.reduceEq, Int.reduceToNat, decide_true, decide_false, Int.reduceNeg, Int.cast_ofNat_Int, sg, AO.sg, Option.isNone_none, hwq]
    refine ⟨by unfold maxLen; simp; omega, ?_⟩
    refine ih2 (q + 1) _ ⟨by omega, by omega⟩ (by omega) (Wk.forget (by simp [Le, LeE, LeH, get, envIds, hpIds, KeepH, D.ids, idsL, AO.ids, setL, base, hrep]))
  · have hqe : q = m := by simp at h2; omega
    subst hqe
    have hwq := wrap_succ q (by omega)
    simp only [go_sem, ↓reduceIte, Nat.reduceLT, Nat.reduceLeDiff, Nat.reduceEqDiff, Nat.reduceAdd, Nat.reduceMul, Nat.reduceSub, reduceCtorEq, Int.reduceLT, Int.reduceLE, Int.reduceEq, Int.reduceToNat, decide_true, decide_false, Int.reduceNeg, Int.cast_ofNat_Int, sg, AO.sg, Option.isNone_none, encL_len, Int.toNat_natCast, hg, hi0]
    refine Cc_of ((words_ok fs (by omega) (by omega))) ?_
    rintro h' r ⟨rfl, rfl⟩
    simp only [go_sem, ↓reduceIte, Nat.reduceLT, Nat.reduceLeDiff, Nat.reduceEqDiff, Nat.reduceAdd, Nat.reduceMul, Nat.reduceSub, reduceCtorEq, Int.reduceLT, Int.reduceLE, Int.reduceEq, Int.reduceToNat, decide_true, decide_false, Int.reduceNeg, Int.cast_ofNat_Int, sg, AO.sg, Option.isNone_none]
    refine ⟨by unfold maxLen; simp; omega, by unfold maxLen; simp; omega, ?_⟩
    have htx : txt ++ List.replicate (q - num) 10 ++ (wordsV fs ++ [10]) ++ textL (q + 1) (l.drop (i + 1)) = textL 1 l := by rw [← ht]; simp
    have hlen2 : (txt ++ List.replicate (q - num) 10 ++ (wordsV fs ++ [10])).length = txt.length + (q - num) + ((wordsV fs).length + 1) := by simp; omega
    generalize txt ++ List.replicate (q - num) 10 ++ (wordsV fs ++ [10]) = t2 at *
    have hlen3 := congrArg List.length htx
    rw [List.length_append] at hlen3
    by_cases hbig : (6000 : Int) < (t2.length : Int)
    · simp only [go_sem, ↓reduceIte, Nat.reduceLT, Nat.reduceLeDiff, Nat.reduceEqDiff, Nat.reduceAdd, Nat.reduceMul, Nat.reduceSub, reduceCtorEq, Int.reduceLT, Int.reduceLE, Int.reduceEq, Int.reduceToNat, decide_true, decide_false, Int.reduceNeg, Int.cast_ofNat_Int, sg, AO.sg, Option.isNone_none, hwq, hbig]
      rw [big (by omega)]
      refine end_pure ?_
      simp only [go_sem, ↓reduceIte, Nat.reduceLT, Nat.reduceLeDiff, Nat.reduceEqDiff, Nat.reduceAdd, Nat.reduceMul, Nat.reduceSub, reduceCtorEq, Int.reduceLT, Int.reduceLE, Int.reduceEq, Int.reduceToNat, decide_true, decide_false, Int.reduceNeg, Int.cast_ofNat_Int, sg, AO.sg, Option.isNone_none]
      rfl
    · simp only [go_sem, ↓reduceIte, Nat.reduceLT, Nat.reduceLeDiff, Nat.reduceEqDiff, Nat.reduceAdd, Nat.reduceMul, Nat.reduceSub, reduceCtorEq, Int.reduceLT, Int.reduceLE, Int.reduceEq, Int.reduceToNat, decide_true, decide_false, Int.reduceNeg, Int.cast_ofNat_Int, sg, AO.sg, Option.isNone_none, hwq, hbig, hw]
      refine ih (i + 1, q + 1, t2) _ ⟨hlt, ⟨by simp only; omega, by simp only; omega, by simp only; omega⟩, by simpa using f4, htx⟩ (by simp only; omega) (Wk.forget (by simp [Le, LeE, LeH, get, envIds, hpIds, KeepH, D.ids, idsL, AO.ids, setL, base]))
end Go.Am
