/- The reference's Word and one. -/
import Derived.Test.YtefdjkakojfhnaaParl
namespace Go.Am
open Go Go.Proofs
set_option maxRecDepth 100000
set_option linter.unusedSimpArgs false
theorem word2_ok (s : List UInt8) : ACalls Try.prog 26 [.p (.str s)] [] fun h r => h = [] ∧ r = .p (.int .i64 (wordV s)) := by
  refine ACalls_X Try.func26 rfl enters26 (by simp [Try.f26]) ?_
  by_cases h1 : s = [98, 108, 111, 99, 107]
  · simp only [go_sem, ↓reduceIte, Nat.reduceLT, Nat.reduceLeDiff, Nat.reduceEqDiff, Nat.reduceAdd, Nat.reduceMul, Nat.reduceSub, reduceCtorEq, Int.reduceLT, Int.reduceLE, Int.reduceEq, Int.reduceToNat, decide_true, decide_false, Int.reduceNeg, Int.cast_ofNat_Int, sg, AO.sg, eq_true h1]
    subst h1; rfl
  by_cases h2 : s = [108, 97, 110, 101]
  · simp only [go_sem, ↓reduceIte, Nat.reduceLT, Nat.reduceLeDiff, Nat.reduceEqDiff, Nat.reduceAdd, Nat.reduceMul, Nat.reduceSub, reduceCtorEq, Int.reduceLT, Int.reduceLE, Int.reduceEq, Int.reduceToNat, decide_true, decide_false, Int.reduceNeg, Int.cast_ofNat_Int, sg, AO.sg, h1, eq_true h2]
    subst h2; rfl
  by_cases h3 : s = [115, 116, 97, 116, 105, 111, 110]
  · simp only [go_sem, ↓reduceIte, Nat.reduceLT, Nat.reduceLeDiff, Nat.reduceEqDiff, Nat.reduceAdd, Nat.reduceMul, Nat.reduceSub, reduceCtorEq, Int.reduceLT, Int.reduceLE, Int.reduceEq, Int.reduceToNat, decide_true, decide_false, Int.reduceNeg, Int.cast_ofNat_Int, sg, AO.sg, h1, h2, eq_true h3]
    subst h3; rfl
  by_cases h4 : s = [100, 101, 112, 111, 116]
  · simp only [go_sem, ↓reduceIte, Nat.reduceLT, Nat.reduceLeDiff, Nat.reduceEqDiff, Nat.reduceAdd, Nat.reduceMul, Nat.reduceSub, reduceCtorEq, Int.reduceLT, Int.reduceLE, Int.reduceEq, Int.reduceToNat, decide_true, decide_false, Int.reduceNeg, Int.cast_ofNat_Int, sg, AO.sg, h1, h2, h3, eq_true h4]
    subst h4; rfl
  by_cases h5 : s = [114, 111, 98, 111, 116]
  · simp only [go_sem, ↓reduceIte, Nat.reduceLT, Nat.reduceLeDiff, Nat.reduceEqDiff, Nat.reduceAdd, Nat.reduceMul, Nat.reduceSub, reduceCtorEq, Int.reduceLT, Int.reduceLE, Int.reduceEq, Int.reduceToNat, decide_true, decide_false, Int.reduceNeg, Int.cast_ofNat_Int, sg, AO.sg, h1, h2, h3, h4, eq_true h5]
    subst h5; rfl
  by_cases h6 : s = [99, 111, 110, 102, 105, 103]
  · simp only [go_sem, ↓reduceIte, Nat.reduceLT, Nat.reduceLeDiff, Nat.reduceEqDiff, Nat.reduceAdd, Nat.reduceMul, Nat.reduceSub, reduceCtorEq, Int.reduceLT, Int.reduceLE, Int.reduceEq, Int.reduceToNat, decide_true, decide_false, Int.reduceNeg, Int.cast_ofNat_Int, sg, AO.sg, h1, h2, h3, h4, h5, eq_true h6]
    subst h6; rfl
  · simp only [go_sem, ↓reduceIte, Nat.reduceLT, Nat.reduceLeDiff, Nat.reduceEqDiff, Nat.reduceAdd, Nat.reduceMul, Nat.reduceSub, reduceCtorEq, Int.reduceLT, Int.reduceLE, Int.reduceEq, Int.reduceToNat, decide_true, decide_false, Int.reduceNeg, Int.cast_ofNat_Int, sg, AO.sg, h1, h2, h3, h4, h5, h6]
    simp [wordV, formL, findI, Ne.symm h1, Ne.symm h2, Ne.symm h3, Ne.symm h4, Ne.symm h5, Ne.symm h6]
theorem one_ok (num : Int) (fs : List (List UInt8)) (hfs : fs.length ≤ 10000000) : ACalls Try.prog 13 [.agg [.p (.int .i64 num), .p (.sl (encS fs))]] [] fun h r => h = [] ∧ r = .tup [(oneV num fs).1.d, .p (.int .i64 (oneV num fs).2)] := by
  refine ACalls_X Try.func13 rfl enters13 (by simp [Try.f13]) ?_
  cases fs with
  | nil =>
    simp only [go_sem, ↓reduceIte, Nat.reduceLT, Nat.reduceLeDiff, Nat.reduceEqDiff, Nat.reduceAdd, Nat.reduceMul, Nat.reduceSub, reduceCtorEq, Int.reduceLT, Int.reduceLE, Int.reduceEq, Int.reduceToNat, decide_true, decide_false, Int.reduceNeg, Int.cast_ofNat_Int, sg, AO.sg, encS_len]
    refine end_pure ?_
    simp only [go_sem, ↓reduceIte, Nat.reduceLT, Nat.reduceLeDiff, Nat.reduceEqDiff, Nat.reduceAdd, Nat.reduceMul, Nat.reduceSub, reduceCtorEq, Int.reduceLT, Int.reduceLE, Int.reduceEq, Int.reduceToNat, decide_true, decide_false, Int.reduceNeg, Int.cast_ofNat_Int, sg, AO.sg]
    try simp [oneV, dc0, Dc.d, encS, encI]
  | cons w rest =>
    simp only [List.length_cons] at hfs
    have hne : ¬ ((rest.length + 1 : Nat) : Int) = 0 := by omega
    have h0lt : (0 : Int) < ((rest.length + 1 : Nat) : Int) := by omega
    have hg0 : (encS (w :: rest)).getD 0 [] = [.str w] := rfl
    simp only [go_sem, ↓reduceIte, Nat.reduceLT, Nat.reduceLeDiff, Nat.reduceEqDiff, Nat.reduceAdd, Nat.reduceMul, Nat.reduceSub, reduceCtorEq, Int.reduceLT, Int.reduceLE, Int.reduceEq, Int.reduceToNat, decide_true, decide_false, Int.reduceNeg, Int.cast_ofNat_Int, sg, AO.sg, encS_len, hne]
    refine X_any0 mixed (p := [(0, 0), (1, 0), (2, 0), (3, 0), (5, 0), (6, 0), (8, 1), (4, 2), (7, 0), (9, 3)]) (by kernel_rfl) (by simp [LeH, get]) ?_
    simp only [go_sem, ↓reduceIte, Nat.reduceLT, Nat.reduceLeDiff, Nat.reduceEqDiff, Nat.reduceAdd, Nat.reduceMul, Nat.reduceSub, reduceCtorEq, Int.reduceLT, Int.reduceLE, Int.reduceEq, Int.reduceToNat, decide_true, decide_false, Int.reduceNeg, Int.cast_ofNat_Int, sg, AO.sg, encS_len, h0lt, hg0, Int.le_refl]
    refine Gh_of (word2_ok w) ?_
    rintro h' r ⟨rfl, rfl⟩
    obtain ⟨j, hj, hjw⟩ := wordV_rng w
    by_cases hj0 : (j : Int) = 0
    · simp only [go_sem, ↓reduceIte, Nat.reduceLT, Nat.reduceLeDiff, Nat.reduceEqDiff, Nat.reduceAdd, Nat.reduceMul, Nat.reduceSub, reduceCtorEq, Int.reduceLT, Int.reduceLE, Int.reduceEq, Int.reduceToNat, decide_true, decide_false, Int.reduceNeg, Int.cast_ofNat_Int, sg, AO.sg, hjw, hj0]
      refine end_pure ?_
      simp only [go_sem, ↓reduceIte, Nat.reduceLT, Nat.reduceLeDiff, Nat.reduceEqDiff, Nat.reduceAdd, Nat.reduceMul, Nat.reduceSub, reduceCtorEq, Int.reduceLT, Int.reduceLE, Int.reduceEq, Int.reduceToNat, decide_true, decide_false, Int.reduceNeg, Int.cast_ofNat_Int, sg, AO.sg]
      simp [oneV, hjw, hj0, dc0, Dc.d, encS, encI]
    obtain ⟨hs1, -, -, hs4, hs5⟩ := form_sig j hj (by omega)
    have hj6 : j = 1 ∨ j = 2 ∨ j = 3 ∨ j = 4 ∨ j = 5 ∨ j = 6 := by omega
    have hab : (shapeV j).1 ≤ 3 ∧ (shapeV j).2 ≤ 4 ∧ ((j : Int) = 2 → (shapeV j).1 = 2 ∧ (shapeV j).2 = 0) := by
      rcases hj6 with rfl | rfl | rfl | rfl | rfl | rfl <;> decide
    have hone : oneV num (w :: rest) = if (rest.length : Int) < (shapeV j).1 + (shapeV j).2 ∨ ((shapeV j).1 + (shapeV j).2 < (rest.length : Int) ∧ (j : Int) ≠ 2) then (dc0, 5) else rd (rest.length - (shapeV j).2.toNat) rest ⟨j, num, [], []⟩ := by
      simp only [oneV, hjw, hj0, if_false]
    rw [hone]
    clear hone hs1
    simp only [go_sem, ↓reduceIte, Nat.reduceLT, Nat.reduceLeDiff, Nat.reduceEqDiff, Nat.reduceAdd, Nat.reduceMul, Nat.reduceSub, reduceCtorEq, Int.reduceLT, Int.reduceLE, Int.reduceEq, Int.reduceToNat, decide_true, decide_false, Int.reduceNeg, Int.cast_ofNat_Int, sg, AO.sg, hjw, hj0]
    refine Cc_of (shape_ok j) ?_
    rintro h' r ⟨rfl, rfl⟩
    generalize hA : (shapeV j).1 = a at *
    generalize hB : (shapeV j).2 = b at *
    obtain ⟨ha3, hb4, h2ab⟩ := hab
    have w1 : IntKind.i64.wrap (((rest.length + 1 : Nat) : Int) - 1) = (rest.length : Int) := by rw [wrap_i64_id] <;> omega
    have w2 : IntKind.i64.wrap (a + b) = a + b := by rw [wrap_i64_id] <;> omega
    have bad : ((rest.length : Int) < a + b ∨ (a + b < (rest.length : Int) ∧ (j : Int) ≠ 2)) ∨ ¬ ((rest.length : Int) < a + b ∨ (a + b < (rest.length : Int) ∧ (j : Int) ≠ 2)) := Classical.em _
    rcases bad with bad | good
    · rw [if_pos bad]
      have c1 : ¬ (rest.length : Int) = a + b := by omega
      by_cases c2 : (j : Int) = 2
      · have c3 : (rest.length : Int) < a := by omega
        simp only [go_sem, ↓reduceIte, Nat.reduceLT, Nat.reduceLeDiff, Nat.reduceEqDiff, Nat.reduceAdd, Nat.reduceMul, Nat.reduceSub, reduceCtorEq, Int.reduceLT, Int.reduceLE, Int.reduceEq, Int.reduceToNat, decide_true, decide_false, Int.reduceNeg, Int.cast_ofNat_Int, sg, AO.sg, encS_len, w1, w2, c1, c2, c3]
        refine end_pure ?_
        simp only [go_sem, ↓reduceIte, Nat.reduceLT, Nat.reduceLeDiff, Nat.reduceEqDiff, Nat.reduceAdd, Nat.reduceMul, Nat.reduceSub, reduceCtorEq, Int.reduceLT, Int.reduceLE, Int.reduceEq, Int.reduceToNat, decide_true, decide_false, Int.reduceNeg, Int.cast_ofNat_Int, sg, AO.sg]
        simp [dc0, Dc.d, encS, encI]
      · simp only [go_sem, ↓reduceIte, Nat.reduceLT, Nat.reduceLeDiff, Nat.reduceEqDiff, Nat.reduceAdd, Nat.reduceMul, Nat.reduceSub, reduceCtorEq, Int.reduceLT, Int.reduceLE, Int.reduceEq, Int.reduceToNat, decide_true, decide_false, Int.reduceNeg, Int.cast_ofNat_Int, sg, AO.sg, encS_len, w1, w2, c1, c2]
        refine end_pure ?_
        simp only [go_sem, ↓reduceIte, Nat.reduceLT, Nat.reduceLeDiff, Nat.reduceEqDiff, Nat.reduceAdd, Nat.reduceMul, Nat.reduceSub, reduceCtorEq, Int.reduceLT, Int.reduceLE, Int.reduceEq, Int.reduceToNat, decide_true, decide_false, Int.reduceNeg, Int.cast_ofNat_Int, sg, AO.sg]
        simp [dc0, Dc.d, encS, encI]
    · rw [if_neg good]
      have w3 : IntKind.i64.wrap ((rest.length : Int) - b) = ((rest.length - b.toNat : Nat) : Int) := by rw [wrap_i64_id] <;> omega
      have hKle : rest.length - b.toNat ≤ rest.length := Nat.sub_le _ _
      generalize hK : rest.length - b.toNat = K at *
      have cc : (rest.length : Int) = a + b ∨ (¬ (rest.length : Int) = a + b ∧ (j : Int) = 2 ∧ ¬ (rest.length : Int) < a) := by
        by_cases c1 : (rest.length : Int) = a + b
        · exact .inl c1
        · exact .inr ⟨c1, by omega, by omega⟩
      have c1d : ∀ x : Bool, x = decide ((rest.length : Int) = a + b) → decide ((rest.length : Int) = a + b) = x := fun _ h => h.symm
      cases hc1 : decide ((rest.length : Int) = a + b)
      all_goals
        first
          | (have hc2 : decide ((j : Int) = 2) = true := by simp at hc1; simp; omega
             have hc3 : decide ((rest.length : Int) < a) = false := by simp at hc1 hc2; simp; omega
             simp only [go_sem, ↓reduceIte, Nat.reduceLT, Nat.reduceLeDiff, Nat.reduceEqDiff, Nat.reduceAdd, Nat.reduceMul, Nat.reduceSub, reduceCtorEq, Int.reduceLT, Int.reduceLE, Int.reduceEq, Int.reduceToNat, decide_true, decide_false, Int.reduceNeg, Int.cast_ofNat_Int, sg, AO.sg, encS_len, w1, w2, w3, hc1, hc2, hc3])
          | simp only [go_sem, ↓reduceIte, Nat.reduceLT, Nat.reduceLeDiff, Nat.reduceEqDiff, Nat.reduceAdd, Nat.reduceMul, Nat.reduceSub, reduceCtorEq, Int.reduceLT, Int.reduceLE, Int.reduceEq, Int.reduceToNat, decide_true, decide_false, Int.reduceNeg, Int.cast_ofNat_Int, sg, AO.sg, encS_len, w1, w2, w3, hc1]
        refine X_loop_inv (fun q : Nat × List (List UInt8) × List Int => ⟨[(1, .ptr 1 0), (2, .ptr 2 0), (4, .ptr 4 0), (5, .p (.int .i64 (K : Nat))), (7, .p (.int .i64 (rest.length : Nat))), (8, .p (.int .i64 (q.1 : Nat)))],
            [(1, .box [.p (.int .i64 num), .p (.sl (encS (w :: rest)))]), (2, .box [.p (.int .i64 0), .p (.int .i64 0), .cl [], .cl []]),
             (4, .box [.p (.int .i64 j), .p (.int .i64 num), .ref 80 0 q.2.1.length q.2.1.length, .ref 94 0 q.2.2.length q.2.2.length]), (80, .arr 9 1 (encS q.2.1)), (94, .arr 3 1 (encI q.2.2))], 97⟩)
          (fun q => q.1 ≤ rest.length ∧ q.2.1.length ≤ q.1 ∧ q.2.2.length ≤ q.1 ∧ rd (K - q.1) (rest.drop q.1) ⟨j, num, q.2.1, q.2.2⟩ = rd K rest ⟨j, num, [], []⟩)
          (fun q => rest.length - q.1) (0, [], []) ⟨Nat.zero_le _, by simp, by simp, by simp⟩
          ((Wk.nilBox (id := 4) (j := 2) (q := 80) (sz := 1) 9 rfl rfl rfl (by decide)).trans ((Wk.nilBox (id := 4) (j := 3) (q := 94) (sz := 1) 3 rfl rfl rfl (by decide)).trans (Wk.forget (by simp [Le, LeE, LeH, get, envIds, hpIds, KeepH, D.ids, idsL, AO.ids, setL, base, encS, encI])))) ?_
        rintro ⟨i, ns, ks⟩ n ⟨hi, hn1, hn2, he⟩ ih
        simp only at hi hn1 hn2 he
        simp only [go_sem, ↓reduceIte, Nat.reduceLT, Nat.reduceLeDiff, Nat.reduceEqDiff, Nat.reduceAdd, Nat.reduceMul, Nat.reduceSub, reduceCtorEq, Int.reduceLT, Int.reduceLE, Int.reduceEq, Int.reduceToNat, decide_true, decide_false, Int.reduceNeg, Int.cast_ofNat_Int, sg, AO.sg]
        refine Cn_split (fun h2 => ?_) (fun h2 => ?_)
        · have hlt : i < rest.length := by simp at h2; omega
          have hw := wrap_succ i (by omega)
          have hw' : IntKind.i64.wrap (1 + (i : Int)) = ((i + 1 : Nat) : Int) := by rw [wrap_i64_id] <;> omega
          have hdropi : rest.drop i = rest.getD i [] :: rest.drop (i + 1) := by rw [List.drop_eq_getElem_cons hlt]; simp [List.getD, hlt]
          rw [hdropi] at he
          have hil : ((i + 1 : Nat) : Int) < ((rest.length + 1 : Nat) : Int) := by omega
          have hi0 : (0 : Int) ≤ ((i + 1 : Nat) : Int) := by omega
          have hg := encS_get (w :: rest) (i + 1) (by simp; omega)
          simp only [List.getD_cons_succ] at hg
          generalize hs : rest.getD i [] = s at he hg
          simp only [go_sem, ↓reduceIte, Nat.reduceLT, Nat.reduceLeDiff, Nat.reduceEqDiff, Nat.reduceAdd, Nat.reduceMul, Nat.reduceSub, reduceCtorEq, Int.reduceLT, Int.reduceLE, Int.reduceEq, Int.reduceToNat, decide_true, decide_false, Int.reduceNeg, Int.cast_ofNat_Int, sg, AO.sg, Int.toNat_natCast, encS_len, hg, hw', hil, hi0]
          by_cases hK0 : i < K
          · have hKd : decide ((i : Int) < (K : Int)) = true := by simp; omega
            simp only [go_sem, ↓reduceIte, Nat.reduceLT, Nat.reduceLeDiff, Nat.reduceEqDiff, Nat.reduceAdd, Nat.reduceMul, Nat.reduceSub, reduceCtorEq, Int.reduceLT, Int.reduceLE, Int.reduceEq, Int.reduceToNat, decide_true, decide_false, Int.reduceNeg, Int.cast_ofNat_Int, sg, AO.sg, hKd]
            refine Cc_of (name2_ok _) ?_
            rintro h' r ⟨rfl, rfl⟩
            rw [show K - i = (K - (i + 1)) + 1 by omega] at he
            cases hnv : nameB s
            · simp only [go_sem, ↓reduceIte, Nat.reduceLT, Nat.reduceLeDiff, Nat.reduceEqDiff, Nat.reduceAdd, Nat.reduceMul, Nat.reduceSub, reduceCtorEq, Int.reduceLT, Int.reduceLE, Int.reduceEq, Int.reduceToNat, decide_true, decide_false, Int.reduceNeg, Int.cast_ofNat_Int, sg, AO.sg, hnv]
              refine end_pure ?_
              simp only [go_sem, ↓reduceIte, Nat.reduceLT, Nat.reduceLeDiff, Nat.reduceEqDiff, Nat.reduceAdd, Nat.reduceMul, Nat.reduceSub, reduceCtorEq, Int.reduceLT, Int.reduceLE, Int.reduceEq, Int.reduceToNat, decide_true, decide_false, Int.reduceNeg, Int.cast_ofNat_Int, sg, AO.sg]
              rw [← he]
              simp [rd, hnv, dc0, Dc.d, encS, encI]
            · simp only [go_sem, ↓reduceIte, Nat.reduceLT, Nat.reduceLeDiff, Nat.reduceEqDiff, Nat.reduceAdd, Nat.reduceMul, Nat.reduceSub, reduceCtorEq, Int.reduceLT, Int.reduceLE, Int.reduceEq, Int.reduceToNat, decide_true, decide_false, Int.reduceNeg, Int.cast_ofNat_Int, sg, AO.sg, hnv, hw, encS_len]
              refine ⟨⟨wid1 _ _ rfl, by omega⟩, ?_⟩
              refine ih (i + 1, ns ++ [s], ks) _ ⟨hlt, by simp only [List.length_append, List.length_cons, List.length_nil]; omega, by simp only; omega, by rw [← he]; simp only [rd, hnv, if_true]⟩ (by simp only; omega) ?_
              (refine Wk.forget ?_; simp [Le, LeE, LeH, get, envIds, hpIds, KeepH, D.ids, idsL, AO.ids, setL, base, encS_snoc, encS_len]; done)
          · have hKd : decide ((i : Int) < (K : Int)) = false := by simp; omega
            simp only [go_sem, ↓reduceIte, Nat.reduceLT, Nat.reduceLeDiff, Nat.reduceEqDiff, Nat.reduceAdd, Nat.reduceMul, Nat.reduceSub, reduceCtorEq, Int.reduceLT, Int.reduceLE, Int.reduceEq, Int.reduceToNat, decide_true, decide_false, Int.reduceNeg, Int.cast_ofNat_Int, sg, AO.sg, hKd]
            refine Cc_of (number2_ok _) ?_
            rintro h' r ⟨rfl, rfl⟩
            rw [show K - i = 0 by omega] at he
            cases hnv : (numV s).2
            · simp only [go_sem, ↓reduceIte, Nat.reduceLT, Nat.reduceLeDiff, Nat.reduceEqDiff, Nat.reduceAdd, Nat.reduceMul, Nat.reduceSub, reduceCtorEq, Int.reduceLT, Int.reduceLE, Int.reduceEq, Int.reduceToNat, decide_true, decide_false, Int.reduceNeg, Int.cast_ofNat_Int, sg, AO.sg, hnv]
              refine end_pure ?_
              simp only [go_sem, ↓reduceIte, Nat.reduceLT, Nat.reduceLeDiff, Nat.reduceEqDiff, Nat.reduceAdd, Nat.reduceMul, Nat.reduceSub, reduceCtorEq, Int.reduceLT, Int.reduceLE, Int.reduceEq, Int.reduceToNat, decide_true, decide_false, Int.reduceNeg, Int.cast_ofNat_Int, sg, AO.sg]
              rw [← he]
              simp [rd, hnv, dc0, Dc.d, encS, encI]
            · simp only [go_sem, ↓reduceIte, Nat.reduceLT, Nat.reduceLeDiff, Nat.reduceEqDiff, Nat.reduceAdd, Nat.reduceMul, Nat.reduceSub, reduceCtorEq, Int.reduceLT, Int.reduceLE, Int.reduceEq, Int.reduceToNat, decide_true, decide_false, Int.reduceNeg, Int.cast_ofNat_Int, sg, AO.sg, hnv, hw, encI_len]
              refine ⟨⟨wid1 _ _ rfl, by omega⟩, ?_⟩
              refine ih (i + 1, ns, ks ++ [(numV s).1]) _ ⟨hlt, by simp only; omega, by simp only [List.length_append, List.length_cons, List.length_nil]; omega, by rw [← he, show K - (i + 1) = 0 by omega]; simp only [rd, hnv, if_true]⟩ (by simp only; omega) ?_
              (refine Wk.forget ?_; simp [Le, LeE, LeH, get, envIds, hpIds, KeepH, D.ids, idsL, AO.ids, setL, base, encI_snoc, encI_len]; done)
        · simp only [go_sem, ↓reduceIte, Nat.reduceLT, Nat.reduceLeDiff, Nat.reduceEqDiff, Nat.reduceAdd, Nat.reduceMul, Nat.reduceSub, reduceCtorEq, Int.reduceLT, Int.reduceLE, Int.reduceEq, Int.reduceToNat, decide_true, decide_false, Int.reduceNeg, Int.cast_ofNat_Int, sg, AO.sg]
          have hieq : i = rest.length := by simp at h2; omega
          subst hieq
          refine end_pure ?_
          simp only [go_sem, ↓reduceIte, Nat.reduceLT, Nat.reduceLeDiff, Nat.reduceEqDiff, Nat.reduceAdd, Nat.reduceMul, Nat.reduceSub, reduceCtorEq, Int.reduceLT, Int.reduceLE, Int.reduceEq, Int.reduceToNat, decide_true, decide_false, Int.reduceNeg, Int.cast_ofNat_Int, sg, AO.sg]
          rw [List.drop_length] at he
          simp only [rd] at he
          rw [← he, encS_take _ _ (Nat.le_refl _), encI_take _ _ (Nat.le_refl _)]
          simp [Dc.d, encS_len, encI_len]
end Go.Am
