/- The reference's Parse of commands. -/
import Derived.Test.YtpjbedkmjlgmgaaDoorCmdp
namespace Go.Am
open Go Go.Proofs
set_option maxRecDepth 100000
set_option linter.unusedVariables false
set_option linter.unusedSimpArgs false
def kindR (w : List UInt8) : D := .tup [.p (.int .i64 (wordK w : Nat)), .p (.int .i64 ((fK (wordK w)).na : Nat)), .p (.bool (decide ((fK (wordK w)).nu = 1)))]
theorem findI_skip (w x : List UInt8) (n m : Nat) (k : Nat) (r : List Fk) (h : ¬ w = x) : findI (fun f : Fk => decide (f.word = w)) k (⟨x, n, m⟩ :: r) = findI (fun f : Fk => decide (f.word = w)) (k + 1) r := by
  have : ¬ x = w := fun e => h e.symm
  simp [findI, this]
theorem kind_ok (w : List UInt8) : ACalls Tryd.prog 26 [.p (.str w)] [] fun h r => h = [] ∧ r = kindR w := by
  refine ACalls_X Tryd.func26 rfl enters26 (by simp [Tryd.f26]) ?_
  cases c0 : decide (w = [116, 97, 115, 107])
  rotate_left
  · simp only [go_sem, ↓reduceIte, Nat.reduceLT, Nat.reduceLeDiff, Nat.reduceEqDiff, Nat.reduceAdd, Nat.reduceMul, Nat.reduceSub, reduceCtorEq, Int.reduceLT, Int.reduceLE, Int.reduceEq, Int.reduceToNat, decide_true, decide_false, Int.reduceNeg, Int.cast_ofNat_Int, sg, AO.sg, Option.isNone_none, c0]
    refine end_pure ?_
    simp only [go_sem, ↓reduceIte, Nat.reduceLT, Nat.reduceLeDiff, Nat.reduceEqDiff, Nat.reduceAdd, Nat.reduceMul, Nat.reduceSub, reduceCtorEq, Int.reduceLT, Int.reduceLE, Int.reduceEq, Int.reduceToNat, decide_true, decide_false, Int.reduceNeg, Int.cast_ofNat_Int, sg, AO.sg, Option.isNone_none]
    rw [of_decide_eq_true c0]
    exact (show _ = kindR _ by kernel_rfl)
  have h0 := of_decide_eq_false c0
  cases c1 : decide (w = [99, 97, 110, 99, 101, 108])
  rotate_left
  · simp only [go_sem, ↓reduceIte, Nat.reduceLT, Nat.reduceLeDiff, Nat.reduceEqDiff, Nat.reduceAdd, Nat.reduceMul, Nat.reduceSub, reduceCtorEq, Int.reduceLT, Int.reduceLE, Int.reduceEq, Int.reduceToNat, decide_true, decide_false, Int.reduceNeg, Int.cast_ofNat_Int, sg, AO.sg, Option.isNone_none, c0, c1]
    refine end_pure ?_
    simp only [go_sem, ↓reduceIte, Nat.reduceLT, Nat.reduceLeDiff, Nat.reduceEqDiff, Nat.reduceAdd, Nat.reduceMul, Nat.reduceSub, reduceCtorEq, Int.reduceLT, Int.reduceLE, Int.reduceEq, Int.reduceToNat, decide_true, decide_false, Int.reduceNeg, Int.cast_ofNat_Int, sg, AO.sg, Option.isNone_none]
    rw [of_decide_eq_true c1]
    exact (show _ = kindR _ by kernel_rfl)
  have h1 := of_decide_eq_false c1
  cases c2 : decide (w = [115, 116, 97, 116, 117, 115])
  rotate_left
  · simp only [go_sem, ↓reduceIte, Nat.reduceLT, Nat.reduceLeDiff, Nat.reduceEqDiff, Nat.reduceAdd, Nat.reduceMul, Nat.reduceSub, reduceCtorEq, Int.reduceLT, Int.reduceLE, Int.reduceEq, Int.reduceToNat, decide_true, decide_false, Int.reduceNeg, Int.cast_ofNat_Int, sg, AO.sg, Option.isNone_none, c0, c1, c2]
    refine end_pure ?_
    simp only [go_sem, ↓reduceIte, Nat.reduceLT, Nat.reduceLeDiff, Nat.reduceEqDiff, Nat.reduceAdd, Nat.reduceMul, Nat.reduceSub, reduceCtorEq, Int.reduceLT, Int.reduceLE, Int.reduceEq, Int.reduceToNat, decide_true, decide_false, Int.reduceNeg, Int.cast_ofNat_Int, sg, AO.sg, Option.isNone_none]
    rw [of_decide_eq_true c2]
    exact (show _ = kindR _ by kernel_rfl)
  have h2 := of_decide_eq_false c2
  cases c3 : decide (w = [114, 101, 109, 111, 118, 101])
  rotate_left
  · simp only [go_sem, ↓reduceIte, Nat.reduceLT, Nat.reduceLeDiff, Nat.reduceEqDiff, Nat.reduceAdd, Nat.reduceMul, Nat.reduceSub, reduceCtorEq, Int.reduceLT, Int.reduceLE, Int.reduceEq, Int.reduceToNat, decide_true, decide_false, Int.reduceNeg, Int.cast_ofNat_Int, sg, AO.sg, Option.isNone_none, c0, c1, c2, c3]
    refine end_pure ?_
    simp only [go_sem, ↓reduceIte, Nat.reduceLT, Nat.reduceLeDiff, Nat.reduceEqDiff, Nat.reduceAdd, Nat.reduceMul, Nat.reduceSub, reduceCtorEq, Int.reduceLT, Int.reduceLE, Int.reduceEq, Int.reduceToNat, decide_true, decide_false, Int.reduceNeg, Int.cast_ofNat_Int, sg, AO.sg, Option.isNone_none]
    rw [of_decide_eq_true c3]
    exact (show _ = kindR _ by kernel_rfl)
  have h3 := of_decide_eq_false c3
  cases c4 : decide (w = [99, 108, 111, 115, 101])
  rotate_left
  · simp only [go_sem, ↓reduceIte, Nat.reduceLT, Nat.reduceLeDiff, Nat.reduceEqDiff, Nat.reduceAdd, Nat.reduceMul, Nat.reduceSub, reduceCtorEq, Int.reduceLT, Int.reduceLE, Int.reduceEq, Int.reduceToNat, decide_true, decide_false, Int.reduceNeg, Int.cast_ofNat_Int, sg, AO.sg, Option.isNone_none, c0, c1, c2, c3, c4]
    refine end_pure ?_
    simp only [go_sem, ↓reduceIte, Nat.reduceLT, Nat.reduceLeDiff, Nat.reduceEqDiff, Nat.reduceAdd, Nat.reduceMul, Nat.reduceSub, reduceCtorEq, Int.reduceLT, Int.reduceLE, Int.reduceEq, Int.reduceToNat, decide_true, decide_false, Int.reduceNeg, Int.cast_ofNat_Int, sg, AO.sg, Option.isNone_none]
    rw [of_decide_eq_true c4]
    exact (show _ = kindR _ by kernel_rfl)
  have h4 := of_decide_eq_false c4
  cases c5 : decide (w = [111, 112, 101, 110])
  rotate_left
  · simp only [go_sem, ↓reduceIte, Nat.reduceLT, Nat.reduceLeDiff, Nat.reduceEqDiff, Nat.reduceAdd, Nat.reduceMul, Nat.reduceSub, reduceCtorEq, Int.reduceLT, Int.reduceLE, Int.reduceEq, Int.reduceToNat, decide_true, decide_false, Int.reduceNeg, Int.cast_ofNat_Int, sg, AO.sg, Option.isNone_none, c0, c1, c2, c3, c4, c5]
    refine end_pure ?_
    simp only [go_sem, ↓reduceIte, Nat.reduceLT, Nat.reduceLeDiff, Nat.reduceEqDiff, Nat.reduceAdd, Nat.reduceMul, Nat.reduceSub, reduceCtorEq, Int.reduceLT, Int.reduceLE, Int.reduceEq, Int.reduceToNat, decide_true, decide_false, Int.reduceNeg, Int.cast_ofNat_Int, sg, AO.sg, Option.isNone_none]
    rw [of_decide_eq_true c5]
    exact (show _ = kindR _ by kernel_rfl)
  have h5 := of_decide_eq_false c5
  cases c6 : decide (w = [97, 100, 100])
  rotate_left
  · simp only [go_sem, ↓reduceIte, Nat.reduceLT, Nat.reduceLeDiff, Nat.reduceEqDiff, Nat.reduceAdd, Nat.reduceMul, Nat.reduceSub, reduceCtorEq, Int.reduceLT, Int.reduceLE, Int.reduceEq, Int.reduceToNat, decide_true, decide_false, Int.reduceNeg, Int.cast_ofNat_Int, sg, AO.sg, Option.isNone_none, c0, c1, c2, c3, c4, c5, c6]
    refine end_pure ?_
    simp only [go_sem, ↓reduceIte, Nat.reduceLT, Nat.reduceLeDiff, Nat.reduceEqDiff, Nat.reduceAdd, Nat.reduceMul, Nat.reduceSub, reduceCtorEq, Int.reduceLT, Int.reduceLE, Int.reduceEq, Int.reduceToNat, decide_true, decide_false, Int.reduceNeg, Int.cast_ofNat_Int, sg, AO.sg, Option.isNone_none]
    rw [of_decide_eq_true c6]
    exact (show _ = kindR _ by kernel_rfl)
  have h6 := of_decide_eq_false c6
  cases c7 : decide (w = [98, 108, 111, 99, 107])
  rotate_left
  · simp only [go_sem, ↓reduceIte, Nat.reduceLT, Nat.reduceLeDiff, Nat.reduceEqDiff, Nat.reduceAdd, Nat.reduceMul, Nat.reduceSub, reduceCtorEq, Int.reduceLT, Int.reduceLE, Int.reduceEq, Int.reduceToNat, decide_true, decide_false, Int.reduceNeg, Int.cast_ofNat_Int, sg, AO.sg, Option.isNone_none, c0, c1, c2, c3, c4, c5, c6, c7]
    refine end_pure ?_
    simp only [go_sem, ↓reduceIte, Nat.reduceLT, Nat.reduceLeDiff, Nat.reduceEqDiff, Nat.reduceAdd, Nat.reduceMul, Nat.reduceSub, reduceCtorEq, Int.reduceLT, Int.reduceLE, Int.reduceEq, Int.reduceToNat, decide_true, decide_false, Int.reduceNeg, Int.cast_ofNat_Int, sg, AO.sg, Option.isNone_none]
    rw [of_decide_eq_true c7]
    exact (show _ = kindR _ by kernel_rfl)
  have h7 := of_decide_eq_false c7
  cases c8 : decide (w = [102, 108, 101, 101, 116])
  rotate_left
  · simp only [go_sem, ↓reduceIte, Nat.reduceLT, Nat.reduceLeDiff, Nat.reduceEqDiff, Nat.reduceAdd, Nat.reduceMul, Nat.reduceSub, reduceCtorEq, Int.reduceLT, Int.reduceLE, Int.reduceEq, Int.reduceToNat, decide_true, decide_false, Int.reduceNeg, Int.cast_ofNat_Int, sg, AO.sg, Option.isNone_none, c0, c1, c2, c3, c4, c5, c6, c7, c8]
    refine end_pure ?_
    simp only [go_sem, ↓reduceIte, Nat.reduceLT, Nat.reduceLeDiff, Nat.reduceEqDiff, Nat.reduceAdd, Nat.reduceMul, Nat.reduceSub, reduceCtorEq, Int.reduceLT, Int.reduceLE, Int.reduceEq, Int.reduceToNat, decide_true, decide_false, Int.reduceNeg, Int.cast_ofNat_Int, sg, AO.sg, Option.isNone_none]
    rw [of_decide_eq_true c8]
    exact (show _ = kindR _ by kernel_rfl)
  have h8 := of_decide_eq_false c8
  cases c9 : decide (w = [113, 117, 101, 117, 101])
  rotate_left
  · simp only [go_sem, ↓reduceIte, Nat.reduceLT, Nat.reduceLeDiff, Nat.reduceEqDiff, Nat.reduceAdd, Nat.reduceMul, Nat.reduceSub, reduceCtorEq, Int.reduceLT, Int.reduceLE, Int.reduceEq, Int.reduceToNat, decide_true, decide_false, Int.reduceNeg, Int.cast_ofNat_Int, sg, AO.sg, Option.isNone_none, c0, c1, c2, c3, c4, c5, c6, c7, c8, c9]
    refine end_pure ?_
    simp only [go_sem, ↓reduceIte, Nat.reduceLT, Nat.reduceLeDiff, Nat.reduceEqDiff, Nat.reduceAdd, Nat.reduceMul, Nat.reduceSub, reduceCtorEq, Int.reduceLT, Int.reduceLE, Int.reduceEq, Int.reduceToNat, decide_true, decide_false, Int.reduceNeg, Int.cast_ofNat_Int, sg, AO.sg, Option.isNone_none]
    rw [of_decide_eq_true c9]
    exact (show _ = kindR _ by kernel_rfl)
  have h9 := of_decide_eq_false c9
  have e : wordK w = 0 := by
    unfold wordK formK
    simp only [List.tail_cons]
    rw [findI_skip _ _ _ _ _ _ h0]
    rw [findI_skip _ _ _ _ _ _ h1]
    rw [findI_skip _ _ _ _ _ _ h4]
    rw [findI_skip _ _ _ _ _ _ h5]
    rw [findI_skip _ _ _ _ _ _ h6]
    rw [findI_skip _ _ _ _ _ _ h3]
    rw [findI_skip _ _ _ _ _ _ h2]
    rw [findI_skip _ _ _ _ _ _ h7]
    rw [findI_skip _ _ _ _ _ _ h8]
    rw [findI_skip _ _ _ _ _ _ h9]
    rfl
  simp only [go_sem, ↓reduceIte, Nat.reduceLT, Nat.reduceLeDiff, Nat.reduceEqDiff, Nat.reduceAdd, Nat.reduceMul, Nat.reduceSub, reduceCtorEq, Int.reduceLT, Int.reduceLE, Int.reduceEq, Int.reduceToNat, decide_true, decide_false, Int.reduceNeg, Int.cast_ofNat_Int, sg, AO.sg, Option.isNone_none, c0, c1, c2, c3, c4, c5, c6, c7, c8, c9]
  refine end_pure ?_
  simp only [go_sem, ↓reduceIte, Nat.reduceLT, Nat.reduceLeDiff, Nat.reduceEqDiff, Nat.reduceAdd, Nat.reduceMul, Nat.reduceSub, reduceCtorEq, Int.reduceLT, Int.reduceLE, Int.reduceEq, Int.reduceToNat, decide_true, decide_false, Int.reduceNeg, Int.cast_ofNat_Int, sg, AO.sg, Option.isNone_none]
  simp only [kindR, e]
  rfl
theorem cmdr_ok (t : List UInt8) : ACalls Tryd.prog 10 [.p (.str t)] [] fun h r => h = [] ∧ r = .agg (cmdV t).cs := by
  have hne := fLines_ne t
  have hsm := fLines_small t
  refine ACalls_X Tryd.func10 rfl enters10 (by simp [Tryd.f10]) ?_
  simp only [go_sem, ↓reduceIte, Nat.reduceLT, Nat.reduceLeDiff, Nat.reduceEqDiff, Nat.reduceAdd, Nat.reduceMul, Nat.reduceSub, reduceCtorEq, Int.reduceLT, Int.reduceLE, Int.reduceEq, Int.reduceToNat, decide_true, decide_false, Int.reduceNeg, Int.cast_ofNat_Int, sg, AO.sg, Option.isNone_none]
  refine Cc_of ((lines2_ok t)) ?_
  rintro h' r ⟨rfl, rfl⟩
  simp only [go_sem, ↓reduceIte, Nat.reduceLT, Nat.reduceLeDiff, Nat.reduceEqDiff, Nat.reduceAdd, Nat.reduceMul, Nat.reduceSub, reduceCtorEq, Int.reduceLT, Int.reduceLE, Int.reduceEq, Int.reduceToNat, decide_true, decide_false, Int.reduceNeg, Int.cast_ofNat_Int, sg, AO.sg, Option.isNone_none, linesR, encL_len]
  by_cases he : (fLines t).2.2 = 0
  rotate_left
  · simp only [go_sem, ↓reduceIte, Nat.reduceLT, Nat.reduceLeDiff, Nat.reduceEqDiff, Nat.reduceAdd, Nat.reduceMul, Nat.reduceSub, reduceCtorEq, Int.reduceLT, Int.reduceLE, Int.reduceEq, Int.reduceToNat, decide_true, decide_false, Int.reduceNeg, Int.cast_ofNat_Int, sg, AO.sg, Option.isNone_none, he]
    refine end_own ?_
    simp only [go_sem, ↓reduceIte, Nat.reduceLT, Nat.reduceLeDiff, Nat.reduceEqDiff, Nat.reduceAdd, Nat.reduceMul, Nat.reduceSub, reduceCtorEq, Int.reduceLT, Int.reduceLE, Int.reduceEq, Int.reduceToNat, decide_true, decide_false, Int.reduceNeg, Int.cast_ofNat_Int, sg, AO.sg, Option.isNone_none]
    simp [cmdV, he, cd0, Cd.cs]
  by_cases h1 : ((fLines t).1.length : Int) = 1
  rotate_left
  · have h1' : ¬ (fLines t).1.length = 1 := by omega
    simp only [go_sem, ↓reduceIte, Nat.reduceLT, Nat.reduceLeDiff, Nat.reduceEqDiff, Nat.reduceAdd, Nat.reduceMul, Nat.reduceSub, reduceCtorEq, Int.reduceLT, Int.reduceLE, Int.reduceEq, Int.reduceToNat, decide_true, decide_false, Int.reduceNeg, Int.cast_ofNat_Int, sg, AO.sg, Option.isNone_none, he, h1, encL_len]
    refine end_own ?_
    simp only [go_sem, ↓reduceIte, Nat.reduceLT, Nat.reduceLeDiff, Nat.reduceEqDiff, Nat.reduceAdd, Nat.reduceMul, Nat.reduceSub, reduceCtorEq, Int.reduceLT, Int.reduceLE, Int.reduceEq, Int.reduceToNat, decide_true, decide_false, Int.reduceNeg, Int.cast_ofNat_Int, sg, AO.sg, Option.isNone_none]
    simp [cmdV, h1', cd0, Cd.cs]
  have h1' : (fLines t).1.length = 1 := by omega
  have hcv : cmdV t = cmdF ((fLines t).1.getD 0 ln0).fs := by unfold cmdV; rw [if_pos ⟨he, h1'⟩]
  have hg := encL_get (fLines t).1 0 (by omega)
  have hn0 := hne _ (getD_mem (fLines t).1 0 ln0 (by omega))
  have hs0 := hsm.2 _ (getD_mem (fLines t).1 0 ln0 (by omega))
  rw [hcv]
  simp only [go_sem, ↓reduceIte, Nat.reduceLT, Nat.reduceLeDiff, Nat.reduceEqDiff, Nat.reduceAdd, Nat.reduceMul, Nat.reduceSub, reduceCtorEq, Int.reduceLT, Int.reduceLE, Int.reduceEq, Int.reduceToNat, decide_true, decide_false, Int.reduceNeg, Int.cast_ofNat_Int, sg, AO.sg, Option.isNone_none, he, h1, h1', encL_len, hg]
  generalize ((fLines t).1.getD 0 ln0).fs = fs at *
  clear hcv hg hne hsm
  obtain ⟨w, rest, rfl⟩ : ∃ w rest, fs = w :: rest := by
    cases fs with
    | nil => exact (hn0 rfl).elim
    | cons w r => exact ⟨w, r, rfl⟩
  simp only [List.length_cons] at hs0
  have hg0 : (encS (w :: rest)).getD 0 [] = [.str w] := rfl
  have hlen : (encS (w :: rest)).length = rest.length + 1 := by rw [encS_len]; rfl
  have hr0 : (0 : Int) < ((rest.length + 1 : Nat) : Int) := by omega
  simp only [go_sem, ↓reduceIte, Nat.reduceLT, Nat.reduceLeDiff, Nat.reduceEqDiff, Nat.reduceAdd, Nat.reduceMul, Nat.reduceSub, reduceCtorEq, Int.reduceLT, Int.reduceLE, Int.reduceEq, Int.reduceToNat, decide_true, decide_false, Int.reduceNeg, Int.cast_ofNat_Int, sg, AO.sg, Option.isNone_none, hg0, hlen, hr0]
  refine Cc_of ((kind_ok w)) ?_
  rintro h' r ⟨rfl, rfl⟩
  obtain ⟨hw1, hw2, hw3⟩ := wordK_rng w
  have hks := fK_small (wordK w)
  have hcg : cmdF (w :: rest) = cmdG (wordK w) (fK (wordK w)).na (fK (wordK w)).nu (w :: rest) := rfl
  rw [hcg]
  unfold kindR
  clear hw1 hw3 hcg
  generalize wordK w = j at *
  generalize (fK j).na = na at *
  generalize (fK j).nu = nu at *
  obtain ⟨k1, k2, k3⟩ := hks
  have bad : (j = 0 ∨ (w :: rest).length ≠ 1 + na + nu ∨ (((w :: rest).take (1 + na)).drop 1).any (fun s => !nameB s) = true) → cmdG j na nu (w :: rest) = cd0 := fun h => by unfold cmdG; rw [if_pos h]
  have good : j ≠ 0 → (w :: rest).length = 1 + na + nu → (((w :: rest).take (1 + na)).drop 1).any (fun s => !nameB s) = false → cmdG j na nu (w :: rest) = if nu = 0 then ⟨j, if 0 < na then fld1 (w :: rest) else [], if 1 < na then fld2 (w :: rest) else [], 0⟩
      else if (numV (fld1 (w :: rest))).2 = true ∧ 0 ≤ (numV (fld1 (w :: rest))).1 then ⟨j, if 0 < na then fld1 (w :: rest) else [], if 1 < na then fld2 (w :: rest) else [], (numV (fld1 (w :: rest))).1⟩ else cd0 := by
    intro hj0' hl' hany
    unfold cmdG
    rw [if_neg]
    rintro (h | h | h)
    · exact hj0' h
    · exact h hl'
    · rw [hany] at h; cases h
  have hg1 : 1 < (w :: rest).length → (encS (w :: rest)).getD 1 [] = [.str (fld1 (w :: rest))] := fun h => encS_get _ 1 h
  have hg2 : 2 < (w :: rest).length → (encS (w :: rest)).getD 2 [] = [.str (fld2 (w :: rest))] := fun h => encS_get _ 2 h
  cases hj0 : decide ((j : Int) = 0)
  rotate_left
  · rw [bad (.inl (by have := of_decide_eq_true hj0; omega))]
    by_cases hn0 : nu = 1
    · subst hn0
      simp only [go_sem, ↓reduceIte, Nat.reduceLT, Nat.reduceLeDiff, Nat.reduceEqDiff, Nat.reduceAdd, Nat.reduceMul, Nat.reduceSub, reduceCtorEq, Int.reduceLT, Int.reduceLE, Int.reduceEq, Int.reduceToNat, decide_true, decide_false, Int.reduceNeg, Int.cast_ofNat_Int, sg, AO.sg, Option.isNone_none, hj0]
      refine end_own ?_
      simp only [go_sem, ↓reduceIte, Nat.reduceLT, Nat.reduceLeDiff, Nat.reduceEqDiff, Nat.reduceAdd, Nat.reduceMul, Nat.reduceSub, reduceCtorEq, Int.reduceLT, Int.reduceLE, Int.reduceEq, Int.reduceToNat, decide_true, decide_false, Int.reduceNeg, Int.cast_ofNat_Int, sg, AO.sg, Option.isNone_none]
      rfl
    · simp only [go_sem, ↓reduceIte, Nat.reduceLT, Nat.reduceLeDiff, Nat.reduceEqDiff, Nat.reduceAdd, Nat.reduceMul, Nat.reduceSub, reduceCtorEq, Int.reduceLT, Int.reduceLE, Int.reduceEq, Int.reduceToNat, decide_true, decide_false, Int.reduceNeg, Int.cast_ofNat_Int, sg, AO.sg, Option.isNone_none, hj0, hn0]
      refine end_own ?_
      simp only [go_sem, ↓reduceIte, Nat.reduceLT, Nat.reduceLeDiff, Nat.reduceEqDiff, Nat.reduceAdd, Nat.reduceMul, Nat.reduceSub, reduceCtorEq, Int.reduceLT, Int.reduceLE, Int.reduceEq, Int.reduceToNat, decide_true, decide_false, Int.reduceNeg, Int.cast_ofNat_Int, sg, AO.sg, Option.isNone_none]
      rfl
  have hj0' : j ≠ 0 := by have := of_decide_eq_false hj0; omega
  rw [List.length_cons] at bad good hg1 hg2
  by_cases hn0 : nu = 0
  · subst hn0
    have hwa : IntKind.i64.wrap (1 + (na : Int)) = ((1 + na : Nat) : Int) := by rw [wrap_i64_id] <;> omega
    cases hl : decide (((rest.length + 1 : Nat) : Int) = ((1 + na : Nat) : Int))
    · simp only [go_sem, ↓reduceIte, Nat.reduceLT, Nat.reduceLeDiff, Nat.reduceEqDiff, Nat.reduceAdd, Nat.reduceMul, Nat.reduceSub, reduceCtorEq, Int.reduceLT, Int.reduceLE, Int.reduceEq, Int.reduceToNat, decide_true, decide_false, Int.reduceNeg, Int.cast_ofNat_Int, sg, AO.sg, Option.isNone_none, hj0, hlen, hwa, hl]
      refine end_own ?_
      simp only [go_sem, ↓reduceIte, Nat.reduceLT, Nat.reduceLeDiff, Nat.reduceEqDiff, Nat.reduceAdd, Nat.reduceMul, Nat.reduceSub, reduceCtorEq, Int.reduceLT, Int.reduceLE, Int.reduceEq, Int.reduceToNat, decide_true, decide_false, Int.reduceNeg, Int.cast_ofNat_Int, sg, AO.sg, Option.isNone_none]
      rw [bad (.inr (.inl (by have := of_decide_eq_false hl; omega)))]
      rfl
    have hl' : rest.length + 1 = 1 + na := by have := of_decide_eq_true hl; omega
    simp only [go_sem, ↓reduceIte, Nat.reduceLT, Nat.reduceLeDiff, Nat.reduceEqDiff, Nat.reduceAdd, Nat.reduceMul, Nat.reduceSub, reduceCtorEq, Int.reduceLT, Int.reduceLE, Int.reduceEq, Int.reduceToNat, decide_true, decide_false, Int.reduceNeg, Int.cast_ofNat_Int, sg, AO.sg, Option.isNone_none, hj0, hlen, hwa, hl]
    refine X_loop_inv (fun i : Nat => ⟨[(2, .ptr 2 0), (6, .p (.sl (encS (w :: rest)))), (8, .p (.int .i64 (na : Nat))), (9, .p (.bool false)), (11, .ptr 11 0), (12, .p (.int .i64 (i : Nat)))],
        [(2, .box [.p (.int .i64 0), .p (.str []), .p (.str []), .p (.int .i64 0)]), (11, .box [.p (.int .i64 j), .p (.str []), .p (.str []), .p (.int .i64 0)])], 99⟩)
      (fun i => 1 ≤ i ∧ i ≤ na + 1 ∧ (((w :: rest).take i).drop 1).any (fun s => !nameB s) = false) (fun i => na + 1 - i) 1 ⟨Nat.le_refl _, by omega, by simp⟩ (Wk.forget (by simp [Le, LeE, LeH, get, envIds, hpIds, KeepH, D.ids, idsL, AO.ids, setL, base])) ?_
    rintro i n ⟨hi1, hi2, hany⟩ ih
    simp only [go_sem, ↓reduceIte, Nat.reduceLT, Nat.reduceLeDiff, Nat.reduceEqDiff, Nat.reduceAdd, Nat.reduceMul, Nat.reduceSub, reduceCtorEq, Int.reduceLT, Int.reduceLE, Int.reduceEq, Int.reduceToNat, decide_true, decide_false, Int.reduceNeg, Int.cast_ofNat_Int, sg, AO.sg, Option.isNone_none]
    refine Cn_split (fun h2 => ?_) (fun h2 => ?_)
    · have hin : i ≤ na := by simp at h2; omega
      have hlt : i < (w :: rest).length := by rw [List.length_cons]; omega
      have hi0 : (0 : Int) ≤ (i : Int) ∧ (i : Int) < ((rest.length + 1 : Nat) : Int) := by omega
      have hgi := encS_get (w :: rest) i hlt
      have hw := wrap_succ i (by omega)
      have htk : ((w :: rest).take (i + 1)).drop 1 = ((w :: rest).take i).drop 1 ++ [(w :: rest).getD i []] := by
        rw [List.take_succ_eq_append_getElem hlt, List.drop_append_of_le_length (by rw [List.length_take]; omega)]
        rw [List.getD_eq_getElem?_getD, List.getElem?_eq_getElem hlt]
        rfl
      have hsub : ∀ s, s ∈ ((w :: rest).take (i + 1)).drop 1 → s ∈ ((w :: rest).take (1 + na)).drop 1 := by
        intro s hs
        have e : (w :: rest).take (i + 1) = ((w :: rest).take (1 + na)).take (i + 1) := by rw [List.take_take, Nat.min_eq_left (by omega)]
        rw [e, List.drop_take] at hs
        exact List.mem_of_mem_take hs
      generalize (w :: rest).getD i [] = s at *
      simp only [go_sem, ↓reduceIte, Nat.reduceLT, Nat.reduceLeDiff, Nat.reduceEqDiff, Nat.reduceAdd, Nat.reduceMul, Nat.reduceSub, reduceCtorEq, Int.reduceLT, Int.reduceLE, Int.reduceEq, Int.reduceToNat, decide_true, decide_false, Int.reduceNeg, Int.cast_ofNat_Int, sg, AO.sg, Option.isNone_none, hlen, Int.toNat_natCast, hgi, hi0]
      refine Cc_of ((name2_ok s)) ?_
      rintro h' r ⟨rfl, rfl⟩
      cases hnm : nameB s
      · simp only [go_sem, ↓reduceIte, Nat.reduceLT, Nat.reduceLeDiff, Nat.reduceEqDiff, Nat.reduceAdd, Nat.reduceMul, Nat.reduceSub, reduceCtorEq, Int.reduceLT, Int.reduceLE, Int.reduceEq, Int.reduceToNat, decide_true, decide_false, Int.reduceNeg, Int.cast_ofNat_Int, sg, AO.sg, Option.isNone_none, hnm]
        refine end_own ?_
        simp only [go_sem, ↓reduceIte, Nat.reduceLT, Nat.reduceLeDiff, Nat.reduceEqDiff, Nat.reduceAdd, Nat.reduceMul, Nat.reduceSub, reduceCtorEq, Int.reduceLT, Int.reduceLE, Int.reduceEq, Int.reduceToNat, decide_true, decide_false, Int.reduceNeg, Int.cast_ofNat_Int, sg, AO.sg, Option.isNone_none]
        rw [bad (.inr (.inr (List.any_eq_true.2 ⟨s, hsub s (by rw [htk]; simp), by simp [hnm]⟩)))]
        rfl
      · simp only [go_sem, ↓reduceIte, Nat.reduceLT, Nat.reduceLeDiff, Nat.reduceEqDiff, Nat.reduceAdd, Nat.reduceMul, Nat.reduceSub, reduceCtorEq, Int.reduceLT, Int.reduceLE, Int.reduceEq, Int.reduceToNat, decide_true, decide_false, Int.reduceNeg, Int.cast_ofNat_Int, sg, AO.sg, Option.isNone_none, hnm, hw]
        refine ih (i + 1) _ ⟨by omega, by omega, by rw [htk, List.any_append, hany]; simp [hnm]⟩ (by omega) (Wk.forget (by simp [Le, LeE, LeH, get, envIds, hpIds, KeepH, D.ids, idsL, AO.ids, setL, base]))
    · have hie : i = 1 + na := by simp at h2; omega
      subst hie
      rw [good hj0' hl' hany]
      rcases na with _ | _ | _ | na
      · simp only [go_sem, ↓reduceIte, Nat.reduceLT, Nat.reduceLeDiff, Nat.reduceEqDiff, Nat.reduceAdd, Nat.reduceMul, Nat.reduceSub, reduceCtorEq, Int.reduceLT, Int.reduceLE, Int.reduceEq, Int.reduceToNat, decide_true, decide_false, Int.reduceNeg, Int.cast_ofNat_Int, sg, AO.sg, Option.isNone_none]
        refine end_own ?_
        simp only [go_sem, ↓reduceIte, Nat.reduceLT, Nat.reduceLeDiff, Nat.reduceEqDiff, Nat.reduceAdd, Nat.reduceMul, Nat.reduceSub, reduceCtorEq, Int.reduceLT, Int.reduceLE, Int.reduceEq, Int.reduceToNat, decide_true, decide_false, Int.reduceNeg, Int.cast_ofNat_Int, sg, AO.sg, Option.isNone_none]
        simp [Cd.cs]
      · have hr1 : (1 : Int) < ((rest.length + 1 : Nat) : Int) := by omega
        simp only [go_sem, ↓reduceIte, Nat.reduceLT, Nat.reduceLeDiff, Nat.reduceEqDiff, Nat.reduceAdd, Nat.reduceMul, Nat.reduceSub, reduceCtorEq, Int.reduceLT, Int.reduceLE, Int.reduceEq, Int.reduceToNat, decide_true, decide_false, Int.reduceNeg, Int.cast_ofNat_Int, sg, AO.sg, Option.isNone_none, hlen, hr1, hg1 (by omega), Int.reduceToNat]
        refine end_own ?_
        simp only [go_sem, ↓reduceIte, Nat.reduceLT, Nat.reduceLeDiff, Nat.reduceEqDiff, Nat.reduceAdd, Nat.reduceMul, Nat.reduceSub, reduceCtorEq, Int.reduceLT, Int.reduceLE, Int.reduceEq, Int.reduceToNat, decide_true, decide_false, Int.reduceNeg, Int.cast_ofNat_Int, sg, AO.sg, Option.isNone_none]
        simp [Cd.cs]
      · have hr1 : (1 : Int) < ((rest.length + 1 : Nat) : Int) := by omega
        have hr2 : (2 : Int) < ((rest.length + 1 : Nat) : Int) := by omega
        simp only [go_sem, ↓reduceIte, Nat.reduceLT, Nat.reduceLeDiff, Nat.reduceEqDiff, Nat.reduceAdd, Nat.reduceMul, Nat.reduceSub, reduceCtorEq, Int.reduceLT, Int.reduceLE, Int.reduceEq, Int.reduceToNat, decide_true, decide_false, Int.reduceNeg, Int.cast_ofNat_Int, sg, AO.sg, Option.isNone_none, hlen, hr1, hr2, hg1 (by omega), hg2 (by omega), Int.reduceToNat]
        refine end_own ?_
        simp only [go_sem, ↓reduceIte, Nat.reduceLT, Nat.reduceLeDiff, Nat.reduceEqDiff, Nat.reduceAdd, Nat.reduceMul, Nat.reduceSub, reduceCtorEq, Int.reduceLT, Int.reduceLE, Int.reduceEq, Int.reduceToNat, decide_true, decide_false, Int.reduceNeg, Int.cast_ofNat_Int, sg, AO.sg, Option.isNone_none]
        simp [Cd.cs]
      · omega
  · have hn1 : nu = 1 := by omega
    have hna0 := k3 hn0
    subst hn1 hna0
    cases hl : decide (((rest.length + 1 : Nat) : Int) = 2)
    · have hw2' : IntKind.i64.wrap (0 + 1) = 1 := rfl
      have hw3' : IntKind.i64.wrap (1 + 1) = 2 := rfl
      simp only [go_sem, ↓reduceIte, Nat.reduceLT, Nat.reduceLeDiff, Nat.reduceEqDiff, Nat.reduceAdd, Nat.reduceMul, Nat.reduceSub, reduceCtorEq, Int.reduceLT, Int.reduceLE, Int.reduceEq, Int.reduceToNat, decide_true, decide_false, Int.reduceNeg, Int.cast_ofNat_Int, sg, AO.sg, Option.isNone_none, hj0, hlen, hw2', hw3', hl]
      refine end_own ?_
      simp only [go_sem, ↓reduceIte, Nat.reduceLT, Nat.reduceLeDiff, Nat.reduceEqDiff, Nat.reduceAdd, Nat.reduceMul, Nat.reduceSub, reduceCtorEq, Int.reduceLT, Int.reduceLE, Int.reduceEq, Int.reduceToNat, decide_true, decide_false, Int.reduceNeg, Int.cast_ofNat_Int, sg, AO.sg, Option.isNone_none]
      rw [bad (.inr (.inl (by have := of_decide_eq_false hl; omega)))]
      rfl
    have hl' : rest.length + 1 = 2 := by have := of_decide_eq_true hl; omega
    have hw2' : IntKind.i64.wrap (0 + 1) = 1 := rfl
    have hw3' : IntKind.i64.wrap (1 + 1) = 2 := rfl
    simp only [go_sem, ↓reduceIte, Nat.reduceLT, Nat.reduceLeDiff, Nat.reduceEqDiff, Nat.reduceAdd, Nat.reduceMul, Nat.reduceSub, reduceCtorEq, Int.reduceLT, Int.reduceLE, Int.reduceEq, Int.reduceToNat, decide_true, decide_false, Int.reduceNeg, Int.cast_ofNat_Int, sg, AO.sg, Option.isNone_none, hj0, hlen, hw2', hw3', hl]
    refine X_loop_inv (fun i : Nat => ⟨[(2, .ptr 2 0), (6, .p (.sl (encS (w :: rest)))), (8, .p (.int .i64 0)), (9, .p (.bool true)), (11, .ptr 11 0), (12, .p (.int .i64 1))],
        [(2, .box [.p (.int .i64 0), .p (.str []), .p (.str []), .p (.int .i64 0)]), (11, .box [.p (.int .i64 j), .p (.str []), .p (.str []), .p (.int .i64 0)])], 99⟩) (fun _ => True) (fun i => i) 0 trivial (Wk.forget (by simp [Le, LeE, LeH, get, envIds, hpIds, KeepH, D.ids, idsL, AO.ids, setL, base])) ?_
    rintro i n _ ih
    have hr1 : (1 : Int) < ((rest.length + 1 : Nat) : Int) := by omega
    rw [good hj0' hl' (by simp)]
    simp only [go_sem, ↓reduceIte, Nat.reduceLT, Nat.reduceLeDiff, Nat.reduceEqDiff, Nat.reduceAdd, Nat.reduceMul, Nat.reduceSub, reduceCtorEq, Int.reduceLT, Int.reduceLE, Int.reduceEq, Int.reduceToNat, decide_true, decide_false, Int.reduceNeg, Int.cast_ofNat_Int, sg, AO.sg, Option.isNone_none, hlen, hr1, hg1 (by omega), Int.reduceToNat]
    generalize fld1 (w :: rest) = f1 at *
    refine Cc_of ((number2_ok f1)) ?_
    rintro h' r ⟨rfl, rfl⟩
    cases hnv : (numV f1).2
    · simp only [go_sem, ↓reduceIte, Nat.reduceLT, Nat.reduceLeDiff, Nat.reduceEqDiff, Nat.reduceAdd, Nat.reduceMul, Nat.reduceSub, reduceCtorEq, Int.reduceLT, Int.reduceLE, Int.reduceEq, Int.reduceToNat, decide_true, decide_false, Int.reduceNeg, Int.cast_ofNat_Int, sg, AO.sg, Option.isNone_none, hnv]
      refine end_own ?_
      simp only [go_sem, ↓reduceIte, Nat.reduceLT, Nat.reduceLeDiff, Nat.reduceEqDiff, Nat.reduceAdd, Nat.reduceMul, Nat.reduceSub, reduceCtorEq, Int.reduceLT, Int.reduceLE, Int.reduceEq, Int.reduceToNat, decide_true, decide_false, Int.reduceNeg, Int.cast_ofNat_Int, sg, AO.sg, Option.isNone_none]
      simp [cd0, Cd.cs]
    · by_cases hneg : (numV f1).1 < 0
      · simp only [go_sem, ↓reduceIte, Nat.reduceLT, Nat.reduceLeDiff, Nat.reduceEqDiff, Nat.reduceAdd, Nat.reduceMul, Nat.reduceSub, reduceCtorEq, Int.reduceLT, Int.reduceLE, Int.reduceEq, Int.reduceToNat, decide_true, decide_false, Int.reduceNeg, Int.cast_ofNat_Int, sg, AO.sg, Option.isNone_none, hnv, hneg]
        refine end_own ?_
        simp only [go_sem, ↓reduceIte, Nat.reduceLT, Nat.reduceLeDiff, Nat.reduceEqDiff, Nat.reduceAdd, Nat.reduceMul, Nat.reduceSub, reduceCtorEq, Int.reduceLT, Int.reduceLE, Int.reduceEq, Int.reduceToNat, decide_true, decide_false, Int.reduceNeg, Int.cast_ofNat_Int, sg, AO.sg, Option.isNone_none]
        have : ¬ 0 ≤ (numV f1).1 := by omega
        simp [this, cd0, Cd.cs]
      · simp only [go_sem, ↓reduceIte, Nat.reduceLT, Nat.reduceLeDiff, Nat.reduceEqDiff, Nat.reduceAdd, Nat.reduceMul, Nat.reduceSub, reduceCtorEq, Int.reduceLT, Int.reduceLE, Int.reduceEq, Int.reduceToNat, decide_true, decide_false, Int.reduceNeg, Int.cast_ofNat_Int, sg, AO.sg, Option.isNone_none, hnv, hneg]
        refine end_own ?_
        simp only [go_sem, ↓reduceIte, Nat.reduceLT, Nat.reduceLeDiff, Nat.reduceEqDiff, Nat.reduceAdd, Nat.reduceMul, Nat.reduceSub, reduceCtorEq, Int.reduceLT, Int.reduceLE, Int.reduceEq, Int.reduceToNat, decide_true, decide_false, Int.reduceNeg, Int.cast_ofNat_Int, sg, AO.sg, Option.isNone_none]
        have : 0 ≤ (numV f1).1 := by omega
        simp [this, Cd.cs]
end Go.Am
