/- The reference's Valid and Format (layer 2). -/
import Derived.Test.YtefdjkakojfhnaaDoorDesc
namespace Go.Am
open Go Go.Proofs
set_option maxRecDepth 100000
set_option linter.unusedVariables false
set_option linter.unusedSimpArgs false
theorem textr_ok (j : Nat) (h1 : 1 ≤ j) (h6 : j < 7) : ACalls Tryd.prog 49 [.p (.int .i64 (j : Nat))] [] fun h r => h = [] ∧ r = .p (.str (formJ j).word) := by
  refine ACalls_X Tryd.func49 rfl enters49 (by simp [Tryd.f49]) ?_
  have hj : j = 1 ∨ j = 2 ∨ j = 3 ∨ j = 4 ∨ j = 5 ∨ j = 6 := by omega
  rcases hj with rfl | rfl | rfl | rfl | rfl | rfl <;>
  · simp only [go_sem, ↓reduceIte, Nat.reduceLT, Nat.reduceLeDiff, Nat.reduceEqDiff, Nat.reduceAdd, Nat.reduceMul, Nat.reduceSub, reduceCtorEq, Int.reduceLT, Int.reduceLE, Int.reduceEq, Int.reduceToNat, decide_true, decide_false, Int.reduceNeg, Int.cast_ofNat_Int, sg, AO.sg, Option.isNone_none]
    try rfl
theorem validr_ok (d : Dc) (hd : d.names.length ≤ 10000000 ∧ d.nums.length ≤ 10000000) : ACalls Tryd.prog 28 [d.d] [] fun h r => h = [] ∧ r = .p (.bool (validV d)) := by
  obtain ⟨word, line, names, nums⟩ := d
  simp only at hd
  refine ACalls_X Tryd.func28 rfl enters28 (by simp [Tryd.f28]) ?_
  by_cases h1 : word < 1
  · have hv : validV ⟨word, line, names, nums⟩ = false := by simp [validV]; intro h; omega
    simp only [go_sem, ↓reduceIte, Nat.reduceLT, Nat.reduceLeDiff, Nat.reduceEqDiff, Nat.reduceAdd, Nat.reduceMul, Nat.reduceSub, reduceCtorEq, Int.reduceLT, Int.reduceLE, Int.reduceEq, Int.reduceToNat, decide_true, decide_false, Int.reduceNeg, Int.cast_ofNat_Int, sg, AO.sg, Option.isNone_none, Dc.d, h1, hv]
  by_cases h2 : 6 < word
  · have hv : validV ⟨word, line, names, nums⟩ = false := by simp [validV]; intro h; omega
    simp only [go_sem, ↓reduceIte, Nat.reduceLT, Nat.reduceLeDiff, Nat.reduceEqDiff, Nat.reduceAdd, Nat.reduceMul, Nat.reduceSub, reduceCtorEq, Int.reduceLT, Int.reduceLE, Int.reduceEq, Int.reduceToNat, decide_true, decide_false, Int.reduceNeg, Int.cast_ofNat_Int, sg, AO.sg, Option.isNone_none, Dc.d, h1, h2, hv]
  have hv : validV ⟨word, line, names, nums⟩ = (decide ((nums.length : Int) = (shapeV word).2) && ((decide ((names.length : Int) = (shapeV word).1) || (decide ((shapeV word).1 < (names.length : Int)) && decide (word = 2))) &&
    (names.all nameB && nums.all fun n => !(decide (n < -9999) || decide (9999 < n))))) := by
    have : decide ((1 : Int) ≤ word ∧ word ≤ 6) = true := by simp; omega
    simp only [validV, this, Bool.true_and]
  rw [hv]
  clear hv
  simp only [go_sem, ↓reduceIte, Nat.reduceLT, Nat.reduceLeDiff, Nat.reduceEqDiff, Nat.reduceAdd, Nat.reduceMul, Nat.reduceSub, reduceCtorEq, Int.reduceLT, Int.reduceLE, Int.reduceEq, Int.reduceToNat, decide_true, decide_false, Int.reduceNeg, Int.cast_ofNat_Int, sg, AO.sg, Option.isNone_none, Dc.d, h1, h2]
  refine Cc_of ((shape_ok word)) ?_
  rintro h' r ⟨rfl, rfl⟩
  generalize hA : (shapeV word).1 = a at *
  generalize hB : (shapeV word).2 = b at *
  cases c1 : decide ((nums.length : Int) = b)
  · simp only [go_sem, ↓reduceIte, Nat.reduceLT, Nat.reduceLeDiff, Nat.reduceEqDiff, Nat.reduceAdd, Nat.reduceMul, Nat.reduceSub, reduceCtorEq, Int.reduceLT, Int.reduceLE, Int.reduceEq, Int.reduceToNat, decide_true, decide_false, Int.reduceNeg, Int.cast_ofNat_Int, sg, AO.sg, Option.isNone_none, c1, encI_len, encS_len]
    try simp
  cases c2 : decide ((names.length : Int) < a)
  rotate_left
  · have e1 := of_decide_eq_true c2
    have c3 : decide ((names.length : Int) = a) = false := by rw [decide_eq_false_iff_not]; omega
    have c4 : decide (a < (names.length : Int)) = false := by rw [decide_eq_false_iff_not]; omega
    simp only [go_sem, ↓reduceIte, Nat.reduceLT, Nat.reduceLeDiff, Nat.reduceEqDiff, Nat.reduceAdd, Nat.reduceMul, Nat.reduceSub, reduceCtorEq, Int.reduceLT, Int.reduceLE, Int.reduceEq, Int.reduceToNat, decide_true, decide_false, Int.reduceNeg, Int.cast_ofNat_Int, sg, AO.sg, Option.isNone_none, c1, c2, encI_len, encS_len]
    try simp [c3, c4]
  have e2 := of_decide_eq_false c2
  have hpq : ∀ Q : Bool, (decide (a < (names.length : Int)) && !decide (word = 2)) = false → ((decide ((names.length : Int) = a) || (decide (a < (names.length : Int)) && decide (word = 2))) && Q) = Q := by
    intro Q hq
    cases c3 : decide (a < (names.length : Int)) <;> cases c4 : decide (word = 2)
    · have : decide ((names.length : Int) = a) = true := by have := of_decide_eq_false c3; rw [decide_eq_true_iff]; omega
      simp [this]
    · have : decide ((names.length : Int) = a) = true := by have := of_decide_eq_false c3; rw [decide_eq_true_iff]; omega
      simp [this]
    · simp [c3, c4] at hq
    · simp
  have hpz : (decide (a < (names.length : Int)) && !decide (word = 2)) = true → ∀ Q : Bool, ((decide ((names.length : Int) = a) || (decide (a < (names.length : Int)) && decide (word = 2))) && Q) = false := by
    intro hq Q
    simp only [Bool.and_eq_true, Bool.not_eq_true', decide_eq_true_eq, decide_eq_false_iff_not] at hq
    have : decide ((names.length : Int) = a) = false := by rw [decide_eq_false_iff_not]; omega
    simp [this, hq.2]
  cases hq : (decide (a < (names.length : Int)) && !decide (word = 2))
  rotate_left
  · rw [hpz hq]
    rw [Bool.and_eq_true, Bool.not_eq_true'] at hq
    simp only [go_sem, ↓reduceIte, Nat.reduceLT, Nat.reduceLeDiff, Nat.reduceEqDiff, Nat.reduceAdd, Nat.reduceMul, Nat.reduceSub, reduceCtorEq, Int.reduceLT, Int.reduceLE, Int.reduceEq, Int.reduceToNat, decide_true, decide_false, Int.reduceNeg, Int.cast_ofNat_Int, sg, AO.sg, Option.isNone_none, c1, c2, hq.1, hq.2, encI_len, encS_len]
    try rfl
  rw [hpq _ hq]
  cases c3 : decide (a < (names.length : Int)) <;> cases c4 : decide (word = 2)
  case true.false => rw [c3, c4] at hq; cases hq
  all_goals
    simp only [go_sem, ↓reduceIte, Nat.reduceLT, Nat.reduceLeDiff, Nat.reduceEqDiff, Nat.reduceAdd, Nat.reduceMul, Nat.reduceSub, reduceCtorEq, Int.reduceLT, Int.reduceLE, Int.reduceEq, Int.reduceToNat, decide_true, decide_false, Int.reduceNeg, Int.cast_ofNat_Int, sg, AO.sg, Option.isNone_none, c1, c2, c3, c4, encI_len, encS_len]
    refine X_loop_inv (fun i : Nat => ⟨[(1, .ptr 1 0), (5, .p (.int .i64 (i : Nat)))], [(1, .box [.p (.int .i64 word), .p (.int .i64 line), .p (.sl (encS names)), .p (.sl (encI nums))])], 80⟩)
      (fun i => i ≤ names.length ∧ (names.take i).all nameB = true) (fun i => names.length - i) 0 ⟨Nat.zero_le _, by simp⟩ (Wk.forget (by simp [Le, LeE, LeH, get, envIds, hpIds, KeepH, D.ids, idsL, AO.ids, setL, base])) ?_
    rintro i n ⟨hi, ha⟩ ih
    cases c5 : decide ((i : Int) < (names.length : Int))
    · have : i = names.length := by have := of_decide_eq_false c5; omega
      subst this
      clear ih
      rw [List.take_length] at ha
      simp only [go_sem, ↓reduceIte, Nat.reduceLT, Nat.reduceLeDiff, Nat.reduceEqDiff, Nat.reduceAdd, Nat.reduceMul, Nat.reduceSub, reduceCtorEq, Int.reduceLT, Int.reduceLE, Int.reduceEq, Int.reduceToNat, decide_true, decide_false, Int.reduceNeg, Int.cast_ofNat_Int, sg, AO.sg, Option.isNone_none, c5, encS_len]
      rw [ha]
      refine X_loop_inv (fun i : Nat => ⟨[(1, .ptr 1 0), (6, .p (.int .i64 (i : Nat)))], [(1, .box [.p (.int .i64 word), .p (.int .i64 line), .p (.sl (encS names)), .p (.sl (encI nums))])], 80⟩)
        (fun i => i ≤ nums.length ∧ (nums.take i).all (fun n => !(decide (n < -9999) || decide (9999 < n))) = true) (fun i => nums.length - i) 0 ⟨Nat.zero_le _, by simp⟩ (Wk.forget (by simp [Le, LeE, LeH, get, envIds, hpIds, KeepH, D.ids, idsL, AO.ids, setL, base])) ?_
      rintro i n ⟨hi, hb⟩ ih
      cases c6 : decide ((i : Int) < (nums.length : Int))
      · have : i = nums.length := by have := of_decide_eq_false c6; omega
        subst this
        rw [List.take_length] at hb
        simp only [go_sem, ↓reduceIte, Nat.reduceLT, Nat.reduceLeDiff, Nat.reduceEqDiff, Nat.reduceAdd, Nat.reduceMul, Nat.reduceSub, reduceCtorEq, Int.reduceLT, Int.reduceLE, Int.reduceEq, Int.reduceToNat, decide_true, decide_false, Int.reduceNeg, Int.cast_ofNat_Int, sg, AO.sg, Option.isNone_none, c6, encI_len]
        rw [hb]
        try rfl
      · have hit : i < nums.length := by have := of_decide_eq_true c6; omega
        have hg := encI_get nums i hit
        have hi0 : (0 : Int) ≤ (i : Int) ∧ (i : Int) < (nums.length : Int) := by omega
        have hts := take_snoc nums i 0 hit
        have hall : ∀ y, nums.getD i 0 = y → (!(decide (y < -9999) || decide (9999 < y))) = false → nums.all (fun n => !(decide (n < -9999) || decide (9999 < n))) = false := by
          intro y hy hf
          rw [List.all_eq_false]
          exact ⟨_, getD_mem nums i 0 hit, by rw [hy, hf]; simp⟩
        generalize nums.getD i 0 = y at *
        cases c7 : decide (y < -9999)
        · cases c8 : decide (9999 < y)
          · simp only [go_sem, ↓reduceIte, Nat.reduceLT, Nat.reduceLeDiff, Nat.reduceEqDiff, Nat.reduceAdd, Nat.reduceMul, Nat.reduceSub, reduceCtorEq, Int.reduceLT, Int.reduceLE, Int.reduceEq, Int.reduceToNat, decide_true, decide_false, Int.reduceNeg, Int.cast_ofNat_Int, sg, AO.sg, Option.isNone_none, c6, encI_len, Int.toNat_natCast, hg, hi0, c7, c8, wrap_succ i (by omega)]
            refine ih (i + 1) _ ⟨hit, by rw [hts, List.all_append, hb]; simp [c7, c8]⟩ (by omega) (Wk.forget (by simp [Le, LeE, LeH, get, envIds, hpIds, KeepH, D.ids, idsL, AO.ids, setL, base]))
          · simp only [go_sem, ↓reduceIte, Nat.reduceLT, Nat.reduceLeDiff, Nat.reduceEqDiff, Nat.reduceAdd, Nat.reduceMul, Nat.reduceSub, reduceCtorEq, Int.reduceLT, Int.reduceLE, Int.reduceEq, Int.reduceToNat, decide_true, decide_false, Int.reduceNeg, Int.cast_ofNat_Int, sg, AO.sg, Option.isNone_none, c6, encI_len, Int.toNat_natCast, hg, hi0, c7, c8]
            rw [hall y rfl (by rw [c7, c8]; rfl)]
            try rfl
        · simp only [go_sem, ↓reduceIte, Nat.reduceLT, Nat.reduceLeDiff, Nat.reduceEqDiff, Nat.reduceAdd, Nat.reduceMul, Nat.reduceSub, reduceCtorEq, Int.reduceLT, Int.reduceLE, Int.reduceEq, Int.reduceToNat, decide_true, decide_false, Int.reduceNeg, Int.cast_ofNat_Int, sg, AO.sg, Option.isNone_none, c6, encI_len, Int.toNat_natCast, hg, hi0, c7]
          rw [hall y rfl (by rw [c7]; rfl)]
          try rfl
    · have hit : i < names.length := by have := of_decide_eq_true c5; omega
      have hg := encS_get names i hit
      have hi0 : (0 : Int) ≤ (i : Int) ∧ (i : Int) < (names.length : Int) := by omega
      have hts := take_snoc names i [] hit
      have hall : ∀ y, names.getD i [] = y → nameB y = false → names.all nameB = false := by
        intro y hy hf
        rw [List.all_eq_false]
        exact ⟨_, getD_mem names i [] hit, by rw [hy, hf]; simp⟩
      generalize names.getD i [] = y at *
      simp only [go_sem, ↓reduceIte, Nat.reduceLT, Nat.reduceLeDiff, Nat.reduceEqDiff, Nat.reduceAdd, Nat.reduceMul, Nat.reduceSub, reduceCtorEq, Int.reduceLT, Int.reduceLE, Int.reduceEq, Int.reduceToNat, decide_true, decide_false, Int.reduceNeg, Int.cast_ofNat_Int, sg, AO.sg, Option.isNone_none, c5, encS_len, Int.toNat_natCast, hg, hi0]
      refine Cc_of ((name2_ok y)) ?_
      rintro h' r ⟨rfl, rfl⟩
      cases c6 : nameB y
      · simp only [go_sem, ↓reduceIte, Nat.reduceLT, Nat.reduceLeDiff, Nat.reduceEqDiff, Nat.reduceAdd, Nat.reduceMul, Nat.reduceSub, reduceCtorEq, Int.reduceLT, Int.reduceLE, Int.reduceEq, Int.reduceToNat, decide_true, decide_false, Int.reduceNeg, Int.cast_ofNat_Int, sg, AO.sg, Option.isNone_none]
        rw [hall y rfl c6]
        try rfl
      · simp only [go_sem, ↓reduceIte, Nat.reduceLT, Nat.reduceLeDiff, Nat.reduceEqDiff, Nat.reduceAdd, Nat.reduceMul, Nat.reduceSub, reduceCtorEq, Int.reduceLT, Int.reduceLE, Int.reduceEq, Int.reduceToNat, decide_true, decide_false, Int.reduceNeg, Int.cast_ofNat_Int, sg, AO.sg, Option.isNone_none, wrap_succ i (by omega)]
        refine ih (i + 1) _ ⟨hit, by rw [hts, List.all_append, ha]; simp [c6]⟩ (by omega) (Wk.forget (by simp [Le, LeE, LeH, get, envIds, hpIds, KeepH, D.ids, idsL, AO.ids, setL, base]))
theorem fmtr_ok (d : List Dc) (hd : d.length ≤ 10000000) (hs : ∀ x ∈ d, x.names.length ≤ 10000000 ∧ x.nums.length ≤ 10000000) :
    ACalls Tryd.prog 26 [.p (.sl (encC d))] [] fun h r => h = [] ∧ r = fmtR (fmtV d []) := by
  refine ACalls_X Tryd.func26 rfl enters26 (by simp [Tryd.f26]) ?_
  simp only [go_sem, ↓reduceIte, Nat.reduceLT, Nat.reduceLeDiff, Nat.reduceEqDiff, Nat.reduceAdd, Nat.reduceMul, Nat.reduceSub, reduceCtorEq, Int.reduceLT, Int.reduceLE, Int.reduceEq, Int.reduceToNat, decide_true, decide_false, Int.reduceNeg, Int.cast_ofNat_Int, sg, AO.sg, Option.isNone_none, encC_len]
  refine X_loop_inv (fun q : Nat × List Ln => ⟨[(0, .p (.sl (encC d))), (5, .p (.int .i64 (q.1 : Nat))), (4, .ref 66 0 q.2.length q.2.length)], [(66, .arr 72 2 (encL q.2))], 68⟩)
    (fun q => q.1 ≤ d.length ∧ q.2.length ≤ q.1 ∧ fmtV (d.drop q.1) q.2 = fmtV d []) (fun q => d.length - q.1) (0, []) ⟨Nat.zero_le _, by simp, by simp⟩ ((Wk.nil (t := 4) (q := 66) (sz := 2) 72 rfl rfl (by decide)).trans (Wk.forget (by simp [Le, LeE, LeH, get, envIds, hpIds, KeepH, D.ids, idsL, AO.ids, setL, base, encL]))) ?_
  rintro ⟨i, acc⟩ n ⟨hi, ha, he⟩ ih
  simp only at hi ha he
  cases c1 : decide ((i : Int) < (d.length : Int))
  · have : i = d.length := by have := of_decide_eq_false c1; omega
    subst this
    simp only [go_sem, ↓reduceIte, Nat.reduceLT, Nat.reduceLeDiff, Nat.reduceEqDiff, Nat.reduceAdd, Nat.reduceMul, Nat.reduceSub, reduceCtorEq, Int.reduceLT, Int.reduceLE, Int.reduceEq, Int.reduceToNat, decide_true, decide_false, Int.reduceNeg, Int.cast_ofNat_Int, sg, AO.sg, Option.isNone_none, encC_len, c1]
    refine end_pure ?_
    simp only [go_sem, ↓reduceIte, Nat.reduceLT, Nat.reduceLeDiff, Nat.reduceEqDiff, Nat.reduceAdd, Nat.reduceMul, Nat.reduceSub, reduceCtorEq, Int.reduceLT, Int.reduceLE, Int.reduceEq, Int.reduceToNat, decide_true, decide_false, Int.reduceNeg, Int.cast_ofNat_Int, sg, AO.sg, Option.isNone_none]
    rw [List.drop_length] at he
    simp only [fmtV] at he
    rw [← he, encL_take _ _ (Nat.le_refl _)]
    exact ⟨(encL_len acc).symm, rfl⟩
  have hlt : i < d.length := by have := of_decide_eq_true c1; omega
  have hw := wrap_succ i (by omega)
  have hdropi := drop_getD d i dc0 hlt
  rw [hdropi] at he
  have hx := hs _ (getD_mem d i dc0 hlt)
  have hg := encC_get d i hlt
  generalize hxe : d.getD i dc0 = x at *
  have hi0 : (0 : Int) ≤ (i : Int) ∧ (i : Int) < (d.length : Int) := by omega
  simp only [go_sem, ↓reduceIte, Nat.reduceLT, Nat.reduceLeDiff, Nat.reduceEqDiff, Nat.reduceAdd, Nat.reduceMul, Nat.reduceSub, reduceCtorEq, Int.reduceLT, Int.reduceLE, Int.reduceEq, Int.reduceToNat, decide_true, decide_false, Int.reduceNeg, Int.cast_ofNat_Int, sg, AO.sg, Option.isNone_none, encC_len, Int.toNat_natCast, hg, hi0, c1]
  refine Cc_of ((validr_ok x ⟨hx.1, hx.2⟩)) ?_
  rintro h' r ⟨rfl, rfl⟩
  cases hv : validV x
  · simp only [go_sem, ↓reduceIte, Nat.reduceLT, Nat.reduceLeDiff, Nat.reduceEqDiff, Nat.reduceAdd, Nat.reduceMul, Nat.reduceSub, reduceCtorEq, Int.reduceLT, Int.reduceLE, Int.reduceEq, Int.reduceToNat, decide_true, decide_false, Int.reduceNeg, Int.cast_ofNat_Int, sg, AO.sg, Option.isNone_none]
    refine end_pure ?_
    simp only [go_sem, ↓reduceIte, Nat.reduceLT, Nat.reduceLeDiff, Nat.reduceEqDiff, Nat.reduceAdd, Nat.reduceMul, Nat.reduceSub, reduceCtorEq, Int.reduceLT, Int.reduceLE, Int.reduceEq, Int.reduceToNat, decide_true, decide_false, Int.reduceNeg, Int.cast_ofNat_Int, sg, AO.sg, Option.isNone_none]
    simp only [fmtV, hv] at he
    rw [← he]
    rfl
  obtain ⟨hw1, hw2, hw3, hw4, hw5⟩ := (valid_iff x).1 hv
  obtain ⟨word, line, names, nums⟩ := x
  simp only at hw1 hw2 hw3 hw4 hw5 hx hg
  obtain ⟨j, rfl⟩ : ∃ j : Nat, word = (j : Int) := ⟨word.toNat, by omega⟩
  have hfw : [[Pd.str (formJ j).word]] ++ encS names = encS ((formJ j).word :: names) := rfl
  have hwid : Wid 1 (encS names) := by simp [Wid, encS]
  simp only [go_sem, ↓reduceIte, Nat.reduceLT, Nat.reduceLeDiff, Nat.reduceEqDiff, Nat.reduceAdd, Nat.reduceMul, Nat.reduceSub, reduceCtorEq, Int.reduceLT, Int.reduceLE, Int.reduceEq, Int.reduceToNat, decide_true, decide_false, Int.reduceNeg, Int.cast_ofNat_Int, sg, AO.sg, Option.isNone_none]
  refine X_any0 mixed (p := [(0, 0), (1, 0), (2, 0), (3, 0), (4, 0), (5, 0), (6, 0), (7, 0), (8, 0), (9, 0), (12, 0), (13, 0), (14, 0), (15, 0), (16, 0), (19, 1), (10, 2), (11, 1), (17, 2), (18, 0), (20, 3)]) (by kernel_rfl) (by simp [LeH, get]) ?_
  simp only [go_sem, ↓reduceIte, Nat.reduceLT, Nat.reduceLeDiff, Nat.reduceEqDiff, Nat.reduceAdd, Nat.reduceMul, Nat.reduceSub, reduceCtorEq, Int.reduceLT, Int.reduceLE, Int.reduceEq, Int.reduceToNat, decide_true, decide_false, Int.reduceNeg, Int.cast_ofNat_Int, sg, AO.sg, Option.isNone_none, encC_len, Int.toNat_natCast, hg, hi0]
  refine Gh_of ((textr_ok j (by omega) (by omega))) ?_
  rintro h' r ⟨rfl, rfl⟩
  simp only [go_sem, ↓reduceIte, Nat.reduceLT, Nat.reduceLeDiff, Nat.reduceEqDiff, Nat.reduceAdd, Nat.reduceMul, Nat.reduceSub, reduceCtorEq, Int.reduceLT, Int.reduceLE, Int.reduceEq, Int.reduceToNat, decide_true, decide_false, Int.reduceNeg, Int.cast_ofNat_Int, sg, AO.sg, Option.isNone_none, encC_len, Int.toNat_natCast, hg, hi0, hfw, encS_len]
  refine ⟨⟨hwid, by omega, by omega⟩, ?_⟩
  refine X_loop_inv (fun q : Nat × List (List UInt8) => ⟨[(0, .p (.sl (encC d))), (5, .p (.int .i64 (i : Nat))), (4, .ref 66 0 acc.length acc.length), (6, .ptr 6 0), (7, .p (.int .i64 (q.1 : Nat)))],
      [(6, .box [.p (.int .i64 line), .ref 31 0 q.2.length q.2.length]), (31, .arr 9 1 (encS q.2)), (66, .arr 72 2 (encL acc))], 68⟩)
    (fun q => q.1 ≤ nums.length ∧ q.2.length ≤ 10000001 + q.1 ∧ q.2 ++ (nums.drop q.1).map digV = formLine ⟨j, line, names, nums⟩) (fun q => nums.length - q.1) (0, (formJ j).word :: names) ⟨Nat.zero_le _, by simp; omega, by simp [formLine]⟩
    (Wk.forget (by simp [Le, LeE, LeH, get, envIds, hpIds, KeepH, D.ids, idsL, AO.ids, setL, base, encI_len, encS])) ?_
  rintro ⟨m, fs⟩ n2 ⟨hm, hfs, he2⟩ ih2
  simp only at hm hfs he2
  cases c2 : decide ((m : Int) < (nums.length : Int))
  rotate_left
  · have hmt : m < nums.length := by have := of_decide_eq_true c2; omega
    have hwm := wrap_succ m (by omega)
    have hgm := encI_get nums m hmt
    have hnm := hw5 _ (getD_mem nums m 0 hmt)
    rw [drop_getD nums m 0 hmt] at he2
    generalize hk : nums.getD m 0 = k at *
    have hm0 : (0 : Int) ≤ (m : Int) ∧ (m : Int) < (nums.length : Int) := by omega
    simp only [go_sem, ↓reduceIte, Nat.reduceLT, Nat.reduceLeDiff, Nat.reduceEqDiff, Nat.reduceAdd, Nat.reduceMul, Nat.reduceSub, reduceCtorEq, Int.reduceLT, Int.reduceLE, Int.reduceEq, Int.reduceToNat, decide_true, decide_false, Int.reduceNeg, Int.cast_ofNat_Int, sg, AO.sg, Option.isNone_none, encI_len, encC_len, Int.toNat_natCast, hg, hi0, hgm, hm0, c2]
    refine X_any [(6, .box [.p (.int .i64 line), .ref 31 0 fs.length fs.length])] mixed (p := [(0, 0), (1, 0), (2, 0), (3, 0), (4, 0), (5, 0), (6, 0), (7, 0), (8, 0), (9, 0), (10, 2), (11, 1), (12, 2), (13, 0), (14, 3)]) (by kernel_rfl) (by simp [LeH, get]) ?_
    simp only [go_sem, ↓reduceIte, Nat.reduceLT, Nat.reduceLeDiff, Nat.reduceEqDiff, Nat.reduceAdd, Nat.reduceMul, Nat.reduceSub, reduceCtorEq, Int.reduceLT, Int.reduceLE, Int.reduceEq, Int.reduceToNat, decide_true, decide_false, Int.reduceNeg, Int.cast_ofNat_Int, sg, AO.sg, Option.isNone_none, encI_len, encC_len, Int.toNat_natCast, hg, hi0, hgm, hm0]
    refine Gh_of ((digits_ok k (by omega) (by omega))) ?_
    rintro h' r ⟨rfl, rfl⟩
    simp only [go_sem, ↓reduceIte, Nat.reduceLT, Nat.reduceLeDiff, Nat.reduceEqDiff, Nat.reduceAdd, Nat.reduceMul, Nat.reduceSub, reduceCtorEq, Int.reduceLT, Int.reduceLE, Int.reduceEq, Int.reduceToNat, decide_true, decide_false, Int.reduceNeg, Int.cast_ofNat_Int, sg, AO.sg, Option.isNone_none, encS_len]
    refine ⟨⟨wid1 _ _ rfl, by omega⟩, ?_⟩
    simp only [go_sem, ↓reduceIte, Nat.reduceLT, Nat.reduceLeDiff, Nat.reduceEqDiff, Nat.reduceAdd, Nat.reduceMul, Nat.reduceSub, reduceCtorEq, Int.reduceLT, Int.reduceLE, Int.reduceEq, Int.reduceToNat, decide_true, decide_false, Int.reduceNeg, Int.cast_ofNat_Int, sg, AO.sg, Option.isNone_none, hwm]
    refine ih2 (m + 1, fs ++ [digV k]) _ ⟨hmt, by simp; omega, by rw [← he2]; simp⟩ (by simp only; omega) ?_
    (refine Wk.forget ?_; simp [Le, LeE, LeH, get, envIds, hpIds, KeepH, D.ids, idsL, AO.ids, setL, base, encS_snoc, encS_len]; done)
  · have hml : m = nums.length := by have := of_decide_eq_false c2; omega
    subst hml
    simp only [List.drop_length, List.map_nil, List.append_nil] at he2
    simp only [go_sem, ↓reduceIte, Nat.reduceLT, Nat.reduceLeDiff, Nat.reduceEqDiff, Nat.reduceAdd, Nat.reduceMul, Nat.reduceSub, reduceCtorEq, Int.reduceLT, Int.reduceLE, Int.reduceEq, Int.reduceToNat, decide_true, decide_false, Int.reduceNeg, Int.cast_ofNat_Int, sg, AO.sg, Option.isNone_none, encS_len, encL_len, encI_len, encC_len, Int.toNat_natCast, hg, hi0, encS_take fs fs.length (Nat.le_refl _), hw, c2]
    refine ⟨⟨wid1 _ _ rfl, by omega⟩, ?_⟩
    simp only [fmtV, hv, if_true] at he
    refine ih (i + 1, acc ++ [⟨line, fs⟩]) _ ⟨hlt, by simp; omega, by rw [he2]; exact he⟩ (by simp only; omega) ?_
    (refine Wk.forget ?_; simp [Le, LeE, LeH, get, envIds, hpIds, KeepH, D.ids, idsL, AO.ids, setL, base, encL_snoc, encL_len]; done)
end Go.Am
