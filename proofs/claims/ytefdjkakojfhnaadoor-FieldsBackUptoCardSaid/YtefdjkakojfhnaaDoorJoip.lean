/- fields.Join. -/
import Derived.Test.YtefdjkakojfhnaaDoorShlf
namespace Go.Am
open Go Go.Proofs
set_option maxRecDepth 100000
set_option linter.unusedVariables false
set_option linter.unusedSimpArgs false
def joinR (r : List UInt8 × Int) : D := .tup [.p (.str r.1), .p (.int .i64 r.2)]
theorem take_two (a b : D) : List.take 2 [a, b] = [a, b] := rfl
/-- The state of Join's second loop. -/
def joinS (l : List Ln) (i : Nat) (at_ : Nat) (txt : List UInt8) : St :=
  ⟨[(10, .ptr 10 0), (11, .p (.int .i64 (at_ : Nat))), (57, .p (.sl (encL l))), (58, .p (.int .i64 (l.length : Nat))), (59, .p (.int .i64 (i : Nat)))],
    match i with
    | 0 => [(10, .box [.np, .cl []] 105)]
    | _ + 1 => [(10, .box [.ptr 10 0, .ref 10073 0 txt.length txt.length] 105), (10073, .arr 5 1 (encB txt))], 79⟩
theorem join1_ok (l : List Ln) (hl : l.length ≤ 4000000 ∧ ∀ x ∈ l, x.fs.length ≤ 4000000 ∧ x.num ≤ 9223372036854775807) : ACalls Tryd.prog 33 [.p (.sl (encL l))] [] fun h r => h = [] ∧ r = joinR (joinV l) := by
  obtain ⟨hl, hz⟩ := hl
  refine ACalls_X Tryd.func33 rfl enters33 (by simp [Tryd.f33]) ?_
  simp only [go_sem, ↓reduceIte, Nat.reduceLT, Nat.reduceLeDiff, Nat.reduceEqDiff, Nat.reduceAdd, Nat.reduceMul, Nat.reduceSub, reduceCtorEq, Int.reduceLT, Int.reduceLE, Int.reduceEq, Int.reduceToNat, decide_true, decide_false, Int.reduceNeg, Int.cast_ofNat_Int, sg, AO.sg, Option.isNone_none, encL_len]
  refine X_loop_inv (fun q : Nat × Int × Nat => ⟨[(0, .p (.sl (encL l))), (4, .p (.int .i64 q.2.1)), (5, .p (.int .i64 (q.2.2 : Nat))), (14, .p (.sl (encL l))), (15, .p (.int .i64 (l.length : Nat))), (16, .p (.int .i64 (q.1 : Nat)))], [], 79⟩)
    (fun q => q.1 ≤ l.length ∧ 0 ≤ q.2.1 ∧ q.2.2 ≤ 60000000 * q.1 ∧ formB q.2.1 (l.drop q.1) = formB 0 l ∧ lastL q.2.1 (l.drop q.1) = lastL 0 l ∧ (formB 0 l = true → q.2.2 + szL (l.drop q.1) = szL l)) (fun q => l.length - q.1) (0, 0, 0)
    ⟨Nat.zero_le _, by simp, by simp, by simp, by simp, by simp⟩ (Wk.forget (by simp [Le, LeE, LeH, get, envIds, hpIds, KeepH, D.ids, idsL, AO.ids, setL, base])) ?_
  rintro ⟨i, last, sz⟩ n ⟨hi, hlast, hsz, hf, hla, hszl⟩ ih
  simp only at hi hlast hsz hf hla hszl
  simp only [go_sem, ↓reduceIte, Nat.reduceLT, Nat.reduceLeDiff, Nat.reduceEqDiff, Nat.reduceAdd, Nat.reduceMul, Nat.reduceSub, reduceCtorEq, Int.reduceLT, Int.reduceLE, Int.reduceEq, Int.reduceToNat, decide_true, decide_false, Int.reduceNeg, Int.cast_ofNat_Int, sg, AO.sg, Option.isNone_none]
  refine Cn_split (fun h1 => ?_) (fun h1 => ?_)
  · have hlt : i < l.length := by simp at h1; omega
    have hi0 : (0 : Int) ≤ (i : Int) ∧ (i : Int) < (l.length : Int) := by omega
    have hw := wrap_succ i (by omega)
    have hg := encL_get l i hlt
    have hzx := hz _ (getD_mem l i ln0 hlt)
    rw [drop_getD l i ln0 hlt] at hf hla hszl
    generalize l.getD i ln0 = x at *
    obtain ⟨num, fs⟩ := x
    simp only at hg hzx
    simp only [go_sem, ↓reduceIte, Nat.reduceLT, Nat.reduceLeDiff, Nat.reduceEqDiff, Nat.reduceAdd, Nat.reduceMul, Nat.reduceSub, reduceCtorEq, Int.reduceLT, Int.reduceLE, Int.reduceEq, Int.reduceToNat, decide_true, decide_false, Int.reduceNeg, Int.cast_ofNat_Int, sg, AO.sg, Option.isNone_none, encL_len, Int.toNat_natCast, hg, hi0, take_two, encS_len]
    have bad : formB last (⟨num, fs⟩ :: l.drop (i + 1)) = false → joinV l = ([], 20) := by
      intro h
      rw [hf] at h
      simp [joinV, h]
    cases c1 : decide (num ≤ last)
    rotate_left
    · simp only [go_sem, ↓reduceIte, Nat.reduceLT, Nat.reduceLeDiff, Nat.reduceEqDiff, Nat.reduceAdd, Nat.reduceMul, Nat.reduceSub, reduceCtorEq, Int.reduceLT, Int.reduceLE, Int.reduceEq, Int.reduceToNat, decide_true, decide_false, Int.reduceNeg, Int.cast_ofNat_Int, sg, AO.sg, Option.isNone_none, c1]
      rw [bad (by have := of_decide_eq_true c1; simp [formB]; omega)]
      refine end_pure ?_
      simp only [go_sem, ↓reduceIte, Nat.reduceLT, Nat.reduceLeDiff, Nat.reduceEqDiff, Nat.reduceAdd, Nat.reduceMul, Nat.reduceSub, reduceCtorEq, Int.reduceLT, Int.reduceLE, Int.reduceEq, Int.reduceToNat, decide_true, decide_false, Int.reduceNeg, Int.cast_ofNat_Int, sg, AO.sg, Option.isNone_none]
      rfl
    have hnl := of_decide_eq_false c1
    cases c2 : decide ((fs.length : Int) = 0)
    rotate_left
    · simp only [go_sem, ↓reduceIte, Nat.reduceLT, Nat.reduceLeDiff, Nat.reduceEqDiff, Nat.reduceAdd, Nat.reduceMul, Nat.reduceSub, reduceCtorEq, Int.reduceLT, Int.reduceLE, Int.reduceEq, Int.reduceToNat, decide_true, decide_false, Int.reduceNeg, Int.cast_ofNat_Int, sg, AO.sg, Option.isNone_none, c1, c2, encS_len]
      rw [bad (by have := of_decide_eq_true c2; have : fs = [] := List.eq_nil_of_length_eq_zero (by omega); simp [formB, this])]
      refine end_pure ?_
      simp only [go_sem, ↓reduceIte, Nat.reduceLT, Nat.reduceLeDiff, Nat.reduceEqDiff, Nat.reduceAdd, Nat.reduceMul, Nat.reduceSub, reduceCtorEq, Int.reduceLT, Int.reduceLE, Int.reduceEq, Int.reduceToNat, decide_true, decide_false, Int.reduceNeg, Int.cast_ofNat_Int, sg, AO.sg, Option.isNone_none]
      rfl
    have hfl := of_decide_eq_false c2
    have hfne : fs ≠ [] := by rintro rfl; simp at hfl
    simp only [go_sem, ↓reduceIte, Nat.reduceLT, Nat.reduceLeDiff, Nat.reduceEqDiff, Nat.reduceAdd, Nat.reduceMul, Nat.reduceSub, reduceCtorEq, Int.reduceLT, Int.reduceLE, Int.reduceEq, Int.reduceToNat, decide_true, decide_false, Int.reduceNeg, Int.cast_ofNat_Int, sg, AO.sg, Option.isNone_none, c1, c2, encS_len]
    refine X_loop_inv (fun q : Nat × Nat => ⟨[(0, .p (.sl (encL l))), (4, .p (.int .i64 num)), (5, .p (.int .i64 (q.2 : Nat))), (14, .p (.sl (encL l))), (15, .p (.int .i64 (l.length : Nat))), (16, .p (.int .i64 (i : Nat))), (33, .p (.sl (encS fs))), (34, .p (.int .i64 (fs.length : Nat))), (35, .p (.int .i64 (q.1 : Nat)))], [], 79⟩)
      (fun q => q.1 ≤ fs.length ∧ q.2 ≤ sz + 13 * q.1 ∧ q.2 + szF (fs.drop q.1) = sz + szF fs ∧ (fs.drop q.1).all propB = fs.all propB) (fun q => fs.length - q.1) (0, sz) ⟨Nat.zero_le _, by simp, by simp, by simp⟩ (Wk.forget (by simp [Le, LeE, LeH, get, envIds, hpIds, KeepH, D.ids, idsL, AO.ids, setL, base])) ?_
    rintro ⟨j, sz2⟩ n2 ⟨hj, hs2, hse, hal⟩ ih2
    simp only at hj hs2 hse hal
    simp only [go_sem, ↓reduceIte, Nat.reduceLT, Nat.reduceLeDiff, Nat.reduceEqDiff, Nat.reduceAdd, Nat.reduceMul, Nat.reduceSub, reduceCtorEq, Int.reduceLT, Int.reduceLE, Int.reduceEq, Int.reduceToNat, decide_true, decide_false, Int.reduceNeg, Int.cast_ofNat_Int, sg, AO.sg, Option.isNone_none]
    refine Cn_split (fun h2 => ?_) (fun h2 => ?_)
    · have hjt : j < fs.length := by simp at h2; omega
      have hj0 : (0 : Int) ≤ (j : Int) ∧ (j : Int) < (fs.length : Int) := by omega
      have hwj := wrap_succ j (by omega)
      have hgj := encS_get fs j hjt
      rw [drop_getD fs j [] hjt] at hse hal
      generalize fs.getD j [] = s at *
      simp only [go_sem, ↓reduceIte, Nat.reduceLT, Nat.reduceLeDiff, Nat.reduceEqDiff, Nat.reduceAdd, Nat.reduceMul, Nat.reduceSub, reduceCtorEq, Int.reduceLT, Int.reduceLE, Int.reduceEq, Int.reduceToNat, decide_true, decide_false, Int.reduceNeg, Int.cast_ofNat_Int, sg, AO.sg, Option.isNone_none, encS_len, Int.toNat_natCast, hgj, hj0]
      refine Cc_of (proper_ok s) ?_
      rintro h' r ⟨rfl, rfl⟩
      cases hp : propB s
      · simp only [go_sem, ↓reduceIte, Nat.reduceLT, Nat.reduceLeDiff, Nat.reduceEqDiff, Nat.reduceAdd, Nat.reduceMul, Nat.reduceSub, reduceCtorEq, Int.reduceLT, Int.reduceLE, Int.reduceEq, Int.reduceToNat, decide_true, decide_false, Int.reduceNeg, Int.cast_ofNat_Int, sg, AO.sg, Option.isNone_none, hp]
        have : fs.all propB = false := by rw [← hal]; simp [hp]
        rw [bad (by simp [formB, this])]
        refine end_pure ?_
        simp only [go_sem, ↓reduceIte, Nat.reduceLT, Nat.reduceLeDiff, Nat.reduceEqDiff, Nat.reduceAdd, Nat.reduceMul, Nat.reduceSub, reduceCtorEq, Int.reduceLT, Int.reduceLE, Int.reduceEq, Int.reduceToNat, decide_true, decide_false, Int.reduceNeg, Int.cast_ofNat_Int, sg, AO.sg, Option.isNone_none]
        rfl
      · have hs12 := (propB_iff.1 hp).2.1
        simp only [szF] at hse
        simp only [List.all_cons, hp, Bool.true_and] at hal
        have hw1 : IntKind.i64.wrap ((s.length : Int) + 1) = ((s.length + 1 : Nat) : Int) := wrap_succ _ (by omega)
        have hw2 : IntKind.i64.wrap ((sz2 : Int) + ((s.length + 1 : Nat) : Int)) = ((sz2 + (s.length + 1) : Nat) : Int) := by rw [wrap_i64_id] <;> omega
        simp only [go_sem, ↓reduceIte, Nat.reduceLT, Nat.reduceLeDiff, Nat.reduceEqDiff, Nat.reduceAdd, Nat.reduceMul, Nat.reduceSub, reduceCtorEq, Int.reduceLT, Int.reduceLE, Int.reduceEq, Int.reduceToNat, decide_true, decide_false, Int.reduceNeg, Int.cast_ofNat_Int, sg, AO.sg, Option.isNone_none, hp, hw1, hw2, hwj]
        refine ih2 (j + 1, sz2 + (s.length + 1)) _ ⟨hjt, by simp only; omega, by simp only; omega, hal⟩ (by simp only; omega) (Wk.forget (by simp [Le, LeE, LeH, get, envIds, hpIds, KeepH, D.ids, idsL, AO.ids, setL, base]))
    · have hjl : j = fs.length := by simp at h2; omega
      subst hjl
      simp only [List.drop_length, szF, List.all_nil, Nat.add_zero] at hse hal
      simp only [go_sem, ↓reduceIte, Nat.reduceLT, Nat.reduceLeDiff, Nat.reduceEqDiff, Nat.reduceAdd, Nat.reduceMul, Nat.reduceSub, reduceCtorEq, Int.reduceLT, Int.reduceLE, Int.reduceEq, Int.reduceToNat, decide_true, decide_false, Int.reduceNeg, Int.cast_ofNat_Int, sg, AO.sg, Option.isNone_none, hw]
      have hfb : formB last (⟨num, fs⟩ :: l.drop (i + 1)) = formB num (l.drop (i + 1)) := by
        have : last < num := by omega
        simp [formB, this, hfne, ← hal]
      refine ih (i + 1, num, sz2) _ ⟨hlt, by simp only; omega, by have := hzx.1; simp only; omega, by simp only; rw [← hf, hfb], by simp only; rw [← hla]; rfl, fun h => ?_⟩ (by simp only; omega) (Wk.forget (by simp [Le, LeE, LeH, get, envIds, hpIds, KeepH, D.ids, idsL, AO.ids, setL, base]))
      have := hszl h
      simp only [szL] at this
      simp only
      omega
  · have hieq : i = l.length := by simp at h1; omega
    subst hieq
    simp only [List.drop_length, formB, lastL, szL, Nat.add_zero] at hf hla hszl
    have hform := hf.symm
    have hsz2 := hszl hform
    clear hf hszl ih
    have hjt := join_test l hform
    rw [← hla, ← hsz2] at hjt
    have hw1 : IntKind.i64.wrap ((sz : Int) - (l.length : Int)) = (sz : Int) - l.length := by rw [wrap_i64_id] <;> omega
    have hmin : (if (6001 : Int) < last then 6001 else last) = min last 6001 := by split <;> omega
    have hw2 : IntKind.i64.wrap (6000 - (if (6001 : Int) < last then 6001 else last)) = 6000 - min last 6001 := by rw [hmin, wrap_i64_id] <;> omega
    simp only [go_sem, ↓reduceIte, Nat.reduceLT, Nat.reduceLeDiff, Nat.reduceEqDiff, Nat.reduceAdd, Nat.reduceMul, Nat.reduceSub, reduceCtorEq, Int.reduceLT, Int.reduceLE, Int.reduceEq, Int.reduceToNat, decide_true, decide_false, Int.reduceNeg, Int.cast_ofNat_Int, sg, AO.sg, Option.isNone_none, encL_len, hw1, hw2]
    by_cases hbig : (6000 : Int) - min last 6001 < (sz : Int) - (l.length : Int)
    · simp only [go_sem, ↓reduceIte, Nat.reduceLT, Nat.reduceLeDiff, Nat.reduceEqDiff, Nat.reduceAdd, Nat.reduceMul, Nat.reduceSub, reduceCtorEq, Int.reduceLT, Int.reduceLE, Int.reduceEq, Int.reduceToNat, decide_true, decide_false, Int.reduceNeg, Int.cast_ofNat_Int, sg, AO.sg, Option.isNone_none, hbig]
      have := hjt.2 hbig
      rw [show joinV l = ([], 1) by simp [joinV, hform, this]]
      refine end_pure ?_
      simp only [go_sem, ↓reduceIte, Nat.reduceLT, Nat.reduceLeDiff, Nat.reduceEqDiff, Nat.reduceAdd, Nat.reduceMul, Nat.reduceSub, reduceCtorEq, Int.reduceLT, Int.reduceLE, Int.reduceEq, Int.reduceToNat, decide_true, decide_false, Int.reduceNeg, Int.cast_ofNat_Int, sg, AO.sg, Option.isNone_none]
      rfl
    · have hsmall : ¬ 6000 < (textL 1 l).length := fun h => hbig (hjt.1 h)
      have hjv : joinV l = (textL 1 l, 0) := by simp [joinV, hform, hsmall]
      rw [hjv]
      simp only [go_sem, ↓reduceIte, Nat.reduceLT, Nat.reduceLeDiff, Nat.reduceEqDiff, Nat.reduceAdd, Nat.reduceMul, Nat.reduceSub, reduceCtorEq, Int.reduceLT, Int.reduceLE, Int.reduceEq, Int.reduceToNat, decide_true, decide_false, Int.reduceNeg, Int.cast_ofNat_Int, sg, AO.sg, Option.isNone_none, hbig, encL_len]
      refine X_loop_inv (fun q : Nat × Nat × List UInt8 => joinS l q.1 q.2.1 q.2.2)
        (fun q => q.1 ≤ l.length ∧ (1 ≤ q.2.1 ∧ q.2.1 ≤ q.2.2.length + 1) ∧ formB ((q.2.1 - 1 : Nat) : Int) (l.drop q.1) = true ∧ q.2.2 ++ textL q.2.1 (l.drop q.1) = textL 1 l ∧ (q.1 = 0 → q.2.2 = []) ∧ (q.1 ≠ 0 → q.2.2 ≠ [])) (fun q => l.length - q.1) (0, 1, [])
        ⟨Nat.zero_le _, by simp, by simpa using hform, by simp, by simp, by simp⟩ (Wk.forget (by simp [Le, LeE, LeH, get, envIds, hpIds, KeepH, D.ids, idsL, AO.ids, setL, base, joinS])) ?_
      rintro ⟨k, at_, txt⟩ n ⟨hk, hat, hfk, htx, hk0, hk1⟩ ih
      simp only at hk hat hfk htx hk0 hk1
      by_cases hlt : k < l.length
      · have hki : (k : Int) < (l.length : Int) := by omega
        have hki0 : (0 : Int) ≤ (k : Int) := by omega
        have hw := wrap_succ k (by omega)
        have hg := encL_get l k hlt
        have hzx := hz _ (getD_mem l k ln0 hlt)
        rw [drop_getD l k ln0 hlt] at hfk htx
        generalize l.getD k ln0 = x at *
        obtain ⟨num, fs⟩ := x
        obtain ⟨f1, f2, f3, f4⟩ := formB_cons.1 hfk
        simp only at hg hzx f1 f2 f3 f4
        obtain ⟨m, rfl⟩ : ∃ m : Nat, num = (m : Int) := ⟨num.toNat, by omega⟩
        simp only [textL, Int.toNat_natCast] at htx
        have hlen := congrArg List.length htx
        simp only [List.length_append, List.length_replicate, List.length_cons] at hlen
        have hwl := wordsV_len fs f2
        have hle : at_ ≤ m := by clear hw1 hw2 hjt; omega
        have hws : IntKind.i64.wrap ((m : Int) - (at_ : Int)) = ((m - at_ : Nat) : Int) := by
          have := hzx.2
          clear hw1 hw2 hjt hmin
          rw [wrap_i64_id] <;> omega
        have hm6 : m ≤ 10000 := by clear hw1 hw2 hjt hmin; omega
        have hwm : IntKind.i64.wrap ((m : Int) + 1) = ((m + 1 : Nat) : Int) := by rw [wrap_i64_id] <;> omega
        have hm1 : ((m + 1 - 1 : Nat) : Int) = (m : Int) := by omega
        have hst : List.replicate (m - at_) (10 : UInt8) ++ wordsV fs ++ [10] = List.replicate (m - at_) 10 ++ (wordsV fs ++ [10]) := by simp
        generalize hs : List.replicate (m - at_) (10 : UInt8) ++ wordsV fs ++ [10] = s at *
        have hsne : s ≠ [] := by rw [← hs]; simp
        have hsl : s.length ≤ 6000 := by rw [← hs]; simp; omega
        have hsl2 : m + 1 ≤ (txt ++ s).length + 1 := by rw [← hs]; simp; omega
        have hnext : (txt ++ s) ++ textL (m + 1) (l.drop (k + 1)) = textL 1 l := by rw [← htx, ← hs]; simp
        cases k with
        | zero =>
          have htx0 := hk0 rfl
          subst htx0
          simp only [joinS]
          have hkz : (0 : Int) < (l.length : Int) := by omega
          have hkz0 : (0 : Int) ≤ (0 : Int) := by omega
          simp only [go_sem, ↓reduceIte, Nat.reduceLT, Nat.reduceLeDiff, Nat.reduceEqDiff, Nat.reduceAdd, Nat.reduceMul, Nat.reduceSub, reduceCtorEq, Int.reduceLT, Int.reduceLE, Int.reduceEq, Int.reduceToNat, decide_true, decide_false, Int.reduceNeg, Int.cast_ofNat_Int, sg, AO.sg, Option.isNone_none, encL_len, Int.toNat_natCast, hkz, hkz0, hg, take_two, Int.reduceToNat]
          refine X_any0 mixed (p := [(0, 0), (1, 0), (2, 0), (3, 0), (5, 0), (6, 0), (4, 2), (7, 2), (8, 0), (9, 0), (10, 3)]) (by kernel_rfl) (by simp [LeH, get]) ?_
          simp only [go_sem, ↓reduceIte, Nat.reduceLT, Nat.reduceLeDiff, Nat.reduceEqDiff, Nat.reduceAdd, Nat.reduceMul, Nat.reduceSub, reduceCtorEq, Int.reduceLT, Int.reduceLE, Int.reduceEq, Int.reduceToNat, decide_true, decide_false, Int.reduceNeg, Int.cast_ofNat_Int, sg, AO.sg, Option.isNone_none, hws]
          refine Gh_of ((repeat_ok 10 (m - at_) (by omega))) ?_
          rintro h' r ⟨rfl, rfl⟩
          simp only [go_sem, ↓reduceIte, Nat.reduceLT, Nat.reduceLeDiff, Nat.reduceEqDiff, Nat.reduceAdd, Nat.reduceMul, Nat.reduceSub, reduceCtorEq, Int.reduceLT, Int.reduceLE, Int.reduceEq, Int.reduceToNat, decide_true, decide_false, Int.reduceNeg, Int.cast_ofNat_Int, sg, AO.sg, Option.isNone_none]
          refine Gh_of ((joinw_ok fs f2 (by omega) (by omega))) ?_
          rintro h' r ⟨rfl, rfl⟩
          simp only [go_sem, ↓reduceIte, Nat.reduceLT, Nat.reduceLeDiff, Nat.reduceEqDiff, Nat.reduceAdd, Nat.reduceMul, Nat.reduceSub, reduceCtorEq, Int.reduceLT, Int.reduceLE, Int.reduceEq, Int.reduceToNat, decide_true, decide_false, Int.reduceNeg, Int.cast_ofNat_Int, sg, AO.sg, Option.isNone_none, hs]
          refine ⟨by unfold maxLen; first | omega | (simp; omega), by unfold maxLen; first | omega | (simp; omega), ?_⟩
          refine Gh_of ((bwrite_fresh s hsne (by omega))) ?_
          rintro h' r ⟨rfl, rfl⟩
          have hw11 : IntKind.i64.wrap 1 = 1 := rfl
          simp only [go_sem, ↓reduceIte, Nat.reduceLT, Nat.reduceLeDiff, Nat.reduceEqDiff, Nat.reduceAdd, Nat.reduceMul, Nat.reduceSub, reduceCtorEq, Int.reduceLT, Int.reduceLE, Int.reduceEq, Int.reduceToNat, decide_true, decide_false, Int.reduceNeg, Int.cast_ofNat_Int, sg, AO.sg, Option.isNone_none, hwm, hw, hw11]
          refine ih (0 + 1, m + 1, s) _ ⟨hlt, ⟨by simp only; omega, by simpa using hsl2⟩, by first | (simp only [hm1]; exact f4) | (rw [hm1]; exact f4), by simpa using hnext, by simp, fun _ => hsne⟩ (by first | omega | (simp only; omega)) (Wk.forget (by simp [Le, LeE, LeH, get, envIds, hpIds, KeepH, D.ids, idsL, AO.ids, setL, base, joinS, hw11]))
        | succ k =>
          have htne := hk1 (by omega)
          simp only [joinS]
          simp only [go_sem, ↓reduceIte, Nat.reduceLT, Nat.reduceLeDiff, Nat.reduceEqDiff, Nat.reduceAdd, Nat.reduceMul, Nat.reduceSub, reduceCtorEq, Int.reduceLT, Int.reduceLE, Int.reduceEq, Int.reduceToNat, decide_true, decide_false, Int.reduceNeg, Int.cast_ofNat_Int, sg, AO.sg, Option.isNone_none, encL_len, Int.toNat_natCast, hki, hki0, hg, take_two]
          refine X_any0 mixed (p := [(0, 0), (1, 0), (2, 0), (3, 0), (5, 0), (6, 0), (4, 2), (7, 2), (8, 0), (9, 0), (10, 3)]) (by kernel_rfl) (by simp [LeH, get]) ?_
          simp only [go_sem, ↓reduceIte, Nat.reduceLT, Nat.reduceLeDiff, Nat.reduceEqDiff, Nat.reduceAdd, Nat.reduceMul, Nat.reduceSub, reduceCtorEq, Int.reduceLT, Int.reduceLE, Int.reduceEq, Int.reduceToNat, decide_true, decide_false, Int.reduceNeg, Int.cast_ofNat_Int, sg, AO.sg, Option.isNone_none, hws]
          refine Gh_of ((repeat_ok 10 (m - at_) (by omega))) ?_
          rintro h' r ⟨rfl, rfl⟩
          simp only [go_sem, ↓reduceIte, Nat.reduceLT, Nat.reduceLeDiff, Nat.reduceEqDiff, Nat.reduceAdd, Nat.reduceMul, Nat.reduceSub, reduceCtorEq, Int.reduceLT, Int.reduceLE, Int.reduceEq, Int.reduceToNat, decide_true, decide_false, Int.reduceNeg, Int.cast_ofNat_Int, sg, AO.sg, Option.isNone_none]
          refine Gh_of ((joinw_ok fs f2 (by omega) (by omega))) ?_
          rintro h' r ⟨rfl, rfl⟩
          simp only [go_sem, ↓reduceIte, Nat.reduceLT, Nat.reduceLeDiff, Nat.reduceEqDiff, Nat.reduceAdd, Nat.reduceMul, Nat.reduceSub, reduceCtorEq, Int.reduceLT, Int.reduceLE, Int.reduceEq, Int.reduceToNat, decide_true, decide_false, Int.reduceNeg, Int.cast_ofNat_Int, sg, AO.sg, Option.isNone_none, hs]
          refine ⟨by unfold maxLen; first | omega | (simp; omega), by unfold maxLen; first | omega | (simp; omega), ?_⟩
          refine Gh_of ((bwrite_used txt s (by have := congrArg List.length hnext; simp at this; omega))) ?_
          rintro h' r ⟨rfl, rfl⟩
          simp only [go_sem, ↓reduceIte, Nat.reduceLT, Nat.reduceLeDiff, Nat.reduceEqDiff, Nat.reduceAdd, Nat.reduceMul, Nat.reduceSub, reduceCtorEq, Int.reduceLT, Int.reduceLE, Int.reduceEq, Int.reduceToNat, decide_true, decide_false, Int.reduceNeg, Int.cast_ofNat_Int, sg, AO.sg, Option.isNone_none, hwm, hw]
          refine ih (k + 1 + 1, m + 1, txt ++ s) _ ⟨hlt, ⟨by simp only; omega, hsl2⟩, by simp only [hm1]; exact f4, hnext, by simp, fun _ => by simp [htne]⟩ (by simp only; omega) (Wk.forget (by simp [Le, LeE, LeH, get, envIds, hpIds, KeepH, D.ids, idsL, AO.ids, setL, base, joinS]))
      · have hkl : k = l.length := by omega
        have hki : ¬ (k : Int) < (l.length : Int) := by omega
        rw [List.drop_of_length_le (by omega)] at htx
        simp only [textL, List.append_nil] at htx
        rw [← htx]
        cases k with
        | zero =>
          have htx0 := hk0 rfl
          subst htx0
          simp only [joinS]
          have hkz : ¬ (0 : Int) < (l.length : Int) := by omega
          simp only [go_sem, ↓reduceIte, Nat.reduceLT, Nat.reduceLeDiff, Nat.reduceEqDiff, Nat.reduceAdd, Nat.reduceMul, Nat.reduceSub, reduceCtorEq, Int.reduceLT, Int.reduceLE, Int.reduceEq, Int.reduceToNat, decide_true, decide_false, Int.reduceNeg, Int.cast_ofNat_Int, sg, AO.sg, Option.isNone_none, hkz]
          refine Cc_of ((bstring_nil (T := 105) (by decide))) ?_
          rintro h' r ⟨rfl, rfl⟩
          simp only [go_sem, ↓reduceIte, Nat.reduceLT, Nat.reduceLeDiff, Nat.reduceEqDiff, Nat.reduceAdd, Nat.reduceMul, Nat.reduceSub, reduceCtorEq, Int.reduceLT, Int.reduceLE, Int.reduceEq, Int.reduceToNat, decide_true, decide_false, Int.reduceNeg, Int.cast_ofNat_Int, sg, AO.sg, Option.isNone_none]
          refine end_pure ?_
          simp only [go_sem, ↓reduceIte, Nat.reduceLT, Nat.reduceLeDiff, Nat.reduceEqDiff, Nat.reduceAdd, Nat.reduceMul, Nat.reduceSub, reduceCtorEq, Int.reduceLT, Int.reduceLE, Int.reduceEq, Int.reduceToNat, decide_true, decide_false, Int.reduceNeg, Int.cast_ofNat_Int, sg, AO.sg, Option.isNone_none]
          rfl
        | succ k =>
          simp only [joinS]
          simp only [go_sem, ↓reduceIte, Nat.reduceLT, Nat.reduceLeDiff, Nat.reduceEqDiff, Nat.reduceAdd, Nat.reduceMul, Nat.reduceSub, reduceCtorEq, Int.reduceLT, Int.reduceLE, Int.reduceEq, Int.reduceToNat, decide_true, decide_false, Int.reduceNeg, Int.cast_ofNat_Int, sg, AO.sg, Option.isNone_none, hki]
          refine Cc_of ((bstring_ok (hk1 (by omega)))) ?_
          rintro h' r ⟨rfl, rfl⟩
          simp only [go_sem, ↓reduceIte, Nat.reduceLT, Nat.reduceLeDiff, Nat.reduceEqDiff, Nat.reduceAdd, Nat.reduceMul, Nat.reduceSub, reduceCtorEq, Int.reduceLT, Int.reduceLE, Int.reduceEq, Int.reduceToNat, decide_true, decide_false, Int.reduceNeg, Int.cast_ofNat_Int, sg, AO.sg, Option.isNone_none]
          refine end_pure ?_
          simp only [go_sem, ↓reduceIte, Nat.reduceLT, Nat.reduceLeDiff, Nat.reduceEqDiff, Nat.reduceAdd, Nat.reduceMul, Nat.reduceSub, reduceCtorEq, Int.reduceLT, Int.reduceLE, Int.reduceEq, Int.reduceToNat, decide_true, decide_false, Int.reduceNeg, Int.cast_ofNat_Int, sg, AO.sg, Option.isNone_none]
          rfl
end Go.Am
