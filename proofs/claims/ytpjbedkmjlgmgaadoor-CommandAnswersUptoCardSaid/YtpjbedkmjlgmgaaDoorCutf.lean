/- fields.cut. -/
import Derived.Test.YtpjbedkmjlgmgaaDoorSplt
namespace Go.Am
open Go Go.Proofs
set_option maxRecDepth 100000
set_option linter.unusedVariables false
set_option linter.unusedSimpArgs false
def allB (c : Int) : Bool := decide (32 < c) && (decide (c ≤ 126) && !decide (c = 35))
theorem allowed1_ok (c : Int) : ACalls Tryd.prog 45 [.p (.int .u8 c)] [] fun h r => h = [] ∧ r = .p (.bool (allB c)) := by
  refine ACalls_X Tryd.func45 rfl enters45 (by simp [Tryd.f45]) ?_
  by_cases h1 : 32 < c
  · by_cases h2 : c ≤ 126
    · simp only [go_sem, ↓reduceIte, Nat.reduceLT, Nat.reduceLeDiff, Nat.reduceEqDiff, Nat.reduceAdd, Nat.reduceMul, Nat.reduceSub, reduceCtorEq, Int.reduceLT, Int.reduceLE, Int.reduceEq, Int.reduceToNat, decide_true, decide_false, Int.reduceNeg, Int.cast_ofNat_Int, sg, AO.sg, Option.isNone_none, h1, h2]
      simp [allB, h1, h2]
    · simp only [go_sem, ↓reduceIte, Nat.reduceLT, Nat.reduceLeDiff, Nat.reduceEqDiff, Nat.reduceAdd, Nat.reduceMul, Nat.reduceSub, reduceCtorEq, Int.reduceLT, Int.reduceLE, Int.reduceEq, Int.reduceToNat, decide_true, decide_false, Int.reduceNeg, Int.cast_ofNat_Int, sg, AO.sg, Option.isNone_none, h1, h2]
      simp [allB, h1, h2]
  · simp only [go_sem, ↓reduceIte, Nat.reduceLT, Nat.reduceLeDiff, Nat.reduceEqDiff, Nat.reduceAdd, Nat.reduceMul, Nat.reduceSub, reduceCtorEq, Int.reduceLT, Int.reduceLE, Int.reduceEq, Int.reduceToNat, decide_true, decide_false, Int.reduceNeg, Int.cast_ofNat_Int, sg, AO.sg, Option.isNone_none, h1]
    simp [allB, h1]
/-- The fields of a line: what is read of the present field, and the fields before it. -/
def fld : List UInt8 → Option (List UInt8) → List (List UInt8) → List (List UInt8) × Int
  | [], none, acc => (acc, 0)
  | [], some cur, acc => (acc ++ [cur], 0)
  | b :: r, c, acc =>
    if (b.toNat : Int) = 35 then (acc ++ c.toList, 0)
    else if (b.toNat : Int) = 32 ∨ (b.toNat : Int) = 9 then fld r none (acc ++ c.toList)
    else if allB b.toNat then (if (c.getD []).length = 12 then ([], 3) else fld r (some (c.getD [] ++ [b])) acc)
    else ([], 2)
theorem fld_start (b : UInt8) (r : List UInt8) (acc : List (List UInt8)) (h1 : ¬ (b.toNat : Int) = 35) (h2 : ¬ (b.toNat : Int) = 32) (h3 : ¬ (b.toNat : Int) = 9) : fld (b :: r) none acc = fld (b :: r) (some []) acc := by
  simp [fld, h1, h2, h3]
theorem fld_flush (t : List UInt8) (cur : List UInt8) (acc : List (List UInt8)) (h : ∀ b r, t = b :: r → (b.toNat : Int) = 35 ∨ (b.toNat : Int) = 32 ∨ (b.toNat : Int) = 9) : fld t (some cur) acc = fld t none (acc ++ [cur]) := by
  cases t with
  | nil => simp [fld]
  | cons b r =>
    rcases h b r rfl with h | h | h <;> simp [fld, h]
theorem cut1_ok (s : List UInt8) (hs : s.length ≤ 100000000) : ACalls Tryd.prog 34 [.p (.str s)] [] fun h r => h = [] ∧ r = .tup [.p (.sl (encS (fld s none []).1)), .p (.int .i64 (fld s none []).2)] := by
  refine ACalls_X Tryd.func34 rfl enters34 (by simp [Tryd.f34]) ?_
  simp only [go_sem, ↓reduceIte, Nat.reduceLT, Nat.reduceLeDiff, Nat.reduceEqDiff, Nat.reduceAdd, Nat.reduceMul, Nat.reduceSub, reduceCtorEq, Int.reduceLT, Int.reduceLE, Int.reduceEq, Int.reduceToNat, decide_true, decide_false, Int.reduceNeg, Int.cast_ofNat_Int, sg, AO.sg, Option.isNone_none]
  refine X_scope_inv (fun q : Bool × Nat × Nat × List (List UInt8) => if q.1 then 1 else 0)
    (fun q => ⟨[(0, .p (.str s)), (2, .cl []), (4, .ref 59 0 q.2.2.2.length q.2.2.2.length), (5, .p (.int .i64 (q.2.1 : Nat))), (6, .p (.int .i64 (q.2.2.1 : Nat)))], [(59, .arr 9 1 (encS q.2.2.2))], 71⟩)
    (fun q => q.2.2.1 ≤ q.2.1 ∧ q.2.1 ≤ s.length ∧ (q.1 = true → q.2.1 ≤ q.2.2.1 + 12 ∧ q.2.2.1 < q.2.1 ∧ q.2.2.2.length ≤ q.2.2.1) ∧ q.2.2.2.length ≤ q.2.1 ∧ fld (s.drop q.2.1) (if q.1 then some ((s.take q.2.1).drop q.2.2.1) else none) q.2.2.2 = fld s none [])
    (fun q => 2 * (s.length - q.2.1) + (if q.1 then 1 else 0)) (2 * s.length + 2) ?_ ?_
  · intro n ih
    simp only [go_sem, ↓reduceIte, Nat.reduceLT, Nat.reduceLeDiff, Nat.reduceEqDiff, Nat.reduceAdd, Nat.reduceMul, Nat.reduceSub, reduceCtorEq, Int.reduceLT, Int.reduceLE, Int.reduceEq, Int.reduceToNat, decide_true, decide_false, Int.reduceNeg, Int.cast_ofNat_Int, sg, AO.sg, Option.isNone_none]
    cases hend : decide ((0 : Int) = (s.length : Int))
    rotate_left
    · have hend' : 0 = s.length := by have := of_decide_eq_true hend; omega
      simp only [go_sem, ↓reduceIte, Nat.reduceLT, Nat.reduceLeDiff, Nat.reduceEqDiff, Nat.reduceAdd, Nat.reduceMul, Nat.reduceSub, reduceCtorEq, Int.reduceLT, Int.reduceLE, Int.reduceEq, Int.reduceToNat, decide_true, decide_false, Int.reduceNeg, Int.cast_ofNat_Int, sg, AO.sg, Option.isNone_none, hend]
      refine end_pure ?_
      simp only [go_sem, ↓reduceIte, Nat.reduceLT, Nat.reduceLeDiff, Nat.reduceEqDiff, Nat.reduceAdd, Nat.reduceMul, Nat.reduceSub, reduceCtorEq, Int.reduceLT, Int.reduceLE, Int.reduceEq, Int.reduceToNat, decide_true, decide_false, Int.reduceNeg, Int.cast_ofNat_Int, sg, AO.sg, Option.isNone_none]
      rw [List.eq_nil_of_length_eq_zero hend'.symm]
      simp [fld, encS]
    have hlt : 0 < s.length := by have := of_decide_eq_false hend; omega
    have hdrop : s = s.getD 0 0 :: s.drop 1 := by have := drop_getD s 0 0 hlt; simpa using this
    have he : fld (s.getD 0 0 :: s.drop 1) none [] = fld s none [] := by rw [← hdrop]
    have hil : (0 : Int) < (s.length : Int) := by omega
    have hi0 : (0 : Int) ≤ (0 : Int) := by omega
    have hw : IntKind.i64.wrap ((0 : Int) + 1) = (((0 + 1 : Nat)) : Int) := by rw [wrap_i64_id] <;> omega
    have hw0 : IntKind.i64.wrap ((0 : Int) - 0) = 0 := by rw [Int.sub_self]; rfl
    have htk : (s.take (0 + 1)).drop 0 = [s.getD 0 0] := by rw [List.drop_take, drop_getD s _ 0 hlt]; simp
    generalize hb : s.getD 0 0 = b at *
    generalize hc : (b.toNat : Int) = c at *
    cases h35 : decide (c = 35)
    rotate_left
    · simp only [go_sem, ↓reduceIte, Nat.reduceLT, Nat.reduceLeDiff, Nat.reduceEqDiff, Nat.reduceAdd, Nat.reduceMul, Nat.reduceSub, reduceCtorEq, Int.reduceLT, Int.reduceLE, Int.reduceEq, Int.reduceToNat, decide_true, decide_false, Int.reduceNeg, Int.cast_ofNat_Int, sg, AO.sg, Option.isNone_none, Int.toNat_natCast, hend, hil, hi0, hb, hc, h35, Int.reduceToNat, Nat.reduceAdd]
      refine end_pure ?_
      simp only [go_sem, ↓reduceIte, Nat.reduceLT, Nat.reduceLeDiff, Nat.reduceEqDiff, Nat.reduceAdd, Nat.reduceMul, Nat.reduceSub, reduceCtorEq, Int.reduceLT, Int.reduceLE, Int.reduceEq, Int.reduceToNat, decide_true, decide_false, Int.reduceNeg, Int.cast_ofNat_Int, sg, AO.sg, Option.isNone_none]
      have := of_decide_eq_true h35
      rw [← he]
      simp [fld, hc, this, encS_len, encS_take, encS]
    have h35' := of_decide_eq_false h35
    cases h32 : decide (c = 32)
    · cases h9 : decide (c = 9)
      · have h32' := of_decide_eq_false h32
        have h9' := of_decide_eq_false h9
        simp only [go_sem, ↓reduceIte, Nat.reduceLT, Nat.reduceLeDiff, Nat.reduceEqDiff, Nat.reduceAdd, Nat.reduceMul, Nat.reduceSub, reduceCtorEq, Int.reduceLT, Int.reduceLE, Int.reduceEq, Int.reduceToNat, decide_true, decide_false, Int.reduceNeg, Int.cast_ofNat_Int, sg, AO.sg, Option.isNone_none, Int.toNat_natCast, hend, hil, hi0, hb, hc, h35, h32, h9]
        refine Cc_of (allowed1_ok c) ?_
        rintro h' r ⟨rfl, rfl⟩
        cases hal : allB c
        · simp only [go_sem, ↓reduceIte, Nat.reduceLT, Nat.reduceLeDiff, Nat.reduceEqDiff, Nat.reduceAdd, Nat.reduceMul, Nat.reduceSub, reduceCtorEq, Int.reduceLT, Int.reduceLE, Int.reduceEq, Int.reduceToNat, decide_true, decide_false, Int.reduceNeg, Int.cast_ofNat_Int, sg, AO.sg, Option.isNone_none, hal]
          refine end_pure ?_
          simp only [go_sem, ↓reduceIte, Nat.reduceLT, Nat.reduceLeDiff, Nat.reduceEqDiff, Nat.reduceAdd, Nat.reduceMul, Nat.reduceSub, reduceCtorEq, Int.reduceLT, Int.reduceLE, Int.reduceEq, Int.reduceToNat, decide_true, decide_false, Int.reduceNeg, Int.cast_ofNat_Int, sg, AO.sg, Option.isNone_none]
          rw [← he]
          simp [fld, hc, h35', h32', h9', hal, encS]
        · simp only [go_sem, ↓reduceIte, Nat.reduceLT, Nat.reduceLeDiff, Nat.reduceEqDiff, Nat.reduceAdd, Nat.reduceMul, Nat.reduceSub, reduceCtorEq, Int.reduceLT, Int.reduceLE, Int.reduceEq, Int.reduceToNat, decide_true, decide_false, Int.reduceNeg, Int.cast_ofNat_Int, sg, AO.sg, Option.isNone_none, hal, hw, hw0]
          refine ih (true, 0 + 1, 0, []) _ ⟨by simp only; omega, by simp only; omega, (fun _ => by simp only [List.length_nil]; omega), by simp only [List.length_nil]; omega, ?_⟩ (by simp only [if_true]; omega) ?_
          · rw [← he]
            simp only [if_true, htk]
            simp [fld, hc, h35', h32', h9', hal]
          · exact (Wk.nil (t := 4) (q := 59) (sz := 1) 9 rfl rfl (by decide)).trans (Wk.forget (by simp [Le, LeE, LeH, get, envIds, hpIds, KeepH, D.ids, idsL, AO.ids, setL, base, encS]))
      · have h9' := of_decide_eq_true h9
        simp only [go_sem, ↓reduceIte, Nat.reduceLT, Nat.reduceLeDiff, Nat.reduceEqDiff, Nat.reduceAdd, Nat.reduceMul, Nat.reduceSub, reduceCtorEq, Int.reduceLT, Int.reduceLE, Int.reduceEq, Int.reduceToNat, decide_true, decide_false, Int.reduceNeg, Int.cast_ofNat_Int, sg, AO.sg, Option.isNone_none, Int.toNat_natCast, hend, hil, hi0, hb, hc, h35, h32, h9, hw]
        refine ih (false, 0 + 1, 0, []) _ ⟨by simp only; omega, by simp only; omega, (fun h => by cases h), by simp only [List.length_nil]; omega, ?_⟩ (by simp; omega) ?_
        · rw [← he]
          simp [fld, hc, h9']
        · exact (Wk.nil (t := 4) (q := 59) (sz := 1) 9 rfl rfl (by decide)).trans (Wk.forget (by simp [Le, LeE, LeH, get, envIds, hpIds, KeepH, D.ids, idsL, AO.ids, setL, base, encS]))
    · have h32' := of_decide_eq_true h32
      simp only [go_sem, ↓reduceIte, Nat.reduceLT, Nat.reduceLeDiff, Nat.reduceEqDiff, Nat.reduceAdd, Nat.reduceMul, Nat.reduceSub, reduceCtorEq, Int.reduceLT, Int.reduceLE, Int.reduceEq, Int.reduceToNat, decide_true, decide_false, Int.reduceNeg, Int.cast_ofNat_Int, sg, AO.sg, Option.isNone_none, Int.toNat_natCast, hend, hil, hi0, hb, hc, h35, h32, hw]
      refine ih (false, 0 + 1, 0, []) _ ⟨by simp only; omega, by simp only; omega, (fun h => by cases h), by simp only [List.length_nil]; omega, ?_⟩ (by simp; omega) ?_
      · rw [← he]
        simp [fld, hc, h32']
      · exact (Wk.nil (t := 4) (q := 59) (sz := 1) 9 rfl rfl (by decide)).trans (Wk.forget (by simp [Le, LeE, LeH, get, envIds, hpIds, KeepH, D.ids, idsL, AO.ids, setL, base, encS]))
  · rintro ⟨lab, at_, bg, acc⟩ n ⟨hbg, hat, h12, hacc, he⟩ ih
    simp only at hbg hat h12 hacc he
    cases lab
    · simp only [Bool.false_eq_true, if_false] at he
      refine ⟨_, rfl, ?_⟩
      simp only [go_sem, ↓reduceIte, Nat.reduceLT, Nat.reduceLeDiff, Nat.reduceEqDiff, Nat.reduceAdd, Nat.reduceMul, Nat.reduceSub, reduceCtorEq, Int.reduceLT, Int.reduceLE, Int.reduceEq, Int.reduceToNat, decide_true, decide_false, Int.reduceNeg, Int.cast_ofNat_Int, sg, AO.sg, Option.isNone_none]
      cases hend : decide ((at_ : Int) = (s.length : Int))
      rotate_left
      · have hend' : at_ = s.length := by have := of_decide_eq_true hend; omega
        simp only [go_sem, ↓reduceIte, Nat.reduceLT, Nat.reduceLeDiff, Nat.reduceEqDiff, Nat.reduceAdd, Nat.reduceMul, Nat.reduceSub, reduceCtorEq, Int.reduceLT, Int.reduceLE, Int.reduceEq, Int.reduceToNat, decide_true, decide_false, Int.reduceNeg, Int.cast_ofNat_Int, sg, AO.sg, Option.isNone_none, hend]
        refine end_pure ?_
        simp only [go_sem, ↓reduceIte, Nat.reduceLT, Nat.reduceLeDiff, Nat.reduceEqDiff, Nat.reduceAdd, Nat.reduceMul, Nat.reduceSub, reduceCtorEq, Int.reduceLT, Int.reduceLE, Int.reduceEq, Int.reduceToNat, decide_true, decide_false, Int.reduceNeg, Int.cast_ofNat_Int, sg, AO.sg, Option.isNone_none]
        rw [← he, List.drop_of_length_le (by omega)]
        simp [fld, encS_len, encS_take]
      have hlt : at_ < s.length := by have := of_decide_eq_false hend; omega
      rw [drop_getD s at_ 0 hlt] at he
      have hil : (at_ : Int) < (s.length : Int) := by omega
      have hi0 : (0 : Int) ≤ (at_ : Int) := by omega
      have hw : IntKind.i64.wrap ((at_ : Int) + 1) = (((at_ + 1 : Nat)) : Int) := by rw [wrap_i64_id] <;> omega
      have hw0 : IntKind.i64.wrap ((at_ : Int) - at_) = 0 := by rw [Int.sub_self]; rfl
      have htk : (s.take (at_ + 1)).drop at_ = [s.getD at_ 0] := by rw [List.drop_take, drop_getD s _ 0 hlt]; simp
      generalize hb : s.getD at_ 0 = b at *
      generalize hc : (b.toNat : Int) = c at *
      cases h35 : decide (c = 35)
      rotate_left
      · simp only [go_sem, ↓reduceIte, Nat.reduceLT, Nat.reduceLeDiff, Nat.reduceEqDiff, Nat.reduceAdd, Nat.reduceMul, Nat.reduceSub, reduceCtorEq, Int.reduceLT, Int.reduceLE, Int.reduceEq, Int.reduceToNat, decide_true, decide_false, Int.reduceNeg, Int.cast_ofNat_Int, sg, AO.sg, Option.isNone_none, Int.toNat_natCast, hend, hil, hi0, hb, hc, h35]
        refine end_pure ?_
        simp only [go_sem, ↓reduceIte, Nat.reduceLT, Nat.reduceLeDiff, Nat.reduceEqDiff, Nat.reduceAdd, Nat.reduceMul, Nat.reduceSub, reduceCtorEq, Int.reduceLT, Int.reduceLE, Int.reduceEq, Int.reduceToNat, decide_true, decide_false, Int.reduceNeg, Int.cast_ofNat_Int, sg, AO.sg, Option.isNone_none]
        have := of_decide_eq_true h35
        rw [← he]
        simp [fld, hc, this, encS_len, encS_take]
      have h35' := of_decide_eq_false h35
      cases h32 : decide (c = 32)
      · cases h9 : decide (c = 9)
        · have h32' := of_decide_eq_false h32
          have h9' := of_decide_eq_false h9
          simp only [go_sem, ↓reduceIte, Nat.reduceLT, Nat.reduceLeDiff, Nat.reduceEqDiff, Nat.reduceAdd, Nat.reduceMul, Nat.reduceSub, reduceCtorEq, Int.reduceLT, Int.reduceLE, Int.reduceEq, Int.reduceToNat, decide_true, decide_false, Int.reduceNeg, Int.cast_ofNat_Int, sg, AO.sg, Option.isNone_none, Int.toNat_natCast, hend, hil, hi0, hb, hc, h35, h32, h9]
          refine Cc_of (allowed1_ok c) ?_
          rintro h' r ⟨rfl, rfl⟩
          cases hal : allB c
          · simp only [go_sem, ↓reduceIte, Nat.reduceLT, Nat.reduceLeDiff, Nat.reduceEqDiff, Nat.reduceAdd, Nat.reduceMul, Nat.reduceSub, reduceCtorEq, Int.reduceLT, Int.reduceLE, Int.reduceEq, Int.reduceToNat, decide_true, decide_false, Int.reduceNeg, Int.cast_ofNat_Int, sg, AO.sg, Option.isNone_none, hal]
            refine end_pure ?_
            simp only [go_sem, ↓reduceIte, Nat.reduceLT, Nat.reduceLeDiff, Nat.reduceEqDiff, Nat.reduceAdd, Nat.reduceMul, Nat.reduceSub, reduceCtorEq, Int.reduceLT, Int.reduceLE, Int.reduceEq, Int.reduceToNat, decide_true, decide_false, Int.reduceNeg, Int.cast_ofNat_Int, sg, AO.sg, Option.isNone_none]
            rw [← he]
            simp [fld, hc, h35', h32', h9', hal, encS]
          · simp only [go_sem, ↓reduceIte, Nat.reduceLT, Nat.reduceLeDiff, Nat.reduceEqDiff, Nat.reduceAdd, Nat.reduceMul, Nat.reduceSub, reduceCtorEq, Int.reduceLT, Int.reduceLE, Int.reduceEq, Int.reduceToNat, decide_true, decide_false, Int.reduceNeg, Int.cast_ofNat_Int, sg, AO.sg, Option.isNone_none, hal, hw, hw0]
            refine ih (true, at_ + 1, at_, acc) _ ⟨by simp only; omega, by simp only; omega, (fun _ => by simp only [List.length_nil]; omega), by simp only [List.length_nil]; omega, ?_⟩ (by simp only [if_true]; omega) ?_
            · rw [← he]
              simp only [if_true, htk]
              simp [fld, hc, h35', h32', h9', hal]
            · (refine Wk.forget ?_; simp [Le, LeE, LeH, get, envIds, hpIds, KeepH, D.ids, idsL, AO.ids, setL, base]; done)
        · have h9' := of_decide_eq_true h9
          simp only [go_sem, ↓reduceIte, Nat.reduceLT, Nat.reduceLeDiff, Nat.reduceEqDiff, Nat.reduceAdd, Nat.reduceMul, Nat.reduceSub, reduceCtorEq, Int.reduceLT, Int.reduceLE, Int.reduceEq, Int.reduceToNat, decide_true, decide_false, Int.reduceNeg, Int.cast_ofNat_Int, sg, AO.sg, Option.isNone_none, Int.toNat_natCast, hend, hil, hi0, hb, hc, h35, h32, h9, hw]
          refine ih (false, at_ + 1, bg, acc) _ ⟨by simp only; omega, by simp only; omega, (fun h => by cases h), by simp only [List.length_nil]; omega, ?_⟩ (by simp; omega) ?_
          · rw [← he]
            simp [fld, hc, h9']
          · (refine Wk.forget ?_; simp [Le, LeE, LeH, get, envIds, hpIds, KeepH, D.ids, idsL, AO.ids, setL, base]; done)
      · have h32' := of_decide_eq_true h32
        simp only [go_sem, ↓reduceIte, Nat.reduceLT, Nat.reduceLeDiff, Nat.reduceEqDiff, Nat.reduceAdd, Nat.reduceMul, Nat.reduceSub, reduceCtorEq, Int.reduceLT, Int.reduceLE, Int.reduceEq, Int.reduceToNat, decide_true, decide_false, Int.reduceNeg, Int.cast_ofNat_Int, sg, AO.sg, Option.isNone_none, Int.toNat_natCast, hend, hil, hi0, hb, hc, h35, h32, hw]
        refine ih (false, at_ + 1, bg, acc) _ ⟨by simp only; omega, by simp only; omega, (fun h => by cases h), by simp only [List.length_nil]; omega, ?_⟩ (by simp; omega) ?_
        · rw [← he]
          simp [fld, hc, h32']
        · (refine Wk.forget ?_; simp [Le, LeE, LeH, get, envIds, hpIds, KeepH, D.ids, idsL, AO.ids, setL, base]; done)
    · simp only [if_true] at he ih
      simp only [forall_const] at h12
      refine ⟨_, rfl, ?_⟩
      simp only [go_sem, ↓reduceIte, Nat.reduceLT, Nat.reduceLeDiff, Nat.reduceEqDiff, Nat.reduceAdd, Nat.reduceMul, Nat.reduceSub, reduceCtorEq, Int.reduceLT, Int.reduceLE, Int.reduceEq, Int.reduceToNat, decide_true, decide_false, Int.reduceNeg, Int.cast_ofNat_Int, sg, AO.sg, Option.isNone_none]
      have hbi : (0 : Int) ≤ (bg : Int) ∧ (bg : Int) ≤ (at_ : Int) ∧ (at_ : Int) ≤ (s.length : Int) := by omega
      have flush : (∀ b r, s.drop at_ = b :: r → (b.toNat : Int) = 35 ∨ (b.toNat : Int) = 32 ∨ (b.toNat : Int) = 9) → fld (s.drop at_) none (acc ++ [(s.take at_).drop bg]) = fld s none [] := by
        intro h
        rw [← fld_flush _ _ _ h]
        exact he
      cases hend : decide ((at_ : Int) = (s.length : Int))
      rotate_left
      · have hend' : at_ = s.length := by have := of_decide_eq_true hend; omega
        have hdn : s.drop at_ = [] := List.drop_of_length_le (by omega)
        simp only [go_sem, ↓reduceIte, Nat.reduceLT, Nat.reduceLeDiff, Nat.reduceEqDiff, Nat.reduceAdd, Nat.reduceMul, Nat.reduceSub, reduceCtorEq, Int.reduceLT, Int.reduceLE, Int.reduceEq, Int.reduceToNat, decide_true, decide_false, Int.reduceNeg, Int.cast_ofNat_Int, sg, AO.sg, Option.isNone_none, hend, Int.toNat_natCast, encS_len, hbi]
        refine ⟨⟨wid1 _ _ rfl, by omega⟩, ?_⟩
        refine ih (false, at_, bg, acc ++ [(s.take at_).drop bg]) _ ⟨hbg, hat, (fun h => by cases h), by have := h12.2.2; have := h12.2.1; simp; omega, ?_⟩ (by simp) ?_
        · simp only [Bool.false_eq_true, if_false]
          exact flush (fun b r h => by rw [hdn] at h; cases h)
        · (refine Wk.forget ?_; simp [Le, LeE, LeH, get, envIds, hpIds, KeepH, D.ids, idsL, AO.ids, setL, base, encS_snoc, encS_len]; done)
      have hlt : at_ < s.length := by have := of_decide_eq_false hend; omega
      have hd := drop_getD s at_ 0 hlt
      have hil : (at_ : Int) < (s.length : Int) := by omega
      have hi0 : (0 : Int) ≤ (at_ : Int) := by omega
      have hw : IntKind.i64.wrap ((at_ : Int) + 1) = ((at_ + 1 : Nat) : Int) := by rw [wrap_i64_id] <;> omega
      have hw0 : IntKind.i64.wrap ((at_ : Int) - bg) = ((at_ - bg : Nat) : Int) := by rw [wrap_i64_id] <;> omega
      have htk : (s.take (at_ + 1)).drop bg = (s.take at_).drop bg ++ [s.getD at_ 0] := by
        rw [List.take_succ_eq_append_getElem hlt, List.drop_append_of_le_length (by simp; omega)]
        simp [List.getD, hlt]
      have hcl : ((s.take at_).drop bg).length = at_ - bg := by simp; omega
      generalize hb : s.getD at_ 0 = b at *
      rw [hd] at he
      generalize hc : (b.toNat : Int) = c at *
      have sep : c = 35 ∨ c = 32 ∨ c = 9 → fld (s.drop at_) none (acc ++ [(s.take at_).drop bg]) = fld s none [] := by
        intro h
        refine flush fun b' r' h' => ?_
        rw [hd] at h'
        cases h'
        rw [hc]
        exact h
      cases h35 : decide (c = 35)
      · cases h32 : decide (c = 32)
        · cases h9 : decide (c = 9)
          · have h35' := of_decide_eq_false h35
            have h32' := of_decide_eq_false h32
            have h9' := of_decide_eq_false h9
            simp only [go_sem, ↓reduceIte, Nat.reduceLT, Nat.reduceLeDiff, Nat.reduceEqDiff, Nat.reduceAdd, Nat.reduceMul, Nat.reduceSub, reduceCtorEq, Int.reduceLT, Int.reduceLE, Int.reduceEq, Int.reduceToNat, decide_true, decide_false, Int.reduceNeg, Int.cast_ofNat_Int, sg, AO.sg, Option.isNone_none, Int.toNat_natCast, hend, hil, hi0, hb, hc, h35, h32, h9]
            refine Cc_of (allowed1_ok c) ?_
            rintro h' r ⟨rfl, rfl⟩
            cases hal : allB c
            · simp only [go_sem, ↓reduceIte, Nat.reduceLT, Nat.reduceLeDiff, Nat.reduceEqDiff, Nat.reduceAdd, Nat.reduceMul, Nat.reduceSub, reduceCtorEq, Int.reduceLT, Int.reduceLE, Int.reduceEq, Int.reduceToNat, decide_true, decide_false, Int.reduceNeg, Int.cast_ofNat_Int, sg, AO.sg, Option.isNone_none, hal]
              refine end_pure ?_
              simp only [go_sem, ↓reduceIte, Nat.reduceLT, Nat.reduceLeDiff, Nat.reduceEqDiff, Nat.reduceAdd, Nat.reduceMul, Nat.reduceSub, reduceCtorEq, Int.reduceLT, Int.reduceLE, Int.reduceEq, Int.reduceToNat, decide_true, decide_false, Int.reduceNeg, Int.cast_ofNat_Int, sg, AO.sg, Option.isNone_none]
              rw [← he]
              simp [fld, hc, h35', h32', h9', hal, encS]
            · cases h12d : decide (((at_ - bg : Nat) : Int) = 12)
              · have h12' : ¬ at_ - bg = 12 := by have := of_decide_eq_false h12d; omega
                simp only [go_sem, ↓reduceIte, Nat.reduceLT, Nat.reduceLeDiff, Nat.reduceEqDiff, Nat.reduceAdd, Nat.reduceMul, Nat.reduceSub, reduceCtorEq, Int.reduceLT, Int.reduceLE, Int.reduceEq, Int.reduceToNat, decide_true, decide_false, Int.reduceNeg, Int.cast_ofNat_Int, sg, AO.sg, Option.isNone_none, hal, hw, hw0, h12d]
                refine ih (true, at_ + 1, bg, acc) _ ⟨by simp only; omega, by simp only; omega, (fun _ => by simp only; omega), by simp only; omega, ?_⟩ (by simp only [if_true]; omega) ?_
                · rw [← he]
                  simp only [if_true, htk]
                  simp [fld, hc, h35', h32', h9', hal, hcl, h12']
                · (refine Wk.forget ?_; simp [Le, LeE, LeH, get, envIds, hpIds, KeepH, D.ids, idsL, AO.ids, setL, base]; done)
              · have h12' : at_ - bg = 12 := by have := of_decide_eq_true h12d; omega
                simp only [go_sem, ↓reduceIte, Nat.reduceLT, Nat.reduceLeDiff, Nat.reduceEqDiff, Nat.reduceAdd, Nat.reduceMul, Nat.reduceSub, reduceCtorEq, Int.reduceLT, Int.reduceLE, Int.reduceEq, Int.reduceToNat, decide_true, decide_false, Int.reduceNeg, Int.cast_ofNat_Int, sg, AO.sg, Option.isNone_none, hal, hw, hw0, h12d]
                refine end_pure ?_
                simp only [go_sem, ↓reduceIte, Nat.reduceLT, Nat.reduceLeDiff, Nat.reduceEqDiff, Nat.reduceAdd, Nat.reduceMul, Nat.reduceSub, reduceCtorEq, Int.reduceLT, Int.reduceLE, Int.reduceEq, Int.reduceToNat, decide_true, decide_false, Int.reduceNeg, Int.cast_ofNat_Int, sg, AO.sg, Option.isNone_none]
                rw [← he]
                simp [fld, hc, h35', h32', h9', hal, hcl, h12', encS]
          · simp only [go_sem, ↓reduceIte, Nat.reduceLT, Nat.reduceLeDiff, Nat.reduceEqDiff, Nat.reduceAdd, Nat.reduceMul, Nat.reduceSub, reduceCtorEq, Int.reduceLT, Int.reduceLE, Int.reduceEq, Int.reduceToNat, decide_true, decide_false, Int.reduceNeg, Int.cast_ofNat_Int, sg, AO.sg, Option.isNone_none, Int.toNat_natCast, hend, hil, hi0, hb, hc, h35, h32, h9, encS_len, hbi]
            refine ⟨⟨wid1 _ _ rfl, by omega⟩, ?_⟩
            refine ih (false, at_, bg, acc ++ [(s.take at_).drop bg]) _ ⟨hbg, hat, (fun h => by cases h), by have := h12.2.2; have := h12.2.1; simp; omega, ?_⟩ (by simp) ?_
            · simp only [Bool.false_eq_true, if_false]
              exact sep (.inr (.inr (of_decide_eq_true h9)))
            · (refine Wk.forget ?_; simp [Le, LeE, LeH, get, envIds, hpIds, KeepH, D.ids, idsL, AO.ids, setL, base, encS_snoc, encS_len]; done)
        · simp only [go_sem, ↓reduceIte, Nat.reduceLT, Nat.reduceLeDiff, Nat.reduceEqDiff, Nat.reduceAdd, Nat.reduceMul, Nat.reduceSub, reduceCtorEq, Int.reduceLT, Int.reduceLE, Int.reduceEq, Int.reduceToNat, decide_true, decide_false, Int.reduceNeg, Int.cast_ofNat_Int, sg, AO.sg, Option.isNone_none, Int.toNat_natCast, hend, hil, hi0, hb, hc, h35, h32, encS_len, hbi]
          refine ⟨⟨wid1 _ _ rfl, by omega⟩, ?_⟩
          refine ih (false, at_, bg, acc ++ [(s.take at_).drop bg]) _ ⟨hbg, hat, (fun h => by cases h), by have := h12.2.2; have := h12.2.1; simp; omega, ?_⟩ (by simp) ?_
          · simp only [Bool.false_eq_true, if_false]
            exact sep (.inr (.inl (of_decide_eq_true h32)))
          · (refine Wk.forget ?_; simp [Le, LeE, LeH, get, envIds, hpIds, KeepH, D.ids, idsL, AO.ids, setL, base, encS_snoc, encS_len]; done)
      · simp only [go_sem, ↓reduceIte, Nat.reduceLT, Nat.reduceLeDiff, Nat.reduceEqDiff, Nat.reduceAdd, Nat.reduceMul, Nat.reduceSub, reduceCtorEq, Int.reduceLT, Int.reduceLE, Int.reduceEq, Int.reduceToNat, decide_true, decide_false, Int.reduceNeg, Int.cast_ofNat_Int, sg, AO.sg, Option.isNone_none, Int.toNat_natCast, hend, hil, hi0, hb, hc, h35, encS_len, hbi]
        refine ⟨⟨wid1 _ _ rfl, by omega⟩, ?_⟩
        refine ih (false, at_, bg, acc ++ [(s.take at_).drop bg]) _ ⟨hbg, hat, (fun h => by cases h), by have := h12.2.2; have := h12.2.1; simp; omega, ?_⟩ (by simp) ?_
        · simp only [Bool.false_eq_true, if_false]
          exact sep (.inl (of_decide_eq_true h35))
        · (refine Wk.forget ?_; simp [Le, LeE, LeH, get, envIds, hpIds, KeepH, D.ids, idsL, AO.ids, setL, base, encS_snoc, encS_len]; done)
end Go.Am
