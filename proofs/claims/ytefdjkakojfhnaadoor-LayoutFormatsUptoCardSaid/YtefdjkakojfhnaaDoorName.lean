/- Names. -/
import Derived.Test.YtefdjkakojfhnaaDoorLett
namespace Go.Am
open Go Go.Proofs
set_option maxRecDepth 100000
set_option linter.unusedVariables false
set_option linter.unusedSimpArgs false
def chB (c : Int) : Bool := letterB c || decide (48 ≤ c ∧ c ≤ 57) || decide (c = 45) || decide (c = 95)
def nameB (l : List UInt8) : Bool := match l with
  | [] => false
  | b :: _ => decide (l.length ≤ 12) && letterB b.toNat && l.all fun c => chB c.toNat
theorem chB_split (c : Int) : chB c = (letterB c || (decide (48 ≤ c) && decide (c ≤ 57)) || decide (c = 45) || decide (c = 95)) := by simp [chB]
theorem name1_ok (l : List UInt8) : ACalls Tryd.prog 20 [.p (.str l)] [] fun h r => h = [] ∧ r = .p (.bool (nameB l)) := by
  refine ACalls_X Tryd.func20 rfl enters20 (by simp [Tryd.f20]) ?_
  cases l with
  | nil =>
    simp only [go_sem, ↓reduceIte, Nat.reduceLT, Nat.reduceLeDiff, Nat.reduceEqDiff, Nat.reduceAdd, Nat.reduceMul, Nat.reduceSub, reduceCtorEq, Int.reduceLT, Int.reduceLE, Int.reduceEq, Int.reduceToNat, decide_true, decide_false, Int.reduceNeg, Int.cast_ofNat_Int, sg, AO.sg, Option.isNone_none]
    rfl
  | cons b l =>
    by_cases hL : (12 : Int) < ((l.length + 1 : Nat) : Int)
    · simp only [go_sem, ↓reduceIte, Nat.reduceLT, Nat.reduceLeDiff, Nat.reduceEqDiff, Nat.reduceAdd, Nat.reduceMul, Nat.reduceSub, reduceCtorEq, Int.reduceLT, Int.reduceLE, Int.reduceEq, Int.reduceToNat, decide_true, decide_false, Int.reduceNeg, Int.cast_ofNat_Int, sg, AO.sg, Option.isNone_none, hL]
      have : ¬ l.length + 1 ≤ 12 := by omega
      simp [nameB, this]
    · simp only [go_sem, ↓reduceIte, Nat.reduceLT, Nat.reduceLeDiff, Nat.reduceEqDiff, Nat.reduceAdd, Nat.reduceMul, Nat.reduceSub, reduceCtorEq, Int.reduceLT, Int.reduceLE, Int.reduceEq, Int.reduceToNat, decide_true, decide_false, Int.reduceNeg, Int.cast_ofNat_Int, sg, AO.sg, Option.isNone_none, hL, List.getD_cons_zero]
      refine ⟨by omega, Cc_of (letter1_ok _) ?_⟩
      rintro h' r ⟨rfl, rfl⟩
      simp only [go_sem, ↓reduceIte, Nat.reduceLT, Nat.reduceLeDiff, Nat.reduceEqDiff, Nat.reduceAdd, Nat.reduceMul, Nat.reduceSub, reduceCtorEq, Int.reduceLT, Int.reduceLE, Int.reduceEq, Int.reduceToNat, decide_true, decide_false, Int.reduceNeg, Int.cast_ofNat_Int, sg, AO.sg, Option.isNone_none, hL]
      cases hb : letterB b.toNat
      · simp only [go_sem, ↓reduceIte, Nat.reduceLT, Nat.reduceLeDiff, Nat.reduceEqDiff, Nat.reduceAdd, Nat.reduceMul, Nat.reduceSub, reduceCtorEq, Int.reduceLT, Int.reduceLE, Int.reduceEq, Int.reduceToNat, decide_true, decide_false, Int.reduceNeg, Int.cast_ofNat_Int, sg, AO.sg, Option.isNone_none]
        simp [nameB, hb]
      · simp only [go_sem, ↓reduceIte, Nat.reduceLT, Nat.reduceLeDiff, Nat.reduceEqDiff, Nat.reduceAdd, Nat.reduceMul, Nat.reduceSub, reduceCtorEq, Int.reduceLT, Int.reduceLE, Int.reduceEq, Int.reduceToNat, decide_true, decide_false, Int.reduceNeg, Int.cast_ofNat_Int, sg, AO.sg, Option.isNone_none]
        refine Af_bytes rfl ti9 ti35 ti5 rfl ?_
        simp only [go_sem, ↓reduceIte, Nat.reduceLT, Nat.reduceLeDiff, Nat.reduceEqDiff, Nat.reduceAdd, Nat.reduceMul, Nat.reduceSub, reduceCtorEq, Int.reduceLT, Int.reduceLE, Int.reduceEq, Int.reduceToNat, decide_true, decide_false, Int.reduceNeg, Int.cast_ofNat_Int, sg, AO.sg, Option.isNone_none, encB_len]
        refine X_loop_inv (fun i => ⟨[(19, .p (.sl (encB (b :: l)))), (20, .p (.int .i64 ((l.length + 1 : Nat) : Int))), (21, .p (.int .i64 (i : Nat)))], [], 45⟩) (fun i => i ≤ l.length + 1 ∧ ∀ j, j < i → chB ((b :: l).getD j 0).toNat = true) (fun i => l.length + 1 - i) 0 ⟨Nat.zero_le _, by simp⟩
          (Wk.forget (by simp [Le, LeE, LeH, get, envIds, hpIds, KeepH, D.ids])) ?_
        rintro i n ⟨hi, he⟩ ih
        simp only [go_sem, ↓reduceIte, Nat.reduceLT, Nat.reduceLeDiff, Nat.reduceEqDiff, Nat.reduceAdd, Nat.reduceMul, Nat.reduceSub, reduceCtorEq, Int.reduceLT, Int.reduceLE, Int.reduceEq, Int.reduceToNat, decide_true, decide_false, Int.reduceNeg, Int.cast_ofNat_Int, sg, AO.sg, Option.isNone_none, encB_len]
        refine Cn_split (fun h2 => ?_) (fun h2 => ?_)
        · have hlt : i < (b :: l).length := by simp at h2 ⊢; omega
          simp only [go_sem, ↓reduceIte, Nat.reduceLT, Nat.reduceLeDiff, Nat.reduceEqDiff, Nat.reduceAdd, Nat.reduceMul, Nat.reduceSub, reduceCtorEq, Int.reduceLT, Int.reduceLE, Int.reduceEq, Int.reduceToNat, decide_true, decide_false, Int.reduceNeg, Int.cast_ofNat_Int, sg, AO.sg, Option.isNone_none, encB_len, Int.toNat_natCast, encB_get (b :: l) i hlt]
          have hw := wrap_succ i (by omega)
          generalize hcc : (((b :: l).getD i 0).toNat : Int) = c
          refine ⟨by simp at hlt; omega, Cc_of (letter1_ok _) ?_⟩
          rintro h' r ⟨rfl, rfl⟩
          have hno : chB c = false → nameB (b :: l) = false := by
            intro hf
            have : ((b :: l).all fun c => chB c.toNat) = false := by
              rw [Bool.eq_false_iff]
              intro ht
              have := List.all_eq_true.1 ht ((b :: l).getD i 0) (by simp only [List.getD, List.getElem?_eq_getElem hlt, Option.getD_some]; exact List.getElem_mem hlt)
              rw [hcc, hf] at this
              cases this
            simp only [nameB, this, Bool.and_false]
          have hyes : chB c = true → ∀ j, j < i + 1 → chB ((b :: l).getD j 0).toNat = true := by
            intro ht j hj
            rcases Nat.lt_succ_iff_lt_or_eq.1 hj with hj | rfl
            · exact he j hj
            · rw [hcc]; exact ht
          have hle : i + 1 ≤ l.length + 1 := by simp only [List.length_cons] at hlt; omega
          cases hlc : letterB c
          · by_cases h48 : c < 48 <;> by_cases h57 : 57 < c <;> by_cases h45 : c = 45 <;> by_cases h95 : c = 95 <;> (try omega) <;>
            · simp only [go_sem, ↓reduceIte, Nat.reduceLT, Nat.reduceLeDiff, Nat.reduceEqDiff, Nat.reduceAdd, Nat.reduceMul, Nat.reduceSub, reduceCtorEq, Int.reduceLT, Int.reduceLE, Int.reduceEq, Int.reduceToNat, decide_true, decide_false, Int.reduceNeg, Int.cast_ofNat_Int, sg, AO.sg, Option.isNone_none, hlc, h48, h57, h45, h95, hw]
              first
                | exact ⟨trivial, by rw [hno (by simp [chB_split, hlc]; omega)]⟩
                | exact ⟨rfl, by rw [hno (by simp [chB_split, hlc]; omega)]⟩
                | (rw [hno (by simp [chB_split, hlc]; omega)])
                | exact ih (i + 1) _ ⟨hle, hyes (by simp [chB_split, hlc]; omega)⟩ (by omega) (Wk.forget (by simp [Le, LeE, LeH, get, envIds, hpIds, KeepH, D.ids]))
          · simp only [go_sem, ↓reduceIte, Nat.reduceLT, Nat.reduceLeDiff, Nat.reduceEqDiff, Nat.reduceAdd, Nat.reduceMul, Nat.reduceSub, reduceCtorEq, Int.reduceLT, Int.reduceLE, Int.reduceEq, Int.reduceToNat, decide_true, decide_false, Int.reduceNeg, Int.cast_ofNat_Int, sg, AO.sg, Option.isNone_none, hlc, hw]
            exact ih (i + 1) _ ⟨hle, hyes (by simp [chB_split, hlc])⟩ (by omega) (Wk.forget (by simp [Le, LeE, LeH, get, envIds, hpIds, KeepH, D.ids]))
        · simp only [go_sem, ↓reduceIte, Nat.reduceLT, Nat.reduceLeDiff, Nat.reduceEqDiff, Nat.reduceAdd, Nat.reduceMul, Nat.reduceSub, reduceCtorEq, Int.reduceLT, Int.reduceLE, Int.reduceEq, Int.reduceToNat, decide_true, decide_false, Int.reduceNeg, Int.cast_ofNat_Int, sg, AO.sg, Option.isNone_none]
          have hi2 : i = l.length + 1 := by simp at h2; omega
          have hall : ((b :: l).all fun c => chB c.toNat) = true := by
            refine List.all_eq_true.2 fun x hx => ?_
            obtain ⟨j, hj, rfl⟩ := List.mem_iff_getElem.1 hx
            have := he j (by simp at hj; omega)
            simpa only [List.getD, List.getElem?_eq_getElem hj, Option.getD_some] using this
          have h12 : l.length + 1 ≤ 12 := by omega
          simp only [nameB, hall, hb, List.length_cons, h12, decide_true, Bool.and_self, and_self]
end Go.Am
