/- Answers, and the words of the reference. -/
import Derived.Test.YtpjbedkmjlgmgaaDoorCmdr
namespace Go.Am
open Go Go.Proofs
set_option maxRecDepth 100000
set_option linter.unusedVariables false
set_option linter.unusedSimpArgs false
def ansR (r : List UInt8 × Int) : D := .tup [.p (.str r.1), .p (.int .i64 r.2)]
theorem ansW_len : (encS ansW).length = 13 := rfl
theorem ans1_ok (k n : Int) : ACalls Tryd.prog 12 [.agg [.p (.int .i64 k), .p (.int .i64 n)]] [(1000000, (.glob 0 tabCs))] fun h r => h = [(1000000, (.glob 0 tabCs))] ∧ r = ansR (ansV k n) := by
  refine ACalls_X Tryd.func12 rfl enters12 (by simp [Tryd.f12]) ?_
  have bad : (k < 0 ∨ 13 ≤ k ∨ n < 0 ∨ 9999 < n) → ansV k n = ([], 19) := fun h => by unfold ansV; rw [if_pos h]
  by_cases h1 : k < 0
  · simp only [go_sem, ↓reduceIte, Nat.reduceLT, Nat.reduceLeDiff, Nat.reduceEqDiff, Nat.reduceAdd, Nat.reduceMul, Nat.reduceSub, reduceCtorEq, Int.reduceLT, Int.reduceLE, Int.reduceEq, Int.reduceToNat, decide_true, decide_false, Int.reduceNeg, Int.cast_ofNat_Int, sg, AO.sg, Option.isNone_none, h1]
    rw [bad (.inl h1)]
    refine end_pure ?_
    simp only [go_sem, ↓reduceIte, Nat.reduceLT, Nat.reduceLeDiff, Nat.reduceEqDiff, Nat.reduceAdd, Nat.reduceMul, Nat.reduceSub, reduceCtorEq, Int.reduceLT, Int.reduceLE, Int.reduceEq, Int.reduceToNat, decide_true, decide_false, Int.reduceNeg, Int.cast_ofNat_Int, sg, AO.sg, Option.isNone_none]
    rfl
  by_cases h2 : 13 ≤ k
  · simp only [go_sem, ↓reduceIte, Nat.reduceLT, Nat.reduceLeDiff, Nat.reduceEqDiff, Nat.reduceAdd, Nat.reduceMul, Nat.reduceSub, reduceCtorEq, Int.reduceLT, Int.reduceLE, Int.reduceEq, Int.reduceToNat, decide_true, decide_false, Int.reduceNeg, Int.cast_ofNat_Int, sg, AO.sg, Option.isNone_none, h1, h2]
    rw [bad (.inr (.inl h2))]
    refine end_pure ?_
    simp only [go_sem, ↓reduceIte, Nat.reduceLT, Nat.reduceLeDiff, Nat.reduceEqDiff, Nat.reduceAdd, Nat.reduceMul, Nat.reduceSub, reduceCtorEq, Int.reduceLT, Int.reduceLE, Int.reduceEq, Int.reduceToNat, decide_true, decide_false, Int.reduceNeg, Int.cast_ofNat_Int, sg, AO.sg, Option.isNone_none]
    rfl
  by_cases h3 : n < 0
  · simp only [go_sem, ↓reduceIte, Nat.reduceLT, Nat.reduceLeDiff, Nat.reduceEqDiff, Nat.reduceAdd, Nat.reduceMul, Nat.reduceSub, reduceCtorEq, Int.reduceLT, Int.reduceLE, Int.reduceEq, Int.reduceToNat, decide_true, decide_false, Int.reduceNeg, Int.cast_ofNat_Int, sg, AO.sg, Option.isNone_none, h1, h2, h3]
    rw [bad (.inr (.inr (.inl h3)))]
    refine end_pure ?_
    simp only [go_sem, ↓reduceIte, Nat.reduceLT, Nat.reduceLeDiff, Nat.reduceEqDiff, Nat.reduceAdd, Nat.reduceMul, Nat.reduceSub, reduceCtorEq, Int.reduceLT, Int.reduceLE, Int.reduceEq, Int.reduceToNat, decide_true, decide_false, Int.reduceNeg, Int.cast_ofNat_Int, sg, AO.sg, Option.isNone_none]
    rfl
  by_cases h4 : 9999 < n
  · simp only [go_sem, ↓reduceIte, Nat.reduceLT, Nat.reduceLeDiff, Nat.reduceEqDiff, Nat.reduceAdd, Nat.reduceMul, Nat.reduceSub, reduceCtorEq, Int.reduceLT, Int.reduceLE, Int.reduceEq, Int.reduceToNat, decide_true, decide_false, Int.reduceNeg, Int.cast_ofNat_Int, sg, AO.sg, Option.isNone_none, h1, h2, h3, h4]
    rw [bad (.inr (.inr (.inr h4)))]
    refine end_pure ?_
    simp only [go_sem, ↓reduceIte, Nat.reduceLT, Nat.reduceLeDiff, Nat.reduceEqDiff, Nat.reduceAdd, Nat.reduceMul, Nat.reduceSub, reduceCtorEq, Int.reduceLT, Int.reduceLE, Int.reduceEq, Int.reduceToNat, decide_true, decide_false, Int.reduceNeg, Int.cast_ofNat_Int, sg, AO.sg, Option.isNone_none]
    rfl
  obtain ⟨j, rfl⟩ : ∃ j : Nat, k = (j : Int) := ⟨k.toNat, by omega⟩
  have hgood : ansV j n = (ansT j n, 0) := by unfold ansV; rw [if_neg (by omega)]; rfl
  have hj0 : (0 : Int) ≤ (j : Int) ∧ (j : Int) < 13 := by omega
  have hcell : ∀ (xs : List D), xs = ansW.map (fun s => D.p (.str s)) → xs[j * 1]? = some (.p (.str (ansW.getD j []))) := by
    intro xs h
    have hl : ansW.length = 13 := rfl
    rw [h, Nat.mul_one, List.getElem?_map, List.getD_eq_getElem?_getD, List.getElem?_eq_getElem (by omega)]
    rfl
  have hdl := digV_len n (by omega) (by omega)
  rw [hgood]
  have hc : ([.p (.str [98, 97, 100]), .p (.str [111, 107]), .p (.str [113, 117, 101, 117, 101, 45, 102, 117, 108, 108]), .p (.str [117, 110, 107, 110, 111, 119, 110]), .p (.str [115, 116, 97, 116, 105, 111, 110, 45, 99, 108, 111, 115, 101, 100]), .p (.str [114, 101, 102, 117, 115, 101, 100]), .p (.str [99, 108, 111, 115, 101, 100]), .p (.str [102, 108, 101, 101, 116, 45, 97, 116, 45, 99, 97, 112]), .p (.str [100, 101, 112, 111, 116, 45, 102, 117, 108, 108]), .p (.str [108, 97, 115, 116]), .p (.str [111, 99, 99, 117, 112, 105, 101, 100]), .p (.str [111, 118, 101, 114]), .p (.str [105, 115])] : List D)[j * 1]? = some (.p (.str (ansW.getD j []))) := hcell _ rfl
  have hwl : (ansW.getD j []).length ≤ 20 := by
    have : ∀ j : Fin 13, (ansW.getD j.val []).length ≤ 20 := by decide
    exact this ⟨j, by omega⟩
  cases c1 : decide ((j : Int) = 1)
  rotate_left
  · have e1 : ansT j n = ansW.getD j [] ++ 32 :: digV n := by unfold ansT; rw [if_pos (.inl (by have := of_decide_eq_true c1; omega))]
    simp only [go_sem, ↓reduceIte, Nat.reduceLT, Nat.reduceLeDiff, Nat.reduceEqDiff, Nat.reduceAdd, Nat.reduceMul, Nat.reduceSub, reduceCtorEq, Int.reduceLT, Int.reduceLE, Int.reduceEq, Int.reduceToNat, decide_true, decide_false, Int.reduceNeg, Int.cast_ofNat_Int, sg, AO.sg, Option.isNone_none, h1, h2, h3, h4, Int.toNat_natCast, hj0, hc, c1]
    refine Cc_of (itoa_ok n (by omega) (by omega)) ?_
    rintro h' r ⟨rfl, rfl⟩
    simp only [go_sem, ↓reduceIte, Nat.reduceLT, Nat.reduceLeDiff, Nat.reduceEqDiff, Nat.reduceAdd, Nat.reduceMul, Nat.reduceSub, reduceCtorEq, Int.reduceLT, Int.reduceLE, Int.reduceEq, Int.reduceToNat, decide_true, decide_false, Int.reduceNeg, Int.cast_ofNat_Int, sg, AO.sg, Option.isNone_none]
    refine ⟨by unfold maxLen; first | omega | (simp only [List.length_append, List.length_cons, List.length_nil]; omega), by unfold maxLen; first | omega | (simp only [List.length_append, List.length_cons, List.length_nil]; omega), ?_⟩
    refine end_pure ?_
    simp only [go_sem, ↓reduceIte, Nat.reduceLT, Nat.reduceLeDiff, Nat.reduceEqDiff, Nat.reduceAdd, Nat.reduceMul, Nat.reduceSub, reduceCtorEq, Int.reduceLT, Int.reduceLE, Int.reduceEq, Int.reduceToNat, decide_true, decide_false, Int.reduceNeg, Int.cast_ofNat_Int, sg, AO.sg, Option.isNone_none]
    rw [e1]
    rfl
  cases c2 : decide ((j : Int) = 12)
  rotate_left
  · have e1 : ansT j n = ansW.getD j [] ++ 32 :: digV n := by unfold ansT; rw [if_pos (.inr (by have := of_decide_eq_true c2; omega))]
    simp only [go_sem, ↓reduceIte, Nat.reduceLT, Nat.reduceLeDiff, Nat.reduceEqDiff, Nat.reduceAdd, Nat.reduceMul, Nat.reduceSub, reduceCtorEq, Int.reduceLT, Int.reduceLE, Int.reduceEq, Int.reduceToNat, decide_true, decide_false, Int.reduceNeg, Int.cast_ofNat_Int, sg, AO.sg, Option.isNone_none, h1, h2, h3, h4, Int.toNat_natCast, hj0, hc, c1, c2]
    refine Cc_of (itoa_ok n (by omega) (by omega)) ?_
    rintro h' r ⟨rfl, rfl⟩
    simp only [go_sem, ↓reduceIte, Nat.reduceLT, Nat.reduceLeDiff, Nat.reduceEqDiff, Nat.reduceAdd, Nat.reduceMul, Nat.reduceSub, reduceCtorEq, Int.reduceLT, Int.reduceLE, Int.reduceEq, Int.reduceToNat, decide_true, decide_false, Int.reduceNeg, Int.cast_ofNat_Int, sg, AO.sg, Option.isNone_none]
    refine ⟨by unfold maxLen; first | omega | (simp only [List.length_append, List.length_cons, List.length_nil]; omega), by unfold maxLen; first | omega | (simp only [List.length_append, List.length_cons, List.length_nil]; omega), ?_⟩
    refine end_pure ?_
    simp only [go_sem, ↓reduceIte, Nat.reduceLT, Nat.reduceLeDiff, Nat.reduceEqDiff, Nat.reduceAdd, Nat.reduceMul, Nat.reduceSub, reduceCtorEq, Int.reduceLT, Int.reduceLE, Int.reduceEq, Int.reduceToNat, decide_true, decide_false, Int.reduceNeg, Int.cast_ofNat_Int, sg, AO.sg, Option.isNone_none]
    rw [e1]
    rfl
  have e1 : ansT j n = ansW.getD j [] := by
    unfold ansT
    rw [if_neg, List.append_nil]
    have := of_decide_eq_false c1
    have := of_decide_eq_false c2
    omega
  simp only [go_sem, ↓reduceIte, Nat.reduceLT, Nat.reduceLeDiff, Nat.reduceEqDiff, Nat.reduceAdd, Nat.reduceMul, Nat.reduceSub, reduceCtorEq, Int.reduceLT, Int.reduceLE, Int.reduceEq, Int.reduceToNat, decide_true, decide_false, Int.reduceNeg, Int.cast_ofNat_Int, sg, AO.sg, Option.isNone_none, h1, h2, h3, h4, Int.toNat_natCast, hj0, hc, c1, c2]
  refine end_pure ?_
  simp only [go_sem, ↓reduceIte, Nat.reduceLT, Nat.reduceLeDiff, Nat.reduceEqDiff, Nat.reduceAdd, Nat.reduceMul, Nat.reduceSub, reduceCtorEq, Int.reduceLT, Int.reduceLE, Int.reduceEq, Int.reduceToNat, decide_true, decide_false, Int.reduceNeg, Int.cast_ofNat_Int, sg, AO.sg, Option.isNone_none]
  rw [e1]
  rfl
theorem ans2_ok (k n : Int) : ACalls Tryd.prog 15 [.agg [.p (.int .i64 k), .p (.int .i64 n)]] [] fun h r => h = [] ∧ r = ansR (ansV k n) := by
  refine ACalls_X Tryd.func15 rfl enters15 (by simp [Tryd.f15]) ?_
  have bad : (k < 0 ∨ 13 ≤ k ∨ n < 0 ∨ 9999 < n) → ansV k n = ([], 19) := fun h => by unfold ansV; rw [if_pos h]
  by_cases h1 : k < 0
  · simp only [go_sem, ↓reduceIte, Nat.reduceLT, Nat.reduceLeDiff, Nat.reduceEqDiff, Nat.reduceAdd, Nat.reduceMul, Nat.reduceSub, reduceCtorEq, Int.reduceLT, Int.reduceLE, Int.reduceEq, Int.reduceToNat, decide_true, decide_false, Int.reduceNeg, Int.cast_ofNat_Int, sg, AO.sg, Option.isNone_none, h1]
    rw [bad (.inl h1)]
    refine end_pure ?_
    simp only [go_sem, ↓reduceIte, Nat.reduceLT, Nat.reduceLeDiff, Nat.reduceEqDiff, Nat.reduceAdd, Nat.reduceMul, Nat.reduceSub, reduceCtorEq, Int.reduceLT, Int.reduceLE, Int.reduceEq, Int.reduceToNat, decide_true, decide_false, Int.reduceNeg, Int.cast_ofNat_Int, sg, AO.sg, Option.isNone_none]
    rfl
  by_cases h2 : 13 ≤ k
  · simp only [go_sem, ↓reduceIte, Nat.reduceLT, Nat.reduceLeDiff, Nat.reduceEqDiff, Nat.reduceAdd, Nat.reduceMul, Nat.reduceSub, reduceCtorEq, Int.reduceLT, Int.reduceLE, Int.reduceEq, Int.reduceToNat, decide_true, decide_false, Int.reduceNeg, Int.cast_ofNat_Int, sg, AO.sg, Option.isNone_none, h1, h2]
    rw [bad (.inr (.inl h2))]
    refine end_pure ?_
    simp only [go_sem, ↓reduceIte, Nat.reduceLT, Nat.reduceLeDiff, Nat.reduceEqDiff, Nat.reduceAdd, Nat.reduceMul, Nat.reduceSub, reduceCtorEq, Int.reduceLT, Int.reduceLE, Int.reduceEq, Int.reduceToNat, decide_true, decide_false, Int.reduceNeg, Int.cast_ofNat_Int, sg, AO.sg, Option.isNone_none]
    rfl
  by_cases h3 : n < 0
  · simp only [go_sem, ↓reduceIte, Nat.reduceLT, Nat.reduceLeDiff, Nat.reduceEqDiff, Nat.reduceAdd, Nat.reduceMul, Nat.reduceSub, reduceCtorEq, Int.reduceLT, Int.reduceLE, Int.reduceEq, Int.reduceToNat, decide_true, decide_false, Int.reduceNeg, Int.cast_ofNat_Int, sg, AO.sg, Option.isNone_none, h1, h2, h3]
    rw [bad (.inr (.inr (.inl h3)))]
    refine end_pure ?_
    simp only [go_sem, ↓reduceIte, Nat.reduceLT, Nat.reduceLeDiff, Nat.reduceEqDiff, Nat.reduceAdd, Nat.reduceMul, Nat.reduceSub, reduceCtorEq, Int.reduceLT, Int.reduceLE, Int.reduceEq, Int.reduceToNat, decide_true, decide_false, Int.reduceNeg, Int.cast_ofNat_Int, sg, AO.sg, Option.isNone_none]
    rfl
  by_cases h4 : 9999 < n
  · simp only [go_sem, ↓reduceIte, Nat.reduceLT, Nat.reduceLeDiff, Nat.reduceEqDiff, Nat.reduceAdd, Nat.reduceMul, Nat.reduceSub, reduceCtorEq, Int.reduceLT, Int.reduceLE, Int.reduceEq, Int.reduceToNat, decide_true, decide_false, Int.reduceNeg, Int.cast_ofNat_Int, sg, AO.sg, Option.isNone_none, h1, h2, h3, h4]
    rw [bad (.inr (.inr (.inr h4)))]
    refine end_pure ?_
    simp only [go_sem, ↓reduceIte, Nat.reduceLT, Nat.reduceLeDiff, Nat.reduceEqDiff, Nat.reduceAdd, Nat.reduceMul, Nat.reduceSub, reduceCtorEq, Int.reduceLT, Int.reduceLE, Int.reduceEq, Int.reduceToNat, decide_true, decide_false, Int.reduceNeg, Int.cast_ofNat_Int, sg, AO.sg, Option.isNone_none]
    rfl
  obtain ⟨j, rfl⟩ : ∃ j : Nat, k = (j : Int) := ⟨k.toNat, by omega⟩
  have hgood : ansV j n = (ansT j n, 0) := by unfold ansV; rw [if_neg (by omega)]; rfl
  have hj0 : (0 : Int) ≤ (j : Int) ∧ (j : Int) < 13 := by omega
  have hg := encS_get ansW j (by show j < 13; omega)
  have hdl := digV_len n (by omega) (by omega)
  rw [hgood]
  have hc : ([[.str [98, 97, 100]], [.str [111, 107]], [.str [113, 117, 101, 117, 101, 45, 102, 117, 108, 108]], [.str [117, 110, 107, 110, 111, 119, 110]], [.str [115, 116, 97, 116, 105, 111, 110, 45, 99, 108, 111, 115, 101, 100]], [.str [114, 101, 102, 117, 115, 101, 100]], [.str [99, 108, 111, 115, 101, 100]], [.str [102, 108, 101, 101, 116, 45, 97, 116, 45, 99, 97, 112]], [.str [100, 101, 112, 111, 116, 45, 102, 117, 108, 108]], [.str [108, 97, 115, 116]], [.str [111, 99, 99, 117, 112, 105, 101, 100]], [.str [111, 118, 101, 114]], [.str [105, 115]]] : List (List Pd)).getD j [] = [.str (ansW.getD j [])] := hg
  have hwl : (ansW.getD j []).length ≤ 20 := by
    have : ∀ j : Fin 13, (ansW.getD j.val []).length ≤ 20 := by decide
    exact this ⟨j, by omega⟩
  cases c1 : decide ((j : Int) = 1)
  rotate_left
  · have e1 : ansT j n = ansW.getD j [] ++ 32 :: digV n := by unfold ansT; rw [if_pos (.inl (by have := of_decide_eq_true c1; omega))]
    simp only [go_sem, ↓reduceIte, Nat.reduceLT, Nat.reduceLeDiff, Nat.reduceEqDiff, Nat.reduceAdd, Nat.reduceMul, Nat.reduceSub, reduceCtorEq, Int.reduceLT, Int.reduceLE, Int.reduceEq, Int.reduceToNat, decide_true, decide_false, Int.reduceNeg, Int.cast_ofNat_Int, sg, AO.sg, Option.isNone_none, h1, h2, h3, h4, Int.toNat_natCast, hj0, hc, c1]
    refine Cc_of ((digits_ok n (by omega) (by omega))) ?_
    rintro h' r ⟨rfl, rfl⟩
    simp only [go_sem, ↓reduceIte, Nat.reduceLT, Nat.reduceLeDiff, Nat.reduceEqDiff, Nat.reduceAdd, Nat.reduceMul, Nat.reduceSub, reduceCtorEq, Int.reduceLT, Int.reduceLE, Int.reduceEq, Int.reduceToNat, decide_true, decide_false, Int.reduceNeg, Int.cast_ofNat_Int, sg, AO.sg, Option.isNone_none]
    refine ⟨by unfold maxLen; first | omega | (simp only [List.length_append, List.length_cons, List.length_nil]; omega), by unfold maxLen; first | omega | (simp only [List.length_append, List.length_cons, List.length_nil]; omega), ?_⟩
    refine end_pure ?_
    simp only [go_sem, ↓reduceIte, Nat.reduceLT, Nat.reduceLeDiff, Nat.reduceEqDiff, Nat.reduceAdd, Nat.reduceMul, Nat.reduceSub, reduceCtorEq, Int.reduceLT, Int.reduceLE, Int.reduceEq, Int.reduceToNat, decide_true, decide_false, Int.reduceNeg, Int.cast_ofNat_Int, sg, AO.sg, Option.isNone_none]
    rw [e1]
    rfl
  cases c2 : decide ((j : Int) = 12)
  rotate_left
  · have e1 : ansT j n = ansW.getD j [] ++ 32 :: digV n := by unfold ansT; rw [if_pos (.inr (by have := of_decide_eq_true c2; omega))]
    simp only [go_sem, ↓reduceIte, Nat.reduceLT, Nat.reduceLeDiff, Nat.reduceEqDiff, Nat.reduceAdd, Nat.reduceMul, Nat.reduceSub, reduceCtorEq, Int.reduceLT, Int.reduceLE, Int.reduceEq, Int.reduceToNat, decide_true, decide_false, Int.reduceNeg, Int.cast_ofNat_Int, sg, AO.sg, Option.isNone_none, h1, h2, h3, h4, Int.toNat_natCast, hj0, hc, c1, c2]
    refine Cc_of ((digits_ok n (by omega) (by omega))) ?_
    rintro h' r ⟨rfl, rfl⟩
    simp only [go_sem, ↓reduceIte, Nat.reduceLT, Nat.reduceLeDiff, Nat.reduceEqDiff, Nat.reduceAdd, Nat.reduceMul, Nat.reduceSub, reduceCtorEq, Int.reduceLT, Int.reduceLE, Int.reduceEq, Int.reduceToNat, decide_true, decide_false, Int.reduceNeg, Int.cast_ofNat_Int, sg, AO.sg, Option.isNone_none]
    refine ⟨by unfold maxLen; first | omega | (simp only [List.length_append, List.length_cons, List.length_nil]; omega), by unfold maxLen; first | omega | (simp only [List.length_append, List.length_cons, List.length_nil]; omega), ?_⟩
    refine end_pure ?_
    simp only [go_sem, ↓reduceIte, Nat.reduceLT, Nat.reduceLeDiff, Nat.reduceEqDiff, Nat.reduceAdd, Nat.reduceMul, Nat.reduceSub, reduceCtorEq, Int.reduceLT, Int.reduceLE, Int.reduceEq, Int.reduceToNat, decide_true, decide_false, Int.reduceNeg, Int.cast_ofNat_Int, sg, AO.sg, Option.isNone_none]
    rw [e1]
    rfl
  have e1 : ansT j n = ansW.getD j [] := by
    unfold ansT
    rw [if_neg, List.append_nil]
    have := of_decide_eq_false c1
    have := of_decide_eq_false c2
    omega
  simp only [go_sem, ↓reduceIte, Nat.reduceLT, Nat.reduceLeDiff, Nat.reduceEqDiff, Nat.reduceAdd, Nat.reduceMul, Nat.reduceSub, reduceCtorEq, Int.reduceLT, Int.reduceLE, Int.reduceEq, Int.reduceToNat, decide_true, decide_false, Int.reduceNeg, Int.cast_ofNat_Int, sg, AO.sg, Option.isNone_none, h1, h2, h3, h4, Int.toNat_natCast, hj0, hc, c1, c2]
  refine end_pure ?_
  simp only [go_sem, ↓reduceIte, Nat.reduceLT, Nat.reduceLeDiff, Nat.reduceEqDiff, Nat.reduceAdd, Nat.reduceMul, Nat.reduceSub, reduceCtorEq, Int.reduceLT, Int.reduceLE, Int.reduceEq, Int.reduceToNat, decide_true, decide_false, Int.reduceNeg, Int.cast_ofNat_Int, sg, AO.sg, Option.isNone_none]
  rw [e1]
  rfl
end Go.Am
