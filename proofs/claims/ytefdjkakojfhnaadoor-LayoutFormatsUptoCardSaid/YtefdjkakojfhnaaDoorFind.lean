/- slices.IndexFunc and ContainsFunc, with a function that captures nothing. -/
import Derived.Test.YtefdjkakojfhnaaDoorNumr
namespace Go.Am
open Go Go.Proofs
set_option maxRecDepth 100000
set_option linter.unusedVariables false
set_option linter.unusedSimpArgs false
def findI {α : Type} (p : α → Bool) : Nat → List α → Int
  | _, [] => -1
  | k, x :: r => if p x then (k : Int) else findI p (k + 1) r
theorem findI_drop {α : Type} (p : α → Bool) (l : List α) : ∀ (i : Nat), i ≤ l.length → (∀ j x, j < i → l[j]? = some x → p x = false) → findI p 0 l = findI p i (l.drop i) := by
  intro i
  induction i with
  | zero => intro _ _; rfl
  | succ i ih =>
    intro h1 h2
    rw [ih (by omega) (fun j x hj hx => h2 j x (by omega) hx), List.drop_eq_getElem_cons (by omega)]
    have := h2 i l[i] (by omega) (List.getElem?_eq_getElem (by omega))
    simp [findI, this]
theorem indexS_ok (l : List (List UInt8)) (hl : l.length ≤ 140737488355328) (g : FuncId) (p : List UInt8 → Bool) (hp : ∀ x, ACalls Tryd.prog g [.p (.str x)] [] fun h r => h = [] ∧ r = .p (.bool (p x))) :
    ACalls Tryd.prog 76 [.p (.sl (encS l)), .fn g []] [] fun h r => h = [] ∧ r = .p (.int .i64 (findI p 0 l)) := by
  refine ACalls_X Tryd.func76 rfl enters76 (by simp [Tryd.f76]) ?_
  simp only [go_sem, ↓reduceIte, Nat.reduceLT, Nat.reduceLeDiff, Nat.reduceEqDiff, Nat.reduceAdd, Nat.reduceMul, Nat.reduceSub, reduceCtorEq, Int.reduceLT, Int.reduceLE, Int.reduceEq, Int.reduceToNat, decide_true, decide_false, Int.reduceNeg, Int.cast_ofNat_Int, sg, AO.sg, Option.isNone_none, encS_len]
  refine X_loop_inv (fun i => ⟨[(0, .p (.sl (encS l))), (1, .fn g []), (7, .p (.int .i64 (l.length : Nat))), (8, .p (.int .i64 (i : Nat)))], [], 19⟩) (fun i => i ≤ l.length ∧ ∀ j x, j < i → l[j]? = some x → p x = false) (fun i => l.length - i) 0 ⟨Nat.zero_le _, by simp⟩
    (Wk.forget (by simp [Le, LeE, LeH, get, envIds, hpIds, KeepH, D.ids, idsL])) ?_
  rintro i n ⟨hi, he⟩ ih
  simp only [go_sem, ↓reduceIte, Nat.reduceLT, Nat.reduceLeDiff, Nat.reduceEqDiff, Nat.reduceAdd, Nat.reduceMul, Nat.reduceSub, reduceCtorEq, Int.reduceLT, Int.reduceLE, Int.reduceEq, Int.reduceToNat, decide_true, decide_false, Int.reduceNeg, Int.cast_ofNat_Int, sg, AO.sg, Option.isNone_none]
  refine Cn_split (fun h2 => ?_) (fun h2 => ?_)
  · have hlt : i < l.length := by simp at h2; omega
    simp only [go_sem, ↓reduceIte, Nat.reduceLT, Nat.reduceLeDiff, Nat.reduceEqDiff, Nat.reduceAdd, Nat.reduceMul, Nat.reduceSub, reduceCtorEq, Int.reduceLT, Int.reduceLE, Int.reduceEq, Int.reduceToNat, decide_true, decide_false, Int.reduceNeg, Int.cast_ofNat_Int, sg, AO.sg, Option.isNone_none, encS_len, Int.toNat_natCast, encS_get l i hlt]
    have hw := wrap_succ i (by omega)
    have hx : l[i]? = some (l.getD i []) := by simp [List.getD, hlt]
    have hdrop : l.drop i = l.getD i [] :: l.drop (i + 1) := by rw [List.drop_eq_getElem_cons hlt]; simp [List.getD, hlt]
    refine ⟨by omega, Cc_of (hp _) ?_⟩
    rintro h' r ⟨rfl, rfl⟩
    simp only [go_sem, ↓reduceIte, Nat.reduceLT, Nat.reduceLeDiff, Nat.reduceEqDiff, Nat.reduceAdd, Nat.reduceMul, Nat.reduceSub, reduceCtorEq, Int.reduceLT, Int.reduceLE, Int.reduceEq, Int.reduceToNat, decide_true, decide_false, Int.reduceNeg, Int.cast_ofNat_Int, sg, AO.sg, Option.isNone_none]
    cases hpx : p (l.getD i [])
    · simp only [go_sem, ↓reduceIte, Nat.reduceLT, Nat.reduceLeDiff, Nat.reduceEqDiff, Nat.reduceAdd, Nat.reduceMul, Nat.reduceSub, reduceCtorEq, Int.reduceLT, Int.reduceLE, Int.reduceEq, Int.reduceToNat, decide_true, decide_false, Int.reduceNeg, Int.cast_ofNat_Int, sg, AO.sg, Option.isNone_none, hw]
      refine ih (i + 1) _ ⟨by omega, fun j x hj hjx => ?_⟩ (by omega) (Wk.forget (by simp [Le, LeE, LeH, get, envIds, hpIds, KeepH, D.ids, idsL]))
      rcases Nat.lt_succ_iff_lt_or_eq.1 hj with hj | rfl
      · exact he j x hj hjx
      · rw [hx] at hjx; cases hjx; exact hpx
    · simp only [go_sem, ↓reduceIte, Nat.reduceLT, Nat.reduceLeDiff, Nat.reduceEqDiff, Nat.reduceAdd, Nat.reduceMul, Nat.reduceSub, reduceCtorEq, Int.reduceLT, Int.reduceLE, Int.reduceEq, Int.reduceToNat, decide_true, decide_false, Int.reduceNeg, Int.cast_ofNat_Int, sg, AO.sg, Option.isNone_none]
      rw [findI_drop p l i hi he, hdrop]
      simp only [findI, hpx, if_true, and_self]
  · simp only [go_sem, ↓reduceIte, Nat.reduceLT, Nat.reduceLeDiff, Nat.reduceEqDiff, Nat.reduceAdd, Nat.reduceMul, Nat.reduceSub, reduceCtorEq, Int.reduceLT, Int.reduceLE, Int.reduceEq, Int.reduceToNat, decide_true, decide_false, Int.reduceNeg, Int.cast_ofNat_Int, sg, AO.sg, Option.isNone_none]
    have : i = l.length := by simp at h2; omega
    rw [findI_drop p l i hi he, this, List.drop_length]
    simp [findI]
theorem indexI_ok (l : List Int) (hl : l.length ≤ 140737488355328) (g : FuncId) (p : Int → Bool) (hp : ∀ x, ACalls Tryd.prog g [.p (.int .i64 x)] [] fun h r => h = [] ∧ r = .p (.bool (p x))) :
    ACalls Tryd.prog 77 [.p (.sl (encI l)), .fn g []] [] fun h r => h = [] ∧ r = .p (.int .i64 (findI p 0 l)) := by
  refine ACalls_X Tryd.func77 rfl enters77 (by simp [Tryd.f77]) ?_
  simp only [go_sem, ↓reduceIte, Nat.reduceLT, Nat.reduceLeDiff, Nat.reduceEqDiff, Nat.reduceAdd, Nat.reduceMul, Nat.reduceSub, reduceCtorEq, Int.reduceLT, Int.reduceLE, Int.reduceEq, Int.reduceToNat, decide_true, decide_false, Int.reduceNeg, Int.cast_ofNat_Int, sg, AO.sg, Option.isNone_none, encI_len]
  refine X_loop_inv (fun i => ⟨[(0, .p (.sl (encI l))), (1, .fn g []), (7, .p (.int .i64 (l.length : Nat))), (8, .p (.int .i64 (i : Nat)))], [], 19⟩) (fun i => i ≤ l.length ∧ ∀ j x, j < i → l[j]? = some x → p x = false) (fun i => l.length - i) 0 ⟨Nat.zero_le _, by simp⟩
    (Wk.forget (by simp [Le, LeE, LeH, get, envIds, hpIds, KeepH, D.ids, idsL])) ?_
  rintro i n ⟨hi, he⟩ ih
  simp only [go_sem, ↓reduceIte, Nat.reduceLT, Nat.reduceLeDiff, Nat.reduceEqDiff, Nat.reduceAdd, Nat.reduceMul, Nat.reduceSub, reduceCtorEq, Int.reduceLT, Int.reduceLE, Int.reduceEq, Int.reduceToNat, decide_true, decide_false, Int.reduceNeg, Int.cast_ofNat_Int, sg, AO.sg, Option.isNone_none]
  refine Cn_split (fun h2 => ?_) (fun h2 => ?_)
  · have hlt : i < l.length := by simp at h2; omega
    simp only [go_sem, ↓reduceIte, Nat.reduceLT, Nat.reduceLeDiff, Nat.reduceEqDiff, Nat.reduceAdd, Nat.reduceMul, Nat.reduceSub, reduceCtorEq, Int.reduceLT, Int.reduceLE, Int.reduceEq, Int.reduceToNat, decide_true, decide_false, Int.reduceNeg, Int.cast_ofNat_Int, sg, AO.sg, Option.isNone_none, encI_len, Int.toNat_natCast, encI_get l i hlt]
    have hw := wrap_succ i (by omega)
    have hx : l[i]? = some (l.getD i 0) := by simp [List.getD, hlt]
    have hdrop : l.drop i = l.getD i 0 :: l.drop (i + 1) := by rw [List.drop_eq_getElem_cons hlt]; simp [List.getD, hlt]
    refine ⟨by omega, Cc_of (hp _) ?_⟩
    rintro h' r ⟨rfl, rfl⟩
    simp only [go_sem, ↓reduceIte, Nat.reduceLT, Nat.reduceLeDiff, Nat.reduceEqDiff, Nat.reduceAdd, Nat.reduceMul, Nat.reduceSub, reduceCtorEq, Int.reduceLT, Int.reduceLE, Int.reduceEq, Int.reduceToNat, decide_true, decide_false, Int.reduceNeg, Int.cast_ofNat_Int, sg, AO.sg, Option.isNone_none]
    cases hpx : p (l.getD i 0)
    · simp only [go_sem, ↓reduceIte, Nat.reduceLT, Nat.reduceLeDiff, Nat.reduceEqDiff, Nat.reduceAdd, Nat.reduceMul, Nat.reduceSub, reduceCtorEq, Int.reduceLT, Int.reduceLE, Int.reduceEq, Int.reduceToNat, decide_true, decide_false, Int.reduceNeg, Int.cast_ofNat_Int, sg, AO.sg, Option.isNone_none, hw]
      refine ih (i + 1) _ ⟨by omega, fun j x hj hjx => ?_⟩ (by omega) (Wk.forget (by simp [Le, LeE, LeH, get, envIds, hpIds, KeepH, D.ids, idsL]))
      rcases Nat.lt_succ_iff_lt_or_eq.1 hj with hj | rfl
      · exact he j x hj hjx
      · rw [hx] at hjx; cases hjx; exact hpx
    · simp only [go_sem, ↓reduceIte, Nat.reduceLT, Nat.reduceLeDiff, Nat.reduceEqDiff, Nat.reduceAdd, Nat.reduceMul, Nat.reduceSub, reduceCtorEq, Int.reduceLT, Int.reduceLE, Int.reduceEq, Int.reduceToNat, decide_true, decide_false, Int.reduceNeg, Int.cast_ofNat_Int, sg, AO.sg, Option.isNone_none]
      rw [findI_drop p l i hi he, hdrop]
      simp only [findI, hpx, if_true, and_self]
  · simp only [go_sem, ↓reduceIte, Nat.reduceLT, Nat.reduceLeDiff, Nat.reduceEqDiff, Nat.reduceAdd, Nat.reduceMul, Nat.reduceSub, reduceCtorEq, Int.reduceLT, Int.reduceLE, Int.reduceEq, Int.reduceToNat, decide_true, decide_false, Int.reduceNeg, Int.cast_ofNat_Int, sg, AO.sg, Option.isNone_none]
    have : i = l.length := by simp at h2; omega
    rw [findI_drop p l i hi he, this, List.drop_length]
    simp [findI]
theorem containsS_ok (l : List (List UInt8)) (hl : l.length ≤ 140737488355328) (g : FuncId) (p : List UInt8 → Bool) (hp : ∀ x, ACalls Tryd.prog g [.p (.str x)] [] fun h r => h = [] ∧ r = .p (.bool (p x))) :
    ACalls Tryd.prog 50 [.p (.sl (encS l)), .fn g []] [] fun h r => h = [] ∧ r = .p (.bool (decide (0 ≤ findI p 0 l))) := by
  refine ACalls_X Tryd.func50 rfl enters50 (by simp [Tryd.f50]) ?_
  simp only [go_sem, ↓reduceIte, Nat.reduceLT, Nat.reduceLeDiff, Nat.reduceEqDiff, Nat.reduceAdd, Nat.reduceMul, Nat.reduceSub, reduceCtorEq, Int.reduceLT, Int.reduceLE, Int.reduceEq, Int.reduceToNat, decide_true, decide_false, Int.reduceNeg, Int.cast_ofNat_Int, sg, AO.sg, Option.isNone_none]
  refine Cc_of (indexS_ok l hl g p hp) ?_
  rintro h' r ⟨rfl, rfl⟩
  simp only [go_sem, ↓reduceIte, Nat.reduceLT, Nat.reduceLeDiff, Nat.reduceEqDiff, Nat.reduceAdd, Nat.reduceMul, Nat.reduceSub, reduceCtorEq, Int.reduceLT, Int.reduceLE, Int.reduceEq, Int.reduceToNat, decide_true, decide_false, Int.reduceNeg, Int.cast_ofNat_Int, sg, AO.sg, Option.isNone_none]
theorem containsI_ok (l : List Int) (hl : l.length ≤ 140737488355328) (g : FuncId) (p : Int → Bool) (hp : ∀ x, ACalls Tryd.prog g [.p (.int .i64 x)] [] fun h r => h = [] ∧ r = .p (.bool (p x))) :
    ACalls Tryd.prog 52 [.p (.sl (encI l)), .fn g []] [] fun h r => h = [] ∧ r = .p (.bool (decide (0 ≤ findI p 0 l))) := by
  refine ACalls_X Tryd.func52 rfl enters52 (by simp [Tryd.f52]) ?_
  simp only [go_sem, ↓reduceIte, Nat.reduceLT, Nat.reduceLeDiff, Nat.reduceEqDiff, Nat.reduceAdd, Nat.reduceMul, Nat.reduceSub, reduceCtorEq, Int.reduceLT, Int.reduceLE, Int.reduceEq, Int.reduceToNat, decide_true, decide_false, Int.reduceNeg, Int.cast_ofNat_Int, sg, AO.sg, Option.isNone_none]
  refine Cc_of (indexI_ok l hl g p hp) ?_
  rintro h' r ⟨rfl, rfl⟩
  simp only [go_sem, ↓reduceIte, Nat.reduceLT, Nat.reduceLeDiff, Nat.reduceEqDiff, Nat.reduceAdd, Nat.reduceMul, Nat.reduceSub, reduceCtorEq, Int.reduceLT, Int.reduceLE, Int.reduceEq, Int.reduceToNat, decide_true, decide_false, Int.reduceNeg, Int.cast_ofNat_Int, sg, AO.sg, Option.isNone_none]
end Go.Am
