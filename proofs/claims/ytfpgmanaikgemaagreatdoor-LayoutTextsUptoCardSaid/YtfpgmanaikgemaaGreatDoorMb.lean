/- Texts of this proof, merged: Find, Vald, Form, Indf, Pars, Valf, Parl, Samd. -/
import Derived.Test.YtfpgmanaikgemaaGreatDoorMa
section
/- slices.IndexFunc and ContainsFunc, with a function that captures nothing. -/
namespace Go.Am
open Go Go.Proofs
set_option maxRecDepth 100000
set_option linter.unusedVariables false
set_option linter.unusedSimpArgs false
def findI {α : Type} (p : α → Bool) : Nat → List α → Int
  | _, [] => -1
  | k, x :: r => if p x then (k : Int) else findI p (k + 1) r
theorem findI_drop {α : Type} (p : α → Bool) (l : List α) : ∀ (i : Nat), i ≤ l.length → (∀ j x, j < i → l[j]? = some x → p x = false) → findI p 0 l = findI p i (l.drop i) := by
  intro i
  induction i with
  | zero => intro _ _; rfl
  | succ i ih =>
    intro h1 h2
    rw [ih (by omega) (fun j x hj hx => h2 j x (by omega) hx), List.drop_eq_getElem_cons (by omega)]
    have := h2 i l[i] (by omega) (List.getElem?_eq_getElem (by omega))
    simp [findI, this]
theorem indexS_ok (l : List (List UInt8)) (hl : l.length ≤ 140737488355328) (g : FuncId) (p : List UInt8 → Bool) (hp : ∀ x, ACalls Tryz.prog g [.p (.str x)] [] fun h r => h = [] ∧ r = .p (.bool (p x))) :
    ACalls Tryz.prog 111 [.p (.sl (encS l)), .fn g []] [] fun h r => h = [] ∧ r = .p (.int .i64 (findI p 0 l)) := by
  refine ACalls_X Tryz.func111 rfl enters111 (by simp [Tryz.f111]) ?_
  simp only [go_sem, ↓reduceIte, Nat.reduceLT, Nat.reduceLeDiff, Nat.reduceEqDiff, Nat.reduceAdd, Nat.reduceMul, Nat.reduceSub, reduceCtorEq, Int.reduceLT, Int.reduceLE, Int.reduceEq, Int.reduceToNat, decide_true, decide_false, Int.reduceNeg, Int.cast_ofNat_Int, sg, AO.sg, Option.isNone_none, encS_len]
  refine X_loop_inv (fun i => ⟨[(0, .p (.sl (encS l))), (1, .fn g []), (7, .p (.int .i64 (l.length : Nat))), (8, .p (.int .i64 (i : Nat)))], [], 19⟩) (fun i => i ≤ l.length ∧ ∀ j x, j < i → l[j]? = some x → p x = false) (fun i => l.length - i) 0 ⟨Nat.zero_le _, by simp⟩
    (Wk.forget (by simp [Le, LeE, LeH, get, envIds, hpIds, KeepH, D.ids, idsL])) ?_
  rintro i n ⟨hi, he⟩ ih
  simp only [go_sem, ↓reduceIte, Nat.reduceLT, Nat.reduceLeDiff, Nat.reduceEqDiff, Nat.reduceAdd, Nat.reduceMul, Nat.reduceSub, reduceCtorEq, Int.reduceLT, Int.reduceLE, Int.reduceEq, Int.reduceToNat, decide_true, decide_false, Int.reduceNeg, Int.cast_ofNat_Int, sg, AO.sg, Option.isNone_none]
  refine Cn_split (fun h2 => ?_) (fun h2 => ?_)
  · have hlt : i < l.length := by simp at h2; omega
    simp only [go_sem, ↓reduceIte, Nat.reduceLT, Nat.reduceLeDiff, Nat.reduceEqDiff, Nat.reduceAdd, Nat.reduceMul, Nat.reduceSub, reduceCtorEq, Int.reduceLT, Int.reduceLE, Int.reduceEq, Int.reduceToNat, decide_true, decide_false, Int.reduceNeg, Int.cast_ofNat_Int, sg, AO.sg, Option.isNone_none, encS_len, Int.toNat_natCast, encS_get l i hlt]
    have hw := wrap_succ i (by omega)
    have hx : l[i]? = some (l.getD i []) := by simp [List.getD, hlt]
    have hdrop : l.drop i = l.getD i [] :: l.drop (i + 1) := by rw [List.drop_eq_getElem_cons hlt]; simp [List.getD, hlt]
    refine ⟨by omega, Cc_of (hp _) ?_⟩
    rintro h' r ⟨rfl, rfl⟩
    simp only [go_sem, ↓reduceIte, Nat.reduceLT, Nat.reduceLeDiff, Nat.reduceEqDiff, Nat.reduceAdd, Nat.reduceMul, Nat.reduceSub, reduceCtorEq, Int.reduceLT, Int.reduceLE, Int.reduceEq, Int.reduceToNat, decide_true, decide_false, Int.reduceNeg, Int.cast_ofNat_Int, sg, AO.sg, Option.isNone_none]
    cases hpx : p (l.getD i [])
    · simp only [go_sem, ↓reduceIte, Nat.reduceLT, Nat.reduceLeDiff, Nat.reduceEqDiff, Nat.reduceAdd, Nat.reduceMul, Nat.reduceSub, reduceCtorEq, Int.reduceLT, Int.reduceLE, Int.reduceEq, Int.reduceToNat, decide_true, decide_false, Int.reduceNeg, Int.cast_ofNat_Int, sg, AO.sg, Option.isNone_none, hw]
      refine ih (i + 1) _ ⟨by omega, fun j x hj hjx => ?_⟩ (by omega) (Wk.forget (by simp [Le, LeE, LeH, get, envIds, hpIds, KeepH, D.ids, idsL]))
      rcases Nat.lt_succ_iff_lt_or_eq.1 hj with hj | rfl
      · exact he j x hj hjx
      · rw [hx] at hjx; cases hjx; exact hpx
    · simp only [go_sem, ↓reduceIte, Nat.reduceLT, Nat.reduceLeDiff, Nat.reduceEqDiff, Nat.reduceAdd, Nat.reduceMul, Nat.reduceSub, reduceCtorEq, Int.reduceLT, Int.reduceLE, Int.reduceEq, Int.reduceToNat, decide_true, decide_false, Int.reduceNeg, Int.cast_ofNat_Int, sg, AO.sg, Option.isNone_none]
      rw [findI_drop p l i hi he, hdrop]
      simp only [findI, hpx, if_true, and_self]
  · simp only [go_sem, ↓reduceIte, Nat.reduceLT, Nat.reduceLeDiff, Nat.reduceEqDiff, Nat.reduceAdd, Nat.reduceMul, Nat.reduceSub, reduceCtorEq, Int.reduceLT, Int.reduceLE, Int.reduceEq, Int.reduceToNat, decide_true, decide_false, Int.reduceNeg, Int.cast_ofNat_Int, sg, AO.sg, Option.isNone_none]
    have : i = l.length := by simp at h2; omega
    rw [findI_drop p l i hi he, this, List.drop_length]
    simp [findI]
theorem indexI_ok (l : List Int) (hl : l.length ≤ 140737488355328) (g : FuncId) (p : Int → Bool) (hp : ∀ x, ACalls Tryz.prog g [.p (.int .i64 x)] [] fun h r => h = [] ∧ r = .p (.bool (p x))) :
    ACalls Tryz.prog 112 [.p (.sl (encI l)), .fn g []] [] fun h r => h = [] ∧ r = .p (.int .i64 (findI p 0 l)) := by
  refine ACalls_X Tryz.func112 rfl enters112 (by simp [Tryz.f112]) ?_
  simp only [go_sem, ↓reduceIte, Nat.reduceLT, Nat.reduceLeDiff, Nat.reduceEqDiff, Nat.reduceAdd, Nat.reduceMul, Nat.reduceSub, reduceCtorEq, Int.reduceLT, Int.reduceLE, Int.reduceEq, Int.reduceToNat, decide_true, decide_false, Int.reduceNeg, Int.cast_ofNat_Int, sg, AO.sg, Option.isNone_none, encI_len]
  refine X_loop_inv (fun i => ⟨[(0, .p (.sl (encI l))), (1, .fn g []), (7, .p (.int .i64 (l.length : Nat))), (8, .p (.int .i64 (i : Nat)))], [], 19⟩) (fun i => i ≤ l.length ∧ ∀ j x, j < i → l[j]? = some x → p x = false) (fun i => l.length - i) 0 ⟨Nat.zero_le _, by simp⟩
    (Wk.forget (by simp [Le, LeE, LeH, get, envIds, hpIds, KeepH, D.ids, idsL])) ?_
  rintro i n ⟨hi, he⟩ ih
  simp only [go_sem, ↓reduceIte, Nat.reduceLT, Nat.reduceLeDiff, Nat.reduceEqDiff, Nat.reduceAdd, Nat.reduceMul, Nat.reduceSub, reduceCtorEq, Int.reduceLT, Int.reduceLE, Int.reduceEq, Int.reduceToNat, decide_true, decide_false, Int.reduceNeg, Int.cast_ofNat_Int, sg, AO.sg, Option.isNone_none]
  refine Cn_split (fun h2 => ?_) (fun h2 => ?_)
  · have hlt : i < l.length := by simp at h2; omega
    simp only [go_sem, ↓reduceIte, Nat.reduceLT, Nat.reduceLeDiff, Nat.reduceEqDiff, Nat.reduceAdd, Nat.reduceMul, Nat.reduceSub, reduceCtorEq, Int.reduceLT, Int.reduceLE, Int.reduceEq, Int.reduceToNat, decide_true, decide_false, Int.reduceNeg, Int.cast_ofNat_Int, sg, AO.sg, Option.isNone_none, encI_len, Int.toNat_natCast, encI_get l i hlt]
    have hw := wrap_succ i (by omega)
    have hx : l[i]? = some (l.getD i 0) := by simp [List.getD, hlt]
    have hdrop : l.drop i = l.getD i 0 :: l.drop (i + 1) := by rw [List.drop_eq_getElem_cons hlt]; simp [List.getD, hlt]
    refine ⟨by omega, Cc_of (hp _) ?_⟩
    rintro h' r ⟨rfl, rfl⟩
    simp only [go_sem, ↓reduceIte, Nat.reduceLT, Nat.reduceLeDiff, Nat.reduceEqDiff, Nat.reduceAdd, Nat.reduceMul, Nat.reduceSub, reduceCtorEq, Int.reduceLT, Int.reduceLE, Int.reduceEq, Int.reduceToNat, decide_true, decide_false, Int.reduceNeg, Int.cast_ofNat_Int, sg, AO.sg, Option.isNone_none]
    cases hpx : p (l.getD i 0)
    · simp only [go_sem, ↓reduceIte, Nat.reduceLT, Nat.reduceLeDiff, Nat.reduceEqDiff, Nat.reduceAdd, Nat.reduceMul, Nat.reduceSub, reduceCtorEq, Int.reduceLT, Int.reduceLE, Int.reduceEq, Int.reduceToNat, decide_true, decide_false, Int.reduceNeg, Int.cast_ofNat_Int, sg, AO.sg, Option.isNone_none, hw]
      refine ih (i + 1) _ ⟨by omega, fun j x hj hjx => ?_⟩ (by omega) (Wk.forget (by simp [Le, LeE, LeH, get, envIds, hpIds, KeepH, D.ids, idsL]))
      rcases Nat.lt_succ_iff_lt_or_eq.1 hj with hj | rfl
      · exact he j x hj hjx
      · rw [hx] at hjx; cases hjx; exact hpx
    · simp only [go_sem, ↓reduceIte, Nat.reduceLT, Nat.reduceLeDiff, Nat.reduceEqDiff, Nat.reduceAdd, Nat.reduceMul, Nat.reduceSub, reduceCtorEq, Int.reduceLT, Int.reduceLE, Int.reduceEq, Int.reduceToNat, decide_true, decide_false, Int.reduceNeg, Int.cast_ofNat_Int, sg, AO.sg, Option.isNone_none]
      rw [findI_drop p l i hi he, hdrop]
      simp only [findI, hpx, if_true, and_self]
  · simp only [go_sem, ↓reduceIte, Nat.reduceLT, Nat.reduceLeDiff, Nat.reduceEqDiff, Nat.reduceAdd, Nat.reduceMul, Nat.reduceSub, reduceCtorEq, Int.reduceLT, Int.reduceLE, Int.reduceEq, Int.reduceToNat, decide_true, decide_false, Int.reduceNeg, Int.cast_ofNat_Int, sg, AO.sg, Option.isNone_none]
    have : i = l.length := by simp at h2; omega
    rw [findI_drop p l i hi he, this, List.drop_length]
    simp [findI]
theorem containsS_ok (l : List (List UInt8)) (hl : l.length ≤ 140737488355328) (g : FuncId) (p : List UInt8 → Bool) (hp : ∀ x, ACalls Tryz.prog g [.p (.str x)] [] fun h r => h = [] ∧ r = .p (.bool (p x))) :
    ACalls Tryz.prog 63 [.p (.sl (encS l)), .fn g []] [] fun h r => h = [] ∧ r = .p (.bool (decide (0 ≤ findI p 0 l))) := by
  refine ACalls_X Tryz.func63 rfl enters63 (by simp [Tryz.f63]) ?_
  simp only [go_sem, ↓reduceIte, Nat.reduceLT, Nat.reduceLeDiff, Nat.reduceEqDiff, Nat.reduceAdd, Nat.reduceMul, Nat.reduceSub, reduceCtorEq, Int.reduceLT, Int.reduceLE, Int.reduceEq, Int.reduceToNat, decide_true, decide_false, Int.reduceNeg, Int.cast_ofNat_Int, sg, AO.sg, Option.isNone_none]
  refine Cc_of (indexS_ok l hl g p hp) ?_
  rintro h' r ⟨rfl, rfl⟩
  simp only [go_sem, ↓reduceIte, Nat.reduceLT, Nat.reduceLeDiff, Nat.reduceEqDiff, Nat.reduceAdd, Nat.reduceMul, Nat.reduceSub, reduceCtorEq, Int.reduceLT, Int.reduceLE, Int.reduceEq, Int.reduceToNat, decide_true, decide_false, Int.reduceNeg, Int.cast_ofNat_Int, sg, AO.sg, Option.isNone_none]
theorem containsI_ok (l : List Int) (hl : l.length ≤ 140737488355328) (g : FuncId) (p : Int → Bool) (hp : ∀ x, ACalls Tryz.prog g [.p (.int .i64 x)] [] fun h r => h = [] ∧ r = .p (.bool (p x))) :
    ACalls Tryz.prog 65 [.p (.sl (encI l)), .fn g []] [] fun h r => h = [] ∧ r = .p (.bool (decide (0 ≤ findI p 0 l))) := by
  refine ACalls_X Tryz.func65 rfl enters65 (by simp [Tryz.f65]) ?_
  simp only [go_sem, ↓reduceIte, Nat.reduceLT, Nat.reduceLeDiff, Nat.reduceEqDiff, Nat.reduceAdd, Nat.reduceMul, Nat.reduceSub, reduceCtorEq, Int.reduceLT, Int.reduceLE, Int.reduceEq, Int.reduceToNat, decide_true, decide_false, Int.reduceNeg, Int.cast_ofNat_Int, sg, AO.sg, Option.isNone_none]
  refine Cc_of (indexI_ok l hl g p hp) ?_
  rintro h' r ⟨rfl, rfl⟩
  simp only [go_sem, ↓reduceIte, Nat.reduceLT, Nat.reduceLeDiff, Nat.reduceEqDiff, Nat.reduceAdd, Nat.reduceMul, Nat.reduceSub, reduceCtorEq, Int.reduceLT, Int.reduceLE, Int.reduceEq, Int.reduceToNat, decide_true, decide_false, Int.reduceNeg, Int.cast_ofNat_Int, sg, AO.sg, Option.isNone_none]
end Go.Am
end

section
/- The small functions of layout and of its reference. -/
namespace Go.Am
open Go Go.Proofs
set_option maxRecDepth 100000
set_option linter.unusedVariables false
set_option linter.unusedSimpArgs false
theorem valid1_ok (x : List UInt8) : ACalls Tryz.prog 64 [.p (.str x)] [] fun h r => h = [] ∧ r = .p (.bool (!nameB x)) := by
  refine ACalls_X Tryz.func64 rfl enters64 (by simp [Tryz.f64]) ?_
  simp only [go_sem, ↓reduceIte, Nat.reduceLT, Nat.reduceLeDiff, Nat.reduceEqDiff, Nat.reduceAdd, Nat.reduceMul, Nat.reduceSub, reduceCtorEq, Int.reduceLT, Int.reduceLE, Int.reduceEq, Int.reduceToNat, decide_true, decide_false, Int.reduceNeg, Int.cast_ofNat_Int, sg, AO.sg, Option.isNone_none]
  refine Cc_of (name1_ok x) ?_
  rintro h' r ⟨rfl, rfl⟩
  simp only [go_sem, ↓reduceIte, Nat.reduceLT, Nat.reduceLeDiff, Nat.reduceEqDiff, Nat.reduceAdd, Nat.reduceMul, Nat.reduceSub, reduceCtorEq, Int.reduceLT, Int.reduceLE, Int.reduceEq, Int.reduceToNat, decide_true, decide_false, Int.reduceNeg, Int.cast_ofNat_Int, sg, AO.sg, Option.isNone_none]
theorem valid2_ok (n : Int) : ACalls Tryz.prog 66 [.p (.int .i64 n)] [] fun h r => h = [] ∧ r = .p (.bool (decide (n < -9999) || decide (9999 < n))) := by
  refine ACalls_X Tryz.func66 rfl enters66 (by simp [Tryz.f66]) ?_
  by_cases h1 : n < -9999 <;> by_cases h2 : 9999 < n <;>
  · simp only [go_sem, ↓reduceIte, Nat.reduceLT, Nat.reduceLeDiff, Nat.reduceEqDiff, Nat.reduceAdd, Nat.reduceMul, Nat.reduceSub, reduceCtorEq, Int.reduceLT, Int.reduceLE, Int.reduceEq, Int.reduceToNat, decide_true, decide_false, Int.reduceNeg, Int.cast_ofNat_Int, sg, AO.sg, Option.isNone_none, h1, h2]
    try simp [h1, h2]
def shapeV (w : Int) : Int × Int := if w = 1 then (1, 2) else if w = 2 then (2, 0) else if w = 3 ∨ w = 4 then (3, 1) else if w = 5 then (1, 1) else (0, 4)
theorem shape_ok (w : Int) : ACalls Tryz.prog 98 [.p (.int .i64 w)] [] fun h r => h = [] ∧ r = .tup [.p (.int .i64 (shapeV w).1), .p (.int .i64 (shapeV w).2)] := by
  refine ACalls_X Tryz.func98 rfl enters98 (by simp [Tryz.f98]) ?_
  by_cases h1 : w = 1
  · simp only [go_sem, ↓reduceIte, Nat.reduceLT, Nat.reduceLeDiff, Nat.reduceEqDiff, Nat.reduceAdd, Nat.reduceMul, Nat.reduceSub, reduceCtorEq, Int.reduceLT, Int.reduceLE, Int.reduceEq, Int.reduceToNat, decide_true, decide_false, Int.reduceNeg, Int.cast_ofNat_Int, sg, AO.sg, Option.isNone_none, h1]
    refine end_own ?_
    simp only [go_sem, ↓reduceIte, Nat.reduceLT, Nat.reduceLeDiff, Nat.reduceEqDiff, Nat.reduceAdd, Nat.reduceMul, Nat.reduceSub, reduceCtorEq, Int.reduceLT, Int.reduceLE, Int.reduceEq, Int.reduceToNat, decide_true, decide_false, Int.reduceNeg, Int.cast_ofNat_Int, sg, AO.sg, Option.isNone_none]
    try simp [shapeV, h1]
  by_cases h2 : w = 2
  · simp only [go_sem, ↓reduceIte, Nat.reduceLT, Nat.reduceLeDiff, Nat.reduceEqDiff, Nat.reduceAdd, Nat.reduceMul, Nat.reduceSub, reduceCtorEq, Int.reduceLT, Int.reduceLE, Int.reduceEq, Int.reduceToNat, decide_true, decide_false, Int.reduceNeg, Int.cast_ofNat_Int, sg, AO.sg, Option.isNone_none, h2]
    refine end_own ?_
    simp only [go_sem, ↓reduceIte, Nat.reduceLT, Nat.reduceLeDiff, Nat.reduceEqDiff, Nat.reduceAdd, Nat.reduceMul, Nat.reduceSub, reduceCtorEq, Int.reduceLT, Int.reduceLE, Int.reduceEq, Int.reduceToNat, decide_true, decide_false, Int.reduceNeg, Int.cast_ofNat_Int, sg, AO.sg, Option.isNone_none]
    try simp [shapeV, h2]
  by_cases h3 : w = 3
  · simp only [go_sem, ↓reduceIte, Nat.reduceLT, Nat.reduceLeDiff, Nat.reduceEqDiff, Nat.reduceAdd, Nat.reduceMul, Nat.reduceSub, reduceCtorEq, Int.reduceLT, Int.reduceLE, Int.reduceEq, Int.reduceToNat, decide_true, decide_false, Int.reduceNeg, Int.cast_ofNat_Int, sg, AO.sg, Option.isNone_none, h3]
    refine end_own ?_
    simp only [go_sem, ↓reduceIte, Nat.reduceLT, Nat.reduceLeDiff, Nat.reduceEqDiff, Nat.reduceAdd, Nat.reduceMul, Nat.reduceSub, reduceCtorEq, Int.reduceLT, Int.reduceLE, Int.reduceEq, Int.reduceToNat, decide_true, decide_false, Int.reduceNeg, Int.cast_ofNat_Int, sg, AO.sg, Option.isNone_none]
    try simp [shapeV, h3]
  by_cases h4 : w = 4
  · simp only [go_sem, ↓reduceIte, Nat.reduceLT, Nat.reduceLeDiff, Nat.reduceEqDiff, Nat.reduceAdd, Nat.reduceMul, Nat.reduceSub, reduceCtorEq, Int.reduceLT, Int.reduceLE, Int.reduceEq, Int.reduceToNat, decide_true, decide_false, Int.reduceNeg, Int.cast_ofNat_Int, sg, AO.sg, Option.isNone_none, h4]
    refine end_own ?_
    simp only [go_sem, ↓reduceIte, Nat.reduceLT, Nat.reduceLeDiff, Nat.reduceEqDiff, Nat.reduceAdd, Nat.reduceMul, Nat.reduceSub, reduceCtorEq, Int.reduceLT, Int.reduceLE, Int.reduceEq, Int.reduceToNat, decide_true, decide_false, Int.reduceNeg, Int.cast_ofNat_Int, sg, AO.sg, Option.isNone_none]
    try simp [shapeV, h4]
  by_cases h5 : w = 5
  · simp only [go_sem, ↓reduceIte, Nat.reduceLT, Nat.reduceLeDiff, Nat.reduceEqDiff, Nat.reduceAdd, Nat.reduceMul, Nat.reduceSub, reduceCtorEq, Int.reduceLT, Int.reduceLE, Int.reduceEq, Int.reduceToNat, decide_true, decide_false, Int.reduceNeg, Int.cast_ofNat_Int, sg, AO.sg, Option.isNone_none, h5]
    refine end_own ?_
    simp only [go_sem, ↓reduceIte, Nat.reduceLT, Nat.reduceLeDiff, Nat.reduceEqDiff, Nat.reduceAdd, Nat.reduceMul, Nat.reduceSub, reduceCtorEq, Int.reduceLT, Int.reduceLE, Int.reduceEq, Int.reduceToNat, decide_true, decide_false, Int.reduceNeg, Int.cast_ofNat_Int, sg, AO.sg, Option.isNone_none]
    try simp [shapeV, h5]
  · simp only [go_sem, ↓reduceIte, Nat.reduceLT, Nat.reduceLeDiff, Nat.reduceEqDiff, Nat.reduceAdd, Nat.reduceMul, Nat.reduceSub, reduceCtorEq, Int.reduceLT, Int.reduceLE, Int.reduceEq, Int.reduceToNat, decide_true, decide_false, Int.reduceNeg, Int.cast_ofNat_Int, sg, AO.sg, Option.isNone_none, h1, h2, h3, h4, h5]
    refine end_own ?_
    simp only [go_sem, ↓reduceIte, Nat.reduceLT, Nat.reduceLeDiff, Nat.reduceEqDiff, Nat.reduceAdd, Nat.reduceMul, Nat.reduceSub, reduceCtorEq, Int.reduceLT, Int.reduceLE, Int.reduceEq, Int.reduceToNat, decide_true, decide_false, Int.reduceNeg, Int.cast_ofNat_Int, sg, AO.sg, Option.isNone_none]
    try simp [shapeV, h1, h2, h3, h4, h5]
end Go.Am
end

section
/- The table of forms. -/
namespace Go.Am
open Go Go.Proofs
set_option maxRecDepth 100000
set_option linter.unusedVariables false
set_option linter.unusedSimpArgs false
structure Fm where
  word : List UInt8
  fields : List UInt8
  more : Bool
def formL : List Fm := [⟨[], [], false⟩, ⟨[98, 108, 111, 99, 107], [78, 35, 35], false⟩, ⟨[108, 97, 110, 101], [78, 78], true⟩, ⟨[115, 116, 97, 116, 105, 111, 110], [78, 78, 78, 35], false⟩,
  ⟨[100, 101, 112, 111, 116], [78, 78, 78, 35], false⟩, ⟨[114, 111, 98, 111, 116], [78, 35], false⟩, ⟨[99, 111, 110, 102, 105, 103], [35, 35, 35, 35], false⟩]
def fmC (f : Fm) : List Pd := [.str f.word, .str f.fields, .bool f.more]
theorem forms_ok : ACalls Tryz.prog 33 [] [] fun h r => h = [] ∧ r = .agg ((formL.flatMap fmC).map .p) := by
  refine ACalls_X Tryz.func33 rfl enters33 (by simp [Tryz.f33]) ?_
  simp only [go_sem, ↓reduceIte, Nat.reduceLT, Nat.reduceLeDiff, Nat.reduceEqDiff, Nat.reduceAdd, Nat.reduceMul, Nat.reduceSub, reduceCtorEq, Int.reduceLT, Int.reduceLE, Int.reduceEq, Int.reduceToNat, decide_true, decide_false, Int.reduceNeg, Int.cast_ofNat_Int, sg, AO.sg, Option.isNone_none]
  refine end_own ?_
  simp only [go_sem, ↓reduceIte, Nat.reduceLT, Nat.reduceLeDiff, Nat.reduceEqDiff, Nat.reduceAdd, Nat.reduceMul, Nat.reduceSub, reduceCtorEq, Int.reduceLT, Int.reduceLE, Int.reduceEq, Int.reduceToNat, decide_true, decide_false, Int.reduceNeg, Int.cast_ofNat_Int, sg, AO.sg, Option.isNone_none]
  rfl
def lineC (num : Int) (fs : List (List UInt8)) : List D := [.p (.int .i64 num), .p (.sl (encS fs))]
theorem parse1_ok (f : Fm) (num : Int) (w : List UInt8) (fs : List (List UInt8)) : ACalls Tryz.prog 85 [.agg ((fmC f).map .p), .ptr 1000000 0] [(1000000, .box (lineC num (w :: fs)))] fun h r => h = [(1000000, .box (lineC num (w :: fs)))] ∧ r = .p (.bool (decide (f.word = w))) := by
  refine ACalls_X Tryz.func85 rfl enters85 (by simp [Tryz.f85]) ?_
  unfold lineC fmC
  simp only [go_sem, ↓reduceIte, Nat.reduceLT, Nat.reduceLeDiff, Nat.reduceEqDiff, Nat.reduceAdd, Nat.reduceMul, Nat.reduceSub, reduceCtorEq, Int.reduceLT, Int.reduceLE, Int.reduceEq, Int.reduceToNat, decide_true, decide_false, Int.reduceNeg, Int.cast_ofNat_Int, sg, AO.sg, Option.isNone_none]
  refine X_any [(1000000, .box [.p (.int .i64 num), .p (.sl (encS (w :: fs)))]), (2, .box [.p (.str f.word), .p (.str f.fields), .p (.bool f.more)])] mixed (p := [(0, 0), (1, 0), (2, 0), (3, 0), (4, 0), (5, 0), (6, 0), (7, 0)]) (by kernel_rfl) (by simp [LeH, get]) ?_
  have h0 : (encS (w :: fs)).getD 0 [] = [.str w] := rfl
  simp only [go_sem, ↓reduceIte, Nat.reduceLT, Nat.reduceLeDiff, Nat.reduceEqDiff, Nat.reduceAdd, Nat.reduceMul, Nat.reduceSub, reduceCtorEq, Int.reduceLT, Int.reduceLE, Int.reduceEq, Int.reduceToNat, decide_true, decide_false, Int.reduceNeg, Int.cast_ofNat_Int, sg, AO.sg, Option.isNone_none, encS_len, h0]
  omega
end Go.Am
end

section
/- slices.IndexFunc over forms, with a function that captures a line. -/
namespace Go.Am
open Go Go.Proofs
set_option maxRecDepth 100000
set_option linter.unusedVariables false
set_option linter.unusedSimpArgs false
def encF (l : List Fm) : List (List Pd) := l.map fmC
theorem encF_len (l : List Fm) : (encF l).length = l.length := by simp [encF]
theorem encF_get (l : List Fm) (i : Nat) (h : i < l.length) : (encF l).getD i [] = [.str l[i].word, .str l[i].fields, .bool l[i].more] := by simp [encF, List.getD, h, fmC]
theorem indexF_ok (l : List Fm) (hl : l.length ≤ 140737488355328) (g : FuncId) (p : Fm → Bool) (x1 x2 : Pd)
    (hp : ∀ x : Fm, ACalls Tryz.prog g [.agg [.p (.str x.word), .p (.str x.fields), .p (.bool x.more)], .ptr 1000000 0] [(1000000, .box [.p x1, .p x2])] fun h r => h = [(1000000, .box [.p x1, .p x2])] ∧ r = .p (.bool (p x))) :
    ACalls Tryz.prog 84 [.p (.sl (encF l)), .fn g [.ptr 1000000 0]] [(1000000, .box [.p x1, .p x2])] fun h r => h = [(1000000, .box [.p x1, .p x2])] ∧ r = .p (.int .i64 (findI p 0 l)) := by
  refine ACalls_X Tryz.func84 rfl enters84 (by simp [Tryz.f84]) ?_
  simp only [go_sem, ↓reduceIte, Nat.reduceLT, Nat.reduceLeDiff, Nat.reduceEqDiff, Nat.reduceAdd, Nat.reduceMul, Nat.reduceSub, reduceCtorEq, Int.reduceLT, Int.reduceLE, Int.reduceEq, Int.reduceToNat, decide_true, decide_false, Int.reduceNeg, Int.cast_ofNat_Int, sg, AO.sg, Option.isNone_none, encF_len]
  refine X_loop_inv (fun i => ⟨[(0, .p (.sl (encF l))), (1, .fn g [.ptr 1000000 0]), (7, .p (.int .i64 (l.length : Nat))), (8, .p (.int .i64 (i : Nat)))], [(1000000, .box [.p x1, .p x2])], 19⟩) (fun i => i ≤ l.length ∧ ∀ j x, j < i → l[j]? = some x → p x = false) (fun i => l.length - i) 0 ⟨Nat.zero_le _, by simp⟩
    (Wk.forget (by simp [Le, LeE, LeH, get, envIds, hpIds, KeepH, D.ids, idsL, AO.ids, setL, base])) ?_
  rintro i n ⟨hi, he⟩ ih
  simp only [go_sem, ↓reduceIte, Nat.reduceLT, Nat.reduceLeDiff, Nat.reduceEqDiff, Nat.reduceAdd, Nat.reduceMul, Nat.reduceSub, reduceCtorEq, Int.reduceLT, Int.reduceLE, Int.reduceEq, Int.reduceToNat, decide_true, decide_false, Int.reduceNeg, Int.cast_ofNat_Int, sg, AO.sg, Option.isNone_none]
  refine Cn_split (fun h2 => ?_) (fun h2 => ?_)
  · have hlt : i < l.length := by simp at h2; omega
    simp only [go_sem, ↓reduceIte, Nat.reduceLT, Nat.reduceLeDiff, Nat.reduceEqDiff, Nat.reduceAdd, Nat.reduceMul, Nat.reduceSub, reduceCtorEq, Int.reduceLT, Int.reduceLE, Int.reduceEq, Int.reduceToNat, decide_true, decide_false, Int.reduceNeg, Int.cast_ofNat_Int, sg, AO.sg, Option.isNone_none, encF_len, Int.toNat_natCast, encF_get l i hlt]
    have hw := wrap_succ i (by omega)
    have hx : l[i]? = some l[i] := by simp
    have hdrop : l.drop i = l[i] :: l.drop (i + 1) := by rw [List.drop_eq_getElem_cons hlt]
    refine ⟨by omega, Cc_of (hp l[i]) ?_⟩
    rintro h' r ⟨rfl, rfl⟩
    simp only [go_sem, ↓reduceIte, Nat.reduceLT, Nat.reduceLeDiff, Nat.reduceEqDiff, Nat.reduceAdd, Nat.reduceMul, Nat.reduceSub, reduceCtorEq, Int.reduceLT, Int.reduceLE, Int.reduceEq, Int.reduceToNat, decide_true, decide_false, Int.reduceNeg, Int.cast_ofNat_Int, sg, AO.sg, Option.isNone_none]
    cases hpx : p l[i]
    · simp only [go_sem, ↓reduceIte, Nat.reduceLT, Nat.reduceLeDiff, Nat.reduceEqDiff, Nat.reduceAdd, Nat.reduceMul, Nat.reduceSub, reduceCtorEq, Int.reduceLT, Int.reduceLE, Int.reduceEq, Int.reduceToNat, decide_true, decide_false, Int.reduceNeg, Int.cast_ofNat_Int, sg, AO.sg, Option.isNone_none, hw]
      refine ih (i + 1) _ ⟨by omega, fun j x hj hjx => ?_⟩ (by omega) (Wk.forget (by simp [Le, LeE, LeH, get, envIds, hpIds, KeepH, D.ids, idsL, AO.ids, setL, base]))
      rcases Nat.lt_succ_iff_lt_or_eq.1 hj with hj | rfl
      · exact he j x hj hjx
      · rw [hx] at hjx; cases hjx; exact hpx
    · simp only [go_sem, ↓reduceIte, Nat.reduceLT, Nat.reduceLeDiff, Nat.reduceEqDiff, Nat.reduceAdd, Nat.reduceMul, Nat.reduceSub, reduceCtorEq, Int.reduceLT, Int.reduceLE, Int.reduceEq, Int.reduceToNat, decide_true, decide_false, Int.reduceNeg, Int.cast_ofNat_Int, sg, AO.sg, Option.isNone_none]
      rw [findI_drop p l i hi he, hdrop]
      simp only [findI, hpx, if_true, and_self]
  · simp only [go_sem, ↓reduceIte, Nat.reduceLT, Nat.reduceLeDiff, Nat.reduceEqDiff, Nat.reduceAdd, Nat.reduceMul, Nat.reduceSub, reduceCtorEq, Int.reduceLT, Int.reduceLE, Int.reduceEq, Int.reduceToNat, decide_true, decide_false, Int.reduceNeg, Int.cast_ofNat_Int, sg, AO.sg, Option.isNone_none]
    have : i = l.length := by simp at h2; omega
    rw [findI_drop p l i hi he, this, List.drop_length]
    simp [findI]
end Go.Am
end

section
/- layout.parse. -/
namespace Go.Am
open Go Go.Proofs
set_option maxRecDepth 100000
set_option linter.unusedVariables false
set_option linter.unusedSimpArgs false
/-- The fields behind the word: k names, then numbers. -/
def rd : Nat → List (List UInt8) → Dc → Dc × Int
  | _, [], d => (d, 0)
  | 0, s :: r, d => if (numV s).2 then rd 0 r { d with nums := d.nums ++ [(numV s).1] } else (dc0, 7)
  | k + 1, s :: r, d => if nameB s then rd k r { d with names := d.names ++ [s] } else (dc0, 6)
def formJ (j : Nat) : Fm := formL.getD j ⟨[], [], false⟩
def wordV (w : List UInt8) : Int := findI (fun f : Fm => decide (f.word = w)) 0 formL.tail + 1
def oneV (num : Int) (fs : List (List UInt8)) : Dc × Int :=
  match fs with
  | [] => (dc0, 20)
  | w :: rest =>
    if wordV w = 0 then (dc0, 4)
    else if (rest.length : Int) < (shapeV (wordV w)).1 + (shapeV (wordV w)).2 ∨ ((shapeV (wordV w)).1 + (shapeV (wordV w)).2 < (rest.length : Int) ∧ wordV w ≠ 2) then (dc0, 5)
    else rd (rest.length - (shapeV (wordV w)).2.toNat) rest ⟨wordV w, num, [], []⟩
theorem findI_rng {α : Type} (p : α → Bool) : ∀ (l : List α) (k : Nat), findI p k l = -1 ∨ ∃ i : Nat, i < l.length ∧ findI p k l = ((k + i : Nat) : Int)
  | [], k => .inl rfl
  | x :: r, k => by
    simp only [findI]
    split
    · exact .inr ⟨0, by simp, rfl⟩
    · rcases findI_rng p r (k + 1) with h | ⟨i, h1, h2⟩
      · exact .inl h
      · exact .inr ⟨i + 1, by simp; omega, by rw [h2]; omega⟩
theorem wordV_rng (w : List UInt8) : ∃ j : Nat, j < 7 ∧ wordV w = (j : Nat) := by
  rcases findI_rng (fun f : Fm => decide (f.word = w)) formL.tail 0 with h | ⟨i, h1, h2⟩
  · exact ⟨0, by omega, by rw [wordV, h]; rfl⟩
  · have : formL.tail.length = 6 := rfl
    exact ⟨i + 1, by omega, by rw [wordV, h2]; omega⟩
theorem form_cells (j : Nat) (h : j < 7) : ((formL.flatMap fmC).drop (j * 3)).take 3 = [.str (formJ j).word, .str (formJ j).fields, .bool (formJ j).more] := by
  rcases j with _ | _ | _ | _ | _ | _ | _ | j
  all_goals first | rfl | omega
theorem form_sig (j : Nat) (h : j < 7) (h0 : 1 ≤ j) : ((formJ j).fields.length : Int) = (shapeV j).1 + (shapeV j).2 ∧ (∀ i : Nat, i < (formJ j).fields.length → ((((formJ j).fields.getD i 0).toNat : Int) = 35 ↔ (shapeV j).1 ≤ (i : Int))) ∧ (formJ j).more = decide ((j : Int) = 2) ∧ 0 ≤ (shapeV j).1 ∧ 0 ≤ (shapeV j).2 := by
  rcases j with _ | _ | _ | _ | _ | _ | _ | j
  · omega
  all_goals first | omega | skip
  all_goals
    refine ⟨by decide, ?_, by decide, by decide, by decide⟩
    intro i hi
    rcases i with _ | _ | _ | _ | i
    all_goals first | decide | (exfalso; simp [formJ, formL] at hi; done) | (exfalso; simp [formJ, formL] at hi; omega)
theorem formC_len : (formL.flatMap fmC).length = 21 := by decide
theorem parse_ok (num : Int) (fs : List (List UInt8)) (hfs : fs.length ≤ 10000000) : ACalls Tryz.prog 42 [.agg [.p (.int .i64 num), .p (.sl (encS fs))]] [] fun h r => h = [] ∧ r = .tup [(oneV num fs).1.d, .p (.int .i64 (oneV num fs).2)] := by
  refine ACalls_X Tryz.func42 rfl enters42 (by simp [Tryz.f42]) ?_
  cases fs with
  | nil =>
    simp only [go_sem, ↓reduceIte, Nat.reduceLT, Nat.reduceLeDiff, Nat.reduceEqDiff, Nat.reduceAdd, Nat.reduceMul, Nat.reduceSub, reduceCtorEq, Int.reduceLT, Int.reduceLE, Int.reduceEq, Int.reduceToNat, decide_true, decide_false, Int.reduceNeg, Int.cast_ofNat_Int, sg, AO.sg, Option.isNone_none, encS_len]
    refine end_pure ?_
    simp only [go_sem, ↓reduceIte, Nat.reduceLT, Nat.reduceLeDiff, Nat.reduceEqDiff, Nat.reduceAdd, Nat.reduceMul, Nat.reduceSub, reduceCtorEq, Int.reduceLT, Int.reduceLE, Int.reduceEq, Int.reduceToNat, decide_true, decide_false, Int.reduceNeg, Int.cast_ofNat_Int, sg, AO.sg, Option.isNone_none]
    try simp [oneV, dc0, Dc.d, encS, encI]
  | cons w rest =>
    have hne : ¬ ((rest.length + 1 : Nat) : Int) = 0 := by omega
    simp only [go_sem, ↓reduceIte, Nat.reduceLT, Nat.reduceLeDiff, Nat.reduceEqDiff, Nat.reduceAdd, Nat.reduceMul, Nat.reduceSub, reduceCtorEq, Int.reduceLT, Int.reduceLE, Int.reduceEq, Int.reduceToNat, decide_true, decide_false, Int.reduceNeg, Int.cast_ofNat_Int, sg, AO.sg, Option.isNone_none, encS_len, hne]
    refine Cc_of forms_ok ?_
    rintro h' r ⟨rfl, rfl⟩
    simp only [go_sem, ↓reduceIte, Nat.reduceLT, Nat.reduceLeDiff, Nat.reduceEqDiff, Nat.reduceAdd, Nat.reduceMul, Nat.reduceSub, reduceCtorEq, Int.reduceLT, Int.reduceLE, Int.reduceEq, Int.reduceToNat, decide_true, decide_false, Int.reduceNeg, Int.cast_ofNat_Int, sg, AO.sg, Option.isNone_none, formC_len]
    refine Af_wk (Wk.seal (t := 4) (id := 4) (xs := formL.flatMap fmC) (env1 := [(3, .p (.int .i64 0)), (2, .ptr 2 0), (1, .ptr 1 0)]) (hp1 := [(2, .box [.p (.int .i64 0), .p (.int .i64 0), .cl [], .cl []]), (1, .box [.p (.int .i64 num), .p (.sl (encS (w :: rest)))])]) rfl rfl rfl
      (by simp [Le, LeE, LeH, get, envIds, hpIds, KeepH, D.ids, idsL, AO.ids, base])) ?_
    simp only [go_sem, ↓reduceIte, Nat.reduceLT, Nat.reduceLeDiff, Nat.reduceEqDiff, Nat.reduceAdd, Nat.reduceMul, Nat.reduceSub, reduceCtorEq, Int.reduceLT, Int.reduceLE, Int.reduceEq, Int.reduceToNat, decide_true, decide_false, Int.reduceNeg, Int.cast_ofNat_Int, sg, AO.sg, Option.isNone_none]
    refine Af_sliceArr (L := 1) rfl ti85 ti84 rfl rfl (by decide) formC_len (by decide) ?_
    simp only [go_sem, ↓reduceIte, Nat.reduceLT, Nat.reduceLeDiff, Nat.reduceEqDiff, Nat.reduceAdd, Nat.reduceMul, Nat.reduceSub, reduceCtorEq, Int.reduceLT, Int.reduceLE, Int.reduceEq, Int.reduceToNat, decide_true, decide_false, Int.reduceNeg, Int.cast_ofNat_Int, sg, AO.sg, Option.isNone_none]
    refine Cc_of (indexF_ok formL.tail (by decide) 85 (fun f => decide (f.word = w)) _ _ (fun x => parse1_ok x num w rest)) ?_
    rintro h' r ⟨rfl, rfl⟩
    obtain ⟨j, hj, hjw⟩ := wordV_rng w
    have hwv : IntKind.i64.wrap (findI (fun f : Fm => decide (f.word = w)) 0 formL.tail + 1) = (j : Int) := by
      have h1 : findI (fun f : Fm => decide (f.word = w)) 0 formL.tail + 1 = (j : Int) := hjw
      rw [h1, wrap_i64_id] <;> omega
    by_cases hj0 : (j : Int) = 0
    · simp only [go_sem, ↓reduceIte, Nat.reduceLT, Nat.reduceLeDiff, Nat.reduceEqDiff, Nat.reduceAdd, Nat.reduceMul, Nat.reduceSub, reduceCtorEq, Int.reduceLT, Int.reduceLE, Int.reduceEq, Int.reduceToNat, decide_true, decide_false, Int.reduceNeg, Int.cast_ofNat_Int, sg, AO.sg, Option.isNone_none, hwv, hj0]
      refine end_pure ?_
      simp only [go_sem, ↓reduceIte, Nat.reduceLT, Nat.reduceLeDiff, Nat.reduceEqDiff, Nat.reduceAdd, Nat.reduceMul, Nat.reduceSub, reduceCtorEq, Int.reduceLT, Int.reduceLE, Int.reduceEq, Int.reduceToNat, decide_true, decide_false, Int.reduceNeg, Int.cast_ofNat_Int, sg, AO.sg, Option.isNone_none]
      simp [oneV, hjw, hj0, dc0, Dc.d, encS, encI]
    have hjp : (0 : Int) ≤ j ∧ (j : Int) < 7 := by omega
    have hfc := form_cells j hj
    have hfl : 0 + 3 ≤ (List.drop (j * 3) (formL.flatMap fmC)).length := by rw [List.length_drop, formC_len]; omega
    have hdr : List.drop 1 (List.take (rest.length + 1) (encS (w :: rest))) = encS rest := by
      rw [List.take_of_length_le (by simp [encS])]; rfl
    have hwid : Wid 1 (encS (w :: rest)) := by simp [Wid, encS]
    have h1le : (1 : Int) ≤ ((rest.length + 1 : Nat) : Int) := by omega
    simp only [go_sem, ↓reduceIte, Nat.reduceLT, Nat.reduceLeDiff, Nat.reduceEqDiff, Nat.reduceAdd, Nat.reduceMul, Nat.reduceSub, reduceCtorEq, Int.reduceLT, Int.reduceLE, Int.reduceEq, Int.reduceToNat, decide_true, decide_false, Int.reduceNeg, Int.cast_ofNat_Int, sg, AO.sg, Option.isNone_none, hwv, hj0]
    refine X_any [(2, .box [.p (.int .i64 0), .p (.int .i64 0), .cl [], .cl []]), (1, .box [.p (.int .i64 num), .p (.sl (encS (w :: rest)))])] mixed (p := [(0, 0), (1, 0), (2, 0), (3, 0), (4, 0), (5, 0), (6, 1), (7, 2), (8, 0)]) (by kernel_rfl) (by simp [LeH, get]) ?_
    obtain ⟨hs1, hs2, hs3, hs4, hs5⟩ := form_sig j hj (by omega)
    have h2b : (j : Int) = 2 → (shapeV j).2 = 0 := by intro h; rw [h]; rfl
    have hone : oneV num (w :: rest) = if (rest.length : Int) < (shapeV j).1 + (shapeV j).2 ∨ ((shapeV j).1 + (shapeV j).2 < (rest.length : Int) ∧ (j : Int) ≠ 2) then (dc0, 5) else rd (rest.length - (shapeV j).2.toNat) rest ⟨j, num, [], []⟩ := by
      simp only [oneV, hjw, hj0, if_false]
    rw [hone]
    generalize hfe : (formJ j).fields = sig at *
    generalize hfo : (formJ j).more = more at *
    generalize hA : (shapeV j).1 = a at *
    generalize hB : (shapeV j).2 = b at *
    by_cases hl1 : (rest.length : Int) < (sig.length : Int)
    · simp only [go_sem, ↓reduceIte, Nat.reduceLT, Nat.reduceLeDiff, Nat.reduceEqDiff, Nat.reduceAdd, Nat.reduceMul, Nat.reduceSub, reduceCtorEq, Int.reduceLT, Int.reduceLE, Int.reduceEq, Int.reduceToNat, decide_true, decide_false, Int.reduceNeg, Int.cast_ofNat_Int, sg, AO.sg, Option.isNone_none, Int.toNat_natCast, hfc, hfl, encS_len, hdr, hwid, hjp, h1le, Int.le_refl, hl1]
      refine end_pure ?_
      simp only [go_sem, ↓reduceIte, Nat.reduceLT, Nat.reduceLeDiff, Nat.reduceEqDiff, Nat.reduceAdd, Nat.reduceMul, Nat.reduceSub, reduceCtorEq, Int.reduceLT, Int.reduceLE, Int.reduceEq, Int.reduceToNat, decide_true, decide_false, Int.reduceNeg, Int.cast_ofNat_Int, sg, AO.sg, Option.isNone_none]
      rw [if_pos (.inl (by omega))]
      simp [dc0, Dc.d, encS, encI]
    by_cases hl2 : (sig.length : Int) < (rest.length : Int) ∧ more = false
    · simp only [go_sem, ↓reduceIte, Nat.reduceLT, Nat.reduceLeDiff, Nat.reduceEqDiff, Nat.reduceAdd, Nat.reduceMul, Nat.reduceSub, reduceCtorEq, Int.reduceLT, Int.reduceLE, Int.reduceEq, Int.reduceToNat, decide_true, decide_false, Int.reduceNeg, Int.cast_ofNat_Int, sg, AO.sg, Option.isNone_none, Int.toNat_natCast, hfc, hfl, encS_len, hdr, hwid, hjp, h1le, Int.le_refl, hl1, hl2]
      refine end_pure ?_
      simp only [go_sem, ↓reduceIte, Nat.reduceLT, Nat.reduceLeDiff, Nat.reduceEqDiff, Nat.reduceAdd, Nat.reduceMul, Nat.reduceSub, reduceCtorEq, Int.reduceLT, Int.reduceLE, Int.reduceEq, Int.reduceToNat, decide_true, decide_false, Int.reduceNeg, Int.cast_ofNat_Int, sg, AO.sg, Option.isNone_none]
      rw [if_pos (.inr ⟨by omega, by have := hl2.2; rw [hs3] at this; simpa using this⟩)]
      simp [dc0, Dc.d, encS, encI]
    have hl3 : (sig.length : Int) < (rest.length : Int) → (j : Int) = 2 ∧ more = true := by
      intro h
      cases more
      · exact (hl2 ⟨h, rfl⟩).elim
      · exact ⟨by simpa using hs3.symm, rfl⟩
    have hgo : (if (rest.length : Int) < a + b ∨ (a + b < (rest.length : Int) ∧ (j : Int) ≠ 2) then (dc0, (5 : Int)) else rd (rest.length - b.toNat) rest ⟨j, num, [], []⟩) = rd (rest.length - b.toNat) rest ⟨j, num, [], []⟩ := by
      rw [if_neg]; omega
    rw [hgo]
    generalize hK : rest.length - b.toNat = K
    by_cases hl5 : (sig.length : Int) < (rest.length : Int)
    all_goals
      first
        | simp only [go_sem, ↓reduceIte, Nat.reduceLT, Nat.reduceLeDiff, Nat.reduceEqDiff, Nat.reduceAdd, Nat.reduceMul, Nat.reduceSub, reduceCtorEq, Int.reduceLT, Int.reduceLE, Int.reduceEq, Int.reduceToNat, decide_true, decide_false, Int.reduceNeg, Int.cast_ofNat_Int, sg, AO.sg, Option.isNone_none, Int.toNat_natCast, hfc, hfl, encS_len, hdr, hwid, hjp, h1le, Int.le_refl, hl1, hl5, (hl3 hl5).2]
        | simp only [go_sem, ↓reduceIte, Nat.reduceLT, Nat.reduceLeDiff, Nat.reduceEqDiff, Nat.reduceAdd, Nat.reduceMul, Nat.reduceSub, reduceCtorEq, Int.reduceLT, Int.reduceLE, Int.reduceEq, Int.reduceToNat, decide_true, decide_false, Int.reduceNeg, Int.cast_ofNat_Int, sg, AO.sg, Option.isNone_none, Int.toNat_natCast, hfc, hfl, encS_len, hdr, hwid, hjp, h1le, Int.le_refl, hl1, hl5]
      refine X_loop_inv (fun q : Nat × List (List UInt8) × List Int => ⟨[(2, .ptr 2 0), (6, .ptr 6 0), (8, .ptr 8 0), (56, .p (.sl (encS rest))), (57, .p (.int .i64 (rest.length : Nat))), (58, .p (.int .i64 (q.1 : Nat)))],
          [(2, .box [.p (.int .i64 0), .p (.int .i64 0), .cl [], .cl []]), (6, .box [.p (.str (formJ j).word), .p (.str sig), .p (.bool more)]),
           (8, .box [.p (.int .i64 j), .p (.int .i64 num), .ref 97 0 q.2.1.length q.2.1.length, .ref 87 0 q.2.2.length q.2.2.length]), (97, .arr 9 1 (encS q.2.1)), (87, .arr 3 1 (encI q.2.2))], 101⟩)
        (fun q => q.1 ≤ rest.length ∧ q.2.1.length ≤ q.1 ∧ q.2.2.length ≤ q.1 ∧ rd (K - q.1) (rest.drop q.1) ⟨j, num, q.2.1, q.2.2⟩ = rd K rest ⟨j, num, [], []⟩)
        (fun q => rest.length - q.1) (0, [], []) ⟨Nat.zero_le _, by simp, by simp, by simp⟩ ?_ ?_
      · refine (Wk.nilBox (id := 8) (j := 2) (q := 97) (sz := 1) 9 rfl rfl rfl (by decide)).trans ((Wk.nilBox (id := 8) (j := 3) (q := 87) (sz := 1) 3 rfl rfl rfl (by decide)).trans ?_)
        first
          | (refine Wk.forget ?_; simp [Le, LeE, LeH, get, envIds, hpIds, KeepH, D.ids, idsL, AO.ids, setL, base, encS, encI]; done)
          | (refine Wk.forget ?_; simp [Le, LeE, LeH, get, envIds, hpIds, KeepH, D.ids, idsL, AO.ids, setL, base, encS, encI, (hl3 hl5).2]; done)
      rintro ⟨i, ns, ks⟩ n ⟨hi, hn1, hn2, he⟩ ih
      simp only at hi hn1 hn2 he
      simp only [go_sem, ↓reduceIte, Nat.reduceLT, Nat.reduceLeDiff, Nat.reduceEqDiff, Nat.reduceAdd, Nat.reduceMul, Nat.reduceSub, reduceCtorEq, Int.reduceLT, Int.reduceLE, Int.reduceEq, Int.reduceToNat, decide_true, decide_false, Int.reduceNeg, Int.cast_ofNat_Int, sg, AO.sg, Option.isNone_none]
      refine Cn_split (fun h2 => ?_) (fun h2 => ?_)
      · have hlt : i < rest.length := by simp at h2; omega
        have hw := wrap_succ i (by simp at hfs; omega)
        have hdropi : rest.drop i = rest.getD i [] :: rest.drop (i + 1) := by rw [List.drop_eq_getElem_cons hlt]; simp [List.getD, hlt]
        rw [hdropi] at he
        simp only [List.length_cons] at hfs
        have hil : (i : Int) < (rest.length : Int) := by omega
        have hi0 : (0 : Int) ≤ (i : Int) := by omega
        generalize hs : rest.getD i [] = s at he
        have number : K - i = 0 → (numV s).2 = true → rd (K - (i + 1)) (rest.drop (i + 1)) ⟨j, num, ns, ks ++ [(numV s).1]⟩ = rd K rest ⟨j, num, [], []⟩ := by
          intro h0 h1
          rw [← he, h0]; simp only [rd, h1, if_true]; congr 1; omega
        have numberN : K - i = 0 → (numV s).2 = false → rd K rest ⟨j, num, [], []⟩ = (dc0, 7) := by
          intro h0 h1
          rw [← he, h0]; simp only [rd, h1]; rfl
        have name : i < K → nameB s = true → rd (K - (i + 1)) (rest.drop (i + 1)) ⟨j, num, ns ++ [s], ks⟩ = rd K rest ⟨j, num, [], []⟩ := by
          intro h0 h1
          rw [← he, show K - i = (K - (i + 1)) + 1 by omega]; simp only [rd, h1, if_true]
        have nameN : i < K → nameB s = false → rd K rest ⟨j, num, [], []⟩ = (dc0, 6) := by
          intro h0 h1
          rw [← he, show K - i = (K - (i + 1)) + 1 by omega]; simp only [rd, h1]; rfl
        by_cases hsi : (i : Int) < (sig.length : Int)
        · by_cases h35 : ((sig.getD i 0).toNat : Int) = 35
          · have hK0 : K - i = 0 := by have := (hs2 i (by omega)).1 h35; omega
            simp only [go_sem, ↓reduceIte, Nat.reduceLT, Nat.reduceLeDiff, Nat.reduceEqDiff, Nat.reduceAdd, Nat.reduceMul, Nat.reduceSub, reduceCtorEq, Int.reduceLT, Int.reduceLE, Int.reduceEq, Int.reduceToNat, decide_true, decide_false, Int.reduceNeg, Int.cast_ofNat_Int, sg, AO.sg, Option.isNone_none, Int.toNat_natCast, encS_len, encS_get rest i hlt, hs, hsi, h35, hil, hi0]
            refine Cc_of (number1_ok _) ?_
            rintro h' r ⟨rfl, rfl⟩
            cases hnv : (numV s).2
            · simp only [go_sem, ↓reduceIte, Nat.reduceLT, Nat.reduceLeDiff, Nat.reduceEqDiff, Nat.reduceAdd, Nat.reduceMul, Nat.reduceSub, reduceCtorEq, Int.reduceLT, Int.reduceLE, Int.reduceEq, Int.reduceToNat, decide_true, decide_false, Int.reduceNeg, Int.cast_ofNat_Int, sg, AO.sg, Option.isNone_none, hnv]
              refine end_pure ?_
              simp only [go_sem, ↓reduceIte, Nat.reduceLT, Nat.reduceLeDiff, Nat.reduceEqDiff, Nat.reduceAdd, Nat.reduceMul, Nat.reduceSub, reduceCtorEq, Int.reduceLT, Int.reduceLE, Int.reduceEq, Int.reduceToNat, decide_true, decide_false, Int.reduceNeg, Int.cast_ofNat_Int, sg, AO.sg, Option.isNone_none]
              rw [numberN hK0 hnv]
              simp [dc0, Dc.d, encS, encI]
            · simp only [go_sem, ↓reduceIte, Nat.reduceLT, Nat.reduceLeDiff, Nat.reduceEqDiff, Nat.reduceAdd, Nat.reduceMul, Nat.reduceSub, reduceCtorEq, Int.reduceLT, Int.reduceLE, Int.reduceEq, Int.reduceToNat, decide_true, decide_false, Int.reduceNeg, Int.cast_ofNat_Int, sg, AO.sg, Option.isNone_none, hnv, hw, encI_len]
              refine ⟨⟨wid1 _ _ rfl, by omega⟩, ?_⟩
              refine ih (i + 1, ns, ks ++ [(numV s).1]) _ ⟨hlt, by simp only; omega, by simp only [List.length_append, List.length_cons, List.length_nil]; omega, number hK0 hnv⟩ (by simp only; omega) ?_
              (refine Wk.forget ?_; simp [Le, LeE, LeH, get, envIds, hpIds, KeepH, D.ids, idsL, AO.ids, setL, base, encI_snoc, encI_len]; done)
          · have hK0 : i < K := by have := (hs2 i (by omega)).2; omega
            simp only [go_sem, ↓reduceIte, Nat.reduceLT, Nat.reduceLeDiff, Nat.reduceEqDiff, Nat.reduceAdd, Nat.reduceMul, Nat.reduceSub, reduceCtorEq, Int.reduceLT, Int.reduceLE, Int.reduceEq, Int.reduceToNat, decide_true, decide_false, Int.reduceNeg, Int.cast_ofNat_Int, sg, AO.sg, Option.isNone_none, Int.toNat_natCast, encS_len, encS_get rest i hlt, hs, hsi, h35, hil, hi0]
            refine Cc_of (name1_ok _) ?_
            rintro h' r ⟨rfl, rfl⟩
            cases hnv : nameB s
            · simp only [go_sem, ↓reduceIte, Nat.reduceLT, Nat.reduceLeDiff, Nat.reduceEqDiff, Nat.reduceAdd, Nat.reduceMul, Nat.reduceSub, reduceCtorEq, Int.reduceLT, Int.reduceLE, Int.reduceEq, Int.reduceToNat, decide_true, decide_false, Int.reduceNeg, Int.cast_ofNat_Int, sg, AO.sg, Option.isNone_none, hnv]
              refine end_pure ?_
              simp only [go_sem, ↓reduceIte, Nat.reduceLT, Nat.reduceLeDiff, Nat.reduceEqDiff, Nat.reduceAdd, Nat.reduceMul, Nat.reduceSub, reduceCtorEq, Int.reduceLT, Int.reduceLE, Int.reduceEq, Int.reduceToNat, decide_true, decide_false, Int.reduceNeg, Int.cast_ofNat_Int, sg, AO.sg, Option.isNone_none]
              rw [nameN hK0 hnv]
              simp [dc0, Dc.d, encS, encI]
            · simp only [go_sem, ↓reduceIte, Nat.reduceLT, Nat.reduceLeDiff, Nat.reduceEqDiff, Nat.reduceAdd, Nat.reduceMul, Nat.reduceSub, reduceCtorEq, Int.reduceLT, Int.reduceLE, Int.reduceEq, Int.reduceToNat, decide_true, decide_false, Int.reduceNeg, Int.cast_ofNat_Int, sg, AO.sg, Option.isNone_none, hnv, hw, encS_len]
              refine ⟨⟨wid1 _ _ rfl, by omega⟩, ?_⟩
              refine ih (i + 1, ns ++ [s], ks) _ ⟨hlt, by simp only [List.length_append, List.length_cons, List.length_nil]; omega, by simp only; omega, name hK0 hnv⟩ (by simp only; omega) ?_
              (refine Wk.forget ?_; simp [Le, LeE, LeH, get, envIds, hpIds, KeepH, D.ids, idsL, AO.ids, setL, base, encS_snoc, encS_len]; done)
        · have hK0 : i < K := by
            have hl6 : (sig.length : Int) < (rest.length : Int) := by omega
            have := h2b (hl3 hl6).1
            omega
          simp only [go_sem, ↓reduceIte, Nat.reduceLT, Nat.reduceLeDiff, Nat.reduceEqDiff, Nat.reduceAdd, Nat.reduceMul, Nat.reduceSub, reduceCtorEq, Int.reduceLT, Int.reduceLE, Int.reduceEq, Int.reduceToNat, decide_true, decide_false, Int.reduceNeg, Int.cast_ofNat_Int, sg, AO.sg, Option.isNone_none, Int.toNat_natCast, encS_len, encS_get rest i hlt, hs, hsi, hil, hi0]
          refine Cc_of (name1_ok _) ?_
          rintro h' r ⟨rfl, rfl⟩
          cases hnv : nameB s
          · simp only [go_sem, ↓reduceIte, Nat.reduceLT, Nat.reduceLeDiff, Nat.reduceEqDiff, Nat.reduceAdd, Nat.reduceMul, Nat.reduceSub, reduceCtorEq, Int.reduceLT, Int.reduceLE, Int.reduceEq, Int.reduceToNat, decide_true, decide_false, Int.reduceNeg, Int.cast_ofNat_Int, sg, AO.sg, Option.isNone_none, hnv]
            refine end_pure ?_
            simp only [go_sem, ↓reduceIte, Nat.reduceLT, Nat.reduceLeDiff, Nat.reduceEqDiff, Nat.reduceAdd, Nat.reduceMul, Nat.reduceSub, reduceCtorEq, Int.reduceLT, Int.reduceLE, Int.reduceEq, Int.reduceToNat, decide_true, decide_false, Int.reduceNeg, Int.cast_ofNat_Int, sg, AO.sg, Option.isNone_none]
            rw [nameN hK0 hnv]
            simp [dc0, Dc.d, encS, encI]
          · simp only [go_sem, ↓reduceIte, Nat.reduceLT, Nat.reduceLeDiff, Nat.reduceEqDiff, Nat.reduceAdd, Nat.reduceMul, Nat.reduceSub, reduceCtorEq, Int.reduceLT, Int.reduceLE, Int.reduceEq, Int.reduceToNat, decide_true, decide_false, Int.reduceNeg, Int.cast_ofNat_Int, sg, AO.sg, Option.isNone_none, hnv, hw, encS_len]
            refine ⟨⟨wid1 _ _ rfl, by omega⟩, ?_⟩
            refine ih (i + 1, ns ++ [s], ks) _ ⟨hlt, by simp only [List.length_append, List.length_cons, List.length_nil]; omega, by simp only; omega, name hK0 hnv⟩ (by simp only; omega) ?_
            (refine Wk.forget ?_; simp [Le, LeE, LeH, get, envIds, hpIds, KeepH, D.ids, idsL, AO.ids, setL, base, encS_snoc, encS_len]; done)
      · simp only [go_sem, ↓reduceIte, Nat.reduceLT, Nat.reduceLeDiff, Nat.reduceEqDiff, Nat.reduceAdd, Nat.reduceMul, Nat.reduceSub, reduceCtorEq, Int.reduceLT, Int.reduceLE, Int.reduceEq, Int.reduceToNat, decide_true, decide_false, Int.reduceNeg, Int.cast_ofNat_Int, sg, AO.sg, Option.isNone_none]
        have hieq : i = rest.length := by simp at h2; omega
        subst hieq
        refine end_pure ?_
        simp only [go_sem, ↓reduceIte, Nat.reduceLT, Nat.reduceLeDiff, Nat.reduceEqDiff, Nat.reduceAdd, Nat.reduceMul, Nat.reduceSub, reduceCtorEq, Int.reduceLT, Int.reduceLE, Int.reduceEq, Int.reduceToNat, decide_true, decide_false, Int.reduceNeg, Int.cast_ofNat_Int, sg, AO.sg, Option.isNone_none]
        rw [List.drop_length] at he
        simp only [rd] at he
        rw [← he, encS_take _ _ (Nat.le_refl _), encI_take _ _ (Nat.le_refl _)]
        simp [Dc.d, encS_len, encI_len]
end Go.Am
end

section
/- layout.Valid. -/
namespace Go.Am
open Go Go.Proofs
set_option maxRecDepth 100000
set_option linter.unusedVariables false
set_option linter.unusedSimpArgs false
def validV (d : Dc) : Bool :=
  decide (1 ≤ d.word ∧ d.word ≤ 6) && (decide ((d.nums.length : Int) = (shapeV d.word).2) && ((decide ((d.names.length : Int) = (shapeV d.word).1) || (decide ((shapeV d.word).1 < (d.names.length : Int)) && decide (d.word = 2))) &&
    (d.names.all nameB && d.nums.all fun n => !(decide (n < -9999) || decide (9999 < n)))))
theorem findI_nonneg {α : Type} (p : α → Bool) : ∀ (l : List α) (k : Nat), 0 ≤ findI p k l ↔ l.any p = true
  | [], k => by simp [findI]
  | x :: r, k => by
    simp only [findI, List.any_cons]
    by_cases h : p x = true
    · rw [if_pos h]; simp [h]
    · rw [if_neg h, findI_nonneg p r (k + 1)]; simp [h]
theorem findI_any {α : Type} (p : α → Bool) (l : List α) (k : Nat) : decide (0 ≤ findI p k l) = l.any p := by
  rw [Bool.eq_iff_iff, decide_eq_true_eq, findI_nonneg]
theorem form_ascii (j : Nat) (h : j < 7) : ∀ b ∈ (formJ j).fields, b.toNat < 128 := by
  rcases j with _ | _ | _ | _ | _ | _ | _ | j
  all_goals first | decide | omega
theorem valid_ok (d : Dc) (hd : d.names.length ≤ 10000000 ∧ d.nums.length ≤ 10000000) : ACalls Tryz.prog 26 [d.d] [] fun h r => h = [] ∧ r = .p (.bool (validV d)) := by
  obtain ⟨word, line, names, nums⟩ := d
  simp only at hd
  refine ACalls_X Tryz.func26 rfl enters26 (by simp [Tryz.f26]) ?_
  by_cases h1 : word < 1
  · have hv : validV ⟨word, line, names, nums⟩ = false := by simp [validV]; intro h; omega
    simp only [go_sem, ↓reduceIte, Nat.reduceLT, Nat.reduceLeDiff, Nat.reduceEqDiff, Nat.reduceAdd, Nat.reduceMul, Nat.reduceSub, reduceCtorEq, Int.reduceLT, Int.reduceLE, Int.reduceEq, Int.reduceToNat, decide_true, decide_false, Int.reduceNeg, Int.cast_ofNat_Int, sg, AO.sg, Option.isNone_none, Dc.d, h1, hv]
  by_cases h2 : 6 < word
  · have hv : validV ⟨word, line, names, nums⟩ = false := by simp [validV]; intro h; omega
    simp only [go_sem, ↓reduceIte, Nat.reduceLT, Nat.reduceLeDiff, Nat.reduceEqDiff, Nat.reduceAdd, Nat.reduceMul, Nat.reduceSub, reduceCtorEq, Int.reduceLT, Int.reduceLE, Int.reduceEq, Int.reduceToNat, decide_true, decide_false, Int.reduceNeg, Int.cast_ofNat_Int, sg, AO.sg, Option.isNone_none, Dc.d, h1, h2, hv]
  obtain ⟨j, rfl⟩ : ∃ j : Nat, word = (j : Int) := ⟨word.toNat, by omega⟩
  have hj : j < 7 := by omega
  have hfc := form_cells j hj
  have hfl : j * 3 + 3 ≤ (formL.flatMap fmC).length := by rw [formC_len]; omega
  obtain ⟨hs1, hs2, hs3, hs4, hs5⟩ := form_sig j hj (by omega)
  have hasc := form_ascii j hj
  have hsl : (formJ j).fields.length ≤ 4 := by
    rcases j with _ | _ | _ | _ | _ | _ | _ | j
    all_goals first | decide | omega
  have hj0 : (0 : Int) ≤ (j : Int) ∧ (j : Int) < 7 := by omega
  have hdt : List.take 3 (List.drop (j * 3) (List.map D.p (formL.flatMap fmC))) = [.p (.str (formJ j).word), .p (.str (formJ j).fields), .p (.bool (formJ j).more)] := by
    rw [← List.map_drop, ← List.map_take, hfc]; rfl
  simp only [go_sem, ↓reduceIte, Nat.reduceLT, Nat.reduceLeDiff, Nat.reduceEqDiff, Nat.reduceAdd, Nat.reduceMul, Nat.reduceSub, reduceCtorEq, Int.reduceLT, Int.reduceLE, Int.reduceEq, Int.reduceToNat, decide_true, decide_false, Int.reduceNeg, Int.cast_ofNat_Int, sg, AO.sg, Option.isNone_none, Dc.d, h1, h2]
  refine X_any0 mixed (p := [(1, 0), (2, 0), (4, 1), (0, 2), (3, 0), (5, 2), (6, 0), (7, 0)]) (by kernel_rfl) (by simp [LeH, get]) ?_
  simp only [go_sem, ↓reduceIte, Nat.reduceLT, Nat.reduceLeDiff, Nat.reduceEqDiff, Nat.reduceAdd, Nat.reduceMul, Nat.reduceSub, reduceCtorEq, Int.reduceLT, Int.reduceLE, Int.reduceEq, Int.reduceToNat, decide_true, decide_false, Int.reduceNeg, Int.cast_ofNat_Int, sg, AO.sg, Option.isNone_none]
  refine Gh_of forms_ok ?_
  rintro h' r ⟨rfl, rfl⟩
  have hv : validV ⟨j, line, names, nums⟩ = (decide ((nums.length : Int) = (shapeV j).2) && ((decide ((names.length : Int) = (shapeV j).1) || (decide ((shapeV j).1 < (names.length : Int)) && decide ((j : Int) = 2))) &&
    (names.all nameB && nums.all fun n => !(decide (n < -9999) || decide (9999 < n))))) := by
    have : decide ((1 : Int) ≤ j ∧ (j : Int) ≤ 6) = true := by simp; omega
    simp only [validV, this, Bool.true_and]
  rw [hv, ← hs3]
  clear hv hs3
  generalize hfe : (formJ j).fields = sig at *
  generalize hfo : (formJ j).more = more at *
  generalize hA : (shapeV j).1 = a at *
  generalize hB : (shapeV j).2 = b at *
  simp only [go_sem, ↓reduceIte, Nat.reduceLT, Nat.reduceLeDiff, Nat.reduceEqDiff, Nat.reduceAdd, Nat.reduceMul, Nat.reduceSub, reduceCtorEq, Int.reduceLT, Int.reduceLE, Int.reduceEq, Int.reduceToNat, decide_true, decide_false, Int.reduceNeg, Int.cast_ofNat_Int, sg, AO.sg, Option.isNone_none, Int.toNat_natCast, hfl, hdt, hj0]
  refine Af_range rfl rfl ti9 rfl rfl ?_
  simp only [go_sem, ↓reduceIte, Nat.reduceLT, Nat.reduceLeDiff, Nat.reduceEqDiff, Nat.reduceAdd, Nat.reduceMul, Nat.reduceSub, reduceCtorEq, Int.reduceLT, Int.reduceLE, Int.reduceEq, Int.reduceToNat, decide_true, decide_false, Int.reduceNeg, Int.cast_ofNat_Int, sg, AO.sg, Option.isNone_none]
  refine X_loop_inv (fun i => ⟨[(1, .ptr 1 0), (3, .ptr 3 0), (22, .ptr 22 0), (4, .p (.int .i64 (min i a.toNat : Nat))), (5, .p (.int .i64 (i - a.toNat : Nat)))],
      [(1, .box [.p (.int .i64 j), .p (.int .i64 line), .p (.sl (encS names)), .p (.sl (encI nums))]), (3, .box [.p (.str (formJ j).word), .p (.str sig), .p (.bool more)]), (22, .iter sig i)], 67⟩)
    (fun i => i ≤ sig.length) (fun i => sig.length - i) 0 (Nat.zero_le _) (Wk.forget (by simp [Le, LeE, LeH, get, envIds, hpIds, KeepH, D.ids, idsL, AO.ids, setL, base, Nat.zero_min, Nat.zero_sub])) ?_
  rintro i n hi ih
  simp only [go_sem, ↓reduceIte, Nat.reduceLT, Nat.reduceLeDiff, Nat.reduceEqDiff, Nat.reduceAdd, Nat.reduceMul, Nat.reduceSub, reduceCtorEq, Int.reduceLT, Int.reduceLE, Int.reduceEq, Int.reduceToNat, decide_true, decide_false, Int.reduceNeg, Int.cast_ofNat_Int, sg, AO.sg, Option.isNone_none]
  refine Af_next rfl rfl rfl hasc (fun hlt => ?_) (fun hge => ?_)
  · have h35 := hs2 i hlt
    have hgi : sig.getD i 0 = sig[i] := by simp [List.getD, hlt]
    rw [hgi] at h35
    simp only [go_sem, ↓reduceIte, Nat.reduceLT, Nat.reduceLeDiff, Nat.reduceEqDiff, Nat.reduceAdd, Nat.reduceMul, Nat.reduceSub, reduceCtorEq, Int.reduceLT, Int.reduceLE, Int.reduceEq, Int.reduceToNat, decide_true, decide_false, Int.reduceNeg, Int.cast_ofNat_Int, sg, AO.sg, Option.isNone_none]
    by_cases hc : (sig[i].toNat : Int) = 35
    · have hai := h35.1 hc
      have hw : IntKind.i64.wrap (((i - a.toNat : Nat) : Int) + 1) = ((i + 1 - a.toNat : Nat) : Int) := by rw [wrap_i64_id] <;> omega
      simp only [go_sem, ↓reduceIte, Nat.reduceLT, Nat.reduceLeDiff, Nat.reduceEqDiff, Nat.reduceAdd, Nat.reduceMul, Nat.reduceSub, reduceCtorEq, Int.reduceLT, Int.reduceLE, Int.reduceEq, Int.reduceToNat, decide_true, decide_false, Int.reduceNeg, Int.cast_ofNat_Int, sg, AO.sg, Option.isNone_none, hc, hw]
      refine ih (i + 1) _ hlt (by omega) ?_
      have e1 : min (i + 1) a.toNat = min i a.toNat := by omega
      rw [e1]
      (refine Wk.forget ?_; simp [Le, LeE, LeH, get, envIds, hpIds, KeepH, D.ids, idsL, AO.ids, setL, base]; done)
    · have hai : ¬ a ≤ (i : Int) := fun h => hc (h35.2 h)
      have hw : IntKind.i64.wrap (((min i a.toNat : Nat) : Int) + 1) = ((min (i + 1) a.toNat : Nat) : Int) := by rw [wrap_i64_id] <;> omega
      simp only [go_sem, ↓reduceIte, Nat.reduceLT, Nat.reduceLeDiff, Nat.reduceEqDiff, Nat.reduceAdd, Nat.reduceMul, Nat.reduceSub, reduceCtorEq, Int.reduceLT, Int.reduceLE, Int.reduceEq, Int.reduceToNat, decide_true, decide_false, Int.reduceNeg, Int.cast_ofNat_Int, sg, AO.sg, Option.isNone_none, hc, hw]
      refine ih (i + 1) _ hlt (by omega) ?_
      have e1 : i + 1 - a.toNat = i - a.toNat := by omega
      rw [e1]
      (refine Wk.forget ?_; simp [Le, LeE, LeH, get, envIds, hpIds, KeepH, D.ids, idsL, AO.ids, setL, base]; done)
  · have hil : i = sig.length := by omega
    have e4 : ((min i a.toNat : Nat) : Int) = a := by omega
    have e5 : ((i - a.toNat : Nat) : Int) = b := by omega
    simp only [go_sem, ↓reduceIte, Nat.reduceLT, Nat.reduceLeDiff, Nat.reduceEqDiff, Nat.reduceAdd, Nat.reduceMul, Nat.reduceSub, reduceCtorEq, Int.reduceLT, Int.reduceLE, Int.reduceEq, Int.reduceToNat, decide_true, decide_false, Int.reduceNeg, Int.cast_ofNat_Int, sg, AO.sg, Option.isNone_none, encI_len, encS_len, e4, e5]
    clear ih
    have k1 := containsS_ok names (by omega) 64 (fun x => !nameB x) valid1_ok
    have k2 := containsI_ok nums (by omega) 66 (fun n => decide (n < -9999) || decide (9999 < n)) valid2_ok
    rw [findI_any] at k1 k2
    cases c1 : decide ((nums.length : Int) = b)
    · simp only [go_sem, ↓reduceIte, Nat.reduceLT, Nat.reduceLeDiff, Nat.reduceEqDiff, Nat.reduceAdd, Nat.reduceMul, Nat.reduceSub, reduceCtorEq, Int.reduceLT, Int.reduceLE, Int.reduceEq, Int.reduceToNat, decide_true, decide_false, Int.reduceNeg, Int.cast_ofNat_Int, sg, AO.sg, Option.isNone_none, c1]
      try simp
    cases c2 : decide ((names.length : Int) = a)
    · cases c3 : decide (a < (names.length : Int))
      · simp only [go_sem, ↓reduceIte, Nat.reduceLT, Nat.reduceLeDiff, Nat.reduceEqDiff, Nat.reduceAdd, Nat.reduceMul, Nat.reduceSub, reduceCtorEq, Int.reduceLT, Int.reduceLE, Int.reduceEq, Int.reduceToNat, decide_true, decide_false, Int.reduceNeg, Int.cast_ofNat_Int, sg, AO.sg, Option.isNone_none, c1, encI_len, encS_len, e4, e5, c2, c3]
        try simp
      cases more
      · simp only [go_sem, ↓reduceIte, Nat.reduceLT, Nat.reduceLeDiff, Nat.reduceEqDiff, Nat.reduceAdd, Nat.reduceMul, Nat.reduceSub, reduceCtorEq, Int.reduceLT, Int.reduceLE, Int.reduceEq, Int.reduceToNat, decide_true, decide_false, Int.reduceNeg, Int.cast_ofNat_Int, sg, AO.sg, Option.isNone_none, c1, encI_len, encS_len, e4, e5, c2, c3]
        try simp
      simp only [go_sem, ↓reduceIte, Nat.reduceLT, Nat.reduceLeDiff, Nat.reduceEqDiff, Nat.reduceAdd, Nat.reduceMul, Nat.reduceSub, reduceCtorEq, Int.reduceLT, Int.reduceLE, Int.reduceEq, Int.reduceToNat, decide_true, decide_false, Int.reduceNeg, Int.cast_ofNat_Int, sg, AO.sg, Option.isNone_none, c1, encI_len, encS_len, e4, e5, c2, c3]
      refine Cc_of k1 ?_
      rintro h' r ⟨rfl, rfl⟩
      cases c4 : names.any fun x => !nameB x
      · have c4' : names.all nameB = true := by
          rw [List.all_eq_not_any_not, c4]; rfl
        simp only [go_sem, ↓reduceIte, Nat.reduceLT, Nat.reduceLeDiff, Nat.reduceEqDiff, Nat.reduceAdd, Nat.reduceMul, Nat.reduceSub, reduceCtorEq, Int.reduceLT, Int.reduceLE, Int.reduceEq, Int.reduceToNat, decide_true, decide_false, Int.reduceNeg, Int.cast_ofNat_Int, sg, AO.sg, Option.isNone_none, c4]
        refine Cc_of k2 ?_
        rintro h' r ⟨rfl, rfl⟩
        simp only [go_sem, ↓reduceIte, Nat.reduceLT, Nat.reduceLeDiff, Nat.reduceEqDiff, Nat.reduceAdd, Nat.reduceMul, Nat.reduceSub, reduceCtorEq, Int.reduceLT, Int.reduceLE, Int.reduceEq, Int.reduceToNat, decide_true, decide_false, Int.reduceNeg, Int.cast_ofNat_Int, sg, AO.sg, Option.isNone_none]
        rw [c4', List.all_eq_not_any_not]
        try simp
      · have c4' : names.all nameB = false := by
          rw [List.all_eq_not_any_not, c4]; rfl
        simp only [go_sem, ↓reduceIte, Nat.reduceLT, Nat.reduceLeDiff, Nat.reduceEqDiff, Nat.reduceAdd, Nat.reduceMul, Nat.reduceSub, reduceCtorEq, Int.reduceLT, Int.reduceLE, Int.reduceEq, Int.reduceToNat, decide_true, decide_false, Int.reduceNeg, Int.cast_ofNat_Int, sg, AO.sg, Option.isNone_none, c4]
        rw [c4']
        try simp
    · simp only [go_sem, ↓reduceIte, Nat.reduceLT, Nat.reduceLeDiff, Nat.reduceEqDiff, Nat.reduceAdd, Nat.reduceMul, Nat.reduceSub, reduceCtorEq, Int.reduceLT, Int.reduceLE, Int.reduceEq, Int.reduceToNat, decide_true, decide_false, Int.reduceNeg, Int.cast_ofNat_Int, sg, AO.sg, Option.isNone_none, c1, encI_len, encS_len, e4, e5, c2]
      refine Cc_of k1 ?_
      rintro h' r ⟨rfl, rfl⟩
      cases c4 : names.any fun x => !nameB x
      · have c4' : names.all nameB = true := by
          rw [List.all_eq_not_any_not, c4]; rfl
        simp only [go_sem, ↓reduceIte, Nat.reduceLT, Nat.reduceLeDiff, Nat.reduceEqDiff, Nat.reduceAdd, Nat.reduceMul, Nat.reduceSub, reduceCtorEq, Int.reduceLT, Int.reduceLE, Int.reduceEq, Int.reduceToNat, decide_true, decide_false, Int.reduceNeg, Int.cast_ofNat_Int, sg, AO.sg, Option.isNone_none, c4]
        refine Cc_of k2 ?_
        rintro h' r ⟨rfl, rfl⟩
        simp only [go_sem, ↓reduceIte, Nat.reduceLT, Nat.reduceLeDiff, Nat.reduceEqDiff, Nat.reduceAdd, Nat.reduceMul, Nat.reduceSub, reduceCtorEq, Int.reduceLT, Int.reduceLE, Int.reduceEq, Int.reduceToNat, decide_true, decide_false, Int.reduceNeg, Int.cast_ofNat_Int, sg, AO.sg, Option.isNone_none]
        rw [c4', List.all_eq_not_any_not]
        try simp
      · have c4' : names.all nameB = false := by
          rw [List.all_eq_not_any_not, c4]; rfl
        simp only [go_sem, ↓reduceIte, Nat.reduceLT, Nat.reduceLeDiff, Nat.reduceEqDiff, Nat.reduceAdd, Nat.reduceMul, Nat.reduceSub, reduceCtorEq, Int.reduceLT, Int.reduceLE, Int.reduceEq, Int.reduceToNat, decide_true, decide_false, Int.reduceNeg, Int.cast_ofNat_Int, sg, AO.sg, Option.isNone_none, c4]
        rw [c4']
        try simp
end Go.Am
end

section
/- layout.Parse. -/
namespace Go.Am
open Go Go.Proofs
set_option maxRecDepth 100000
set_option linter.unusedVariables false
set_option linter.unusedSimpArgs false
def parseV : List Ln → List Dc → List Dc × Int × Int
  | [], acc => (acc, 0, 0)
  | x :: r, acc => if (oneV x.num x.fs).2 = 0 then parseV r (acc ++ [(oneV x.num x.fs).1]) else ([], x.num, (oneV x.num x.fs).2)
def parseR (r : List Dc × Int × Int) : D := .tup [.p (.sl (encC r.1)), .p (.int .i64 r.2.1), .p (.int .i64 r.2.2)]
theorem parsel_ok (l : List Ln) (hl : l.length ≤ 10000000) (hf : ∀ x ∈ l, x.fs.length ≤ 10000000) : ACalls Tryz.prog 12 [.p (.sl (encL l))] [] fun h r => h = [] ∧ r = parseR (parseV l []) := by
  refine ACalls_X Tryz.func12 rfl enters12 (by simp [Tryz.f12]) ?_
  simp only [go_sem, ↓reduceIte, Nat.reduceLT, Nat.reduceLeDiff, Nat.reduceEqDiff, Nat.reduceAdd, Nat.reduceMul, Nat.reduceSub, reduceCtorEq, Int.reduceLT, Int.reduceLE, Int.reduceEq, Int.reduceToNat, decide_true, decide_false, Int.reduceNeg, Int.cast_ofNat_Int, sg, AO.sg, Option.isNone_none, encL_len]
  refine X_loop_inv (fun q : Nat × List Dc => ⟨[(10, .p (.sl (encL l))), (11, .p (.int .i64 (l.length : Nat))), (12, .p (.int .i64 (q.1 : Nat))), (5, .ref 29 0 q.2.length q.2.length)], [(29, .arr 72 4 (encC q.2))], 32⟩)
    (fun q => q.1 ≤ l.length ∧ q.2.length ≤ q.1 ∧ parseV (l.drop q.1) q.2 = parseV l []) (fun q => l.length - q.1) (0, []) ⟨Nat.zero_le _, by simp, by simp⟩ ((Wk.nil (t := 5) (q := 29) (sz := 4) 72 rfl rfl (by decide)).trans (Wk.forget (by simp [Le, LeE, LeH, get, envIds, hpIds, KeepH, D.ids, idsL, AO.ids, setL, base, encC]))) ?_
  rintro ⟨i, acc⟩ n ⟨hi, hn, he⟩ ih
  simp only at hi hn he
  simp only [go_sem, ↓reduceIte, Nat.reduceLT, Nat.reduceLeDiff, Nat.reduceEqDiff, Nat.reduceAdd, Nat.reduceMul, Nat.reduceSub, reduceCtorEq, Int.reduceLT, Int.reduceLE, Int.reduceEq, Int.reduceToNat, decide_true, decide_false, Int.reduceNeg, Int.cast_ofNat_Int, sg, AO.sg, Option.isNone_none]
  refine Cn_split (fun h2 => ?_) (fun h2 => ?_)
  · have hlt : i < l.length := by simp at h2; omega
    have hw := wrap_succ i (by omega)
    have hb := hf _ (getD_mem l i ln0 hlt)
    rw [drop_getD l i ln0 hlt] at he
    simp only [go_sem, ↓reduceIte, Nat.reduceLT, Nat.reduceLeDiff, Nat.reduceEqDiff, Nat.reduceAdd, Nat.reduceMul, Nat.reduceSub, reduceCtorEq, Int.reduceLT, Int.reduceLE, Int.reduceEq, Int.reduceToNat, decide_true, decide_false, Int.reduceNeg, Int.cast_ofNat_Int, sg, AO.sg, Option.isNone_none, Int.toNat_natCast, encL_len, encL_get l i hlt]
    generalize l.getD i ln0 = x at *
    refine ⟨by omega, Cc_of (parse_ok x.num x.fs hb) ?_⟩
    rintro h' r ⟨rfl, rfl⟩
    by_cases hz : (oneV x.num x.fs).2 = 0
    · simp only [go_sem, ↓reduceIte, Nat.reduceLT, Nat.reduceLeDiff, Nat.reduceEqDiff, Nat.reduceAdd, Nat.reduceMul, Nat.reduceSub, reduceCtorEq, Int.reduceLT, Int.reduceLE, Int.reduceEq, Int.reduceToNat, decide_true, decide_false, Int.reduceNeg, Int.cast_ofNat_Int, sg, AO.sg, Option.isNone_none, Dc.d, hz, hw, encC_len]
      refine ⟨⟨wid1 _ _ rfl, by omega⟩, ?_⟩
      refine ih (i + 1, acc ++ [(oneV x.num x.fs).1]) _ ⟨hlt, by simp only [List.length_append, List.length_cons, List.length_nil]; omega, by rw [← he]; simp only [parseV, hz, if_true]⟩ (by simp only; omega) ?_
      (refine Wk.forget ?_; simp [Le, LeE, LeH, get, envIds, hpIds, KeepH, D.ids, idsL, AO.ids, setL, base, encC_snoc, encC_len]; done)
    · simp only [go_sem, ↓reduceIte, Nat.reduceLT, Nat.reduceLeDiff, Nat.reduceEqDiff, Nat.reduceAdd, Nat.reduceMul, Nat.reduceSub, reduceCtorEq, Int.reduceLT, Int.reduceLE, Int.reduceEq, Int.reduceToNat, decide_true, decide_false, Int.reduceNeg, Int.cast_ofNat_Int, sg, AO.sg, Option.isNone_none, Dc.d, hz]
      refine X_any0 mixed (p := [(0, 0), (1, 0), (2, 0), (3, 0), (4, 0), (5, 0)]) (by kernel_rfl) (by simp [LeH, get]) ?_
      simp only [go_sem, ↓reduceIte, Nat.reduceLT, Nat.reduceLeDiff, Nat.reduceEqDiff, Nat.reduceAdd, Nat.reduceMul, Nat.reduceSub, reduceCtorEq, Int.reduceLT, Int.reduceLE, Int.reduceEq, Int.reduceToNat, decide_true, decide_false, Int.reduceNeg, Int.cast_ofNat_Int, sg, AO.sg, Option.isNone_none]
      refine end_pure ?_
      simp only [go_sem, ↓reduceIte, Nat.reduceLT, Nat.reduceLeDiff, Nat.reduceEqDiff, Nat.reduceAdd, Nat.reduceMul, Nat.reduceSub, reduceCtorEq, Int.reduceLT, Int.reduceLE, Int.reduceEq, Int.reduceToNat, decide_true, decide_false, Int.reduceNeg, Int.cast_ofNat_Int, sg, AO.sg, Option.isNone_none]
      rw [← he]
      simp [parseV, hz, parseR, encC]
  · simp only [go_sem, ↓reduceIte, Nat.reduceLT, Nat.reduceLeDiff, Nat.reduceEqDiff, Nat.reduceAdd, Nat.reduceMul, Nat.reduceSub, reduceCtorEq, Int.reduceLT, Int.reduceLE, Int.reduceEq, Int.reduceToNat, decide_true, decide_false, Int.reduceNeg, Int.cast_ofNat_Int, sg, AO.sg, Option.isNone_none]
    have hieq : i = l.length := by simp at h2; omega
    subst hieq
    refine end_pure ?_
    simp only [go_sem, ↓reduceIte, Nat.reduceLT, Nat.reduceLeDiff, Nat.reduceEqDiff, Nat.reduceAdd, Nat.reduceMul, Nat.reduceSub, reduceCtorEq, Int.reduceLT, Int.reduceLE, Int.reduceEq, Int.reduceToNat, decide_true, decide_false, Int.reduceNeg, Int.cast_ofNat_Int, sg, AO.sg, Option.isNone_none]
    rw [List.drop_length] at he
    rw [← he]
    simp [parseV, parseR, encC_len, encC_take]
end Go.Am
end

section
/- SameDecls. -/
namespace Go.Am
open Go Go.Proofs
set_option maxRecDepth 100000
set_option linter.unusedVariables false
set_option linter.unusedSimpArgs false
def smallC (l : List Dc) : Prop := l.length ≤ 10000000 ∧ ∀ x ∈ l, x.names.length ≤ 10000000 ∧ x.nums.length ≤ 10000000
theorem sameDecls_ok (a b : List Dc) (ha : smallC a) : ACalls Tryz.prog 13 [.p (.sl (encC a)), .p (.sl (encC b))] [] fun h r => h = [] ∧ r = .p (.bool (decide (a = b))) := by
  obtain ⟨ha, hz⟩ := ha
  refine ACalls_X Tryz.func13 rfl enters13 (by simp [Tryz.f13]) ?_
  simp only [go_sem, ↓reduceIte, Nat.reduceLT, Nat.reduceLeDiff, Nat.reduceEqDiff, Nat.reduceAdd, Nat.reduceMul, Nat.reduceSub, reduceCtorEq, Int.reduceLT, Int.reduceLE, Int.reduceEq, Int.reduceToNat, decide_true, decide_false, Int.reduceNeg, Int.cast_ofNat_Int, sg, AO.sg, Option.isNone_none, encC_len]
  refine Cn_split (fun h1 => ?_) (fun h1 => ?_)
  · simp only [go_sem, ↓reduceIte, Nat.reduceLT, Nat.reduceLeDiff, Nat.reduceEqDiff, Nat.reduceAdd, Nat.reduceMul, Nat.reduceSub, reduceCtorEq, Int.reduceLT, Int.reduceLE, Int.reduceEq, Int.reduceToNat, decide_true, decide_false, Int.reduceNeg, Int.cast_ofNat_Int, sg, AO.sg, Option.isNone_none]
    simp at h1
    have : a ≠ b := fun e => h1 (by rw [e])
    simp [this]
  · have hl : a.length = b.length := by simp at h1; omega
    simp only [go_sem, ↓reduceIte, Nat.reduceLT, Nat.reduceLeDiff, Nat.reduceEqDiff, Nat.reduceAdd, Nat.reduceMul, Nat.reduceSub, reduceCtorEq, Int.reduceLT, Int.reduceLE, Int.reduceEq, Int.reduceToNat, decide_true, decide_false, Int.reduceNeg, Int.cast_ofNat_Int, sg, AO.sg, Option.isNone_none]
    refine X_loop_inv (fun i => ⟨[(0, .p (.sl (encC a))), (1, .p (.sl (encC b))), (5, .p (.int .i64 (i : Nat)))], [], 69⟩) (fun i => i ≤ a.length ∧ a.take i = b.take i) (fun i => a.length - i) 0 ⟨Nat.zero_le _, by simp⟩
      (Wk.forget (by simp [Le, LeE, LeH, get, envIds, hpIds, KeepH, D.ids, idsL, AO.ids, setL, base])) ?_
    rintro i n ⟨hi, he⟩ ih
    simp only [go_sem, ↓reduceIte, Nat.reduceLT, Nat.reduceLeDiff, Nat.reduceEqDiff, Nat.reduceAdd, Nat.reduceMul, Nat.reduceSub, reduceCtorEq, Int.reduceLT, Int.reduceLE, Int.reduceEq, Int.reduceToNat, decide_true, decide_false, Int.reduceNeg, Int.cast_ofNat_Int, sg, AO.sg, Option.isNone_none, encC_len]
    refine Cn_split (fun h2 => ?_) (fun h2 => ?_)
    · have hlt : i < a.length := by simp at h2; omega
      have hlt' : i < b.length := by omega
      have hx : a[i]? = some (a.getD i dc0) := by simp [List.getD, hlt]
      have hy : b[i]? = some (b.getD i dc0) := by simp [List.getD, hlt']
      have hsz := hz _ (getD_mem a i dc0 hlt)
      have hga := encC_get a i hlt
      have hgb := encC_get b i hlt'
      generalize a.getD i dc0 = x at hx hsz hga
      generalize b.getD i dc0 = y at hy hgb
      have hia : (i : Int) < (a.length : Int) := by omega
      have hib : (i : Int) < (b.length : Int) := by omega
      have hi0 : (0 : Int) ≤ (i : Int) := by omega
      have hne : x ≠ y → decide (a = b) = false := by
        intro h; rw [decide_eq_false_iff_not]; rintro rfl; rw [hx] at hy; exact h (Option.some.inj hy)
      simp only [go_sem, ↓reduceIte, Nat.reduceLT, Nat.reduceLeDiff, Nat.reduceEqDiff, Nat.reduceAdd, Nat.reduceMul, Nat.reduceSub, reduceCtorEq, Int.reduceLT, Int.reduceLE, Int.reduceEq, Int.reduceToNat, decide_true, decide_false, Int.reduceNeg, Int.cast_ofNat_Int, sg, AO.sg, Option.isNone_none]
      refine X_any0 mixed (p := [(0, 0), (1, 0), (2, 0), (3, 0), (4, 0), (5, 0), (6, 0), (7, 0), (8, 0), (9, 0), (10, 0), (11, 0), (12, 0), (13, 0), (14, 0), (15, 0), (16, 0), (17, 0), (18, 0), (19, 0), (20, 0), (21, 0), (22, 0), (23, 0), (24, 0), (25, 0), (26, 0), (27, 0), (28, 0), (29, 0), (30, 0), (31, 0), (32, 0), (33, 0), (34, 0), (35, 2), (36, 0), (37, 0), (38, 0), (39, 0), (40, 0), (41, 0), (42, 0), (43, 0), (44, 0), (45, 0), (46, 0), (47, 0), (48, 0), (49, 2), (50, 0), (51, 0)]) (by kernel_rfl) (by simp [LeH, get]) ?_
      simp only [go_sem, ↓reduceIte, Nat.reduceLT, Nat.reduceLeDiff, Nat.reduceEqDiff, Nat.reduceAdd, Nat.reduceMul, Nat.reduceSub, reduceCtorEq, Int.reduceLT, Int.reduceLE, Int.reduceEq, Int.reduceToNat, decide_true, decide_false, Int.reduceNeg, Int.cast_ofNat_Int, sg, AO.sg, Option.isNone_none, encC_len, Int.toNat_natCast, hga, hgb, hia, hib, hi0]
      cases c1 : decide (x.word = y.word)
      · simp only [go_sem, ↓reduceIte, Nat.reduceLT, Nat.reduceLeDiff, Nat.reduceEqDiff, Nat.reduceAdd, Nat.reduceMul, Nat.reduceSub, reduceCtorEq, Int.reduceLT, Int.reduceLE, Int.reduceEq, Int.reduceToNat, decide_true, decide_false, Int.reduceNeg, Int.cast_ofNat_Int, sg, AO.sg, Option.isNone_none, c1]
        rw [hne (by rintro rfl; simp at c1)]
      simp only [go_sem, ↓reduceIte, Nat.reduceLT, Nat.reduceLeDiff, Nat.reduceEqDiff, Nat.reduceAdd, Nat.reduceMul, Nat.reduceSub, reduceCtorEq, Int.reduceLT, Int.reduceLE, Int.reduceEq, Int.reduceToNat, decide_true, decide_false, Int.reduceNeg, Int.cast_ofNat_Int, sg, AO.sg, Option.isNone_none, c1, encC_len, Int.toNat_natCast, hga, hgb, hia, hib, hi0]
      cases c2 : decide (x.line = y.line)
      · simp only [go_sem, ↓reduceIte, Nat.reduceLT, Nat.reduceLeDiff, Nat.reduceEqDiff, Nat.reduceAdd, Nat.reduceMul, Nat.reduceSub, reduceCtorEq, Int.reduceLT, Int.reduceLE, Int.reduceEq, Int.reduceToNat, decide_true, decide_false, Int.reduceNeg, Int.cast_ofNat_Int, sg, AO.sg, Option.isNone_none, c2]
        rw [hne (by rintro rfl; simp at c2)]
      simp only [go_sem, ↓reduceIte, Nat.reduceLT, Nat.reduceLeDiff, Nat.reduceEqDiff, Nat.reduceAdd, Nat.reduceMul, Nat.reduceSub, reduceCtorEq, Int.reduceLT, Int.reduceLE, Int.reduceEq, Int.reduceToNat, decide_true, decide_false, Int.reduceNeg, Int.cast_ofNat_Int, sg, AO.sg, Option.isNone_none, c2, encC_len, Int.toNat_natCast, hga, hgb, hia, hib, hi0]
      refine Gh_of (sameStrings_ok _ _ (by omega)) ?_
      rintro h' r ⟨rfl, rfl⟩
      cases c3 : decide (x.names = y.names)
      · simp only [go_sem, ↓reduceIte, Nat.reduceLT, Nat.reduceLeDiff, Nat.reduceEqDiff, Nat.reduceAdd, Nat.reduceMul, Nat.reduceSub, reduceCtorEq, Int.reduceLT, Int.reduceLE, Int.reduceEq, Int.reduceToNat, decide_true, decide_false, Int.reduceNeg, Int.cast_ofNat_Int, sg, AO.sg, Option.isNone_none, c3]
        rw [hne (by rintro rfl; simp at c3)]
      simp only [go_sem, ↓reduceIte, Nat.reduceLT, Nat.reduceLeDiff, Nat.reduceEqDiff, Nat.reduceAdd, Nat.reduceMul, Nat.reduceSub, reduceCtorEq, Int.reduceLT, Int.reduceLE, Int.reduceEq, Int.reduceToNat, decide_true, decide_false, Int.reduceNeg, Int.cast_ofNat_Int, sg, AO.sg, Option.isNone_none, c3, encC_len, Int.toNat_natCast, hga, hgb, hia, hib, hi0]
      refine Gh_of (sameInts_ok _ _ (by omega)) ?_
      rintro h' r ⟨rfl, rfl⟩
      cases c4 : decide (x.nums = y.nums)
      · simp only [go_sem, ↓reduceIte, Nat.reduceLT, Nat.reduceLeDiff, Nat.reduceEqDiff, Nat.reduceAdd, Nat.reduceMul, Nat.reduceSub, reduceCtorEq, Int.reduceLT, Int.reduceLE, Int.reduceEq, Int.reduceToNat, decide_true, decide_false, Int.reduceNeg, Int.cast_ofNat_Int, sg, AO.sg, Option.isNone_none, c4]
        rw [hne (by rintro rfl; simp at c4)]
      simp only [go_sem, ↓reduceIte, Nat.reduceLT, Nat.reduceLeDiff, Nat.reduceEqDiff, Nat.reduceAdd, Nat.reduceMul, Nat.reduceSub, reduceCtorEq, Int.reduceLT, Int.reduceLE, Int.reduceEq, Int.reduceToNat, decide_true, decide_false, Int.reduceNeg, Int.cast_ofNat_Int, sg, AO.sg, Option.isNone_none, c4, wrap_succ i (by omega)]
      refine ih (i + 1) _ ⟨hlt, ?_⟩ (by omega) (Wk.forget (by simp [Le, LeE, LeH, get, envIds, hpIds, KeepH, D.ids, idsL, AO.ids, setL, base]))
      have hxy : x = y := by
        obtain ⟨x1, x2, x3, x4⟩ := x
        obtain ⟨y1, y2, y3, y4⟩ := y
        simp only [decide_eq_true_eq] at c1 c2 c3 c4
        subst c1 c2 c3 c4
        rfl
      rw [List.take_add_one, List.take_add_one, he, hx, hy, hxy]
    · simp only [go_sem, ↓reduceIte, Nat.reduceLT, Nat.reduceLeDiff, Nat.reduceEqDiff, Nat.reduceAdd, Nat.reduceMul, Nat.reduceSub, reduceCtorEq, Int.reduceLT, Int.reduceLE, Int.reduceEq, Int.reduceToNat, decide_true, decide_false, Int.reduceNeg, Int.cast_ofNat_Int, sg, AO.sg, Option.isNone_none]
      have : i = a.length := by simp at h2; omega
      subst this
      rw [List.take_length, hl, List.take_length] at he
      simp [he]
end Go.Am
end
