/- text of the law of layer 1. -/
import Derived.Test.YtefdjkakojfhnaaDoorSaml
namespace Go.Am
open Go Go.Proofs
set_option maxRecDepth 100000
set_option linter.unusedVariables false
set_option linter.unusedSimpArgs false
def signsL : List UInt8 := [97, 98, 48, 45, 57, 95, 35, 32, 32, 9, 10, 10, 126, 33]
def txtS (l : List Int) (at_ : Nat) : UInt8 × Nat :=
  if nextV l (at_ + 1) 150 = 0 then (UInt8.ofNat (nextV l (at_ + 1 + 1) 256).toNat, at_ + 1 + 1 + 1) else (signsL.getD (nextV l at_ 14).toNat 0, at_ + 1 + 1)
def txtG (l : List Int) : Nat → Nat → List UInt8 → List UInt8
  | 0, _, acc => acc
  | k + 1, at_, acc => txtG l k (txtS l at_).2 (acc ++ [(txtS l at_).1])
def textV (l : List Int) : List UInt8 := txtG l (min l.length 200) 0 []
theorem txtG_len (l : List Int) : ∀ (k at_ : Nat) (acc : List UInt8), (txtG l k at_ acc).length = acc.length + k
  | 0, _, acc => by simp [txtG]
  | k + 1, at_, acc => by rw [txtG, txtG_len l k]; simp; omega
theorem textV_len (l : List Int) : (textV l).length ≤ 200 := by unfold textV; rw [txtG_len]; simp; omega
theorem text_ok (l : List Int) : ACalls Tryd.prog 12 [.p (.sl (encI l))] [] fun h r => h = [] ∧ r = .p (.str (textV l)) := by
  refine ACalls_X Tryd.func12 rfl enters12 (by simp [Tryd.f12]) ?_
  simp only [go_sem, ↓reduceIte, Nat.reduceLT, Nat.reduceLeDiff, Nat.reduceEqDiff, Nat.reduceAdd, Nat.reduceMul, Nat.reduceSub, reduceCtorEq, Int.reduceLT, Int.reduceLE, Int.reduceEq, Int.reduceToNat, decide_true, decide_false, Int.reduceNeg, Int.cast_ofNat_Int, sg, AO.sg, Option.isNone_none]
  refine X_loop_inv (fun q : Nat × Nat × List UInt8 => ⟨[(0, .p (.sl (encI l))), (3, .ptr 10 0), (4, .p (.str signsL)), (5, .ref 36 0 q.2.2.length q.2.2.length), (6, .p (.int .i64 (q.1 : Nat)))],
      [(10, .box [.p (.sl (encI l)), .p (.int .i64 (q.2.1 : Nat))]), (36, .arr 5 1 (encB q.2.2))], 39⟩)
    (fun q => q.1 ≤ min l.length 200 ∧ q.2.1 ≤ 3 * q.1 ∧ q.2.2.length = q.1 ∧ txtG l (min l.length 200 - q.1) q.2.1 q.2.2 = textV l) (fun q => 200 - q.1) (0, 0, []) ⟨by simp, by simp, by simp, by simp [textV]⟩
    ((Wk.nil (t := 5) (q := 36) (sz := 1) 5 rfl rfl (by decide)).trans (Wk.forget (by simp [Le, LeE, LeH, get, envIds, hpIds, KeepH, D.ids, idsL, AO.ids, setL, base, encB, signsL]))) ?_
  rintro ⟨i, at_, acc⟩ n ⟨hi, hat, hacc, he⟩ ih
  simp only at hi hat hacc he
  have hi200 : i ≤ 200 := by omega
  have hw := wrap_succ i (by omega)
  simp only [go_sem, ↓reduceIte, Nat.reduceLT, Nat.reduceLeDiff, Nat.reduceEqDiff, Nat.reduceAdd, Nat.reduceMul, Nat.reduceSub, reduceCtorEq, Int.reduceLT, Int.reduceLE, Int.reduceEq, Int.reduceToNat, decide_true, decide_false, Int.reduceNeg, Int.cast_ofNat_Int, sg, AO.sg, Option.isNone_none, encI_len]
  cases c1 : decide ((i : Int) < (l.length : Int))
  · have h1 := of_decide_eq_false c1
    simp only [go_sem, ↓reduceIte, Nat.reduceLT, Nat.reduceLeDiff, Nat.reduceEqDiff, Nat.reduceAdd, Nat.reduceMul, Nat.reduceSub, reduceCtorEq, Int.reduceLT, Int.reduceLE, Int.reduceEq, Int.reduceToNat, decide_true, decide_false, Int.reduceNeg, Int.cast_ofNat_Int, sg, AO.sg, Option.isNone_none, c1]
    refine Af_str rfl ti35 ti9 ti5 rfl rfl ?_
    simp only [go_sem, ↓reduceIte, Nat.reduceLT, Nat.reduceLeDiff, Nat.reduceEqDiff, Nat.reduceAdd, Nat.reduceMul, Nat.reduceSub, reduceCtorEq, Int.reduceLT, Int.reduceLE, Int.reduceEq, Int.reduceToNat, decide_true, decide_false, Int.reduceNeg, Int.cast_ofNat_Int, sg, AO.sg, Option.isNone_none]
    rw [← he, show min l.length 200 - i = 0 by omega]
    rfl
  cases c2 : decide ((i : Int) < 200)
  · have h1 := of_decide_eq_false c2
    simp only [go_sem, ↓reduceIte, Nat.reduceLT, Nat.reduceLeDiff, Nat.reduceEqDiff, Nat.reduceAdd, Nat.reduceMul, Nat.reduceSub, reduceCtorEq, Int.reduceLT, Int.reduceLE, Int.reduceEq, Int.reduceToNat, decide_true, decide_false, Int.reduceNeg, Int.cast_ofNat_Int, sg, AO.sg, Option.isNone_none, c1, c2]
    refine Af_str rfl ti35 ti9 ti5 rfl rfl ?_
    simp only [go_sem, ↓reduceIte, Nat.reduceLT, Nat.reduceLeDiff, Nat.reduceEqDiff, Nat.reduceAdd, Nat.reduceMul, Nat.reduceSub, reduceCtorEq, Int.reduceLT, Int.reduceLE, Int.reduceEq, Int.reduceToNat, decide_true, decide_false, Int.reduceNeg, Int.cast_ofNat_Int, sg, AO.sg, Option.isNone_none]
    rw [← he, show min l.length 200 - i = 0 by omega]
    rfl
  have h1 := of_decide_eq_true c1
  have h2 := of_decide_eq_true c2
  rw [show min l.length 200 - i = (min l.length 200 - (i + 1)) + 1 by omega] at he
  simp only [txtG] at he
  obtain ⟨u, hu, hu14⟩ := nextV_rng l at_ 14 (by omega)
  have hlen : ((signsL.length : Nat) : Int) = 14 := rfl
  simp only [go_sem, ↓reduceIte, Nat.reduceLT, Nat.reduceLeDiff, Nat.reduceEqDiff, Nat.reduceAdd, Nat.reduceMul, Nat.reduceSub, reduceCtorEq, Int.reduceLT, Int.reduceLE, Int.reduceEq, Int.reduceToNat, decide_true, decide_false, Int.reduceNeg, Int.cast_ofNat_Int, sg, AO.sg, Option.isNone_none, c1, c2, hlen]
  refine Cc_of (next_ok l at_ 14 (by omega) (in64_small _ (by omega) (by omega))) ?_
  rintro h' r ⟨rfl, rfl⟩
  have hu0 : (0 : Int) ≤ (u : Int) ∧ (u : Int) < 14 := by omega
  simp only [go_sem, ↓reduceIte, Nat.reduceLT, Nat.reduceLeDiff, Nat.reduceEqDiff, Nat.reduceAdd, Nat.reduceMul, Nat.reduceSub, reduceCtorEq, Int.reduceLT, Int.reduceLE, Int.reduceEq, Int.reduceToNat, decide_true, decide_false, Int.reduceNeg, Int.cast_ofNat_Int, sg, AO.sg, Option.isNone_none, tapeC, hu, hu0, hlen, Int.toNat_natCast]
  refine Cc_of (next_ok l (at_ + 1) 150 (by omega) (in64_small _ (by omega) (by omega))) ?_
  rintro h' r ⟨rfl, rfl⟩
  by_cases hz : nextV l (at_ + 1) 150 = 0
  · obtain ⟨v, hv, hv256⟩ := nextV_rng l (at_ + 1 + 1) 256 (by omega)
    have hs : txtS l at_ = (UInt8.ofNat v, at_ + 1 + 1 + 1) := by simp [txtS, hz, hv]
    rw [hs] at he
    have hw8 : IntKind.u8.wrap (v : Int) = ((UInt8.ofNat v).toNat : Int) := by
      rw [IntKind.wrap_u8]; simp
    simp only [go_sem, ↓reduceIte, Nat.reduceLT, Nat.reduceLeDiff, Nat.reduceEqDiff, Nat.reduceAdd, Nat.reduceMul, Nat.reduceSub, reduceCtorEq, Int.reduceLT, Int.reduceLE, Int.reduceEq, Int.reduceToNat, decide_true, decide_false, Int.reduceNeg, Int.cast_ofNat_Int, sg, AO.sg, Option.isNone_none, tapeC, hz]
    refine Cc_of (next_ok l (at_ + 1 + 1) 256 (by omega) (in64_small _ (by omega) (by omega))) ?_
    rintro h' r ⟨rfl, rfl⟩
    simp only [go_sem, ↓reduceIte, Nat.reduceLT, Nat.reduceLeDiff, Nat.reduceEqDiff, Nat.reduceAdd, Nat.reduceMul, Nat.reduceSub, reduceCtorEq, Int.reduceLT, Int.reduceLE, Int.reduceEq, Int.reduceToNat, decide_true, decide_false, Int.reduceNeg, Int.cast_ofNat_Int, sg, AO.sg, Option.isNone_none, tapeC, hv, hw8, encB_len, hw]
    refine ⟨⟨wid1 _ _ rfl, by omega⟩, ?_⟩
    refine ih (i + 1, at_ + 1 + 1 + 1, acc ++ [UInt8.ofNat v]) _ ⟨by simp only; omega, by simp only; omega, by simp; omega, he⟩ (by simp only; omega) ?_
    (refine Wk.forget ?_; simp [Le, LeE, LeH, get, envIds, hpIds, KeepH, D.ids, idsL, AO.ids, setL, base, encB_snoc, encB_len]; done)
  · have hs : txtS l at_ = (signsL.getD u 0, at_ + 1 + 1) := by simp [txtS, hz, hu]
    rw [hs] at he
    simp only [go_sem, ↓reduceIte, Nat.reduceLT, Nat.reduceLeDiff, Nat.reduceEqDiff, Nat.reduceAdd, Nat.reduceMul, Nat.reduceSub, reduceCtorEq, Int.reduceLT, Int.reduceLE, Int.reduceEq, Int.reduceToNat, decide_true, decide_false, Int.reduceNeg, Int.cast_ofNat_Int, sg, AO.sg, Option.isNone_none, tapeC, hz, encB_len, hw]
    refine ⟨⟨wid1 _ _ rfl, by omega⟩, ?_⟩
    refine ih (i + 1, at_ + 1 + 1, acc ++ [signsL.getD u 0]) _ ⟨by simp only; omega, by simp only; omega, by simp; omega, he⟩ (by simp only; omega) ?_
    (refine Wk.forget ?_; simp [Le, LeE, LeH, get, envIds, hpIds, KeepH, D.ids, idsL, AO.ids, setL, base, encB_snoc, encB_len]; done)
end Go.Am
