/- Decimal forms: the reference's Digits, and that Number reads them back. -/
import Derived.Test.YtefdjkakojfhnaaDoorLaym
namespace Go.Am
open Go Go.Proofs
set_option maxRecDepth 100000
set_option linter.unusedVariables false
set_option linter.unusedSimpArgs false
def digN (n : Nat) : List UInt8 := if h : n < 10 then [UInt8.ofNat (48 + n)] else digN (n / 10) ++ [UInt8.ofNat (48 + n % 10)]
termination_by n
decreasing_by omega
def digV (n : Int) : List UInt8 := if n < 0 then 45 :: digN (-n).toNat else digN n.toNat
theorem digN_small (n : Nat) (h : n < 10) : digN n = [UInt8.ofNat (48 + n)] := by rw [digN, dif_pos h]
theorem digN_big (n : Nat) (h : ¬ n < 10) : digN n = digN (n / 10) ++ [UInt8.ofNat (48 + n % 10)] := by rw [digN, dif_neg h]
theorem digN_len : ∀ (k n : Nat), n < 10 ^ (k + 1) → (digN n).length ≤ k + 1
  | 0, n, h => by rw [digN_small n (by simpa using h)]; simp
  | k + 1, n, h => by
    by_cases h1 : n < 10
    · rw [digN_small n h1]; simp
    · have := digN_len k (n / 10) (by rw [Nat.pow_succ] at h; omega)
      rw [digN_big n h1]; simp; omega
theorem digits_nn (n : Nat) (hn : n ≤ 1000000000000000) : ACalls Tryd.prog 17 [.p (.int .i64 (n : Nat))] [] fun h r => h = [] ∧ r = .p (.str (digN n)) := by
  refine ACalls_X Tryd.func17 rfl enters17 (by simp [Tryd.f17]) ?_
  have hlen := digN_len 15 n (by omega)
  have h0 : ¬ (n : Int) < 0 := by omega
  simp only [go_sem, ↓reduceIte, Nat.reduceLT, Nat.reduceLeDiff, Nat.reduceEqDiff, Nat.reduceAdd, Nat.reduceMul, Nat.reduceSub, reduceCtorEq, Int.reduceLT, Int.reduceLE, Int.reduceEq, Int.reduceToNat, decide_true, decide_false, Int.reduceNeg, Int.cast_ofNat_Int, sg, AO.sg, Option.isNone_none, h0]
  refine X_loop_inv (fun q : Nat × List UInt8 => ⟨[(0, .p (.int .i64 (q.1 : Nat))), (3, .p (.str q.2))], [], 23⟩) (fun q => q.1 ≤ n ∧ digN q.1 ++ q.2 = digN n) (fun q => q.1) (n, []) ⟨Nat.le_refl _, by simp⟩ (Wk.forget (by simp [Le, LeE, LeH, get, envIds, hpIds, KeepH, D.ids, idsL, AO.ids, setL, base])) ?_
  rintro ⟨m, s⟩ k ⟨hm, he⟩ ih
  simp only at hm he
  have hmod : (m : Int).tmod 10 = ((m % 10 : Nat) : Int) := by rw [Int.tmod_eq_emod_of_nonneg (by omega)]; omega
  have hdiv : (m : Int).tdiv 10 = ((m / 10 : Nat) : Int) := by rw [Int.tdiv_eq_ediv_of_nonneg (by omega)]; omega
  have w1 : IntKind.i64.wrap (48 + ((m % 10 : Nat) : Int)) = 48 + ((m % 10 : Nat) : Int) := by rw [wrap_i64_id] <;> omega
  have w2 : IntKind.u8.wrap (48 + ((m % 10 : Nat) : Int)) = ((UInt8.ofNat (48 + m % 10)).toNat : Int) := by rw [IntKind.wrap_u8]; simp
  have w3 : IntKind.i64.wrap ((m / 10 : Nat) : Int) = ((m / 10 : Nat) : Int) := by rw [wrap_i64_id] <;> omega
  have hne10 : ¬ (10 : Int) = 0 := by decide
  have hsl : s.length ≤ 20 := by have := congrArg List.length he; simp at this; omega
  simp only [go_sem, ↓reduceIte, Nat.reduceLT, Nat.reduceLeDiff, Nat.reduceEqDiff, Nat.reduceAdd, Nat.reduceMul, Nat.reduceSub, reduceCtorEq, Int.reduceLT, Int.reduceLE, Int.reduceEq, Int.reduceToNat, decide_true, decide_false, Int.reduceNeg, Int.cast_ofNat_Int, sg, AO.sg, Option.isNone_none, hmod, hdiv, w1, w2, hne10]
  refine Af_str (l := [UInt8.ofNat (48 + m % 10)]) rfl ti35 ti9 ti5 rfl rfl ?_
  simp only [go_sem, ↓reduceIte, Nat.reduceLT, Nat.reduceLeDiff, Nat.reduceEqDiff, Nat.reduceAdd, Nat.reduceMul, Nat.reduceSub, reduceCtorEq, Int.reduceLT, Int.reduceLE, Int.reduceEq, Int.reduceToNat, decide_true, decide_false, Int.reduceNeg, Int.cast_ofNat_Int, sg, AO.sg, Option.isNone_none, hmod, hdiv, w3, hne10]
  refine ⟨by unfold maxLen; omega, ?_⟩
  refine Cn_split (fun h2 => ?_) (fun h2 => ?_)
  · simp only [go_sem, ↓reduceIte, Nat.reduceLT, Nat.reduceLeDiff, Nat.reduceEqDiff, Nat.reduceAdd, Nat.reduceMul, Nat.reduceSub, reduceCtorEq, Int.reduceLT, Int.reduceLE, Int.reduceEq, Int.reduceToNat, decide_true, decide_false, Int.reduceNeg, Int.cast_ofNat_Int, sg, AO.sg, Option.isNone_none]
    have h3 : m < 10 := by simp at h2; omega
    rw [← he, digN_small m h3, Nat.mod_eq_of_lt h3]
    rfl
  · have h3 : ¬ m < 10 := by simp at h2; omega
    simp only [go_sem, ↓reduceIte, Nat.reduceLT, Nat.reduceLeDiff, Nat.reduceEqDiff, Nat.reduceAdd, Nat.reduceMul, Nat.reduceSub, reduceCtorEq, Int.reduceLT, Int.reduceLE, Int.reduceEq, Int.reduceToNat, decide_true, decide_false, Int.reduceNeg, Int.cast_ofNat_Int, sg, AO.sg, Option.isNone_none]
    refine ih (m / 10, [UInt8.ofNat (48 + m % 10)] ++ s) _ ⟨by simp only; omega, by rw [← he, digN_big m h3]; simp⟩ (by simp only; omega) ?_
    (refine Wk.forget ?_; simp [Le, LeE, LeH, get, envIds, hpIds, KeepH, D.ids, idsL, AO.ids, setL, base]; done)
theorem digits_ok (n : Int) (h0 : -1000000000000000 ≤ n) (h1 : n ≤ 1000000000000000) : ACalls Tryd.prog 17 [.p (.int .i64 n)] [] fun h r => h = [] ∧ r = .p (.str (digV n)) := by
  by_cases hn : n < 0
  · refine ACalls_X Tryd.func17 rfl enters17 (by simp [Tryd.f17]) ?_
    have hw : IntKind.i64.wrap (0 - n) = (((-n).toNat : Nat) : Int) := by rw [wrap_i64_id] <;> omega
    have hlen := digN_len 15 (-n).toNat (by omega)
    simp only [go_sem, ↓reduceIte, Nat.reduceLT, Nat.reduceLeDiff, Nat.reduceEqDiff, Nat.reduceAdd, Nat.reduceMul, Nat.reduceSub, reduceCtorEq, Int.reduceLT, Int.reduceLE, Int.reduceEq, Int.reduceToNat, decide_true, decide_false, Int.reduceNeg, Int.cast_ofNat_Int, sg, AO.sg, Option.isNone_none, hn, hw]
    refine Cc_of (digits_nn (-n).toNat (by omega)) ?_
    rintro h' r ⟨rfl, rfl⟩
    simp only [go_sem, ↓reduceIte, Nat.reduceLT, Nat.reduceLeDiff, Nat.reduceEqDiff, Nat.reduceAdd, Nat.reduceMul, Nat.reduceSub, reduceCtorEq, Int.reduceLT, Int.reduceLE, Int.reduceEq, Int.reduceToNat, decide_true, decide_false, Int.reduceNeg, Int.cast_ofNat_Int, sg, AO.sg, Option.isNone_none]
    refine ⟨by unfold maxLen; omega, ?_⟩
    try simp only [go_sem, ↓reduceIte, Nat.reduceLT, Nat.reduceLeDiff, Nat.reduceEqDiff, Nat.reduceAdd, Nat.reduceMul, Nat.reduceSub, reduceCtorEq, Int.reduceLT, Int.reduceLE, Int.reduceEq, Int.reduceToNat, decide_true, decide_false, Int.reduceNeg, Int.cast_ofNat_Int, sg, AO.sg, Option.isNone_none]
    simp [digV, hn]
  · have := digits_nn n.toNat (by omega)
    rw [show ((n.toNat : Nat) : Int) = n by omega] at this
    refine this.mono ?_
    rintro h r ⟨rfl, rfl⟩
    exact ⟨rfl, by simp [digV, hn]⟩
end Go.Am
