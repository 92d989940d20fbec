/- fields.Lines. -/
import Derived.Test.YtpjbedkmjlgmgaaDoorCutf
namespace Go.Am
open Go Go.Proofs
set_option maxRecDepth 100000
set_option linter.unusedVariables false
set_option linter.unusedSimpArgs false
def scanL : List (List UInt8) → Nat → List Ln → List Ln × Int × Int
  | [], _, acc => (acc, 0, 0)
  | t :: r, k, acc => if (fld t none []).2 = 0 then scanL r (k + 1) (if 0 < (fld t none []).1.length then acc ++ [⟨(k : Nat), (fld t none []).1⟩] else acc) else ([], (k : Nat), (fld t none []).2)
def fLines (s : List UInt8) : List Ln × Int × Int := if 6000 < s.length then ([], 0, 1) else scanL (splitL 10 s) 1 []
def linesR (r : List Ln × Int × Int) : D := .tup [.p (.sl (encL r.1)), .p (.int .i64 r.2.1), .p (.int .i64 r.2.2)]
theorem splitL_small (c : UInt8) (l : List UInt8) : ∀ x ∈ splitL c l, x.length ≤ l.length := by
  induction l with
  | nil => simp [splitL]
  | cons b r ih =>
    intro x hx
    simp only [splitL] at hx
    split at hx
    · rcases List.mem_cons.1 hx with rfl | hx
      · simp
      · have := ih x hx; simp; omega
    · split at hx
      · simp at hx; subst hx; simp
      · rename_i y ys h
        rcases List.mem_cons.1 hx with rfl | hx
        · have := ih y (by rw [h]; simp); simp; omega
        · have := ih x (by rw [h]; simp [hx]); simp; omega
theorem lines1_ok (s : List UInt8) : ACalls Tryd.prog 17 [.p (.str s)] [] fun h r => h = [] ∧ r = linesR (fLines s) := by
  refine ACalls_X Tryd.func17 rfl enters17 (by simp [Tryd.f17]) ?_
  cases hlen : decide ((6000 : Int) < (s.length : Int))
  · have hl : s.length ≤ 6000 := by have := of_decide_eq_false hlen; omega
    have hf : fLines s = scanL (splitL 10 s) 1 [] := by unfold fLines; rw [if_neg (by omega)]
    rw [hf]
    simp only [go_sem, ↓reduceIte, Nat.reduceLT, Nat.reduceLeDiff, Nat.reduceEqDiff, Nat.reduceAdd, Nat.reduceMul, Nat.reduceSub, reduceCtorEq, Int.reduceLT, Int.reduceLE, Int.reduceEq, Int.reduceToNat, decide_true, decide_false, Int.reduceNeg, Int.cast_ofNat_Int, sg, AO.sg, Option.isNone_none, hlen]
    refine Cc_of (split_ok s 10 (by omega)) ?_
    rintro h' r ⟨rfl, rfl⟩
    have hsm := splitL_small 10 s
    have hcnt := splitL_len 10 s
    have hcl : s.count 10 ≤ s.length := List.count_le_length
    generalize hS : splitL 10 s = S at *
    simp only [go_sem, ↓reduceIte, Nat.reduceLT, Nat.reduceLeDiff, Nat.reduceEqDiff, Nat.reduceAdd, Nat.reduceMul, Nat.reduceSub, reduceCtorEq, Int.reduceLT, Int.reduceLE, Int.reduceEq, Int.reduceToNat, decide_true, decide_false, Int.reduceNeg, Int.cast_ofNat_Int, sg, AO.sg, Option.isNone_none, encS_len]
    refine X_loop_inv (fun q : Nat × List Ln => ⟨[(14, .ref 10014 0 S.length S.length), (15, .p (.int .i64 (S.length : Nat))), (16, .p (.int .i64 (q.1 : Nat))), (5, .ref 40 0 q.2.length q.2.length)], [(10014, .arr 9 1 (encS S)), (40, .arr 51 2 (encL q.2))], 43⟩)
      (fun q => q.1 ≤ S.length ∧ q.2.length ≤ q.1 ∧ scanL (S.drop q.1) (q.1 + 1) q.2 = scanL S 1 []) (fun q => S.length - q.1) (0, []) ⟨Nat.zero_le _, by simp, by simp⟩ ((Wk.nil (t := 5) (q := 40) (sz := 2) 51 rfl rfl (by decide)).trans (Wk.forget (by simp [Le, LeE, LeH, get, envIds, hpIds, KeepH, D.ids, idsL, AO.ids, setL, base, encL]))) ?_
    rintro ⟨i, acc⟩ n ⟨hi, hn, he⟩ ih
    simp only at hi hn he
    simp only [go_sem, ↓reduceIte, Nat.reduceLT, Nat.reduceLeDiff, Nat.reduceEqDiff, Nat.reduceAdd, Nat.reduceMul, Nat.reduceSub, reduceCtorEq, Int.reduceLT, Int.reduceLE, Int.reduceEq, Int.reduceToNat, decide_true, decide_false, Int.reduceNeg, Int.cast_ofNat_Int, sg, AO.sg, Option.isNone_none]
    refine Cn_split (fun h2 => ?_) (fun h2 => ?_)
    · have hlt : i < S.length := by simp at h2; omega
      have hw := wrap_succ i (by omega)
      have hb := hsm _ (getD_mem S i [] hlt)
      have hil : (i : Int) < (S.length : Int) := by omega
      have hi0 : (0 : Int) ≤ (i : Int) := by omega
      have hg := encS_get S i hlt
      rw [drop_getD S i [] hlt] at he
      generalize S.getD i [] = t at *
      simp only [go_sem, ↓reduceIte, Nat.reduceLT, Nat.reduceLeDiff, Nat.reduceEqDiff, Nat.reduceAdd, Nat.reduceMul, Nat.reduceSub, reduceCtorEq, Int.reduceLT, Int.reduceLE, Int.reduceEq, Int.reduceToNat, decide_true, decide_false, Int.reduceNeg, Int.cast_ofNat_Int, sg, AO.sg, Option.isNone_none, Int.toNat_natCast, encS_len, hg, hil, hi0]
      refine Cc_of (cut1_ok t (by omega)) ?_
      rintro h' r ⟨rfl, rfl⟩
      by_cases hz : (fld t none []).2 = 0
      · by_cases hp : 0 < (fld t none []).1.length
        · have hp' : (0 : Int) < ((fld t none []).1.length : Int) := by omega
          simp only [go_sem, ↓reduceIte, Nat.reduceLT, Nat.reduceLeDiff, Nat.reduceEqDiff, Nat.reduceAdd, Nat.reduceMul, Nat.reduceSub, reduceCtorEq, Int.reduceLT, Int.reduceLE, Int.reduceEq, Int.reduceToNat, decide_true, decide_false, Int.reduceNeg, Int.cast_ofNat_Int, sg, AO.sg, Option.isNone_none, hz, hw, encS_len, encL_len, hp']
          refine ⟨⟨wid1 _ _ rfl, by omega⟩, ?_⟩
          refine ih (i + 1, acc ++ [⟨(i + 1 : Nat), (fld t none []).1⟩]) _ ⟨hlt, by simp only [List.length_append, List.length_cons, List.length_nil]; omega, by rw [← he]; simp only [scanL, hz, hp, if_true]⟩ (by simp only; omega) ?_
          (refine Wk.forget ?_; simp [Le, LeE, LeH, get, envIds, hpIds, KeepH, D.ids, idsL, AO.ids, setL, base, encL_snoc, encL_len]; done)
        · have hp' : ¬ (0 : Int) < ((fld t none []).1.length : Int) := by omega
          simp only [go_sem, ↓reduceIte, Nat.reduceLT, Nat.reduceLeDiff, Nat.reduceEqDiff, Nat.reduceAdd, Nat.reduceMul, Nat.reduceSub, reduceCtorEq, Int.reduceLT, Int.reduceLE, Int.reduceEq, Int.reduceToNat, decide_true, decide_false, Int.reduceNeg, Int.cast_ofNat_Int, sg, AO.sg, Option.isNone_none, hz, hw, encS_len, hp']
          refine ih (i + 1, acc) _ ⟨hlt, by simp only; omega, by rw [← he]; simp only [scanL, hz, hp, if_true, if_false]⟩ (by simp only; omega) ?_
          (refine Wk.forget ?_; simp [Le, LeE, LeH, get, envIds, hpIds, KeepH, D.ids, idsL, AO.ids, setL, base]; done)
      · simp only [go_sem, ↓reduceIte, Nat.reduceLT, Nat.reduceLeDiff, Nat.reduceEqDiff, Nat.reduceAdd, Nat.reduceMul, Nat.reduceSub, reduceCtorEq, Int.reduceLT, Int.reduceLE, Int.reduceEq, Int.reduceToNat, decide_true, decide_false, Int.reduceNeg, Int.cast_ofNat_Int, sg, AO.sg, Option.isNone_none, hz, hw]
        refine end_pure ?_
        simp only [go_sem, ↓reduceIte, Nat.reduceLT, Nat.reduceLeDiff, Nat.reduceEqDiff, Nat.reduceAdd, Nat.reduceMul, Nat.reduceSub, reduceCtorEq, Int.reduceLT, Int.reduceLE, Int.reduceEq, Int.reduceToNat, decide_true, decide_false, Int.reduceNeg, Int.cast_ofNat_Int, sg, AO.sg, Option.isNone_none]
        rw [← he]
        simp [scanL, hz, linesR, encL]
    · simp only [go_sem, ↓reduceIte, Nat.reduceLT, Nat.reduceLeDiff, Nat.reduceEqDiff, Nat.reduceAdd, Nat.reduceMul, Nat.reduceSub, reduceCtorEq, Int.reduceLT, Int.reduceLE, Int.reduceEq, Int.reduceToNat, decide_true, decide_false, Int.reduceNeg, Int.cast_ofNat_Int, sg, AO.sg, Option.isNone_none]
      have hieq : i = S.length := by simp at h2; omega
      subst hieq
      refine end_pure ?_
      simp only [go_sem, ↓reduceIte, Nat.reduceLT, Nat.reduceLeDiff, Nat.reduceEqDiff, Nat.reduceAdd, Nat.reduceMul, Nat.reduceSub, reduceCtorEq, Int.reduceLT, Int.reduceLE, Int.reduceEq, Int.reduceToNat, decide_true, decide_false, Int.reduceNeg, Int.cast_ofNat_Int, sg, AO.sg, Option.isNone_none]
      rw [List.drop_length] at he
      rw [← he]
      simp [scanL, linesR, encL_len, encL_take]
  · have hl : 6000 < s.length := by have := of_decide_eq_true hlen; omega
    have hf : fLines s = ([], 0, 1) := by unfold fLines; rw [if_pos hl]
    rw [hf]
    simp only [go_sem, ↓reduceIte, Nat.reduceLT, Nat.reduceLeDiff, Nat.reduceEqDiff, Nat.reduceAdd, Nat.reduceMul, Nat.reduceSub, reduceCtorEq, Int.reduceLT, Int.reduceLE, Int.reduceEq, Int.reduceToNat, decide_true, decide_false, Int.reduceNeg, Int.cast_ofNat_Int, sg, AO.sg, Option.isNone_none, hlen]
    refine end_pure ?_
    simp only [go_sem, ↓reduceIte, Nat.reduceLT, Nat.reduceLeDiff, Nat.reduceEqDiff, Nat.reduceAdd, Nat.reduceMul, Nat.reduceSub, reduceCtorEq, Int.reduceLT, Int.reduceLE, Int.reduceEq, Int.reduceToNat, decide_true, decide_false, Int.reduceNeg, Int.cast_ofNat_Int, sg, AO.sg, Option.isNone_none]
    try simp [linesR, encL]
end Go.Am
