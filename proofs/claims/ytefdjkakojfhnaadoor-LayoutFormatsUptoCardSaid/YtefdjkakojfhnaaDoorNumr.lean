/- Numbers, in the reference. -/
import Derived.Test.YtefdjkakojfhnaaDoorNumb
namespace Go.Am
open Go Go.Proofs
set_option maxRecDepth 100000
set_option linter.unusedVariables false
set_option linter.unusedSimpArgs false
theorem number2_ok (s : List UInt8) : ACalls Tryd.prog 19 [.p (.str s)] [] fun h r => h = [] ∧ r = .tup [.p (.int .i64 (numV s).1), .p (.bool (numV s).2)] := by
  refine ACalls_X Tryd.func19 rfl enters19 (by simp [Tryd.f19]) ?_
  cases s with
  | nil =>
    simp only [go_sem, ↓reduceIte, Nat.reduceLT, Nat.reduceLeDiff, Nat.reduceEqDiff, Nat.reduceAdd, Nat.reduceMul, Nat.reduceSub, reduceCtorEq, Int.reduceLT, Int.reduceLE, Int.reduceEq, Int.reduceToNat, decide_true, decide_false, Int.reduceNeg, Int.cast_ofNat_Int, sg, AO.sg, Option.isNone_none]
    refine end_own ?_
    simp only [go_sem, ↓reduceIte, Nat.reduceLT, Nat.reduceLeDiff, Nat.reduceEqDiff, Nat.reduceAdd, Nat.reduceMul, Nat.reduceSub, reduceCtorEq, Int.reduceLT, Int.reduceLE, Int.reduceEq, Int.reduceToNat, decide_true, decide_false, Int.reduceNeg, Int.cast_ofNat_Int, sg, AO.sg, Option.isNone_none]
    try simp [numV, hasP, numOf]
  | cons c r =>
  by_cases hc : (c.toNat : Int) = 45
  · have hdr : List.drop 1 (List.take ((r.length + 1 : Nat) : Int).toNat (c :: r)) = r := by
      rw [Int.toNat_natCast, show r.length + 1 = (c :: r).length from rfl, List.take_length]; rfl
    have hk : numV (c :: r) = numOf true r := by
      have : c = 45 := UInt8.toNat_inj.1 (by simp; omega)
      subst this
      simp [numV, hasP]
    rw [hk]
    simp only [go_sem, ↓reduceIte, Nat.reduceLT, Nat.reduceLeDiff, Nat.reduceEqDiff, Nat.reduceAdd, Nat.reduceMul, Nat.reduceSub, reduceCtorEq, Int.reduceLT, Int.reduceLE, Int.reduceEq, Int.reduceToNat, decide_true, decide_false, Int.reduceNeg, Int.cast_ofNat_Int, sg, AO.sg, Option.isNone_none, hc, List.getD_cons_zero]
    refine ⟨by omega, by omega, ?_⟩
    simp only [go_sem, ↓reduceIte, Nat.reduceLT, Nat.reduceLeDiff, Nat.reduceEqDiff, Nat.reduceAdd, Nat.reduceMul, Nat.reduceSub, reduceCtorEq, Int.reduceLT, Int.reduceLE, Int.reduceEq, Int.reduceToNat, decide_true, decide_false, Int.reduceNeg, Int.cast_ofNat_Int, sg, AO.sg, Option.isNone_none, hdr]
    cases r with
    | nil =>
      simp only [go_sem, ↓reduceIte, Nat.reduceLT, Nat.reduceLeDiff, Nat.reduceEqDiff, Nat.reduceAdd, Nat.reduceMul, Nat.reduceSub, reduceCtorEq, Int.reduceLT, Int.reduceLE, Int.reduceEq, Int.reduceToNat, decide_true, decide_false, Int.reduceNeg, Int.cast_ofNat_Int, sg, AO.sg, Option.isNone_none]
      refine end_own ?_
      simp only [go_sem, ↓reduceIte, Nat.reduceLT, Nat.reduceLeDiff, Nat.reduceEqDiff, Nat.reduceAdd, Nat.reduceMul, Nat.reduceSub, reduceCtorEq, Int.reduceLT, Int.reduceLE, Int.reduceEq, Int.reduceToNat, decide_true, decide_false, Int.reduceNeg, Int.cast_ofNat_Int, sg, AO.sg, Option.isNone_none]
      try simp [numOf]
    | cons b l =>
      by_cases hL : (4 : Int) < ((l.length + 1 : Nat) : Int)
      · simp only [go_sem, ↓reduceIte, Nat.reduceLT, Nat.reduceLeDiff, Nat.reduceEqDiff, Nat.reduceAdd, Nat.reduceMul, Nat.reduceSub, reduceCtorEq, Int.reduceLT, Int.reduceLE, Int.reduceEq, Int.reduceToNat, decide_true, decide_false, Int.reduceNeg, Int.cast_ofNat_Int, sg, AO.sg, Option.isNone_none, hL]
        refine end_own ?_
        simp only [go_sem, ↓reduceIte, Nat.reduceLT, Nat.reduceLeDiff, Nat.reduceEqDiff, Nat.reduceAdd, Nat.reduceMul, Nat.reduceSub, reduceCtorEq, Int.reduceLT, Int.reduceLE, Int.reduceEq, Int.reduceToNat, decide_true, decide_false, Int.reduceNeg, Int.cast_ofNat_Int, sg, AO.sg, Option.isNone_none]
        have : 4 < l.length + 1 := by omega
        try simp [numOf, this]
      · have hL' : ¬ 4 < l.length + 1 := by omega
        have hlen : (b :: l).length ≤ 4 := by simp only [List.length_cons]; omega
        have bad : ∀ c : Int, (∃ i, i < (b :: l).length ∧ (((b :: l).getD i 0).toNat : Int) = c) → digB c = false → digsB (b :: l) = false := by
          rintro c ⟨i, hi, hc⟩ hf
          rw [Bool.eq_false_iff]
          intro ht
          have := List.all_eq_true.1 ht ((b :: l).getD i 0) (by simp only [List.getD, List.getElem?_eq_getElem hi, Option.getD_some]; exact List.getElem_mem hi)
          simp only [hc, hf] at this
          cases this
        by_cases h48 : (b.toNat : Int) = 48
        · have hres : numOf true (b :: l) = (0, false) := by simp only [numOf, h48, true_or, and_self, or_true, if_true]
          by_cases h1 : (1 : Int) < ((l.length + 1 : Nat) : Int)
          all_goals
            simp only [go_sem, ↓reduceIte, Nat.reduceLT, Nat.reduceLeDiff, Nat.reduceEqDiff, Nat.reduceAdd, Nat.reduceMul, Nat.reduceSub, reduceCtorEq, Int.reduceLT, Int.reduceLE, Int.reduceEq, Int.reduceToNat, decide_true, decide_false, Int.reduceNeg, Int.cast_ofNat_Int, sg, AO.sg, Option.isNone_none, hL, hdr, List.getD_cons_zero, h48, h1]
            refine ⟨by omega, end_own ?_⟩
            simp only [go_sem, ↓reduceIte, Nat.reduceLT, Nat.reduceLeDiff, Nat.reduceEqDiff, Nat.reduceAdd, Nat.reduceMul, Nat.reduceSub, reduceCtorEq, Int.reduceLT, Int.reduceLE, Int.reduceEq, Int.reduceToNat, decide_true, decide_false, Int.reduceNeg, Int.cast_ofNat_Int, sg, AO.sg, Option.isNone_none, hres]
        · have hres : numOf true (b :: l) = if digsB (b :: l) then (if true then 0 - valD (b :: l) else valD (b :: l), true) else (0, false) := by
            simp only [numOf, hL', h48, false_and, or_self, if_false]
          · have hresA := hres
            simp only [go_sem, ↓reduceIte, Nat.reduceLT, Nat.reduceLeDiff, Nat.reduceEqDiff, Nat.reduceAdd, Nat.reduceMul, Nat.reduceSub, reduceCtorEq, Int.reduceLT, Int.reduceLE, Int.reduceEq, Int.reduceToNat, decide_true, decide_false, Int.reduceNeg, Int.cast_ofNat_Int, sg, AO.sg, Option.isNone_none, hL, hdr, List.getD_cons_zero, h48]
            refine ⟨by omega, ?_⟩
            try simp only [go_sem, ↓reduceIte, Nat.reduceLT, Nat.reduceLeDiff, Nat.reduceEqDiff, Nat.reduceAdd, Nat.reduceMul, Nat.reduceSub, reduceCtorEq, Int.reduceLT, Int.reduceLE, Int.reduceEq, Int.reduceToNat, decide_true, decide_false, Int.reduceNeg, Int.cast_ofNat_Int, sg, AO.sg, Option.isNone_none]
            refine X_loop_inv (fun i => ⟨[(0, .p (.str (b :: l))), (6, .p (.int .i64 (i : Nat))), (5, .p (.int .i64 (valD ((b :: l).take i)))), (4, .p (.bool true))], [], 65⟩) (fun i => i ≤ l.length + 1 ∧ 0 ≤ valD ((b :: l).take i) ∧ valD ((b :: l).take i) < 10 ^ i ∧ ∀ j, j < i → digB ((b :: l).getD j 0).toNat = true) (fun i => l.length + 1 - i) 0 ⟨Nat.zero_le _, by simp [valD], by simp [valD], by simp⟩
              (Wk.forget (by first | (simp [Le, LeE, LeH, get, envIds, hpIds, KeepH, D.ids, valD]; done) | simp [Le, LeE, LeH, get, envIds, hpIds, KeepH, D.ids, valD, hng])) ?_
            rintro i n ⟨hi, hv0, hv1, he⟩ ih
            simp only [go_sem, ↓reduceIte, Nat.reduceLT, Nat.reduceLeDiff, Nat.reduceEqDiff, Nat.reduceAdd, Nat.reduceMul, Nat.reduceSub, reduceCtorEq, Int.reduceLT, Int.reduceLE, Int.reduceEq, Int.reduceToNat, decide_true, decide_false, Int.reduceNeg, Int.cast_ofNat_Int, sg, AO.sg, Option.isNone_none]
            refine Cn_split (fun h2 => ?_) (fun h2 => ?_)
            · have hlt : i < (b :: l).length := by simp at h2 ⊢; omega
              simp only [go_sem, ↓reduceIte, Nat.reduceLT, Nat.reduceLeDiff, Nat.reduceEqDiff, Nat.reduceAdd, Nat.reduceMul, Nat.reduceSub, reduceCtorEq, Int.reduceLT, Int.reduceLE, Int.reduceEq, Int.reduceToNat, decide_true, decide_false, Int.reduceNeg, Int.cast_ofNat_Int, sg, AO.sg, Option.isNone_none]
              have hw := wrap_succ i (by omega)
              have hsucc := valD_succ (b :: l) i hlt
              generalize hcc : (((b :: l).getD i 0).toNat : Int) = c at hsucc
              have hle : i + 1 ≤ l.length + 1 := by simp only [List.length_cons] at hlt; omega
              have hp : (10 : Int) ^ i ≤ 10000 := p10 i (by omega)
              have hp2 : (10 : Int) ^ (i + 1) = 10 * 10 ^ i := by rw [Int.pow_succ]; omega
              have hi1 : (i : Int) < ((l.length + 1 : Nat) : Int) := by simp only [List.length_cons] at hlt; omega
              have hi0 : (0 : Int) ≤ (i : Int) := by omega
              by_cases hd1 : c < 48
              · simp only [go_sem, ↓reduceIte, Nat.reduceLT, Nat.reduceLeDiff, Nat.reduceEqDiff, Nat.reduceAdd, Nat.reduceMul, Nat.reduceSub, reduceCtorEq, Int.reduceLT, Int.reduceLE, Int.reduceEq, Int.reduceToNat, decide_true, decide_false, Int.reduceNeg, Int.cast_ofNat_Int, sg, AO.sg, Option.isNone_none, Int.toNat_natCast, hi1, hi0, hcc, hd1]
                refine end_own ?_
                simp only [go_sem, ↓reduceIte, Nat.reduceLT, Nat.reduceLeDiff, Nat.reduceEqDiff, Nat.reduceAdd, Nat.reduceMul, Nat.reduceSub, reduceCtorEq, Int.reduceLT, Int.reduceLE, Int.reduceEq, Int.reduceToNat, decide_true, decide_false, Int.reduceNeg, Int.cast_ofNat_Int, sg, AO.sg, Option.isNone_none, hresA, bad c ⟨i, hlt, hcc⟩ (by simp [digB]; omega)]
                try simp
              · by_cases hd2 : 57 < c
                · simp only [go_sem, ↓reduceIte, Nat.reduceLT, Nat.reduceLeDiff, Nat.reduceEqDiff, Nat.reduceAdd, Nat.reduceMul, Nat.reduceSub, reduceCtorEq, Int.reduceLT, Int.reduceLE, Int.reduceEq, Int.reduceToNat, decide_true, decide_false, Int.reduceNeg, Int.cast_ofNat_Int, sg, AO.sg, Option.isNone_none, Int.toNat_natCast, hi1, hi0, hcc, hd1, hd2]
                  refine end_own ?_
                  simp only [go_sem, ↓reduceIte, Nat.reduceLT, Nat.reduceLeDiff, Nat.reduceEqDiff, Nat.reduceAdd, Nat.reduceMul, Nat.reduceSub, reduceCtorEq, Int.reduceLT, Int.reduceLE, Int.reduceEq, Int.reduceToNat, decide_true, decide_false, Int.reduceNeg, Int.cast_ofNat_Int, sg, AO.sg, Option.isNone_none, hresA, bad c ⟨i, hlt, hcc⟩ (by simp [digB]; omega)]
                  try simp
                · have w1 : IntKind.i64.wrap (10 * valD ((b :: l).take i)) = 10 * valD ((b :: l).take i) := by rw [wrap_i64_id] <;> omega
                  have w2 : IntKind.u8.wrap (c - 48) = c - 48 := by rw [IntKind.wrap_u8]; omega
                  have w3 : IntKind.i64.wrap (c - 48) = c - 48 := by rw [wrap_i64_id] <;> omega
                  have w4 : IntKind.i64.wrap (10 * valD ((b :: l).take i) + (c - 48)) = valD ((b :: l).take (i + 1)) := by rw [hsucc, wrap_i64_id] <;> omega
                  simp only [go_sem, ↓reduceIte, Nat.reduceLT, Nat.reduceLeDiff, Nat.reduceEqDiff, Nat.reduceAdd, Nat.reduceMul, Nat.reduceSub, reduceCtorEq, Int.reduceLT, Int.reduceLE, Int.reduceEq, Int.reduceToNat, decide_true, decide_false, Int.reduceNeg, Int.cast_ofNat_Int, sg, AO.sg, Option.isNone_none, Int.toNat_natCast, hi1, hi0, hcc, hd1, hd2, w1, w2, w3, w4, hw]
                  refine ih (i + 1) _ ⟨hle, by omega, by omega, fun j hj => ?_⟩ (by omega) (Wk.forget (by simp [Le, LeE, LeH, get, envIds, hpIds, KeepH, D.ids]))
                  rcases Nat.lt_succ_iff_lt_or_eq.1 hj with hj | rfl
                  · exact he j hj
                  · rw [hcc]; simp [digB]; omega
            · simp only [go_sem, ↓reduceIte, Nat.reduceLT, Nat.reduceLeDiff, Nat.reduceEqDiff, Nat.reduceAdd, Nat.reduceMul, Nat.reduceSub, reduceCtorEq, Int.reduceLT, Int.reduceLE, Int.reduceEq, Int.reduceToNat, decide_true, decide_false, Int.reduceNeg, Int.cast_ofNat_Int, sg, AO.sg, Option.isNone_none]
              have hi2 : i = (b :: l).length := by simp at h2 ⊢; omega
              have hall : digsB (b :: l) = true := by
                refine List.all_eq_true.2 fun x hx => ?_
                obtain ⟨j, hj, rfl⟩ := List.mem_iff_getElem.1 hx
                have := he j (by omega)
                simpa only [List.getD, List.getElem?_eq_getElem hj, Option.getD_some] using this
              have hp : (10 : Int) ^ i ≤ 10000 := p10 i (by omega)
              rw [hi2, List.take_length] at hv0 hv1
              rw [hi2, List.take_length]
              have w5 : IntKind.i64.wrap (0 - valD (b :: l)) = 0 - valD (b :: l) := by rw [← hi2] at hv1; rw [wrap_i64_id] <;> omega
              try simp only [go_sem, ↓reduceIte, Nat.reduceLT, Nat.reduceLeDiff, Nat.reduceEqDiff, Nat.reduceAdd, Nat.reduceMul, Nat.reduceSub, reduceCtorEq, Int.reduceLT, Int.reduceLE, Int.reduceEq, Int.reduceToNat, decide_true, decide_false, Int.reduceNeg, Int.cast_ofNat_Int, sg, AO.sg, Option.isNone_none, w5]
              refine end_own ?_
              simp only [go_sem, ↓reduceIte, Nat.reduceLT, Nat.reduceLeDiff, Nat.reduceEqDiff, Nat.reduceAdd, Nat.reduceMul, Nat.reduceSub, reduceCtorEq, Int.reduceLT, Int.reduceLE, Int.reduceEq, Int.reduceToNat, decide_true, decide_false, Int.reduceNeg, Int.cast_ofNat_Int, sg, AO.sg, Option.isNone_none, hres, hall]
              try simp

  · have hk : numV (c :: r) = numOf false (c :: r) := by
      have : hasP (c :: r) [45] = false := by
        simp [hasP]
        intro h; subst h; exact hc rfl
      simp [numV, this]
    rw [hk]
    simp only [go_sem, ↓reduceIte, Nat.reduceLT, Nat.reduceLeDiff, Nat.reduceEqDiff, Nat.reduceAdd, Nat.reduceMul, Nat.reduceSub, reduceCtorEq, Int.reduceLT, Int.reduceLE, Int.reduceEq, Int.reduceToNat, decide_true, decide_false, Int.reduceNeg, Int.cast_ofNat_Int, sg, AO.sg, Option.isNone_none, hc, List.getD_cons_zero]
    refine ⟨by omega, ?_⟩
    try simp only [go_sem, ↓reduceIte, Nat.reduceLT, Nat.reduceLeDiff, Nat.reduceEqDiff, Nat.reduceAdd, Nat.reduceMul, Nat.reduceSub, reduceCtorEq, Int.reduceLT, Int.reduceLE, Int.reduceEq, Int.reduceToNat, decide_true, decide_false, Int.reduceNeg, Int.cast_ofNat_Int, sg, AO.sg, Option.isNone_none, hc, List.getD_cons_zero]
    revert hc hk
    generalize c = b
    generalize r = l
    intro hc hk
    by_cases hL : (4 : Int) < ((l.length + 1 : Nat) : Int)
    · simp only [go_sem, ↓reduceIte, Nat.reduceLT, Nat.reduceLeDiff, Nat.reduceEqDiff, Nat.reduceAdd, Nat.reduceMul, Nat.reduceSub, reduceCtorEq, Int.reduceLT, Int.reduceLE, Int.reduceEq, Int.reduceToNat, decide_true, decide_false, Int.reduceNeg, Int.cast_ofNat_Int, sg, AO.sg, Option.isNone_none, hL]
      refine end_own ?_
      simp only [go_sem, ↓reduceIte, Nat.reduceLT, Nat.reduceLeDiff, Nat.reduceEqDiff, Nat.reduceAdd, Nat.reduceMul, Nat.reduceSub, reduceCtorEq, Int.reduceLT, Int.reduceLE, Int.reduceEq, Int.reduceToNat, decide_true, decide_false, Int.reduceNeg, Int.cast_ofNat_Int, sg, AO.sg, Option.isNone_none]
      have : 4 < l.length + 1 := by omega
      try simp [numOf, this]
    · have hL' : ¬ 4 < l.length + 1 := by omega
      have hlen : (b :: l).length ≤ 4 := by simp only [List.length_cons]; omega
      have bad : ∀ c : Int, (∃ i, i < (b :: l).length ∧ (((b :: l).getD i 0).toNat : Int) = c) → digB c = false → digsB (b :: l) = false := by
        rintro c ⟨i, hi, hc⟩ hf
        rw [Bool.eq_false_iff]
        intro ht
        have := List.all_eq_true.1 ht ((b :: l).getD i 0) (by simp only [List.getD, List.getElem?_eq_getElem hi, Option.getD_some]; exact List.getElem_mem hi)
        simp only [hc, hf] at this
        cases this
      by_cases h1 : (1 : Int) < ((l.length + 1 : Nat) : Int) <;> by_cases h48 : (b.toNat : Int) = 48
      · have hres : numOf false (b :: l) = (0, false) := by
          have : 1 < l.length + 1 := by omega
          simp only [numOf, h48, this, and_self, or_true, if_true]
        simp only [go_sem, ↓reduceIte, Nat.reduceLT, Nat.reduceLeDiff, Nat.reduceEqDiff, Nat.reduceAdd, Nat.reduceMul, Nat.reduceSub, reduceCtorEq, Int.reduceLT, Int.reduceLE, Int.reduceEq, Int.reduceToNat, decide_true, decide_false, Int.reduceNeg, Int.cast_ofNat_Int, sg, AO.sg, Option.isNone_none, hL, List.getD_cons_zero, h48, h1]
        refine ⟨by omega, end_own ?_⟩
        simp only [go_sem, ↓reduceIte, Nat.reduceLT, Nat.reduceLeDiff, Nat.reduceEqDiff, Nat.reduceAdd, Nat.reduceMul, Nat.reduceSub, reduceCtorEq, Int.reduceLT, Int.reduceLE, Int.reduceEq, Int.reduceToNat, decide_true, decide_false, Int.reduceNeg, Int.cast_ofNat_Int, sg, AO.sg, Option.isNone_none, hres]
      all_goals
        have hres : numOf false (b :: l) = if digsB (b :: l) then (if false then 0 - valD (b :: l) else valD (b :: l), true) else (0, false) := by
          have : ¬ ((b.toNat : Int) = 48 ∧ (false = true ∨ 1 < l.length + 1)) := by
            rintro ⟨h, h2 | h2⟩
            · cases h2
            · first | exact h48 h | omega
          simp only [numOf, hL', this, or_self, if_false]
        · have hresA := hres
          simp only [go_sem, ↓reduceIte, Nat.reduceLT, Nat.reduceLeDiff, Nat.reduceEqDiff, Nat.reduceAdd, Nat.reduceMul, Nat.reduceSub, reduceCtorEq, Int.reduceLT, Int.reduceLE, Int.reduceEq, Int.reduceToNat, decide_true, decide_false, Int.reduceNeg, Int.cast_ofNat_Int, sg, AO.sg, Option.isNone_none, hL, List.getD_cons_zero, h48, h1]
          refine ⟨by omega, ?_⟩
          try simp only [go_sem, ↓reduceIte, Nat.reduceLT, Nat.reduceLeDiff, Nat.reduceEqDiff, Nat.reduceAdd, Nat.reduceMul, Nat.reduceSub, reduceCtorEq, Int.reduceLT, Int.reduceLE, Int.reduceEq, Int.reduceToNat, decide_true, decide_false, Int.reduceNeg, Int.cast_ofNat_Int, sg, AO.sg, Option.isNone_none]
          refine X_loop_inv (fun i => ⟨[(0, .p (.str (b :: l))), (6, .p (.int .i64 (i : Nat))), (5, .p (.int .i64 (valD ((b :: l).take i)))), (4, .p (.bool false))], [], 65⟩) (fun i => i ≤ l.length + 1 ∧ 0 ≤ valD ((b :: l).take i) ∧ valD ((b :: l).take i) < 10 ^ i ∧ ∀ j, j < i → digB ((b :: l).getD j 0).toNat = true) (fun i => l.length + 1 - i) 0 ⟨Nat.zero_le _, by simp [valD], by simp [valD], by simp⟩
            (Wk.forget (by first | (simp [Le, LeE, LeH, get, envIds, hpIds, KeepH, D.ids, valD]; done) | simp [Le, LeE, LeH, get, envIds, hpIds, KeepH, D.ids, valD, hng])) ?_
          rintro i n ⟨hi, hv0, hv1, he⟩ ih
          simp only [go_sem, ↓reduceIte, Nat.reduceLT, Nat.reduceLeDiff, Nat.reduceEqDiff, Nat.reduceAdd, Nat.reduceMul, Nat.reduceSub, reduceCtorEq, Int.reduceLT, Int.reduceLE, Int.reduceEq, Int.reduceToNat, decide_true, decide_false, Int.reduceNeg, Int.cast_ofNat_Int, sg, AO.sg, Option.isNone_none]
          refine Cn_split (fun h2 => ?_) (fun h2 => ?_)
          · have hlt : i < (b :: l).length := by simp at h2 ⊢; omega
            simp only [go_sem, ↓reduceIte, Nat.reduceLT, Nat.reduceLeDiff, Nat.reduceEqDiff, Nat.reduceAdd, Nat.reduceMul, Nat.reduceSub, reduceCtorEq, Int.reduceLT, Int.reduceLE, Int.reduceEq, Int.reduceToNat, decide_true, decide_false, Int.reduceNeg, Int.cast_ofNat_Int, sg, AO.sg, Option.isNone_none]
            have hw := wrap_succ i (by omega)
            have hsucc := valD_succ (b :: l) i hlt
            generalize hcc : (((b :: l).getD i 0).toNat : Int) = c at hsucc
            have hle : i + 1 ≤ l.length + 1 := by simp only [List.length_cons] at hlt; omega
            have hp : (10 : Int) ^ i ≤ 10000 := p10 i (by omega)
            have hp2 : (10 : Int) ^ (i + 1) = 10 * 10 ^ i := by rw [Int.pow_succ]; omega
            have hi1 : (i : Int) < ((l.length + 1 : Nat) : Int) := by simp only [List.length_cons] at hlt; omega
            have hi0 : (0 : Int) ≤ (i : Int) := by omega
            by_cases hd1 : c < 48
            · simp only [go_sem, ↓reduceIte, Nat.reduceLT, Nat.reduceLeDiff, Nat.reduceEqDiff, Nat.reduceAdd, Nat.reduceMul, Nat.reduceSub, reduceCtorEq, Int.reduceLT, Int.reduceLE, Int.reduceEq, Int.reduceToNat, decide_true, decide_false, Int.reduceNeg, Int.cast_ofNat_Int, sg, AO.sg, Option.isNone_none, Int.toNat_natCast, hi1, hi0, hcc, hd1]
              refine end_own ?_
              simp only [go_sem, ↓reduceIte, Nat.reduceLT, Nat.reduceLeDiff, Nat.reduceEqDiff, Nat.reduceAdd, Nat.reduceMul, Nat.reduceSub, reduceCtorEq, Int.reduceLT, Int.reduceLE, Int.reduceEq, Int.reduceToNat, decide_true, decide_false, Int.reduceNeg, Int.cast_ofNat_Int, sg, AO.sg, Option.isNone_none, hresA, bad c ⟨i, hlt, hcc⟩ (by simp [digB]; omega)]
              try simp
            · by_cases hd2 : 57 < c
              · simp only [go_sem, ↓reduceIte, Nat.reduceLT, Nat.reduceLeDiff, Nat.reduceEqDiff, Nat.reduceAdd, Nat.reduceMul, Nat.reduceSub, reduceCtorEq, Int.reduceLT, Int.reduceLE, Int.reduceEq, Int.reduceToNat, decide_true, decide_false, Int.reduceNeg, Int.cast_ofNat_Int, sg, AO.sg, Option.isNone_none, Int.toNat_natCast, hi1, hi0, hcc, hd1, hd2]
                refine end_own ?_
                simp only [go_sem, ↓reduceIte, Nat.reduceLT, Nat.reduceLeDiff, Nat.reduceEqDiff, Nat.reduceAdd, Nat.reduceMul, Nat.reduceSub, reduceCtorEq, Int.reduceLT, Int.reduceLE, Int.reduceEq, Int.reduceToNat, decide_true, decide_false, Int.reduceNeg, Int.cast_ofNat_Int, sg, AO.sg, Option.isNone_none, hresA, bad c ⟨i, hlt, hcc⟩ (by simp [digB]; omega)]
                try simp
              · have w1 : IntKind.i64.wrap (10 * valD ((b :: l).take i)) = 10 * valD ((b :: l).take i) := by rw [wrap_i64_id] <;> omega
                have w2 : IntKind.u8.wrap (c - 48) = c - 48 := by rw [IntKind.wrap_u8]; omega
                have w3 : IntKind.i64.wrap (c - 48) = c - 48 := by rw [wrap_i64_id] <;> omega
                have w4 : IntKind.i64.wrap (10 * valD ((b :: l).take i) + (c - 48)) = valD ((b :: l).take (i + 1)) := by rw [hsucc, wrap_i64_id] <;> omega
                simp only [go_sem, ↓reduceIte, Nat.reduceLT, Nat.reduceLeDiff, Nat.reduceEqDiff, Nat.reduceAdd, Nat.reduceMul, Nat.reduceSub, reduceCtorEq, Int.reduceLT, Int.reduceLE, Int.reduceEq, Int.reduceToNat, decide_true, decide_false, Int.reduceNeg, Int.cast_ofNat_Int, sg, AO.sg, Option.isNone_none, Int.toNat_natCast, hi1, hi0, hcc, hd1, hd2, w1, w2, w3, w4, hw]
                refine ih (i + 1) _ ⟨hle, by omega, by omega, fun j hj => ?_⟩ (by omega) (Wk.forget (by simp [Le, LeE, LeH, get, envIds, hpIds, KeepH, D.ids]))
                rcases Nat.lt_succ_iff_lt_or_eq.1 hj with hj | rfl
                · exact he j hj
                · rw [hcc]; simp [digB]; omega
          · simp only [go_sem, ↓reduceIte, Nat.reduceLT, Nat.reduceLeDiff, Nat.reduceEqDiff, Nat.reduceAdd, Nat.reduceMul, Nat.reduceSub, reduceCtorEq, Int.reduceLT, Int.reduceLE, Int.reduceEq, Int.reduceToNat, decide_true, decide_false, Int.reduceNeg, Int.cast_ofNat_Int, sg, AO.sg, Option.isNone_none]
            have hi2 : i = (b :: l).length := by simp at h2 ⊢; omega
            have hall : digsB (b :: l) = true := by
              refine List.all_eq_true.2 fun x hx => ?_
              obtain ⟨j, hj, rfl⟩ := List.mem_iff_getElem.1 hx
              have := he j (by omega)
              simpa only [List.getD, List.getElem?_eq_getElem hj, Option.getD_some] using this
            have hp : (10 : Int) ^ i ≤ 10000 := p10 i (by omega)
            rw [hi2, List.take_length] at hv0 hv1
            rw [hi2, List.take_length]
            have w5 : IntKind.i64.wrap (0 - valD (b :: l)) = 0 - valD (b :: l) := by rw [← hi2] at hv1; rw [wrap_i64_id] <;> omega
            try simp only [go_sem, ↓reduceIte, Nat.reduceLT, Nat.reduceLeDiff, Nat.reduceEqDiff, Nat.reduceAdd, Nat.reduceMul, Nat.reduceSub, reduceCtorEq, Int.reduceLT, Int.reduceLE, Int.reduceEq, Int.reduceToNat, decide_true, decide_false, Int.reduceNeg, Int.cast_ofNat_Int, sg, AO.sg, Option.isNone_none]
            refine end_own ?_
            simp only [go_sem, ↓reduceIte, Nat.reduceLT, Nat.reduceLeDiff, Nat.reduceEqDiff, Nat.reduceAdd, Nat.reduceMul, Nat.reduceSub, reduceCtorEq, Int.reduceLT, Int.reduceLE, Int.reduceEq, Int.reduceToNat, decide_true, decide_false, Int.reduceNeg, Int.cast_ofNat_Int, sg, AO.sg, Option.isNone_none, hres, hall]
            try simp
end Go.Am
