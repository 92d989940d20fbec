/- Numbers. -/
import Derived.Test.YtefdjkakojfhnaaDoorPref
namespace Go.Am
open Go Go.Proofs
set_option maxRecDepth 100000
set_option linter.unusedVariables false
set_option linter.unusedSimpArgs false
def valD (l : List UInt8) : Int := l.foldl (fun n c => 10 * n + ((c.toNat : Int) - 48)) 0
def digB (c : Int) : Bool := decide (48 ≤ c) && decide (c ≤ 57)
def digsB (l : List UInt8) : Bool := l.all fun c => digB c.toNat
def numOf (neg : Bool) (l : List UInt8) : Int × Bool :=
  match l with
  | [] => (0, false)
  | b :: r => if 4 < r.length + 1 ∨ ((b.toNat : Int) = 48 ∧ (neg = true ∨ 1 < r.length + 1)) then (0, false)
    else if digsB (b :: r) then (if neg then 0 - valD (b :: r) else valD (b :: r), true) else (0, false)
def numV (s : List UInt8) : Int × Bool := if hasP s [45] then numOf true (s.drop 1) else numOf false s
theorem valD_succ (l : List UInt8) (i : Nat) (h : i < l.length) : valD (l.take (i + 1)) = 10 * valD (l.take i) + (((l.getD i 0).toNat : Int) - 48) := by
  unfold valD
  rw [List.take_succ_eq_append_getElem h, List.foldl_append]
  simp [List.getD, h]
theorem valD_le (l : List UInt8) (h : ∀ c ∈ l, 48 ≤ c.toNat ∧ c.toNat ≤ 57) : ∀ (i : Nat), i ≤ l.length → i ≤ 4 → 0 ≤ valD (l.take i) ∧ valD (l.take i) < 10 ^ i := by
  intro i
  induction i with
  | zero => intro _ _; simp [valD]
  | succ i ih =>
    intro h1 h2
    have h3 := ih (by omega) (by omega)
    rw [valD_succ l i (by omega)]
    have h4 := h (l.getD i 0) (by simp only [List.getD, List.getElem?_eq_getElem (show i < l.length by omega), Option.getD_some]; exact List.getElem_mem _)
    have : (10 : Int) ^ (i + 1) = 10 * 10 ^ i := by rw [Int.pow_succ]; omega
    omega
theorem p10 (i : Nat) (h : i ≤ 4) : (10 : Int) ^ i ≤ 10000 := by
  rcases i with _ | _ | _ | _ | _ | i <;> simp at * <;> omega
theorem number1_ok (s : List UInt8) : ACalls Tryd.prog 18 [.p (.str s)] [] fun h r => h = [] ∧ r = .tup [.p (.int .i64 (numV s).1), .p (.bool (numV s).2)] := by
  refine ACalls_X Tryd.func18 rfl enters18 (by simp [Tryd.f18]) ?_
  simp only [go_sem, ↓reduceIte, Nat.reduceLT, Nat.reduceLeDiff, Nat.reduceEqDiff, Nat.reduceAdd, Nat.reduceMul, Nat.reduceSub, reduceCtorEq, Int.reduceLT, Int.reduceLE, Int.reduceEq, Int.reduceToNat, decide_true, decide_false, Int.reduceNeg, Int.cast_ofNat_Int, sg, AO.sg, Option.isNone_none]
  refine Cc_of (cutPrefix_ok s [45]) ?_
  rintro h' r ⟨rfl, rfl⟩
  simp only [go_sem, ↓reduceIte, Nat.reduceLT, Nat.reduceLeDiff, Nat.reduceEqDiff, Nat.reduceAdd, Nat.reduceMul, Nat.reduceSub, reduceCtorEq, Int.reduceLT, Int.reduceLE, Int.reduceEq, Int.reduceToNat, decide_true, decide_false, Int.reduceNeg, Int.cast_ofNat_Int, sg, AO.sg, Option.isNone_none]
  have key : numV s = numOf (hasP s [45]) (if hasP s [45] = true then List.drop 1 s else s) := by
    unfold numV
    cases hasP s [45] <;> rfl
  rw [key]
  clear key
  generalize hasP s [45] = neg
  generalize (if neg = true then List.drop 1 s else s) = l
  cases l with
  | nil =>
    simp only [go_sem, ↓reduceIte, Nat.reduceLT, Nat.reduceLeDiff, Nat.reduceEqDiff, Nat.reduceAdd, Nat.reduceMul, Nat.reduceSub, reduceCtorEq, Int.reduceLT, Int.reduceLE, Int.reduceEq, Int.reduceToNat, decide_true, decide_false, Int.reduceNeg, Int.cast_ofNat_Int, sg, AO.sg, Option.isNone_none]
    refine end_own ?_
    simp only [go_sem, ↓reduceIte, Nat.reduceLT, Nat.reduceLeDiff, Nat.reduceEqDiff, Nat.reduceAdd, Nat.reduceMul, Nat.reduceSub, reduceCtorEq, Int.reduceLT, Int.reduceLE, Int.reduceEq, Int.reduceToNat, decide_true, decide_false, Int.reduceNeg, Int.cast_ofNat_Int, sg, AO.sg, Option.isNone_none]
    try simp [numOf]
  | cons b l =>
    by_cases hL : (4 : Int) < ((l.length + 1 : Nat) : Int)
    · simp only [go_sem, ↓reduceIte, Nat.reduceLT, Nat.reduceLeDiff, Nat.reduceEqDiff, Nat.reduceAdd, Nat.reduceMul, Nat.reduceSub, reduceCtorEq, Int.reduceLT, Int.reduceLE, Int.reduceEq, Int.reduceToNat, decide_true, decide_false, Int.reduceNeg, Int.cast_ofNat_Int, sg, AO.sg, Option.isNone_none, hL]
      refine end_own ?_
      simp only [go_sem, ↓reduceIte, Nat.reduceLT, Nat.reduceLeDiff, Nat.reduceEqDiff, Nat.reduceAdd, Nat.reduceMul, Nat.reduceSub, reduceCtorEq, Int.reduceLT, Int.reduceLE, Int.reduceEq, Int.reduceToNat, decide_true, decide_false, Int.reduceNeg, Int.cast_ofNat_Int, sg, AO.sg, Option.isNone_none]
      have : 4 < l.length + 1 := by omega
      try simp [numOf, this]
    · have hL' : ¬ 4 < l.length + 1 := by omega
      have hlen : (b :: l).length ≤ 4 := by simp only [List.length_cons]; omega
      have bad : ∀ c : Int, (∃ i, i < (b :: l).length ∧ (((b :: l).getD i 0).toNat : Int) = c) → digB c = false → digsB (b :: l) = false := by
        rintro c ⟨i, hi, hc⟩ hf
        rw [Bool.eq_false_iff]
        intro ht
        have := List.all_eq_true.1 ht ((b :: l).getD i 0) (by simp only [List.getD, List.getElem?_eq_getElem hi, Option.getD_some]; exact List.getElem_mem hi)
        simp only [hc, hf] at this
        cases this
      by_cases hbad : (b.toNat : Int) = 48 ∧ (neg = true ∨ 1 < l.length + 1)
      · obtain ⟨h48, hn⟩ := hbad
        have hres : numOf neg (b :: l) = (0, false) := by simp only [numOf, h48, hn, and_self, or_true, if_true]
        cases neg
        · have h1 : (1 : Int) < ((l.length + 1 : Nat) : Int) := by simp at hn; omega
          simp only [go_sem, ↓reduceIte, Nat.reduceLT, Nat.reduceLeDiff, Nat.reduceEqDiff, Nat.reduceAdd, Nat.reduceMul, Nat.reduceSub, reduceCtorEq, Int.reduceLT, Int.reduceLE, Int.reduceEq, Int.reduceToNat, decide_true, decide_false, Int.reduceNeg, Int.cast_ofNat_Int, sg, AO.sg, Option.isNone_none, hL, List.getD_cons_zero, h48, h1]
          refine ⟨by omega, end_own ?_⟩
          simp only [go_sem, ↓reduceIte, Nat.reduceLT, Nat.reduceLeDiff, Nat.reduceEqDiff, Nat.reduceAdd, Nat.reduceMul, Nat.reduceSub, reduceCtorEq, Int.reduceLT, Int.reduceLE, Int.reduceEq, Int.reduceToNat, decide_true, decide_false, Int.reduceNeg, Int.cast_ofNat_Int, sg, AO.sg, Option.isNone_none, hres]
        · simp only [go_sem, ↓reduceIte, Nat.reduceLT, Nat.reduceLeDiff, Nat.reduceEqDiff, Nat.reduceAdd, Nat.reduceMul, Nat.reduceSub, reduceCtorEq, Int.reduceLT, Int.reduceLE, Int.reduceEq, Int.reduceToNat, decide_true, decide_false, Int.reduceNeg, Int.cast_ofNat_Int, sg, AO.sg, Option.isNone_none, hL, List.getD_cons_zero, h48]
          refine ⟨by omega, end_own ?_⟩
          simp only [go_sem, ↓reduceIte, Nat.reduceLT, Nat.reduceLeDiff, Nat.reduceEqDiff, Nat.reduceAdd, Nat.reduceMul, Nat.reduceSub, reduceCtorEq, Int.reduceLT, Int.reduceLE, Int.reduceEq, Int.reduceToNat, decide_true, decide_false, Int.reduceNeg, Int.cast_ofNat_Int, sg, AO.sg, Option.isNone_none, hres]
      · have hres : numOf neg (b :: l) = if digsB (b :: l) then (if neg then 0 - valD (b :: l) else valD (b :: l), true) else (0, false) := by
          simp only [numOf, hL', hbad, or_self, if_false]
        have hcase : ((b.toNat : Int) ≠ 48) ∨ ((b.toNat : Int) = 48 ∧ neg = false ∧ ¬ (1 : Int) < ((l.length + 1 : Nat) : Int)) := by
          by_cases h : (b.toNat : Int) = 48
          · right
            refine ⟨h, ?_, ?_⟩
            · cases neg
              · rfl
              · exact (hbad ⟨h, .inl rfl⟩).elim
            · intro h1
              exact hbad ⟨h, .inr (by omega)⟩
          · exact .inl h
        rcases hcase with h48 | ⟨h48, hng, h1⟩
        all_goals
          have hresA := hres
          first | rw [hng] at hresA | skip
          first
            | simp only [go_sem, ↓reduceIte, Nat.reduceLT, Nat.reduceLeDiff, Nat.reduceEqDiff, Nat.reduceAdd, Nat.reduceMul, Nat.reduceSub, reduceCtorEq, Int.reduceLT, Int.reduceLE, Int.reduceEq, Int.reduceToNat, decide_true, decide_false, Int.reduceNeg, Int.cast_ofNat_Int, sg, AO.sg, Option.isNone_none, hL, List.getD_cons_zero, h48, h1, hng]
            | simp only [go_sem, ↓reduceIte, Nat.reduceLT, Nat.reduceLeDiff, Nat.reduceEqDiff, Nat.reduceAdd, Nat.reduceMul, Nat.reduceSub, reduceCtorEq, Int.reduceLT, Int.reduceLE, Int.reduceEq, Int.reduceToNat, decide_true, decide_false, Int.reduceNeg, Int.cast_ofNat_Int, sg, AO.sg, Option.isNone_none, hL, List.getD_cons_zero, h48]
          refine ⟨by omega, Af_bytes rfl ti9 ti35 ti5 rfl ?_⟩
          simp only [go_sem, ↓reduceIte, Nat.reduceLT, Nat.reduceLeDiff, Nat.reduceEqDiff, Nat.reduceAdd, Nat.reduceMul, Nat.reduceSub, reduceCtorEq, Int.reduceLT, Int.reduceLE, Int.reduceEq, Int.reduceToNat, decide_true, decide_false, Int.reduceNeg, Int.cast_ofNat_Int, sg, AO.sg, Option.isNone_none, encB_len]
          refine X_loop_inv (fun i => ⟨[(35, .p (.sl (encB (b :: l)))), (36, .p (.int .i64 ((l.length + 1 : Nat) : Int))), (37, .p (.int .i64 (i : Nat))), (6, .p (.int .i64 (valD ((b :: l).take i)))), (5, .p (.bool neg))], [], 58⟩) (fun i => i ≤ l.length + 1 ∧ 0 ≤ valD ((b :: l).take i) ∧ valD ((b :: l).take i) < 10 ^ i ∧ ∀ j, j < i → digB ((b :: l).getD j 0).toNat = true) (fun i => l.length + 1 - i) 0 ⟨Nat.zero_le _, by simp [valD], by simp [valD], by simp⟩
            (Wk.forget (by first | (simp [Le, LeE, LeH, get, envIds, hpIds, KeepH, D.ids, valD]; done) | simp [Le, LeE, LeH, get, envIds, hpIds, KeepH, D.ids, valD, hng])) ?_
          rintro i n ⟨hi, hv0, hv1, he⟩ ih
          simp only [go_sem, ↓reduceIte, Nat.reduceLT, Nat.reduceLeDiff, Nat.reduceEqDiff, Nat.reduceAdd, Nat.reduceMul, Nat.reduceSub, reduceCtorEq, Int.reduceLT, Int.reduceLE, Int.reduceEq, Int.reduceToNat, decide_true, decide_false, Int.reduceNeg, Int.cast_ofNat_Int, sg, AO.sg, Option.isNone_none, encB_len]
          refine Cn_split (fun h2 => ?_) (fun h2 => ?_)
          · have hlt : i < (b :: l).length := by simp at h2 ⊢; omega
            simp only [go_sem, ↓reduceIte, Nat.reduceLT, Nat.reduceLeDiff, Nat.reduceEqDiff, Nat.reduceAdd, Nat.reduceMul, Nat.reduceSub, reduceCtorEq, Int.reduceLT, Int.reduceLE, Int.reduceEq, Int.reduceToNat, decide_true, decide_false, Int.reduceNeg, Int.cast_ofNat_Int, sg, AO.sg, Option.isNone_none, encB_len, Int.toNat_natCast, encB_get (b :: l) i hlt]
            have hw := wrap_succ i (by omega)
            have hsucc := valD_succ (b :: l) i hlt
            generalize hcc : (((b :: l).getD i 0).toNat : Int) = c at hsucc
            refine ⟨by simp only [List.length_cons] at hlt; omega, ?_⟩
            have hle : i + 1 ≤ l.length + 1 := by simp only [List.length_cons] at hlt; omega
            have hp : (10 : Int) ^ i ≤ 10000 := p10 i (by omega)
            have hp2 : (10 : Int) ^ (i + 1) = 10 * 10 ^ i := by rw [Int.pow_succ]; omega
            by_cases hd1 : c < 48
            · simp only [go_sem, ↓reduceIte, Nat.reduceLT, Nat.reduceLeDiff, Nat.reduceEqDiff, Nat.reduceAdd, Nat.reduceMul, Nat.reduceSub, reduceCtorEq, Int.reduceLT, Int.reduceLE, Int.reduceEq, Int.reduceToNat, decide_true, decide_false, Int.reduceNeg, Int.cast_ofNat_Int, sg, AO.sg, Option.isNone_none, hd1]
              refine end_own ?_
              simp only [go_sem, ↓reduceIte, Nat.reduceLT, Nat.reduceLeDiff, Nat.reduceEqDiff, Nat.reduceAdd, Nat.reduceMul, Nat.reduceSub, reduceCtorEq, Int.reduceLT, Int.reduceLE, Int.reduceEq, Int.reduceToNat, decide_true, decide_false, Int.reduceNeg, Int.cast_ofNat_Int, sg, AO.sg, Option.isNone_none, hresA, bad c ⟨i, hlt, hcc⟩ (by simp [digB]; omega)]
              try simp
            · by_cases hd2 : 57 < c
              · simp only [go_sem, ↓reduceIte, Nat.reduceLT, Nat.reduceLeDiff, Nat.reduceEqDiff, Nat.reduceAdd, Nat.reduceMul, Nat.reduceSub, reduceCtorEq, Int.reduceLT, Int.reduceLE, Int.reduceEq, Int.reduceToNat, decide_true, decide_false, Int.reduceNeg, Int.cast_ofNat_Int, sg, AO.sg, Option.isNone_none, hd1, hd2]
                refine end_own ?_
                simp only [go_sem, ↓reduceIte, Nat.reduceLT, Nat.reduceLeDiff, Nat.reduceEqDiff, Nat.reduceAdd, Nat.reduceMul, Nat.reduceSub, reduceCtorEq, Int.reduceLT, Int.reduceLE, Int.reduceEq, Int.reduceToNat, decide_true, decide_false, Int.reduceNeg, Int.cast_ofNat_Int, sg, AO.sg, Option.isNone_none, hresA, bad c ⟨i, hlt, hcc⟩ (by simp [digB]; omega)]
                try simp
              · have w1 : IntKind.i64.wrap (10 * valD ((b :: l).take i)) = 10 * valD ((b :: l).take i) := by rw [wrap_i64_id] <;> omega
                have w2 : IntKind.u8.wrap (c - 48) = c - 48 := by rw [IntKind.wrap_u8]; omega
                have w3 : IntKind.i64.wrap (c - 48) = c - 48 := by rw [wrap_i64_id] <;> omega
                have w4 : IntKind.i64.wrap (10 * valD ((b :: l).take i) + (c - 48)) = valD ((b :: l).take (i + 1)) := by rw [hsucc, wrap_i64_id] <;> omega
                simp only [go_sem, ↓reduceIte, Nat.reduceLT, Nat.reduceLeDiff, Nat.reduceEqDiff, Nat.reduceAdd, Nat.reduceMul, Nat.reduceSub, reduceCtorEq, Int.reduceLT, Int.reduceLE, Int.reduceEq, Int.reduceToNat, decide_true, decide_false, Int.reduceNeg, Int.cast_ofNat_Int, sg, AO.sg, Option.isNone_none, hd1, hd2, w1, w2, w3, w4, hw]
                refine ih (i + 1) _ ⟨hle, by omega, by omega, fun j hj => ?_⟩ (by omega) (Wk.forget (by simp [Le, LeE, LeH, get, envIds, hpIds, KeepH, D.ids]))
                rcases Nat.lt_succ_iff_lt_or_eq.1 hj with hj | rfl
                · exact he j hj
                · rw [hcc]; simp [digB]; omega
          · simp only [go_sem, ↓reduceIte, Nat.reduceLT, Nat.reduceLeDiff, Nat.reduceEqDiff, Nat.reduceAdd, Nat.reduceMul, Nat.reduceSub, reduceCtorEq, Int.reduceLT, Int.reduceLE, Int.reduceEq, Int.reduceToNat, decide_true, decide_false, Int.reduceNeg, Int.cast_ofNat_Int, sg, AO.sg, Option.isNone_none]
            have hi2 : i = (b :: l).length := by simp at h2 ⊢; omega
            have hall : digsB (b :: l) = true := by
              refine List.all_eq_true.2 fun x hx => ?_
              obtain ⟨j, hj, rfl⟩ := List.mem_iff_getElem.1 hx
              have := he j (by omega)
              simpa only [List.getD, List.getElem?_eq_getElem hj, Option.getD_some] using this
            have hp : (10 : Int) ^ i ≤ 10000 := p10 i (by omega)
            rw [hi2, List.take_length] at hv0 hv1
            rw [hi2, List.take_length]
            have w5 : IntKind.i64.wrap (0 - valD (b :: l)) = 0 - valD (b :: l) := by rw [← hi2] at hv1; rw [wrap_i64_id] <;> omega
            refine Cn_split (fun h3 => ?_) (fun h3 => ?_)
            · simp only [go_sem, ↓reduceIte, Nat.reduceLT, Nat.reduceLeDiff, Nat.reduceEqDiff, Nat.reduceAdd, Nat.reduceMul, Nat.reduceSub, reduceCtorEq, Int.reduceLT, Int.reduceLE, Int.reduceEq, Int.reduceToNat, decide_true, decide_false, Int.reduceNeg, Int.cast_ofNat_Int, sg, AO.sg, Option.isNone_none, w5]
              refine end_own ?_
              have hr3 := hres
              rw [h3] at hr3
              first | (simp only [go_sem, ↓reduceIte, Nat.reduceLT, Nat.reduceLeDiff, Nat.reduceEqDiff, Nat.reduceAdd, Nat.reduceMul, Nat.reduceSub, reduceCtorEq, Int.reduceLT, Int.reduceLE, Int.reduceEq, Int.reduceToNat, decide_true, decide_false, Int.reduceNeg, Int.cast_ofNat_Int, sg, AO.sg, Option.isNone_none, hr3, hall, h3]; done) | (simp only [go_sem, ↓reduceIte, Nat.reduceLT, Nat.reduceLeDiff, Nat.reduceEqDiff, Nat.reduceAdd, Nat.reduceMul, Nat.reduceSub, reduceCtorEq, Int.reduceLT, Int.reduceLE, Int.reduceEq, Int.reduceToNat, decide_true, decide_false, Int.reduceNeg, Int.cast_ofNat_Int, sg, AO.sg, Option.isNone_none, hr3, hall, h3]; simp; done) | (simp [hng] at h3; done)
            · simp only [go_sem, ↓reduceIte, Nat.reduceLT, Nat.reduceLeDiff, Nat.reduceEqDiff, Nat.reduceAdd, Nat.reduceMul, Nat.reduceSub, reduceCtorEq, Int.reduceLT, Int.reduceLE, Int.reduceEq, Int.reduceToNat, decide_true, decide_false, Int.reduceNeg, Int.cast_ofNat_Int, sg, AO.sg, Option.isNone_none]
              refine end_own ?_
              have hr3 := hres
              rw [h3] at hr3
              simp only [go_sem, ↓reduceIte, Nat.reduceLT, Nat.reduceLeDiff, Nat.reduceEqDiff, Nat.reduceAdd, Nat.reduceMul, Nat.reduceSub, reduceCtorEq, Int.reduceLT, Int.reduceLE, Int.reduceEq, Int.reduceToNat, decide_true, decide_false, Int.reduceNeg, Int.cast_ofNat_Int, sg, AO.sg, Option.isNone_none, hr3, hall, h3]
              try simp
end Go.Am
