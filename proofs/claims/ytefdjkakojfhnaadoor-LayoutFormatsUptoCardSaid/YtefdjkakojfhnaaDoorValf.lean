/- layout.Valid. -/
import Derived.Test.YtefdjkakojfhnaaDoorPars
namespace Go.Am
open Go Go.Proofs
set_option maxRecDepth 100000
set_option linter.unusedVariables false
set_option linter.unusedSimpArgs false
def validV (d : Dc) : Bool :=
  decide (1 ≤ d.word ∧ d.word ≤ 6) && (decide ((d.nums.length : Int) = (shapeV d.word).2) && ((decide ((d.names.length : Int) = (shapeV d.word).1) || (decide ((shapeV d.word).1 < (d.names.length : Int)) && decide (d.word = 2))) &&
    (d.names.all nameB && d.nums.all fun n => !(decide (n < -9999) || decide (9999 < n)))))
theorem findI_nonneg {α : Type} (p : α → Bool) : ∀ (l : List α) (k : Nat), 0 ≤ findI p k l ↔ l.any p = true
  | [], k => by simp [findI]
  | x :: r, k => by
    simp only [findI, List.any_cons]
    by_cases h : p x = true
    · rw [if_pos h]; simp [h]
    · rw [if_neg h, findI_nonneg p r (k + 1)]; simp [h]
theorem findI_any {α : Type} (p : α → Bool) (l : List α) (k : Nat) : decide (0 ≤ findI p k l) = l.any p := by
  rw [Bool.eq_iff_iff, decide_eq_true_eq, findI_nonneg]
theorem form_ascii (j : Nat) (h : j < 7) : ∀ b ∈ (formJ j).fields, b.toNat < 128 := by
  rcases j with _ | _ | _ | _ | _ | _ | _ | j
  all_goals first | decide | omega
theorem valid_ok (d : Dc) (hd : d.names.length ≤ 10000000 ∧ d.nums.length ≤ 10000000) : ACalls Tryd.prog 27 [d.d] [] fun h r => h = [] ∧ r = .p (.bool (validV d)) := by
  obtain ⟨word, line, names, nums⟩ := d
  simp only at hd
  refine ACalls_X Tryd.func27 rfl enters27 (by simp [Tryd.f27]) ?_
  by_cases h1 : word < 1
  · have hv : validV ⟨word, line, names, nums⟩ = false := by simp [validV]; intro h; omega
    simp only [go_sem, ↓reduceIte, Nat.reduceLT, Nat.reduceLeDiff, Nat.reduceEqDiff, Nat.reduceAdd, Nat.reduceMul, Nat.reduceSub, reduceCtorEq, Int.reduceLT, Int.reduceLE, Int.reduceEq, Int.reduceToNat, decide_true, decide_false, Int.reduceNeg, Int.cast_ofNat_Int, sg, AO.sg, Option.isNone_none, Dc.d, h1, hv]
  by_cases h2 : 6 < word
  · have hv : validV ⟨word, line, names, nums⟩ = false := by simp [validV]; intro h; omega
    simp only [go_sem, ↓reduceIte, Nat.reduceLT, Nat.reduceLeDiff, Nat.reduceEqDiff, Nat.reduceAdd, Nat.reduceMul, Nat.reduceSub, reduceCtorEq, Int.reduceLT, Int.reduceLE, Int.reduceEq, Int.reduceToNat, decide_true, decide_false, Int.reduceNeg, Int.cast_ofNat_Int, sg, AO.sg, Option.isNone_none, Dc.d, h1, h2, hv]
  obtain ⟨j, rfl⟩ : ∃ j : Nat, word = (j : Int) := ⟨word.toNat, by omega⟩
  have hj : j < 7 := by omega
  have hfc := form_cells j hj
  have hfl : j * 3 + 3 ≤ (formL.flatMap fmC).length := by rw [formC_len]; omega
  obtain ⟨hs1, hs2, hs3, hs4, hs5⟩ := form_sig j hj (by omega)
  have hasc := form_ascii j hj
  have hsl : (formJ j).fields.length ≤ 4 := by
    rcases j with _ | _ | _ | _ | _ | _ | _ | j
    all_goals first | decide | omega
  have hj0 : (0 : Int) ≤ (j : Int) ∧ (j : Int) < 7 := by omega
  have hdt : List.take 3 (List.drop (j * 3) (List.map D.p (formL.flatMap fmC))) = [.p (.str (formJ j).word), .p (.str (formJ j).fields), .p (.bool (formJ j).more)] := by
    rw [← List.map_drop, ← List.map_take, hfc]; rfl
  simp only [go_sem, ↓reduceIte, Nat.reduceLT, Nat.reduceLeDiff, Nat.reduceEqDiff, Nat.reduceAdd, Nat.reduceMul, Nat.reduceSub, reduceCtorEq, Int.reduceLT, Int.reduceLE, Int.reduceEq, Int.reduceToNat, decide_true, decide_false, Int.reduceNeg, Int.cast_ofNat_Int, sg, AO.sg, Option.isNone_none, Dc.d, h1, h2]
  refine X_any0 mixed (p := [(1, 0), (2, 0), (4, 1), (0, 2), (3, 0), (5, 2), (6, 0), (7, 0)]) (by kernel_rfl) (by simp [LeH, get]) ?_
  simp only [go_sem, ↓reduceIte, Nat.reduceLT, Nat.reduceLeDiff, Nat.reduceEqDiff, Nat.reduceAdd, Nat.reduceMul, Nat.reduceSub, reduceCtorEq, Int.reduceLT, Int.reduceLE, Int.reduceEq, Int.reduceToNat, decide_true, decide_false, Int.reduceNeg, Int.cast_ofNat_Int, sg, AO.sg, Option.isNone_none]
  refine Gh_of forms_ok ?_
  rintro h' r ⟨rfl, rfl⟩
  have hv : validV ⟨j, line, names, nums⟩ = (decide ((nums.length : Int) = (shapeV j).2) && ((decide ((names.length : Int) = (shapeV j).1) || (decide ((shapeV j).1 < (names.length : Int)) && decide ((j : Int) = 2))) &&
    (names.all nameB && nums.all fun n => !(decide (n < -9999) || decide (9999 < n))))) := by
    have : decide ((1 : Int) ≤ j ∧ (j : Int) ≤ 6) = true := by simp; omega
    simp only [validV, this, Bool.true_and]
  rw [hv, ← hs3]
  clear hv hs3
  generalize hfe : (formJ j).fields = sig at *
  generalize hfo : (formJ j).more = more at *
  generalize hA : (shapeV j).1 = a at *
  generalize hB : (shapeV j).2 = b at *
  simp only [go_sem, ↓reduceIte, Nat.reduceLT, Nat.reduceLeDiff, Nat.reduceEqDiff, Nat.reduceAdd, Nat.reduceMul, Nat.reduceSub, reduceCtorEq, Int.reduceLT, Int.reduceLE, Int.reduceEq, Int.reduceToNat, decide_true, decide_false, Int.reduceNeg, Int.cast_ofNat_Int, sg, AO.sg, Option.isNone_none, Int.toNat_natCast, hfl, hdt, hj0]
  refine Af_range rfl rfl ti9 rfl rfl ?_
  simp only [go_sem, ↓reduceIte, Nat.reduceLT, Nat.reduceLeDiff, Nat.reduceEqDiff, Nat.reduceAdd, Nat.reduceMul, Nat.reduceSub, reduceCtorEq, Int.reduceLT, Int.reduceLE, Int.reduceEq, Int.reduceToNat, decide_true, decide_false, Int.reduceNeg, Int.cast_ofNat_Int, sg, AO.sg, Option.isNone_none]
  refine X_loop_inv (fun i => ⟨[(1, .ptr 1 0), (3, .ptr 3 0), (22, .ptr 22 0), (4, .p (.int .i64 (min i a.toNat : Nat))), (5, .p (.int .i64 (i - a.toNat : Nat)))],
      [(1, .box [.p (.int .i64 j), .p (.int .i64 line), .p (.sl (encS names)), .p (.sl (encI nums))]), (3, .box [.p (.str (formJ j).word), .p (.str sig), .p (.bool more)]), (22, .iter sig i)], 67⟩)
    (fun i => i ≤ sig.length) (fun i => sig.length - i) 0 (Nat.zero_le _) (Wk.forget (by simp [Le, LeE, LeH, get, envIds, hpIds, KeepH, D.ids, idsL, AO.ids, setL, base, Nat.zero_min, Nat.zero_sub])) ?_
  rintro i n hi ih
  simp only [go_sem, ↓reduceIte, Nat.reduceLT, Nat.reduceLeDiff, Nat.reduceEqDiff, Nat.reduceAdd, Nat.reduceMul, Nat.reduceSub, reduceCtorEq, Int.reduceLT, Int.reduceLE, Int.reduceEq, Int.reduceToNat, decide_true, decide_false, Int.reduceNeg, Int.cast_ofNat_Int, sg, AO.sg, Option.isNone_none]
  refine Af_next rfl rfl rfl hasc (fun hlt => ?_) (fun hge => ?_)
  · have h35 := hs2 i hlt
    have hgi : sig.getD i 0 = sig[i] := by simp [List.getD, hlt]
    rw [hgi] at h35
    simp only [go_sem, ↓reduceIte, Nat.reduceLT, Nat.reduceLeDiff, Nat.reduceEqDiff, Nat.reduceAdd, Nat.reduceMul, Nat.reduceSub, reduceCtorEq, Int.reduceLT, Int.reduceLE, Int.reduceEq, Int.reduceToNat, decide_true, decide_false, Int.reduceNeg, Int.cast_ofNat_Int, sg, AO.sg, Option.isNone_none]
    by_cases hc : (sig[i].toNat : Int) = 35
    · have hai := h35.1 hc
      have hw : IntKind.i64.wrap (((i - a.toNat : Nat) : Int) + 1) = ((i + 1 - a.toNat : Nat) : Int) := by rw [wrap_i64_id] <;> omega
      simp only [go_sem, ↓reduceIte, Nat.reduceLT, Nat.reduceLeDiff, Nat.reduceEqDiff, Nat.reduceAdd, Nat.reduceMul, Nat.reduceSub, reduceCtorEq, Int.reduceLT, Int.reduceLE, Int.reduceEq, Int.reduceToNat, decide_true, decide_false, Int.reduceNeg, Int.cast_ofNat_Int, sg, AO.sg, Option.isNone_none, hc, hw]
      refine ih (i + 1) _ hlt (by omega) ?_
      have e1 : min (i + 1) a.toNat = min i a.toNat := by omega
      rw [e1]
      (refine Wk.forget ?_; simp [Le, LeE, LeH, get, envIds, hpIds, KeepH, D.ids, idsL, AO.ids, setL, base]; done)
    · have hai : ¬ a ≤ (i : Int) := fun h => hc (h35.2 h)
      have hw : IntKind.i64.wrap (((min i a.toNat : Nat) : Int) + 1) = ((min (i + 1) a.toNat : Nat) : Int) := by rw [wrap_i64_id] <;> omega
      simp only [go_sem, ↓reduceIte, Nat.reduceLT, Nat.reduceLeDiff, Nat.reduceEqDiff, Nat.reduceAdd, Nat.reduceMul, Nat.reduceSub, reduceCtorEq, Int.reduceLT, Int.reduceLE, Int.reduceEq, Int.reduceToNat, decide_true, decide_false, Int.reduceNeg, Int.cast_ofNat_Int, sg, AO.sg, Option.isNone_none, hc, hw]
      refine ih (i + 1) _ hlt (by omega) ?_
      have e1 : i + 1 - a.toNat = i - a.toNat := by omega
      rw [e1]
      (refine Wk.forget ?_; simp [Le, LeE, LeH, get, envIds, hpIds, KeepH, D.ids, idsL, AO.ids, setL, base]; done)
  · have hil : i = sig.length := by omega
    have e4 : ((min i a.toNat : Nat) : Int) = a := by omega
    have e5 : ((i - a.toNat : Nat) : Int) = b := by omega
    simp only [go_sem, ↓reduceIte, Nat.reduceLT, Nat.reduceLeDiff, Nat.reduceEqDiff, Nat.reduceAdd, Nat.reduceMul, Nat.reduceSub, reduceCtorEq, Int.reduceLT, Int.reduceLE, Int.reduceEq, Int.reduceToNat, decide_true, decide_false, Int.reduceNeg, Int.cast_ofNat_Int, sg, AO.sg, Option.isNone_none, encI_len, encS_len, e4, e5]
    clear ih
    have k1 := containsS_ok names (by omega) 51 (fun x => !nameB x) valid1_ok
    have k2 := containsI_ok nums (by omega) 53 (fun n => decide (n < -9999) || decide (9999 < n)) valid2_ok
    rw [findI_any] at k1 k2
    cases c1 : decide ((nums.length : Int) = b)
    · simp only [go_sem, ↓reduceIte, Nat.reduceLT, Nat.reduceLeDiff, Nat.reduceEqDiff, Nat.reduceAdd, Nat.reduceMul, Nat.reduceSub, reduceCtorEq, Int.reduceLT, Int.reduceLE, Int.reduceEq, Int.reduceToNat, decide_true, decide_false, Int.reduceNeg, Int.cast_ofNat_Int, sg, AO.sg, Option.isNone_none, c1]
      try simp
    cases c2 : decide ((names.length : Int) = a)
    · cases c3 : decide (a < (names.length : Int))
      · simp only [go_sem, ↓reduceIte, Nat.reduceLT, Nat.reduceLeDiff, Nat.reduceEqDiff, Nat.reduceAdd, Nat.reduceMul, Nat.reduceSub, reduceCtorEq, Int.reduceLT, Int.reduceLE, Int.reduceEq, Int.reduceToNat, decide_true, decide_false, Int.reduceNeg, Int.cast_ofNat_Int, sg, AO.sg, Option.isNone_none, c1, encI_len, encS_len, e4, e5, c2, c3]
        try simp
      cases more
      · simp only [go_sem, ↓reduceIte, Nat.reduceLT, Nat.reduceLeDiff, Nat.reduceEqDiff, Nat.reduceAdd, Nat.reduceMul, Nat.reduceSub, reduceCtorEq, Int.reduceLT, Int.reduceLE, Int.reduceEq, Int.reduceToNat, decide_true, decide_false, Int.reduceNeg, Int.cast_ofNat_Int, sg, AO.sg, Option.isNone_none, c1, encI_len, encS_len, e4, e5, c2, c3]
        try simp
      simp only [go_sem, ↓reduceIte, Nat.reduceLT, Nat.reduceLeDiff, Nat.reduceEqDiff, Nat.reduceAdd, Nat.reduceMul, Nat.reduceSub, reduceCtorEq, Int.reduceLT, Int.reduceLE, Int.reduceEq, Int.reduceToNat, decide_true, decide_false, Int.reduceNeg, Int.cast_ofNat_Int, sg, AO.sg, Option.isNone_none, c1, encI_len, encS_len, e4, e5, c2, c3]
      refine Cc_of k1 ?_
      rintro h' r ⟨rfl, rfl⟩
      cases c4 : names.any fun x => !nameB x
      · have c4' : names.all nameB = true := by
          rw [List.all_eq_not_any_not, c4]; rfl
        simp only [go_sem, ↓reduceIte, Nat.reduceLT, Nat.reduceLeDiff, Nat.reduceEqDiff, Nat.reduceAdd, Nat.reduceMul, Nat.reduceSub, reduceCtorEq, Int.reduceLT, Int.reduceLE, Int.reduceEq, Int.reduceToNat, decide_true, decide_false, Int.reduceNeg, Int.cast_ofNat_Int, sg, AO.sg, Option.isNone_none, c4]
        refine Cc_of k2 ?_
        rintro h' r ⟨rfl, rfl⟩
        simp only [go_sem, ↓reduceIte, Nat.reduceLT, Nat.reduceLeDiff, Nat.reduceEqDiff, Nat.reduceAdd, Nat.reduceMul, Nat.reduceSub, reduceCtorEq, Int.reduceLT, Int.reduceLE, Int.reduceEq, Int.reduceToNat, decide_true, decide_false, Int.reduceNeg, Int.cast_ofNat_Int, sg, AO.sg, Option.isNone_none]
        rw [c4', List.all_eq_not_any_not]
        try simp
      · have c4' : names.all nameB = false := by
          rw [List.all_eq_not_any_not, c4]; rfl
        simp only [go_sem, ↓reduceIte, Nat.reduceLT, Nat.reduceLeDiff, Nat.reduceEqDiff, Nat.reduceAdd, Nat.reduceMul, Nat.reduceSub, reduceCtorEq, Int.reduceLT, Int.reduceLE, Int.reduceEq, Int.reduceToNat, decide_true, decide_false, Int.reduceNeg, Int.cast_ofNat_Int, sg, AO.sg, Option.isNone_none, c4]
        rw [c4']
        try simp
    · simp only [go_sem, ↓reduceIte, Nat.reduceLT, Nat.reduceLeDiff, Nat.reduceEqDiff, Nat.reduceAdd, Nat.reduceMul, Nat.reduceSub, reduceCtorEq, Int.reduceLT, Int.reduceLE, Int.reduceEq, Int.reduceToNat, decide_true, decide_false, Int.reduceNeg, Int.cast_ofNat_Int, sg, AO.sg, Option.isNone_none, c1, encI_len, encS_len, e4, e5, c2]
      refine Cc_of k1 ?_
      rintro h' r ⟨rfl, rfl⟩
      cases c4 : names.any fun x => !nameB x
      · have c4' : names.all nameB = true := by
          rw [List.all_eq_not_any_not, c4]; rfl
        simp only [go_sem, ↓reduceIte, Nat.reduceLT, Nat.reduceLeDiff, Nat.reduceEqDiff, Nat.reduceAdd, Nat.reduceMul, Nat.reduceSub, reduceCtorEq, Int.reduceLT, Int.reduceLE, Int.reduceEq, Int.reduceToNat, decide_true, decide_false, Int.reduceNeg, Int.cast_ofNat_Int, sg, AO.sg, Option.isNone_none, c4]
        refine Cc_of k2 ?_
        rintro h' r ⟨rfl, rfl⟩
        simp only [go_sem, ↓reduceIte, Nat.reduceLT, Nat.reduceLeDiff, Nat.reduceEqDiff, Nat.reduceAdd, Nat.reduceMul, Nat.reduceSub, reduceCtorEq, Int.reduceLT, Int.reduceLE, Int.reduceEq, Int.reduceToNat, decide_true, decide_false, Int.reduceNeg, Int.cast_ofNat_Int, sg, AO.sg, Option.isNone_none]
        rw [c4', List.all_eq_not_any_not]
        try simp
      · have c4' : names.all nameB = false := by
          rw [List.all_eq_not_any_not, c4]; rfl
        simp only [go_sem, ↓reduceIte, Nat.reduceLT, Nat.reduceLeDiff, Nat.reduceEqDiff, Nat.reduceAdd, Nat.reduceMul, Nat.reduceSub, reduceCtorEq, Int.reduceLT, Int.reduceLE, Int.reduceEq, Int.reduceToNat, decide_true, decide_false, Int.reduceNeg, Int.cast_ofNat_Int, sg, AO.sg, Option.isNone_none, c4]
        rw [c4']
        try simp
end Go.Am
