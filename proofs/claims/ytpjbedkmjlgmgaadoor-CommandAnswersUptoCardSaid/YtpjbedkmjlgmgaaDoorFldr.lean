/- The reference's fields. -/
import Derived.Test.YtpjbedkmjlgmgaaDoorLinf
namespace Go.Am
open Go Go.Proofs
set_option maxRecDepth 100000
set_option linter.unusedVariables false
set_option linter.unusedSimpArgs false
theorem allowed2_ok (c : Int) : ACalls Tryd.prog 47 [.p (.int .u8 c)] [] fun h r => h = [] ∧ r = .p (.bool (allB c)) := by
  refine ACalls_X Tryd.func47 rfl enters47 (by simp [Tryd.f47]) ?_
  by_cases h1 : 33 ≤ c
  · have h1' : (32 : Int) < c := by omega
    by_cases h2 : c ≤ 126
    · simp only [go_sem, ↓reduceIte, Nat.reduceLT, Nat.reduceLeDiff, Nat.reduceEqDiff, Nat.reduceAdd, Nat.reduceMul, Nat.reduceSub, reduceCtorEq, Int.reduceLT, Int.reduceLE, Int.reduceEq, Int.reduceToNat, decide_true, decide_false, Int.reduceNeg, Int.cast_ofNat_Int, sg, AO.sg, Option.isNone_none, h1, h2]
      simp [allB, h1', h2]
    · simp only [go_sem, ↓reduceIte, Nat.reduceLT, Nat.reduceLeDiff, Nat.reduceEqDiff, Nat.reduceAdd, Nat.reduceMul, Nat.reduceSub, reduceCtorEq, Int.reduceLT, Int.reduceLE, Int.reduceEq, Int.reduceToNat, decide_true, decide_false, Int.reduceNeg, Int.cast_ofNat_Int, sg, AO.sg, Option.isNone_none, h1, h2]
      simp [allB, h1', h2]
  · have h1' : ¬ (32 : Int) < c := by omega
    simp only [go_sem, ↓reduceIte, Nat.reduceLT, Nat.reduceLeDiff, Nat.reduceEqDiff, Nat.reduceAdd, Nat.reduceMul, Nat.reduceSub, reduceCtorEq, Int.reduceLT, Int.reduceLE, Int.reduceEq, Int.reduceToNat, decide_true, decide_false, Int.reduceNeg, Int.cast_ofNat_Int, sg, AO.sg, Option.isNone_none, h1]
    simp [allB, h1']
def frI (f : Option Nat) : Int := match f with
  | none => -1
  | some f => (f : Nat)
def curO (s : List UInt8) (i : Nat) (f : Option Nat) : Option (List UInt8) := f.map fun f => (s.take i).drop f
theorem fields2_ok (s : List UInt8) (hs : s.length ≤ 100000000) : ACalls Tryd.prog 38 [.p (.str s)] [] fun h r => h = [] ∧ r = .tup [.p (.sl (encS (fld s none []).1)), .p (.int .i64 (fld s none []).2)] := by
  refine ACalls_X Tryd.func38 rfl enters38 (by simp [Tryd.f38]) ?_
  simp only [go_sem, ↓reduceIte, Nat.reduceLT, Nat.reduceLeDiff, Nat.reduceEqDiff, Nat.reduceAdd, Nat.reduceMul, Nat.reduceSub, reduceCtorEq, Int.reduceLT, Int.reduceLE, Int.reduceEq, Int.reduceToNat, decide_true, decide_false, Int.reduceNeg, Int.cast_ofNat_Int, sg, AO.sg, Option.isNone_none]
  refine X_loop_inv (fun q : Nat × Option Nat × List (List UInt8) => ⟨[(0, .p (.str s)), (4, .ref 58 0 q.2.2.length q.2.2.length), (5, .p (.int .i64 (frI q.2.1))), (6, .p (.int .i64 (q.1 : Nat)))], [(58, .arr 9 1 (encS q.2.2))], 61⟩)
    (fun q => q.1 ≤ s.length ∧ q.2.2.length ≤ q.1 ∧ (∀ f, q.2.1 = some f → f < q.1 ∧ q.1 ≤ f + 12 ∧ q.2.2.length ≤ f) ∧ fld (s.drop q.1) (curO s q.1 q.2.1) q.2.2 = fld s none []) (fun q => s.length + 1 - q.1) (0, none, [])
    ⟨Nat.zero_le _, by simp, by simp, by simp [curO]⟩ ((Wk.nil (t := 4) (q := 58) (sz := 1) 9 rfl rfl (by decide)).trans (Wk.forget (by simp [Le, LeE, LeH, get, envIds, hpIds, KeepH, D.ids, idsL, AO.ids, setL, base, encS, frI]))) ?_
  rintro ⟨i, fo, acc⟩ n ⟨hi, hacc, hf, he⟩ ih
  simp only at hi hacc hf he
  have hil : (i : Int) ≤ (s.length : Int) := by omega
  have hi0 : (0 : Int) ≤ (i : Int) := by omega
  have hw : IntKind.i64.wrap ((i : Int) + 1) = ((i + 1 : Nat) : Int) := by rw [wrap_i64_id] <;> omega
  have hw0 : IntKind.i64.wrap ((i : Int) - i) = 0 := by rw [Int.sub_self]; rfl
  simp only [go_sem, ↓reduceIte, Nat.reduceLT, Nat.reduceLeDiff, Nat.reduceEqDiff, Nat.reduceAdd, Nat.reduceMul, Nat.reduceSub, reduceCtorEq, Int.reduceLT, Int.reduceLE, Int.reduceEq, Int.reduceToNat, decide_true, decide_false, Int.reduceNeg, Int.cast_ofNat_Int, sg, AO.sg, Option.isNone_none, hil]
  cases hend : decide ((i : Int) = (s.length : Int))
  · have hlt : i < s.length := by have := of_decide_eq_false hend; omega
    have hilt : (i : Int) < (s.length : Int) := by omega
    rw [drop_getD s i 0 hlt] at he
    have htk : ∀ f, f ≤ i → (s.take (i + 1)).drop f = (s.take i).drop f ++ [s.getD i 0] := by
      intro f hf
      rw [List.take_succ_eq_append_getElem hlt, List.drop_append_of_le_length (by simp; omega)]
      simp [List.getD, hlt]
    have htki : (s.take (i + 1)).drop i = [s.getD i 0] := by rw [List.drop_take, drop_getD s i 0 hlt]; simp
    generalize hb : s.getD i 0 = b at *
    generalize hc : (b.toNat : Int) = c at *
    cases h35 : decide (c = 35)
    · have h35' := of_decide_eq_false h35
      cases h32 : decide (c = 32)
      · have h32' := of_decide_eq_false h32
        cases h9 : decide (c = 9)
        · have h9' := of_decide_eq_false h9
          simp only [go_sem, ↓reduceIte, Nat.reduceLT, Nat.reduceLeDiff, Nat.reduceEqDiff, Nat.reduceAdd, Nat.reduceMul, Nat.reduceSub, reduceCtorEq, Int.reduceLT, Int.reduceLE, Int.reduceEq, Int.reduceToNat, decide_true, decide_false, Int.reduceNeg, Int.cast_ofNat_Int, sg, AO.sg, Option.isNone_none, Int.toNat_natCast, hil, hilt, hi0, hb, hc, hend, h35, h32, h9]
          refine Cc_of (allowed2_ok c) ?_
          rintro h' r ⟨rfl, rfl⟩
          cases hal : allB c
          · simp only [go_sem, ↓reduceIte, Nat.reduceLT, Nat.reduceLeDiff, Nat.reduceEqDiff, Nat.reduceAdd, Nat.reduceMul, Nat.reduceSub, reduceCtorEq, Int.reduceLT, Int.reduceLE, Int.reduceEq, Int.reduceToNat, decide_true, decide_false, Int.reduceNeg, Int.cast_ofNat_Int, sg, AO.sg, Option.isNone_none, hal]
            refine end_pure ?_
            simp only [go_sem, ↓reduceIte, Nat.reduceLT, Nat.reduceLeDiff, Nat.reduceEqDiff, Nat.reduceAdd, Nat.reduceMul, Nat.reduceSub, reduceCtorEq, Int.reduceLT, Int.reduceLE, Int.reduceEq, Int.reduceToNat, decide_true, decide_false, Int.reduceNeg, Int.cast_ofNat_Int, sg, AO.sg, Option.isNone_none]
            rw [← he]
            simp [fld, hc, h35', h32', h9', hal, encS]
          · cases fo with
            | none =>
              simp only [go_sem, ↓reduceIte, Nat.reduceLT, Nat.reduceLeDiff, Nat.reduceEqDiff, Nat.reduceAdd, Nat.reduceMul, Nat.reduceSub, reduceCtorEq, Int.reduceLT, Int.reduceLE, Int.reduceEq, Int.reduceToNat, decide_true, decide_false, Int.reduceNeg, Int.cast_ofNat_Int, sg, AO.sg, Option.isNone_none, hal, frI, hw, hw0]
              refine ih (i + 1, some i, acc) _ ⟨hlt, by simp only; omega, by intro f h; cases h; simp only; omega, ?_⟩ (by simp only; omega) ?_
              · rw [← he]
                simp only [curO, Option.map_some, Option.map_none, htki]
                simp [fld, hc, h35', h32', h9', hal]
              · (refine Wk.forget ?_; simp [Le, LeE, LeH, get, envIds, hpIds, KeepH, D.ids, idsL, AO.ids, setL, base, frI]; done)
            | some f =>
              obtain ⟨hf1, hf2, hf3⟩ := hf f rfl
              have hfneg : ¬ (f : Int) < 0 := by omega
              have hwf : IntKind.i64.wrap ((i : Int) - f) = ((i - f : Nat) : Int) := by rw [wrap_i64_id] <;> omega
              have hcl : ((s.take i).drop f).length = i - f := by simp; omega
              cases h12 : decide ((12 : Int) ≤ ((i - f : Nat) : Int))
              · have h12' : ¬ i - f = 12 := by have := of_decide_eq_false h12; omega
                simp only [go_sem, ↓reduceIte, Nat.reduceLT, Nat.reduceLeDiff, Nat.reduceEqDiff, Nat.reduceAdd, Nat.reduceMul, Nat.reduceSub, reduceCtorEq, Int.reduceLT, Int.reduceLE, Int.reduceEq, Int.reduceToNat, decide_true, decide_false, Int.reduceNeg, Int.cast_ofNat_Int, sg, AO.sg, Option.isNone_none, hal, frI, hfneg, hw, hwf, h12]
                refine ih (i + 1, some f, acc) _ ⟨hlt, by simp only; omega, by intro f' h; cases h; have := of_decide_eq_false h12; simp only; omega, ?_⟩ (by simp only; omega) ?_
                · rw [← he]
                  simp only [curO, Option.map_some, htk f (by omega)]
                  simp [fld, hc, h35', h32', h9', hal, hcl, h12']
                · (refine Wk.forget ?_; simp [Le, LeE, LeH, get, envIds, hpIds, KeepH, D.ids, idsL, AO.ids, setL, base, frI]; done)
              · have h12' : i - f = 12 := by have := of_decide_eq_true h12; omega
                simp only [go_sem, ↓reduceIte, Nat.reduceLT, Nat.reduceLeDiff, Nat.reduceEqDiff, Nat.reduceAdd, Nat.reduceMul, Nat.reduceSub, reduceCtorEq, Int.reduceLT, Int.reduceLE, Int.reduceEq, Int.reduceToNat, decide_true, decide_false, Int.reduceNeg, Int.cast_ofNat_Int, sg, AO.sg, Option.isNone_none, hal, frI, hfneg, hwf, h12]
                refine end_pure ?_
                simp only [go_sem, ↓reduceIte, Nat.reduceLT, Nat.reduceLeDiff, Nat.reduceEqDiff, Nat.reduceAdd, Nat.reduceMul, Nat.reduceSub, reduceCtorEq, Int.reduceLT, Int.reduceLE, Int.reduceEq, Int.reduceToNat, decide_true, decide_false, Int.reduceNeg, Int.cast_ofNat_Int, sg, AO.sg, Option.isNone_none]
                rw [← he]
                simp [fld, curO, hc, h35', h32', h9', hal, hcl, h12', encS]
        · have h9' := of_decide_eq_true h9
          cases fo with
          | none =>
            simp only [go_sem, ↓reduceIte, Nat.reduceLT, Nat.reduceLeDiff, Nat.reduceEqDiff, Nat.reduceAdd, Nat.reduceMul, Nat.reduceSub, reduceCtorEq, Int.reduceLT, Int.reduceLE, Int.reduceEq, Int.reduceToNat, decide_true, decide_false, Int.reduceNeg, Int.cast_ofNat_Int, sg, AO.sg, Option.isNone_none, Int.toNat_natCast, hil, hilt, hi0, hb, hc, hend, h35, h32, h9, frI, hw]
            refine ih (i + 1, none, acc) _ ⟨hlt, by simp only; omega, (by intro f h; cases h), ?_⟩ (by simp only; omega) ?_
            · rw [← he]
              simp [fld, curO, hc, h9']
            · (refine Wk.forget ?_; simp [Le, LeE, LeH, get, envIds, hpIds, KeepH, D.ids, idsL, AO.ids, setL, base, frI]; done)
          | some f =>
            obtain ⟨hf1, hf2, hf3⟩ := hf f rfl
            have hf0 : (0 : Int) ≤ (f : Int) ∧ (f : Int) ≤ (i : Int) ∧ (i : Int) ≤ (s.length : Int) := by omega
            simp only [go_sem, ↓reduceIte, Nat.reduceLT, Nat.reduceLeDiff, Nat.reduceEqDiff, Nat.reduceAdd, Nat.reduceMul, Nat.reduceSub, reduceCtorEq, Int.reduceLT, Int.reduceLE, Int.reduceEq, Int.reduceToNat, decide_true, decide_false, Int.reduceNeg, Int.cast_ofNat_Int, sg, AO.sg, Option.isNone_none, Int.toNat_natCast, hil, hilt, hi0, hb, hc, hend, h35, h32, h9, frI, hf0, encS_len, hw]
            refine ⟨⟨wid1 _ _ rfl, by omega⟩, ?_⟩
            refine ih (i + 1, none, acc ++ [(s.take i).drop f]) _ ⟨hlt, by simp; omega, (by intro f h; cases h), ?_⟩ (by simp only; omega) ?_
            · rw [← he]
              simp [fld, curO, hc, h9']
            · (refine Wk.forget ?_; simp [Le, LeE, LeH, get, envIds, hpIds, KeepH, D.ids, idsL, AO.ids, setL, base, frI, encS_snoc, encS_len]; done)
      · have h32' := of_decide_eq_true h32
        cases fo with
        | none =>
          simp only [go_sem, ↓reduceIte, Nat.reduceLT, Nat.reduceLeDiff, Nat.reduceEqDiff, Nat.reduceAdd, Nat.reduceMul, Nat.reduceSub, reduceCtorEq, Int.reduceLT, Int.reduceLE, Int.reduceEq, Int.reduceToNat, decide_true, decide_false, Int.reduceNeg, Int.cast_ofNat_Int, sg, AO.sg, Option.isNone_none, Int.toNat_natCast, hil, hilt, hi0, hb, hc, hend, h35, h32, frI, hw]
          refine ih (i + 1, none, acc) _ ⟨hlt, by simp only; omega, (by intro f h; cases h), ?_⟩ (by simp only; omega) ?_
          · rw [← he]
            simp [fld, curO, hc, h32']
          · (refine Wk.forget ?_; simp [Le, LeE, LeH, get, envIds, hpIds, KeepH, D.ids, idsL, AO.ids, setL, base, frI]; done)
        | some f =>
          obtain ⟨hf1, hf2, hf3⟩ := hf f rfl
          have hf0 : (0 : Int) ≤ (f : Int) ∧ (f : Int) ≤ (i : Int) ∧ (i : Int) ≤ (s.length : Int) := by omega
          simp only [go_sem, ↓reduceIte, Nat.reduceLT, Nat.reduceLeDiff, Nat.reduceEqDiff, Nat.reduceAdd, Nat.reduceMul, Nat.reduceSub, reduceCtorEq, Int.reduceLT, Int.reduceLE, Int.reduceEq, Int.reduceToNat, decide_true, decide_false, Int.reduceNeg, Int.cast_ofNat_Int, sg, AO.sg, Option.isNone_none, Int.toNat_natCast, hil, hilt, hi0, hb, hc, hend, h35, h32, frI, hf0, encS_len, hw]
          refine ⟨⟨wid1 _ _ rfl, by omega⟩, ?_⟩
          refine ih (i + 1, none, acc ++ [(s.take i).drop f]) _ ⟨hlt, by simp; omega, (by intro f h; cases h), ?_⟩ (by simp only; omega) ?_
          · rw [← he]
            simp [fld, curO, hc, h32']
          · (refine Wk.forget ?_; simp [Le, LeE, LeH, get, envIds, hpIds, KeepH, D.ids, idsL, AO.ids, setL, base, frI, encS_snoc, encS_len]; done)
    · have h35' := of_decide_eq_true h35
      cases fo with
      | none =>
        simp only [go_sem, ↓reduceIte, Nat.reduceLT, Nat.reduceLeDiff, Nat.reduceEqDiff, Nat.reduceAdd, Nat.reduceMul, Nat.reduceSub, reduceCtorEq, Int.reduceLT, Int.reduceLE, Int.reduceEq, Int.reduceToNat, decide_true, decide_false, Int.reduceNeg, Int.cast_ofNat_Int, sg, AO.sg, Option.isNone_none, Int.toNat_natCast, hil, hilt, hi0, hb, hc, hend, h35, frI]
        refine end_pure ?_
        simp only [go_sem, ↓reduceIte, Nat.reduceLT, Nat.reduceLeDiff, Nat.reduceEqDiff, Nat.reduceAdd, Nat.reduceMul, Nat.reduceSub, reduceCtorEq, Int.reduceLT, Int.reduceLE, Int.reduceEq, Int.reduceToNat, decide_true, decide_false, Int.reduceNeg, Int.cast_ofNat_Int, sg, AO.sg, Option.isNone_none]
        rw [← he]
        simp [fld, curO, hc, h35', encS_len, encS_take]
      | some f =>
        obtain ⟨hf1, hf2, hf3⟩ := hf f rfl
        have hf0 : (0 : Int) ≤ (f : Int) ∧ (f : Int) ≤ (i : Int) ∧ (i : Int) ≤ (s.length : Int) := by omega
        simp only [go_sem, ↓reduceIte, Nat.reduceLT, Nat.reduceLeDiff, Nat.reduceEqDiff, Nat.reduceAdd, Nat.reduceMul, Nat.reduceSub, reduceCtorEq, Int.reduceLT, Int.reduceLE, Int.reduceEq, Int.reduceToNat, decide_true, decide_false, Int.reduceNeg, Int.cast_ofNat_Int, sg, AO.sg, Option.isNone_none, Int.toNat_natCast, hil, hilt, hi0, hb, hc, hend, h35, frI, hf0, encS_len]
        refine ⟨⟨wid1 _ _ rfl, by omega⟩, end_pure ?_⟩
        simp only [go_sem, ↓reduceIte, Nat.reduceLT, Nat.reduceLeDiff, Nat.reduceEqDiff, Nat.reduceAdd, Nat.reduceMul, Nat.reduceSub, reduceCtorEq, Int.reduceLT, Int.reduceLE, Int.reduceEq, Int.reduceToNat, decide_true, decide_false, Int.reduceNeg, Int.cast_ofNat_Int, sg, AO.sg, Option.isNone_none, ← encS_snoc, encS_len]
        rw [← he]
        simp [fld, curO, hc, h35', encS_take, encS_snoc]
        exact List.take_of_length_le (by simp [encS])
  · have hieq : i = s.length := by have := of_decide_eq_true hend; omega
    rw [List.drop_of_length_le (by omega)] at he
    cases fo with
    | none =>
      simp only [go_sem, ↓reduceIte, Nat.reduceLT, Nat.reduceLeDiff, Nat.reduceEqDiff, Nat.reduceAdd, Nat.reduceMul, Nat.reduceSub, reduceCtorEq, Int.reduceLT, Int.reduceLE, Int.reduceEq, Int.reduceToNat, decide_true, decide_false, Int.reduceNeg, Int.cast_ofNat_Int, sg, AO.sg, Option.isNone_none, Int.toNat_natCast, hil, hi0, hend, frI]
      refine end_pure ?_
      simp only [go_sem, ↓reduceIte, Nat.reduceLT, Nat.reduceLeDiff, Nat.reduceEqDiff, Nat.reduceAdd, Nat.reduceMul, Nat.reduceSub, reduceCtorEq, Int.reduceLT, Int.reduceLE, Int.reduceEq, Int.reduceToNat, decide_true, decide_false, Int.reduceNeg, Int.cast_ofNat_Int, sg, AO.sg, Option.isNone_none]
      rw [← he]
      simp [fld, curO, encS_len, encS_take]
    | some f =>
      obtain ⟨hf1, hf2, hf3⟩ := hf f rfl
      have hf0 : (0 : Int) ≤ (f : Int) ∧ (f : Int) ≤ (i : Int) ∧ (i : Int) ≤ (s.length : Int) := by omega
      simp only [go_sem, ↓reduceIte, Nat.reduceLT, Nat.reduceLeDiff, Nat.reduceEqDiff, Nat.reduceAdd, Nat.reduceMul, Nat.reduceSub, reduceCtorEq, Int.reduceLT, Int.reduceLE, Int.reduceEq, Int.reduceToNat, decide_true, decide_false, Int.reduceNeg, Int.cast_ofNat_Int, sg, AO.sg, Option.isNone_none, Int.toNat_natCast, hil, hi0, hend, frI, hf0, encS_len]
      refine ⟨⟨wid1 _ _ rfl, by omega⟩, end_pure ?_⟩
      simp only [go_sem, ↓reduceIte, Nat.reduceLT, Nat.reduceLeDiff, Nat.reduceEqDiff, Nat.reduceAdd, Nat.reduceMul, Nat.reduceSub, reduceCtorEq, Int.reduceLT, Int.reduceLE, Int.reduceEq, Int.reduceToNat, decide_true, decide_false, Int.reduceNeg, Int.cast_ofNat_Int, sg, AO.sg, Option.isNone_none, ← encS_snoc, encS_len]
      rw [← he]
      simp [fld, curO, encS_take, encS_snoc]
      exact List.take_of_length_le (by simp [encS])
end Go.Am
