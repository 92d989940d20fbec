/- FieldsJoins and FieldsBack, as contracts. -/
import Derived.Test.YtefdjkakojfhnaaDoorLinn
namespace Go.Am
open Go Go.Proofs
set_option maxRecDepth 100000
set_option linter.unusedVariables false
set_option linter.unusedSimpArgs false
def smallJ (l : List Ln) : Prop := l.length ≤ 4000000 ∧ ∀ x ∈ l, x.fs.length ≤ 4000000 ∧ x.num ≤ 9223372036854775807 ∧ ∀ s ∈ x.fs, s.length ≤ 4000000
theorem linesW_small (l : List Int) : smallJ (linesW l) := by
  have h := (linesW_form l).2.2
  exact ⟨by omega, fun x hx => by have := h.2 x hx; exact ⟨by omega, by omega, fun s hs => by have := this.2.2 s hs; omega⟩⟩
theorem fieldsJoins_ok (raw : List Ln) (l : List Int) (hraw : smallJ raw) : ACalls Tryd.prog 9 [.p (.sl (encL raw)), .p (.sl (encI l))] [] fun h r => h = [] ∧ r = .p (.bool true) := by
  refine ACalls_X Tryd.func9 rfl enters9 (by simp [Tryd.f9]) ?_
  simp only [go_sem, ↓reduceIte, Nat.reduceLT, Nat.reduceLeDiff, Nat.reduceEqDiff, Nat.reduceAdd, Nat.reduceMul, Nat.reduceSub, reduceCtorEq, Int.reduceLT, Int.reduceLE, Int.reduceEq, Int.reduceToNat, decide_true, decide_false, Int.reduceNeg, Int.cast_ofNat_Int, sg, AO.sg, Option.isNone_none]
  refine Cc_of ((known1_ok)) ?_
  rintro h' r ⟨rfl, rfl⟩
  simp only [go_sem, ↓reduceIte, Nat.reduceLT, Nat.reduceLeDiff, Nat.reduceEqDiff, Nat.reduceAdd, Nat.reduceMul, Nat.reduceSub, reduceCtorEq, Int.reduceLT, Int.reduceLE, Int.reduceEq, Int.reduceToNat, decide_true, decide_false, Int.reduceNeg, Int.cast_ofNat_Int, sg, AO.sg, Option.isNone_none]
  refine Cc_of ((linesw_ok l)) ?_
  rintro h' r ⟨rfl, rfl⟩
  simp only [go_sem, ↓reduceIte, Nat.reduceLT, Nat.reduceLeDiff, Nat.reduceEqDiff, Nat.reduceAdd, Nat.reduceMul, Nat.reduceSub, reduceCtorEq, Int.reduceLT, Int.reduceLE, Int.reduceEq, Int.reduceToNat, decide_true, decide_false, Int.reduceNeg, Int.cast_ofNat_Int, sg, AO.sg, Option.isNone_none]
  refine X_loop_inv (fun i => ⟨[(5, .ref 16 0 2 2), (6, .p (.int .i64 (i : Nat)))], [(16, .arr 26 1 [[.sl (encL raw)], [.sl (encL (linesW l))]])], 45⟩) (fun i => i ≤ 2) (fun i => 2 - i) 0 (by omega) (Wk.forget (by simp [Le, LeE, LeH, get, envIds, hpIds, KeepH, D.ids, idsL, AO.ids, setL, base])) ?_
  rintro i n hi ih
  simp only [go_sem, ↓reduceIte, Nat.reduceLT, Nat.reduceLeDiff, Nat.reduceEqDiff, Nat.reduceAdd, Nat.reduceMul, Nat.reduceSub, reduceCtorEq, Int.reduceLT, Int.reduceLE, Int.reduceEq, Int.reduceToNat, decide_true, decide_false, Int.reduceNeg, Int.cast_ofNat_Int, sg, AO.sg, Option.isNone_none]
  refine Cn_split (fun h2 => ?_) (fun h2 => ?_)
  · obtain ⟨t, hg, ht⟩ : ∃ t, ([[Pd.sl (encL raw)], [Pd.sl (encL (linesW l))]] : List (List Pd)).getD i [] = [.sl (encL t)] ∧ smallJ t := by
      have : i = 0 ∨ i = 1 := by simp at h2; omega
      rcases this with rfl | rfl
      · exact ⟨raw, rfl, hraw⟩
      · exact ⟨linesW l, rfl, linesW_small l⟩
    have hi2 : (i : Int) < 2 := by simpa using h2
    have hi0 : (0 : Int) ≤ (i : Int) := by omega
    have hw := wrap_succ i (by omega)
    simp only [go_sem, ↓reduceIte, Nat.reduceLT, Nat.reduceLeDiff, Nat.reduceEqDiff, Nat.reduceAdd, Nat.reduceMul, Nat.reduceSub, reduceCtorEq, Int.reduceLT, Int.reduceLE, Int.reduceEq, Int.reduceToNat, decide_true, decide_false, Int.reduceNeg, Int.cast_ofNat_Int, sg, AO.sg, Option.isNone_none, Int.toNat_natCast, hg, hi2, hi0]
    refine Cc_of ((join1_ok t ⟨ht.1, fun x hx => ⟨(ht.2 x hx).1, (ht.2 x hx).2.1⟩⟩)) ?_
    rintro h' r ⟨rfl, rfl⟩
    simp only [go_sem, ↓reduceIte, Nat.reduceLT, Nat.reduceLeDiff, Nat.reduceEqDiff, Nat.reduceAdd, Nat.reduceMul, Nat.reduceSub, reduceCtorEq, Int.reduceLT, Int.reduceLE, Int.reduceEq, Int.reduceToNat, decide_true, decide_false, Int.reduceNeg, Int.cast_ofNat_Int, sg, AO.sg, Option.isNone_none, Int.toNat_natCast, hg, hi2, hi0, joinR]
    refine Cc_of ((join2_ok t ht)) ?_
    rintro h' r ⟨rfl, rfl⟩
    simp only [go_sem, ↓reduceIte, Nat.reduceLT, Nat.reduceLeDiff, Nat.reduceEqDiff, Nat.reduceAdd, Nat.reduceMul, Nat.reduceSub, reduceCtorEq, Int.reduceLT, Int.reduceLE, Int.reduceEq, Int.reduceToNat, decide_true, decide_false, Int.reduceNeg, Int.cast_ofNat_Int, sg, AO.sg, Option.isNone_none, joinR, hw]
    refine ih (i + 1) _ (by omega) (by omega) (Wk.forget (by simp [Le, LeE, LeH, get, envIds, hpIds, KeepH, D.ids, idsL, AO.ids, setL, base]))
  · simp only [go_sem, ↓reduceIte, Nat.reduceLT, Nat.reduceLeDiff, Nat.reduceEqDiff, Nat.reduceAdd, Nat.reduceMul, Nat.reduceSub, reduceCtorEq, Int.reduceLT, Int.reduceLE, Int.reduceEq, Int.reduceToNat, decide_true, decide_false, Int.reduceNeg, Int.cast_ofNat_Int, sg, AO.sg, Option.isNone_none]
theorem take_all (l : List Ln) : linesR (l, 0, 0) = .tup [.p (.sl (encL l)), .p (.int .i64 0), .p (.int .i64 0)] := rfl
theorem fieldsBack_ok (l : List Int) (cm : List UInt8) : ACalls Tryd.prog 10 [.p (.sl (encI l)), .p (.str cm)] [] fun h r => h = [] ∧ r = .p (.bool true) := by
  obtain ⟨hf, hlen, hl6, hx6⟩ := linesW_form l
  have hsm := linesW_small l
  have hj : joinV (linesW l) = (textL 1 (linesW l), 0) := by
    have : ¬ 6000 < (textL 1 (linesW l)).length := by omega
    simp [joinV, hf, this]
  have hft := fLines_text (linesW l) hf hlen
  have hfm := fLines_mod cm (linesW l) hf
  have hs10 : (linesW l).length ≤ 10000000 ∧ ∀ x ∈ linesW l, x.fs.length ≤ 10000000 := ⟨by omega, fun x hx => by have := hx6 x hx; omega⟩
  refine ACalls_X Tryd.func10 rfl enters10 (by simp [Tryd.f10]) ?_
  simp only [go_sem, ↓reduceIte, Nat.reduceLT, Nat.reduceLeDiff, Nat.reduceEqDiff, Nat.reduceAdd, Nat.reduceMul, Nat.reduceSub, reduceCtorEq, Int.reduceLT, Int.reduceLE, Int.reduceEq, Int.reduceToNat, decide_true, decide_false, Int.reduceNeg, Int.cast_ofNat_Int, sg, AO.sg, Option.isNone_none]
  refine Cc_of ((known1_ok)) ?_
  rintro h' r ⟨rfl, rfl⟩
  simp only [go_sem, ↓reduceIte, Nat.reduceLT, Nat.reduceLeDiff, Nat.reduceEqDiff, Nat.reduceAdd, Nat.reduceMul, Nat.reduceSub, reduceCtorEq, Int.reduceLT, Int.reduceLE, Int.reduceEq, Int.reduceToNat, decide_true, decide_false, Int.reduceNeg, Int.cast_ofNat_Int, sg, AO.sg, Option.isNone_none]
  refine Cc_of ((linesw_ok l)) ?_
  rintro h' r ⟨rfl, rfl⟩
  simp only [go_sem, ↓reduceIte, Nat.reduceLT, Nat.reduceLeDiff, Nat.reduceEqDiff, Nat.reduceAdd, Nat.reduceMul, Nat.reduceSub, reduceCtorEq, Int.reduceLT, Int.reduceLE, Int.reduceEq, Int.reduceToNat, decide_true, decide_false, Int.reduceNeg, Int.cast_ofNat_Int, sg, AO.sg, Option.isNone_none]
  refine Cc_of ((join1_ok (linesW l) ⟨hsm.1, fun x hx => ⟨(hsm.2 x hx).1, (hsm.2 x hx).2.1⟩⟩)) ?_
  rintro h' r ⟨rfl, rfl⟩
  simp only [go_sem, ↓reduceIte, Nat.reduceLT, Nat.reduceLeDiff, Nat.reduceEqDiff, Nat.reduceAdd, Nat.reduceMul, Nat.reduceSub, reduceCtorEq, Int.reduceLT, Int.reduceLE, Int.reduceEq, Int.reduceToNat, decide_true, decide_false, Int.reduceNeg, Int.cast_ofNat_Int, sg, AO.sg, Option.isNone_none, joinR, hj]
  refine Cc_of ((lines1_ok (textL 1 (linesW l)))) ?_
  rintro h' r ⟨rfl, rfl⟩
  simp only [go_sem, ↓reduceIte, Nat.reduceLT, Nat.reduceLeDiff, Nat.reduceEqDiff, Nat.reduceAdd, Nat.reduceMul, Nat.reduceSub, reduceCtorEq, Int.reduceLT, Int.reduceLE, Int.reduceEq, Int.reduceToNat, decide_true, decide_false, Int.reduceNeg, Int.cast_ofNat_Int, sg, AO.sg, Option.isNone_none, hft, take_all]
  refine Cc_of ((sameLines_ok _ _ hs10)) ?_
  rintro h' r ⟨rfl, rfl⟩
  simp only [go_sem, ↓reduceIte, Nat.reduceLT, Nat.reduceLeDiff, Nat.reduceEqDiff, Nat.reduceAdd, Nat.reduceMul, Nat.reduceSub, reduceCtorEq, Int.reduceLT, Int.reduceLE, Int.reduceEq, Int.reduceToNat, decide_true, decide_false, Int.reduceNeg, Int.cast_ofNat_Int, sg, AO.sg, Option.isNone_none]
  generalize textL 1 (linesW l) = T at *
  by_cases hc : (40 : Int) < (cm.length : Int)
  · simp only [go_sem, ↓reduceIte, Nat.reduceLT, Nat.reduceLeDiff, Nat.reduceEqDiff, Nat.reduceAdd, Nat.reduceMul, Nat.reduceSub, reduceCtorEq, Int.reduceLT, Int.reduceLE, Int.reduceEq, Int.reduceToNat, decide_true, decide_false, Int.reduceNeg, Int.cast_ofNat_Int, sg, AO.sg, Option.isNone_none, hc]
  have hc40 : cm.length ≤ 40 := by omega
  simp only [go_sem, ↓reduceIte, Nat.reduceLT, Nat.reduceLeDiff, Nat.reduceEqDiff, Nat.reduceAdd, Nat.reduceMul, Nat.reduceSub, reduceCtorEq, Int.reduceLT, Int.reduceLE, Int.reduceEq, Int.reduceToNat, decide_true, decide_false, Int.reduceNeg, Int.cast_ofNat_Int, sg, AO.sg, Option.isNone_none, hc]
  refine X_loop_inv (fun q : Nat × List UInt8 => ⟨[(1, .p (.str cm)), (5, .p (.sl (encL (linesW l)))), (6, .p (.str T)), (11, .ref 87 0 q.2.length q.2.length), (12, .p (.int .i64 (q.1 : Nat)))], [(87, .arr 5 1 (encB q.2))], 109⟩)
    (fun q => q.1 ≤ T.length ∧ q.2.length ≤ 100 * q.1 ∧ q.2 ++ modT cm (T.drop q.1) = modT cm T) (fun q => T.length - q.1) (0, []) ⟨Nat.zero_le _, by simp, by simp⟩
    ((Wk.nil (t := 11) (q := 87) (sz := 1) 5 rfl rfl (by decide)).trans (Wk.forget (by simp [Le, LeE, LeH, get, envIds, hpIds, KeepH, D.ids, idsL, AO.ids, setL, base, encB]))) ?_
  rintro ⟨i, b⟩ n ⟨hi, hb, he⟩ ih
  simp only at hi hb he
  simp only [go_sem, ↓reduceIte, Nat.reduceLT, Nat.reduceLeDiff, Nat.reduceEqDiff, Nat.reduceAdd, Nat.reduceMul, Nat.reduceSub, reduceCtorEq, Int.reduceLT, Int.reduceLE, Int.reduceEq, Int.reduceToNat, decide_true, decide_false, Int.reduceNeg, Int.cast_ofNat_Int, sg, AO.sg, Option.isNone_none]
  refine Cn_split (fun h2 => ?_) (fun h2 => ?_)
  rotate_left
  · have hie : i = T.length := by simp at h2; omega
    subst hie
    rw [List.drop_length] at he
    simp only [modT, List.append_nil] at he
    rw [← he] at hfm
    simp only [go_sem, ↓reduceIte, Nat.reduceLT, Nat.reduceLeDiff, Nat.reduceEqDiff, Nat.reduceAdd, Nat.reduceMul, Nat.reduceSub, reduceCtorEq, Int.reduceLT, Int.reduceLE, Int.reduceEq, Int.reduceToNat, decide_true, decide_false, Int.reduceNeg, Int.cast_ofNat_Int, sg, AO.sg, Option.isNone_none, encB_len]
    by_cases hbig : (6000 : Int) < (b.length : Int)
    · simp only [go_sem, ↓reduceIte, Nat.reduceLT, Nat.reduceLeDiff, Nat.reduceEqDiff, Nat.reduceAdd, Nat.reduceMul, Nat.reduceSub, reduceCtorEq, Int.reduceLT, Int.reduceLE, Int.reduceEq, Int.reduceToNat, decide_true, decide_false, Int.reduceNeg, Int.cast_ofNat_Int, sg, AO.sg, Option.isNone_none, hbig]
    simp only [go_sem, ↓reduceIte, Nat.reduceLT, Nat.reduceLeDiff, Nat.reduceEqDiff, Nat.reduceAdd, Nat.reduceMul, Nat.reduceSub, reduceCtorEq, Int.reduceLT, Int.reduceLE, Int.reduceEq, Int.reduceToNat, decide_true, decide_false, Int.reduceNeg, Int.cast_ofNat_Int, sg, AO.sg, Option.isNone_none, hbig]
    refine Af_str rfl ti35 ti9 ti5 rfl rfl ?_
    simp only [go_sem, ↓reduceIte, Nat.reduceLT, Nat.reduceLeDiff, Nat.reduceEqDiff, Nat.reduceAdd, Nat.reduceMul, Nat.reduceSub, reduceCtorEq, Int.reduceLT, Int.reduceLE, Int.reduceEq, Int.reduceToNat, decide_true, decide_false, Int.reduceNeg, Int.cast_ofNat_Int, sg, AO.sg, Option.isNone_none]
    refine Cc_of ((lines1_ok b)) ?_
    rintro h' r ⟨rfl, rfl⟩
    simp only [go_sem, ↓reduceIte, Nat.reduceLT, Nat.reduceLeDiff, Nat.reduceEqDiff, Nat.reduceAdd, Nat.reduceMul, Nat.reduceSub, reduceCtorEq, Int.reduceLT, Int.reduceLE, Int.reduceEq, Int.reduceToNat, decide_true, decide_false, Int.reduceNeg, Int.cast_ofNat_Int, sg, AO.sg, Option.isNone_none, hfm (by omega), take_all]
    refine Cc_of ((sameLines_ok _ _ hs10)) ?_
    rintro h' r ⟨rfl, rfl⟩
    simp only [go_sem, ↓reduceIte, Nat.reduceLT, Nat.reduceLeDiff, Nat.reduceEqDiff, Nat.reduceAdd, Nat.reduceMul, Nat.reduceSub, reduceCtorEq, Int.reduceLT, Int.reduceLE, Int.reduceEq, Int.reduceToNat, decide_true, decide_false, Int.reduceNeg, Int.cast_ofNat_Int, sg, AO.sg, Option.isNone_none]
  have hlt : i < T.length := by simp at h2; omega
  have hi0 : (0 : Int) ≤ (i : Int) ∧ (i : Int) < (T.length : Int) := by omega
  have hw := wrap_succ i (by omega)
  rw [drop_getD T i 0 hlt] at he
  simp only [modT] at he
  generalize hbb : T.getD i 0 = x at *
  simp only [go_sem, ↓reduceIte, Nat.reduceLT, Nat.reduceLeDiff, Nat.reduceEqDiff, Nat.reduceAdd, Nat.reduceMul, Nat.reduceSub, reduceCtorEq, Int.reduceLT, Int.reduceLE, Int.reduceEq, Int.reduceToNat, decide_true, decide_false, Int.reduceNeg, Int.cast_ofNat_Int, sg, AO.sg, Option.isNone_none, Int.toNat_natCast, hi0, hbb]
  cases c10 : decide ((x.toNat : Int) = 10)
  · have h10 : x ≠ 10 := by rintro rfl; simp at c10
    rw [if_neg h10] at he
    cases c32 : decide ((x.toNat : Int) = 32)
    · have h32 : x ≠ 32 := by rintro rfl; simp at c32
      rw [if_neg h32, List.nil_append] at he
      simp only [go_sem, ↓reduceIte, Nat.reduceLT, Nat.reduceLeDiff, Nat.reduceEqDiff, Nat.reduceAdd, Nat.reduceMul, Nat.reduceSub, reduceCtorEq, Int.reduceLT, Int.reduceLE, Int.reduceEq, Int.reduceToNat, decide_true, decide_false, Int.reduceNeg, Int.cast_ofNat_Int, sg, AO.sg, Option.isNone_none, c10, c32, Int.toNat_natCast, hi0, hbb, encB_len, hw]
      refine ⟨⟨wid1 _ _ rfl, by omega⟩, ?_⟩
      refine ih (i + 1, b ++ [x]) _ ⟨hlt, by simp; omega, by rw [← he]; simp⟩ (by simp only; omega) ?_
      (refine Wk.forget ?_; simp [Le, LeE, LeH, get, envIds, hpIds, KeepH, D.ids, idsL, AO.ids, setL, base, encB_snoc, encB_len]; done)
    · have h32 : x = 32 := by have := of_decide_eq_true c32; exact UInt8.toNat_inj.1 (by simp; omega)
      rw [if_pos h32] at he
      have e9 : encB b ++ [[Pd.int .u8 9]] = encB (b ++ [9]) := by rw [encB_snoc]; rfl
      simp only [go_sem, ↓reduceIte, Nat.reduceLT, Nat.reduceLeDiff, Nat.reduceEqDiff, Nat.reduceAdd, Nat.reduceMul, Nat.reduceSub, reduceCtorEq, Int.reduceLT, Int.reduceLE, Int.reduceEq, Int.reduceToNat, decide_true, decide_false, Int.reduceNeg, Int.cast_ofNat_Int, sg, AO.sg, Option.isNone_none, c10, c32, Int.toNat_natCast, hi0, hbb, encB_len, hw]
      refine ⟨⟨wid1 _ _ rfl, by omega⟩, ?_⟩
      simp only [go_sem, ↓reduceIte, Nat.reduceLT, Nat.reduceLeDiff, Nat.reduceEqDiff, Nat.reduceAdd, Nat.reduceMul, Nat.reduceSub, reduceCtorEq, Int.reduceLT, Int.reduceLE, Int.reduceEq, Int.reduceToNat, decide_true, decide_false, Int.reduceNeg, Int.cast_ofNat_Int, sg, AO.sg, Option.isNone_none, e9, encB_len]
      refine ⟨⟨wid1 _ _ rfl, by simp; omega⟩, ?_⟩
      refine ih (i + 1, b ++ [9] ++ [x]) _ ⟨hlt, by simp; omega, by rw [← he]; simp⟩ (by simp only; omega) ?_
      have e10 : encB (b ++ [9] ++ [x]) = encB b ++ [[Pd.int .u8 9], [.int .u8 x.toNat]] := by simp [encB]
      have e11 : (b ++ [9] ++ [x]).length = b.length + 1 + 1 := by simp
      rw [← e9, List.append_assoc]
      simp only [e10, e11]
      (refine Wk.forget ?_; simp [Le, LeE, LeH, get, envIds, hpIds, KeepH, D.ids, idsL, AO.ids, setL, base, List.append_assoc, encB_len]; done)
  · have h10 : x = 10 := by have := of_decide_eq_true c10; exact UInt8.toNat_inj.1 (by simp; omega)
    rw [if_pos h10] at he
    simp only [go_sem, ↓reduceIte, Nat.reduceLT, Nat.reduceLeDiff, Nat.reduceEqDiff, Nat.reduceAdd, Nat.reduceMul, Nat.reduceSub, reduceCtorEq, Int.reduceLT, Int.reduceLE, Int.reduceEq, Int.reduceToNat, decide_true, decide_false, Int.reduceNeg, Int.cast_ofNat_Int, sg, AO.sg, Option.isNone_none, c10, encB_len]
    have hw4 : Wid 1 (encB [32, 9, 35, 32]) := by simp [Wid, encB]
    have e4 : encB b ++ encB [32, 9, 35, 32] = encB (b ++ [32, 9, 35, 32]) := by simp [encB]
    refine ⟨⟨hw4, by omega, by omega⟩, ?_⟩
    rw [e4, encB_len]
    refine X_loop_inv (fun q : Nat × List UInt8 => ⟨[(1, .p (.str cm)), (5, .p (.sl (encL (linesW l)))), (6, .p (.str T)), (11, .ref 87 0 q.2.length q.2.length), (12, .p (.int .i64 (i : Nat))), (13, .p (.int .i64 (q.1 : Nat)))], [(87, .arr 5 1 (encB q.2))], 109⟩)
      (fun q => q.1 ≤ cm.length ∧ q.2.length ≤ b.length + 4 + q.1 ∧ q.2 ++ (cm.drop q.1).filter (fun b => b ≠ 10) = b ++ sfxV cm) (fun q => cm.length - q.1) (0, b ++ [32, 9, 35, 32]) ⟨Nat.zero_le _, by simp, by simp [sfxV]⟩ (Wk.forget (by simp [Le, LeE, LeH, get, envIds, hpIds, KeepH, D.ids, idsL, AO.ids, setL, base])) ?_
    rintro ⟨k, c⟩ n2 ⟨hk, hcl, hce⟩ ih2
    simp only at hk hcl hce
    simp only [go_sem, ↓reduceIte, Nat.reduceLT, Nat.reduceLeDiff, Nat.reduceEqDiff, Nat.reduceAdd, Nat.reduceMul, Nat.reduceSub, reduceCtorEq, Int.reduceLT, Int.reduceLE, Int.reduceEq, Int.reduceToNat, decide_true, decide_false, Int.reduceNeg, Int.cast_ofNat_Int, sg, AO.sg, Option.isNone_none]
    refine Cn_split (fun h3 => ?_) (fun h3 => ?_)
    · have hkt : k < cm.length := by simp at h3; omega
      have hk0 : (0 : Int) ≤ (k : Int) ∧ (k : Int) < (cm.length : Int) := by omega
      have hwk := wrap_succ k (by omega)
      rw [drop_getD cm k 0 hkt] at hce
      generalize hyy : cm.getD k 0 = y at *
      simp only [go_sem, ↓reduceIte, Nat.reduceLT, Nat.reduceLeDiff, Nat.reduceEqDiff, Nat.reduceAdd, Nat.reduceMul, Nat.reduceSub, reduceCtorEq, Int.reduceLT, Int.reduceLE, Int.reduceEq, Int.reduceToNat, decide_true, decide_false, Int.reduceNeg, Int.cast_ofNat_Int, sg, AO.sg, Option.isNone_none, Int.toNat_natCast, hk0, hyy]
      cases cy : decide ((y.toNat : Int) = 10)
      · have hy : y ≠ 10 := by rintro rfl; simp at cy
        simp only [go_sem, ↓reduceIte, Nat.reduceLT, Nat.reduceLeDiff, Nat.reduceEqDiff, Nat.reduceAdd, Nat.reduceMul, Nat.reduceSub, reduceCtorEq, Int.reduceLT, Int.reduceLE, Int.reduceEq, Int.reduceToNat, decide_true, decide_false, Int.reduceNeg, Int.cast_ofNat_Int, sg, AO.sg, Option.isNone_none, cy, Int.toNat_natCast, hk0, hyy, encB_len, hwk]
        refine ⟨⟨wid1 _ _ rfl, by omega⟩, ?_⟩
        refine ih2 (k + 1, c ++ [y]) _ ⟨hkt, by simp; omega, by rw [← hce]; simp [hy]⟩ (by simp only; omega) ?_
        (refine Wk.forget ?_; simp [Le, LeE, LeH, get, envIds, hpIds, KeepH, D.ids, idsL, AO.ids, setL, base, encB_snoc, encB_len]; done)
      · have hy : y = 10 := by have := of_decide_eq_true cy; exact UInt8.toNat_inj.1 (by simp; omega)
        simp only [go_sem, ↓reduceIte, Nat.reduceLT, Nat.reduceLeDiff, Nat.reduceEqDiff, Nat.reduceAdd, Nat.reduceMul, Nat.reduceSub, reduceCtorEq, Int.reduceLT, Int.reduceLE, Int.reduceEq, Int.reduceToNat, decide_true, decide_false, Int.reduceNeg, Int.cast_ofNat_Int, sg, AO.sg, Option.isNone_none, cy, hwk]
        refine ih2 (k + 1, c) _ ⟨hkt, by simp only; omega, by rw [← hce]; simp [hy]⟩ (by simp only; omega) (Wk.forget (by simp [Le, LeE, LeH, get, envIds, hpIds, KeepH, D.ids, idsL, AO.ids, setL, base]))
    · have hke : k = cm.length := by simp at h3; omega
      subst hke
      rw [List.drop_length] at hce
      simp only [List.filter_nil, List.append_nil] at hce
      simp only [go_sem, ↓reduceIte, Nat.reduceLT, Nat.reduceLeDiff, Nat.reduceEqDiff, Nat.reduceAdd, Nat.reduceMul, Nat.reduceSub, reduceCtorEq, Int.reduceLT, Int.reduceLE, Int.reduceEq, Int.reduceToNat, decide_true, decide_false, Int.reduceNeg, Int.cast_ofNat_Int, sg, AO.sg, Option.isNone_none, Int.toNat_natCast, hi0, hbb, encB_len, hw]
      refine ⟨⟨wid1 _ _ rfl, by omega⟩, ?_⟩
      refine ih (i + 1, c ++ [x]) _ ⟨hlt, by simp; omega, by rw [← he, hce]; simp⟩ (by simp only; omega) ?_
      (refine Wk.forget ?_; simp [Le, LeE, LeH, get, envIds, hpIds, KeepH, D.ids, idsL, AO.ids, setL, base, encB_snoc, encB_len]; done)
end Go.Am
