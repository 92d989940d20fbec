/- Texts of this proof, merged: Splt, Cutf, Linf, Fldr, Linr, Joiv. -/
import Derived.Lib.Bytealg
import Derived.Laws.Externs
import Derived.Test.YtfpgmanaikgemaaGreatDoorMg
section
/- strings.Split at a separator of one byte. -/
namespace Go.Am
open Go Go.Proofs
set_option maxRecDepth 100000
set_option linter.unusedVariables false
set_option linter.unusedSimpArgs false
def splitL (c : UInt8) : List UInt8 → List (List UInt8)
  | [] => [[]]
  | b :: r => if b = c then [] :: splitL c r else match splitL c r with
    | [] => [[b]]
    | x :: xs => (b :: x) :: xs
theorem splitL_ne (c : UInt8) (l : List UInt8) : splitL c l ≠ [] := by
  cases l with
  | nil => simp [splitL]
  | cons b r =>
    simp only [splitL]
    split
    · simp
    · split <;> simp
theorem splitL_len (c : UInt8) (l : List UInt8) : (splitL c l).length = l.count c + 1 := by
  induction l with
  | nil => simp [splitL]
  | cons b r ih =>
    simp only [splitL]
    split
    · rename_i h; subst h; simp [ih]
    · rename_i h
      rw [List.count_cons_of_ne h]
      cases hs : splitL c r with
      | nil => exact (splitL_ne c r hs).elim
      | cons x xs => rw [hs] at ih; simpa using ih
theorem indexByte_spec (c : UInt8) : ∀ (l : List UInt8), (Lib.indexByte l c = -1 ∧ splitL c l = [l]) ∨ ∃ m : Nat, Lib.indexByte l c = (m : Int) ∧ m < l.length ∧ splitL c l = l.take m :: splitL c (l.drop (m + 1))
  | [] => .inl ⟨rfl, rfl⟩
  | b :: r => by
    simp only [Lib.indexByte]
    by_cases h : b = c
    · subst h
      exact .inr ⟨0, by simp, by simp, by simp [splitL]⟩
    · rcases indexByte_spec c r with ⟨h1, h2⟩ | ⟨m, h1, h2, h3⟩
      · refine .inl ⟨by simp [h, h1], by simp [splitL, h, h2]⟩
      · refine .inr ⟨m + 1, by simp [h, h1], by simp; omega, by simp [splitL, h, h3]⟩
theorem idxb_ok (l : List UInt8) (c : Int) : ACalls Tryz.prog 193 [.p (.str l), .p (.int .u8 c)] [] fun h r => h = [] ∧ r = .p (.int .i64 (Lib.indexByte l c.toNat.toUInt8)) := by
  refine ACalls_ext (run_callFunc_extern Tryz.func193 (by kernel_rfl) (by kernel_rfl) (by kernel_rfl) (e := Extern.BytealgIndexByte.indexByte) (by kernel_rfl)) ?_
  intro vs w F M hd
  obtain ⟨hl, h⟩ := hd
  obtain ⟨v1, v2, rfl⟩ : ∃ v1 v2, vs = #[v1, v2] := by
    match vs, hl with
    | ⟨[v1, v2]⟩, _ => exact ⟨v1, v2, rfl⟩
  have h1 := h 0 _ rfl
  have h2 := h 1 _ rfl
  simp only [List.getD_cons_zero, List.getD_cons_succ] at h1 h2
  cases h1 with | p h1 => cases h1 with | str =>
  cases h2 with | p h2 => cases h2 with | int =>
  exact ⟨_, _, Lib.run_indexByteString _ _ _, .p (.int _ _), rfl, rfl⟩
theorem cntb_ok (l : List UInt8) (c : Int) : ACalls Tryz.prog 154 [.p (.str l), .p (.int .u8 c)] [] fun h r => h = [] ∧ r = .p (.int .i64 (Lib.countByte l c.toNat.toUInt8 : Nat)) := by
  refine ACalls_ext (run_callFunc_extern Tryz.func154 (by kernel_rfl) (by kernel_rfl) (by kernel_rfl) (e := Extern.BytealgCount.count) (by kernel_rfl)) ?_
  intro vs w F M hd
  obtain ⟨hl, h⟩ := hd
  obtain ⟨v1, v2, rfl⟩ : ∃ v1 v2, vs = #[v1, v2] := by
    match vs, hl with
    | ⟨[v1, v2]⟩, _ => exact ⟨v1, v2, rfl⟩
  have h1 := h 0 _ rfl
  have h2 := h 1 _ rfl
  simp only [List.getD_cons_zero, List.getD_cons_succ] at h1 h2
  cases h1 with | p h1 => cases h1 with | str =>
  cases h2 with | p h2 => cases h2 with | int =>
  exact ⟨_, _, Lib.run_countString _ _ _, .p (.int _ _), rfl, rfl⟩
theorem u8_id (c : UInt8) : ((c.toNat : Int)).toNat.toUInt8 = c := by simp
theorem count_ok (l : List UInt8) (c : UInt8) : ACalls Tryz.prog 123 [.p (.str l), .p (.str [c])] [] fun h r => h = [] ∧ r = .p (.int .i64 (l.count c : Nat)) := by
  refine ACalls_X Tryz.func123 rfl enters123 (by simp [Tryz.f123]) ?_
  have h0 : (0 : Int) < 1 := by decide
  simp only [go_sem, ↓reduceIte, Nat.reduceLT, Nat.reduceLeDiff, Nat.reduceEqDiff, Nat.reduceAdd, Nat.reduceMul, Nat.reduceSub, reduceCtorEq, Int.reduceLT, Int.reduceLE, Int.reduceEq, Int.reduceToNat, decide_true, decide_false, Int.reduceNeg, Int.cast_ofNat_Int, sg, AO.sg, Option.isNone_none, List.getD_cons_zero]
  refine Cc_of (cntb_ok l c.toNat) ?_
  rintro h' r ⟨rfl, rfl⟩
  simp only [go_sem, ↓reduceIte, Nat.reduceLT, Nat.reduceLeDiff, Nat.reduceEqDiff, Nat.reduceAdd, Nat.reduceMul, Nat.reduceSub, reduceCtorEq, Int.reduceLT, Int.reduceLE, Int.reduceEq, Int.reduceToNat, decide_true, decide_false, Int.reduceNeg, Int.cast_ofNat_Int, sg, AO.sg, Option.isNone_none, u8_id]
  rfl
theorem index1_ok (l : List UInt8) (c : UInt8) : ACalls Tryz.prog 155 [.p (.str l), .p (.str [c])] [] fun h r => h = [] ∧ r = .p (.int .i64 (Lib.indexByte l c)) := by
  refine ACalls_X Tryz.func155 rfl enters155 (by simp [Tryz.f155]) ?_
  cases he : decide ([c] = l)
  · simp only [go_sem, ↓reduceIte, Nat.reduceLT, Nat.reduceLeDiff, Nat.reduceEqDiff, Nat.reduceAdd, Nat.reduceMul, Nat.reduceSub, reduceCtorEq, Int.reduceLT, Int.reduceLE, Int.reduceEq, Int.reduceToNat, decide_true, decide_false, Int.reduceNeg, Int.cast_ofNat_Int, sg, AO.sg, Option.isNone_none, he, List.getD_cons_zero]
    refine Cc_of (?_ : ACalls Tryz.prog 178 _ _ fun h r => h = [] ∧ r = .p (.int .i64 (Lib.indexByte l c))) ?_
    · refine ACalls_X Tryz.func178 rfl enters178 (by simp [Tryz.f178]) ?_
      simp only [go_sem, ↓reduceIte, Nat.reduceLT, Nat.reduceLeDiff, Nat.reduceEqDiff, Nat.reduceAdd, Nat.reduceMul, Nat.reduceSub, reduceCtorEq, Int.reduceLT, Int.reduceLE, Int.reduceEq, Int.reduceToNat, decide_true, decide_false, Int.reduceNeg, Int.cast_ofNat_Int, sg, AO.sg, Option.isNone_none]
      refine Cc_of (idxb_ok l c.toNat) ?_
      rintro h' r ⟨rfl, rfl⟩
      simp only [go_sem, ↓reduceIte, Nat.reduceLT, Nat.reduceLeDiff, Nat.reduceEqDiff, Nat.reduceAdd, Nat.reduceMul, Nat.reduceSub, reduceCtorEq, Int.reduceLT, Int.reduceLE, Int.reduceEq, Int.reduceToNat, decide_true, decide_false, Int.reduceNeg, Int.cast_ofNat_Int, sg, AO.sg, Option.isNone_none, u8_id]
    · rintro h' r ⟨rfl, rfl⟩
      simp only [go_sem, ↓reduceIte, Nat.reduceLT, Nat.reduceLeDiff, Nat.reduceEqDiff, Nat.reduceAdd, Nat.reduceMul, Nat.reduceSub, reduceCtorEq, Int.reduceLT, Int.reduceLE, Int.reduceEq, Int.reduceToNat, decide_true, decide_false, Int.reduceNeg, Int.cast_ofNat_Int, sg, AO.sg, Option.isNone_none]
  · simp only [go_sem, ↓reduceIte, Nat.reduceLT, Nat.reduceLeDiff, Nat.reduceEqDiff, Nat.reduceAdd, Nat.reduceMul, Nat.reduceSub, reduceCtorEq, Int.reduceLT, Int.reduceLE, Int.reduceEq, Int.reduceToNat, decide_true, decide_false, Int.reduceNeg, Int.cast_ofNat_Int, sg, AO.sg, Option.isNone_none, he]
    have : l = [c] := by simpa using (of_decide_eq_true he).symm
    subst this
    simp [Lib.indexByte]
theorem index_ok (l : List UInt8) (c : UInt8) : ACalls Tryz.prog 124 [.p (.str l), .p (.str [c])] [] fun h r => h = [] ∧ r = .p (.int .i64 (Lib.indexByte l c)) := by
  refine ACalls_X Tryz.func124 rfl enters124 (by simp [Tryz.f124]) ?_
  simp only [go_sem, ↓reduceIte, Nat.reduceLT, Nat.reduceLeDiff, Nat.reduceEqDiff, Nat.reduceAdd, Nat.reduceMul, Nat.reduceSub, reduceCtorEq, Int.reduceLT, Int.reduceLE, Int.reduceEq, Int.reduceToNat, decide_true, decide_false, Int.reduceNeg, Int.cast_ofNat_Int, sg, AO.sg, Option.isNone_none]
  refine Cc_of (index1_ok l c) ?_
  rintro h' r ⟨rfl, rfl⟩
  simp only [go_sem, ↓reduceIte, Nat.reduceLT, Nat.reduceLeDiff, Nat.reduceEqDiff, Nat.reduceAdd, Nat.reduceMul, Nat.reduceSub, reduceCtorEq, Int.reduceLT, Int.reduceLE, Int.reduceEq, Int.reduceToNat, decide_true, decide_false, Int.reduceNeg, Int.cast_ofNat_Int, sg, AO.sg, Option.isNone_none]
theorem set_rep (a r : List (List UInt8)) (y x : List UInt8) : (a ++ y :: r).set a.length x = (a ++ [x]) ++ r := by
  rw [List.set_append_right _ _ (Nat.le_refl _), Nat.sub_self, List.set_cons_zero, List.append_assoc]; rfl
theorem encS_rep (n : Nat) : encS (List.replicate n []) = List.replicate n [.str []] := by simp [encS]
theorem gensplit_ok (l : List UInt8) (c : UInt8) (hl : l.length ≤ 100000000) : ACalls Tryz.prog 83 [.p (.str l), .p (.str [c]), .p (.int .i64 0), .p (.int .i64 (-1))] [] fun h r => h = [(0, .arr 9 1 (encS (splitL c l)))] ∧ r = .ref 0 0 (splitL c l).length (splitL c l).length := by
  refine ACalls_X Tryz.func83 rfl enters83 (by simp [Tryz.f83]) ?_
  have hn := splitL_len c l
  have hc : l.count c ≤ l.length := List.count_le_length
  have w1 : IntKind.i64.wrap ((l.count c : Nat) + 1) = (((splitL c l).length : Nat) : Int) := by rw [hn, wrap_i64_id] <;> omega
  have w2 : IntKind.i64.wrap ((l.length : Int) + 1) = (l.length : Int) + 1 := by rw [wrap_i64_id] <;> omega
  have w3 : ¬ (l.length : Int) + 1 < (((splitL c l).length : Nat) : Int) := by omega
  have w4 : IntKind.i64.wrap ((((splitL c l).length : Nat) : Int) - 1) = ((l.count c : Nat) : Int) := by rw [hn, wrap_i64_id] <;> omega
  simp only [go_sem, ↓reduceIte, Nat.reduceLT, Nat.reduceLeDiff, Nat.reduceEqDiff, Nat.reduceAdd, Nat.reduceMul, Nat.reduceSub, reduceCtorEq, Int.reduceLT, Int.reduceLE, Int.reduceEq, Int.reduceToNat, decide_true, decide_false, Int.reduceNeg, Int.cast_ofNat_Int, sg, AO.sg, Option.isNone_none]
  refine Cc_of (count_ok l c) ?_
  rintro h' r ⟨rfl, rfl⟩
  simp only [go_sem, ↓reduceIte, Nat.reduceLT, Nat.reduceLeDiff, Nat.reduceEqDiff, Nat.reduceAdd, Nat.reduceMul, Nat.reduceSub, reduceCtorEq, Int.reduceLT, Int.reduceLE, Int.reduceEq, Int.reduceToNat, decide_true, decide_false, Int.reduceNeg, Int.cast_ofNat_Int, sg, AO.sg, Option.isNone_none, w1, w2, w3, w4, Int.toNat_natCast]
  refine ⟨by omega, ?_⟩
  generalize hS : splitL c l = S at *
  refine X_loop_inv (fun q : List (List UInt8) × List UInt8 => ⟨[(0, .p (.str q.2)), (1, .p (.str [c])), (2, .p (.int .i64 0)), (3, .p (.int .i64 (l.count c : Nat))), (9, .ref 31 0 S.length S.length), (10, .p (.int .i64 (q.1.length : Nat)))], [(31, .arr 9 1 (encS (q.1 ++ List.replicate (S.length - q.1.length) [])))], 66⟩)
    (fun q => S = q.1 ++ splitL c q.2 ∧ q.2.length ≤ l.length) (fun q => S.length - q.1.length) ([], l) ⟨by simp [hS], by simp⟩ (Wk.forget (by simp [Le, LeE, LeH, get, envIds, hpIds, KeepH, D.ids, idsL, AO.ids, setL, base, encS_rep])) ?_
  rintro ⟨a, t⟩ n ⟨he, ht⟩ ih
  simp only at he ht
  have hln := congrArg List.length he
  rw [List.length_append, splitL_len] at hln
  simp only [go_sem, ↓reduceIte, Nat.reduceLT, Nat.reduceLeDiff, Nat.reduceEqDiff, Nat.reduceAdd, Nat.reduceMul, Nat.reduceSub, reduceCtorEq, Int.reduceLT, Int.reduceLE, Int.reduceEq, Int.reduceToNat, decide_true, decide_false, Int.reduceNeg, Int.cast_ofNat_Int, sg, AO.sg, Option.isNone_none]
  refine Cn_split (fun h2 => ?_) (fun h2 => ?_)
  · have hlt : a.length < l.count c := by simp at h2; omega
    simp only [go_sem, ↓reduceIte, Nat.reduceLT, Nat.reduceLeDiff, Nat.reduceEqDiff, Nat.reduceAdd, Nat.reduceMul, Nat.reduceSub, reduceCtorEq, Int.reduceLT, Int.reduceLE, Int.reduceEq, Int.reduceToNat, decide_true, decide_false, Int.reduceNeg, Int.cast_ofNat_Int, sg, AO.sg, Option.isNone_none]
    refine Cc_of (index_ok t c) ?_
    rintro h' r ⟨rfl, rfl⟩
    rcases indexByte_spec c t with ⟨h3, h4⟩ | ⟨m, h3, h4, h5⟩
    · rw [h4] at he
      have := congrArg List.length he
      simp at this; omega
    · have c1 : ¬ (m : Int) < 0 := by omega
      have w5 : IntKind.i64.wrap ((m : Int) + 0) = (m : Int) := by rw [wrap_i64_id] <;> omega
      have w6 : IntKind.i64.wrap ((m : Int) + 1) = ((m + 1 : Nat) : Int) := by rw [wrap_i64_id] <;> omega
      have w7 := wrap_succ a.length (by omega)
      have hm1 : (0 : Int) ≤ (m : Int) ∧ (m : Int) ≤ (t.length : Int) := by omega
      have hm2 : (0 : Int) ≤ ((m + 1 : Nat) : Int) ∧ ((m + 1 : Nat) : Int) ≤ (t.length : Int) := by omega
      have ha : (0 : Int) ≤ (a.length : Int) ∧ (a.length : Int) < (S.length : Int) := by omega
      obtain ⟨k, hk⟩ : ∃ k, S.length - a.length = k + 1 := ⟨S.length - a.length - 1, by omega⟩
      have hk2 : S.length - (a.length + 1) = k := by omega
      have hlen : S.length = (a ++ [] :: List.replicate k ([] : List UInt8)).length := by simp; omega
      have hg := encS_get (a ++ [] :: List.replicate k ([] : List UInt8)) a.length (by rw [← hlen]; omega)
      simp only [go_sem, ↓reduceIte, Nat.reduceLT, Nat.reduceLeDiff, Nat.reduceEqDiff, Nat.reduceAdd, Nat.reduceMul, Nat.reduceSub, reduceCtorEq, Int.reduceLT, Int.reduceLE, Int.reduceEq, Int.reduceToNat, decide_true, decide_false, Int.reduceNeg, Int.cast_ofNat_Int, sg, AO.sg, Option.isNone_none, h3, c1, hk, w5, w6, w7, Int.toNat_natCast, encS_len, hm1, hm2, ha, hg, Int.le_refl, List.drop_zero, List.take_length]
      refine ⟨hlen, hlen, ?_⟩
      rw [← encS_set, set_rep]
      refine ih (a ++ [t.take m], t.drop (m + 1)) _ ⟨by rw [he, h5]; simp, by simp; omega⟩ (by simp; omega) ?_
      (refine Wk.forget ?_; simp [Le, LeE, LeH, get, envIds, hpIds, KeepH, D.ids, idsL, AO.ids, setL, base, hk2]; done)
  · have hlt : a.length = l.count c := by simp at h2; omega
    have hS1 : S.length - a.length = 1 := by omega
    rcases indexByte_spec c t with ⟨h3, h4⟩ | ⟨m, h3, h4, h5⟩
    · have w7 : IntKind.i64.wrap ((a.length : Int) + 1) = ((S.length : Nat) : Int) := by rw [wrap_i64_id] <;> omega
      have ha : (0 : Int) ≤ (a.length : Int) ∧ (a.length : Int) < (S.length : Int) := by omega
      have hlen : S.length = (a ++ [([] : List UInt8)]).length := by simp; omega
      have hg := encS_get (a ++ [([] : List UInt8)]) a.length (by rw [← hlen]; omega)
      have hfin : S = a ++ [t] := by rw [he, h4]
      have hS0 : (0 : Int) ≤ (S.length : Int) := by omega
      simp only [go_sem, ↓reduceIte, Nat.reduceLT, Nat.reduceLeDiff, Nat.reduceEqDiff, Nat.reduceAdd, Nat.reduceMul, Nat.reduceSub, reduceCtorEq, Int.reduceLT, Int.reduceLE, Int.reduceEq, Int.reduceToNat, decide_true, decide_false, Int.reduceNeg, Int.cast_ofNat_Int, sg, AO.sg, Option.isNone_none, hS1, w7, Int.toNat_natCast, encS_len, ha, hg, Int.le_refl, ← encS_set, set_rep, List.length_set, hS0, Int.sub_zero]
      refine ⟨hlen, hlen, by rw [hfin], end_own ?_⟩
      simp only [go_sem, ↓reduceIte, Nat.reduceLT, Nat.reduceLeDiff, Nat.reduceEqDiff, Nat.reduceAdd, Nat.reduceMul, Nat.reduceSub, reduceCtorEq, Int.reduceLT, Int.reduceLE, Int.reduceEq, Int.reduceToNat, decide_true, decide_false, Int.reduceNeg, Int.cast_ofNat_Int, sg, AO.sg, Option.isNone_none]
      rw [hfin]
    · rw [h5] at he
      have h6 := splitL_len c (t.drop (m + 1))
      have := congrArg List.length he
      simp at this; omega
theorem split_ok (l : List UInt8) (c : UInt8) (hl : l.length ≤ 100000000) : ACalls Tryz.prog 40 [.p (.str l), .p (.str [c])] [] fun h r => h = [(0, .arr 9 1 (encS (splitL c l)))] ∧ r = .ref 0 0 (splitL c l).length (splitL c l).length := by
  refine ACalls_X Tryz.func40 rfl enters40 (by simp [Tryz.f40]) ?_
  simp only [go_sem, ↓reduceIte, Nat.reduceLT, Nat.reduceLeDiff, Nat.reduceEqDiff, Nat.reduceAdd, Nat.reduceMul, Nat.reduceSub, reduceCtorEq, Int.reduceLT, Int.reduceLE, Int.reduceEq, Int.reduceToNat, decide_true, decide_false, Int.reduceNeg, Int.cast_ofNat_Int, sg, AO.sg, Option.isNone_none]
  refine Cc_of (gensplit_ok l c hl) ?_
  rintro h' r ⟨rfl, rfl⟩
  simp only [go_sem, ↓reduceIte, Nat.reduceLT, Nat.reduceLeDiff, Nat.reduceEqDiff, Nat.reduceAdd, Nat.reduceMul, Nat.reduceSub, reduceCtorEq, Int.reduceLT, Int.reduceLE, Int.reduceEq, Int.reduceToNat, decide_true, decide_false, Int.reduceNeg, Int.cast_ofNat_Int, sg, AO.sg, Option.isNone_none]
  refine end_own ?_
  simp only [go_sem, ↓reduceIte, Nat.reduceLT, Nat.reduceLeDiff, Nat.reduceEqDiff, Nat.reduceAdd, Nat.reduceMul, Nat.reduceSub, reduceCtorEq, Int.reduceLT, Int.reduceLE, Int.reduceEq, Int.reduceToNat, decide_true, decide_false, Int.reduceNeg, Int.cast_ofNat_Int, sg, AO.sg, Option.isNone_none]
end Go.Am
end

section
/- fields.cut. -/
namespace Go.Am
open Go Go.Proofs
set_option maxRecDepth 100000
set_option linter.unusedVariables false
set_option linter.unusedSimpArgs false
def allB (c : Int) : Bool := decide (32 < c) && (decide (c ≤ 126) && !decide (c = 35))
theorem allowed1_ok (c : Int) : ACalls Tryz.prog 77 [.p (.int .u8 c)] [] fun h r => h = [] ∧ r = .p (.bool (allB c)) := by
  refine ACalls_X Tryz.func77 rfl enters77 (by simp [Tryz.f77]) ?_
  by_cases h1 : 32 < c
  · by_cases h2 : c ≤ 126
    · simp only [go_sem, ↓reduceIte, Nat.reduceLT, Nat.reduceLeDiff, Nat.reduceEqDiff, Nat.reduceAdd, Nat.reduceMul, Nat.reduceSub, reduceCtorEq, Int.reduceLT, Int.reduceLE, Int.reduceEq, Int.reduceToNat, decide_true, decide_false, Int.reduceNeg, Int.cast_ofNat_Int, sg, AO.sg, Option.isNone_none, h1, h2]
      simp [allB, h1, h2]
    · simp only [go_sem, ↓reduceIte, Nat.reduceLT, Nat.reduceLeDiff, Nat.reduceEqDiff, Nat.reduceAdd, Nat.reduceMul, Nat.reduceSub, reduceCtorEq, Int.reduceLT, Int.reduceLE, Int.reduceEq, Int.reduceToNat, decide_true, decide_false, Int.reduceNeg, Int.cast_ofNat_Int, sg, AO.sg, Option.isNone_none, h1, h2]
      simp [allB, h1, h2]
  · simp only [go_sem, ↓reduceIte, Nat.reduceLT, Nat.reduceLeDiff, Nat.reduceEqDiff, Nat.reduceAdd, Nat.reduceMul, Nat.reduceSub, reduceCtorEq, Int.reduceLT, Int.reduceLE, Int.reduceEq, Int.reduceToNat, decide_true, decide_false, Int.reduceNeg, Int.cast_ofNat_Int, sg, AO.sg, Option.isNone_none, h1]
    simp [allB, h1]
/-- The fields of a line: what is read of the present field, and the fields before it. -/
def fld : List UInt8 → Option (List UInt8) → List (List UInt8) → List (List UInt8) × Int
  | [], none, acc => (acc, 0)
  | [], some cur, acc => (acc ++ [cur], 0)
  | b :: r, c, acc =>
    if (b.toNat : Int) = 35 then (acc ++ c.toList, 0)
    else if (b.toNat : Int) = 32 ∨ (b.toNat : Int) = 9 then fld r none (acc ++ c.toList)
    else if allB b.toNat then (if (c.getD []).length = 12 then ([], 3) else fld r (some (c.getD [] ++ [b])) acc)
    else ([], 2)
theorem fld_start (b : UInt8) (r : List UInt8) (acc : List (List UInt8)) (h1 : ¬ (b.toNat : Int) = 35) (h2 : ¬ (b.toNat : Int) = 32) (h3 : ¬ (b.toNat : Int) = 9) : fld (b :: r) none acc = fld (b :: r) (some []) acc := by
  simp [fld, h1, h2, h3]
theorem fld_flush (t : List UInt8) (cur : List UInt8) (acc : List (List UInt8)) (h : ∀ b r, t = b :: r → (b.toNat : Int) = 35 ∨ (b.toNat : Int) = 32 ∨ (b.toNat : Int) = 9) : fld t (some cur) acc = fld t none (acc ++ [cur]) := by
  cases t with
  | nil => simp [fld]
  | cons b r =>
    rcases h b r rfl with h | h | h <;> simp [fld, h]
theorem cut1_ok (s : List UInt8) (hs : s.length ≤ 100000000) : ACalls Tryz.prog 41 [.p (.str s)] [] fun h r => h = [] ∧ r = .tup [.p (.sl (encS (fld s none []).1)), .p (.int .i64 (fld s none []).2)] := by
  refine ACalls_X Tryz.func41 rfl enters41 (by simp [Tryz.f41]) ?_
  simp only [go_sem, ↓reduceIte, Nat.reduceLT, Nat.reduceLeDiff, Nat.reduceEqDiff, Nat.reduceAdd, Nat.reduceMul, Nat.reduceSub, reduceCtorEq, Int.reduceLT, Int.reduceLE, Int.reduceEq, Int.reduceToNat, decide_true, decide_false, Int.reduceNeg, Int.cast_ofNat_Int, sg, AO.sg, Option.isNone_none]
  refine X_scope_inv (fun q : Bool × Nat × Nat × List (List UInt8) => if q.1 then 1 else 0)
    (fun q => ⟨[(0, .p (.str s)), (2, .cl []), (4, .ref 59 0 q.2.2.2.length q.2.2.2.length), (5, .p (.int .i64 (q.2.1 : Nat))), (6, .p (.int .i64 (q.2.2.1 : Nat)))], [(59, .arr 9 1 (encS q.2.2.2))], 71⟩)
    (fun q => q.2.2.1 ≤ q.2.1 ∧ q.2.1 ≤ s.length ∧ (q.1 = true → q.2.1 ≤ q.2.2.1 + 12 ∧ q.2.2.1 < q.2.1 ∧ q.2.2.2.length ≤ q.2.2.1) ∧ q.2.2.2.length ≤ q.2.1 ∧ fld (s.drop q.2.1) (if q.1 then some ((s.take q.2.1).drop q.2.2.1) else none) q.2.2.2 = fld s none [])
    (fun q => 2 * (s.length - q.2.1) + (if q.1 then 1 else 0)) (2 * s.length + 2) ?_ ?_
  · intro n ih
    simp only [go_sem, ↓reduceIte, Nat.reduceLT, Nat.reduceLeDiff, Nat.reduceEqDiff, Nat.reduceAdd, Nat.reduceMul, Nat.reduceSub, reduceCtorEq, Int.reduceLT, Int.reduceLE, Int.reduceEq, Int.reduceToNat, decide_true, decide_false, Int.reduceNeg, Int.cast_ofNat_Int, sg, AO.sg, Option.isNone_none]
    cases hend : decide ((0 : Int) = (s.length : Int))
    rotate_left
    · have hend' : 0 = s.length := by have := of_decide_eq_true hend; omega
      simp only [go_sem, ↓reduceIte, Nat.reduceLT, Nat.reduceLeDiff, Nat.reduceEqDiff, Nat.reduceAdd, Nat.reduceMul, Nat.reduceSub, reduceCtorEq, Int.reduceLT, Int.reduceLE, Int.reduceEq, Int.reduceToNat, decide_true, decide_false, Int.reduceNeg, Int.cast_ofNat_Int, sg, AO.sg, Option.isNone_none, hend]
      refine end_pure ?_
      simp only [go_sem, ↓reduceIte, Nat.reduceLT, Nat.reduceLeDiff, Nat.reduceEqDiff, Nat.reduceAdd, Nat.reduceMul, Nat.reduceSub, reduceCtorEq, Int.reduceLT, Int.reduceLE, Int.reduceEq, Int.reduceToNat, decide_true, decide_false, Int.reduceNeg, Int.cast_ofNat_Int, sg, AO.sg, Option.isNone_none]
      rw [List.eq_nil_of_length_eq_zero hend'.symm]
      simp [fld, encS]
    have hlt : 0 < s.length := by have := of_decide_eq_false hend; omega
    have hdrop : s = s.getD 0 0 :: s.drop 1 := by have := drop_getD s 0 0 hlt; simpa using this
    have he : fld (s.getD 0 0 :: s.drop 1) none [] = fld s none [] := by rw [← hdrop]
    have hil : (0 : Int) < (s.length : Int) := by omega
    have hi0 : (0 : Int) ≤ (0 : Int) := by omega
    have hw : IntKind.i64.wrap ((0 : Int) + 1) = (((0 + 1 : Nat)) : Int) := by rw [wrap_i64_id] <;> omega
    have hw0 : IntKind.i64.wrap ((0 : Int) - 0) = 0 := by rw [Int.sub_self]; rfl
    have htk : (s.take (0 + 1)).drop 0 = [s.getD 0 0] := by rw [List.drop_take, drop_getD s _ 0 hlt]; simp
    generalize hb : s.getD 0 0 = b at *
    generalize hc : (b.toNat : Int) = c at *
    cases h35 : decide (c = 35)
    rotate_left
    · simp only [go_sem, ↓reduceIte, Nat.reduceLT, Nat.reduceLeDiff, Nat.reduceEqDiff, Nat.reduceAdd, Nat.reduceMul, Nat.reduceSub, reduceCtorEq, Int.reduceLT, Int.reduceLE, Int.reduceEq, Int.reduceToNat, decide_true, decide_false, Int.reduceNeg, Int.cast_ofNat_Int, sg, AO.sg, Option.isNone_none, Int.toNat_natCast, hend, hil, hi0, hb, hc, h35, Int.reduceToNat, Nat.reduceAdd]
      refine end_pure ?_
      simp only [go_sem, ↓reduceIte, Nat.reduceLT, Nat.reduceLeDiff, Nat.reduceEqDiff, Nat.reduceAdd, Nat.reduceMul, Nat.reduceSub, reduceCtorEq, Int.reduceLT, Int.reduceLE, Int.reduceEq, Int.reduceToNat, decide_true, decide_false, Int.reduceNeg, Int.cast_ofNat_Int, sg, AO.sg, Option.isNone_none]
      have := of_decide_eq_true h35
      rw [← he]
      simp [fld, hc, this, encS_len, encS_take, encS]
    have h35' := of_decide_eq_false h35
    cases h32 : decide (c = 32)
    · cases h9 : decide (c = 9)
      · have h32' := of_decide_eq_false h32
        have h9' := of_decide_eq_false h9
        simp only [go_sem, ↓reduceIte, Nat.reduceLT, Nat.reduceLeDiff, Nat.reduceEqDiff, Nat.reduceAdd, Nat.reduceMul, Nat.reduceSub, reduceCtorEq, Int.reduceLT, Int.reduceLE, Int.reduceEq, Int.reduceToNat, decide_true, decide_false, Int.reduceNeg, Int.cast_ofNat_Int, sg, AO.sg, Option.isNone_none, Int.toNat_natCast, hend, hil, hi0, hb, hc, h35, h32, h9]
        refine Cc_of (allowed1_ok c) ?_
        rintro h' r ⟨rfl, rfl⟩
        cases hal : allB c
        · simp only [go_sem, ↓reduceIte, Nat.reduceLT, Nat.reduceLeDiff, Nat.reduceEqDiff, Nat.reduceAdd, Nat.reduceMul, Nat.reduceSub, reduceCtorEq, Int.reduceLT, Int.reduceLE, Int.reduceEq, Int.reduceToNat, decide_true, decide_false, Int.reduceNeg, Int.cast_ofNat_Int, sg, AO.sg, Option.isNone_none, hal]
          refine end_pure ?_
          simp only [go_sem, ↓reduceIte, Nat.reduceLT, Nat.reduceLeDiff, Nat.reduceEqDiff, Nat.reduceAdd, Nat.reduceMul, Nat.reduceSub, reduceCtorEq, Int.reduceLT, Int.reduceLE, Int.reduceEq, Int.reduceToNat, decide_true, decide_false, Int.reduceNeg, Int.cast_ofNat_Int, sg, AO.sg, Option.isNone_none]
          rw [← he]
          simp [fld, hc, h35', h32', h9', hal, encS]
        · simp only [go_sem, ↓reduceIte, Nat.reduceLT, Nat.reduceLeDiff, Nat.reduceEqDiff, Nat.reduceAdd, Nat.reduceMul, Nat.reduceSub, reduceCtorEq, Int.reduceLT, Int.reduceLE, Int.reduceEq, Int.reduceToNat, decide_true, decide_false, Int.reduceNeg, Int.cast_ofNat_Int, sg, AO.sg, Option.isNone_none, hal, hw, hw0]
          refine ih (true, 0 + 1, 0, []) _ ⟨by simp only; omega, by simp only; omega, (fun _ => by simp only [List.length_nil]; omega), by simp only [List.length_nil]; omega, ?_⟩ (by simp only [if_true]; omega) ?_
          · rw [← he]
            simp only [if_true, htk]
            simp [fld, hc, h35', h32', h9', hal]
          · exact (Wk.nil (t := 4) (q := 59) (sz := 1) 9 rfl rfl (by decide)).trans (Wk.forget (by simp [Le, LeE, LeH, get, envIds, hpIds, KeepH, D.ids, idsL, AO.ids, setL, base, encS]))
      · have h9' := of_decide_eq_true h9
        simp only [go_sem, ↓reduceIte, Nat.reduceLT, Nat.reduceLeDiff, Nat.reduceEqDiff, Nat.reduceAdd, Nat.reduceMul, Nat.reduceSub, reduceCtorEq, Int.reduceLT, Int.reduceLE, Int.reduceEq, Int.reduceToNat, decide_true, decide_false, Int.reduceNeg, Int.cast_ofNat_Int, sg, AO.sg, Option.isNone_none, Int.toNat_natCast, hend, hil, hi0, hb, hc, h35, h32, h9, hw]
        refine ih (false, 0 + 1, 0, []) _ ⟨by simp only; omega, by simp only; omega, (fun h => by cases h), by simp only [List.length_nil]; omega, ?_⟩ (by simp; omega) ?_
        · rw [← he]
          simp [fld, hc, h9']
        · exact (Wk.nil (t := 4) (q := 59) (sz := 1) 9 rfl rfl (by decide)).trans (Wk.forget (by simp [Le, LeE, LeH, get, envIds, hpIds, KeepH, D.ids, idsL, AO.ids, setL, base, encS]))
    · have h32' := of_decide_eq_true h32
      simp only [go_sem, ↓reduceIte, Nat.reduceLT, Nat.reduceLeDiff, Nat.reduceEqDiff, Nat.reduceAdd, Nat.reduceMul, Nat.reduceSub, reduceCtorEq, Int.reduceLT, Int.reduceLE, Int.reduceEq, Int.reduceToNat, decide_true, decide_false, Int.reduceNeg, Int.cast_ofNat_Int, sg, AO.sg, Option.isNone_none, Int.toNat_natCast, hend, hil, hi0, hb, hc, h35, h32, hw]
      refine ih (false, 0 + 1, 0, []) _ ⟨by simp only; omega, by simp only; omega, (fun h => by cases h), by simp only [List.length_nil]; omega, ?_⟩ (by simp; omega) ?_
      · rw [← he]
        simp [fld, hc, h32']
      · exact (Wk.nil (t := 4) (q := 59) (sz := 1) 9 rfl rfl (by decide)).trans (Wk.forget (by simp [Le, LeE, LeH, get, envIds, hpIds, KeepH, D.ids, idsL, AO.ids, setL, base, encS]))
  · rintro ⟨lab, at_, bg, acc⟩ n ⟨hbg, hat, h12, hacc, he⟩ ih
    simp only at hbg hat h12 hacc he
    cases lab
    · simp only [Bool.false_eq_true, if_false] at he
      refine ⟨_, rfl, ?_⟩
      simp only [go_sem, ↓reduceIte, Nat.reduceLT, Nat.reduceLeDiff, Nat.reduceEqDiff, Nat.reduceAdd, Nat.reduceMul, Nat.reduceSub, reduceCtorEq, Int.reduceLT, Int.reduceLE, Int.reduceEq, Int.reduceToNat, decide_true, decide_false, Int.reduceNeg, Int.cast_ofNat_Int, sg, AO.sg, Option.isNone_none]
      cases hend : decide ((at_ : Int) = (s.length : Int))
      rotate_left
      · have hend' : at_ = s.length := by have := of_decide_eq_true hend; omega
        simp only [go_sem, ↓reduceIte, Nat.reduceLT, Nat.reduceLeDiff, Nat.reduceEqDiff, Nat.reduceAdd, Nat.reduceMul, Nat.reduceSub, reduceCtorEq, Int.reduceLT, Int.reduceLE, Int.reduceEq, Int.reduceToNat, decide_true, decide_false, Int.reduceNeg, Int.cast_ofNat_Int, sg, AO.sg, Option.isNone_none, hend]
        refine end_pure ?_
        simp only [go_sem, ↓reduceIte, Nat.reduceLT, Nat.reduceLeDiff, Nat.reduceEqDiff, Nat.reduceAdd, Nat.reduceMul, Nat.reduceSub, reduceCtorEq, Int.reduceLT, Int.reduceLE, Int.reduceEq, Int.reduceToNat, decide_true, decide_false, Int.reduceNeg, Int.cast_ofNat_Int, sg, AO.sg, Option.isNone_none]
        rw [← he, List.drop_of_length_le (by omega)]
        simp [fld, encS_len, encS_take]
      have hlt : at_ < s.length := by have := of_decide_eq_false hend; omega
      rw [drop_getD s at_ 0 hlt] at he
      have hil : (at_ : Int) < (s.length : Int) := by omega
      have hi0 : (0 : Int) ≤ (at_ : Int) := by omega
      have hw : IntKind.i64.wrap ((at_ : Int) + 1) = (((at_ + 1 : Nat)) : Int) := by rw [wrap_i64_id] <;> omega
      have hw0 : IntKind.i64.wrap ((at_ : Int) - at_) = 0 := by rw [Int.sub_self]; rfl
      have htk : (s.take (at_ + 1)).drop at_ = [s.getD at_ 0] := by rw [List.drop_take, drop_getD s _ 0 hlt]; simp
      generalize hb : s.getD at_ 0 = b at *
      generalize hc : (b.toNat : Int) = c at *
      cases h35 : decide (c = 35)
      rotate_left
      · simp only [go_sem, ↓reduceIte, Nat.reduceLT, Nat.reduceLeDiff, Nat.reduceEqDiff, Nat.reduceAdd, Nat.reduceMul, Nat.reduceSub, reduceCtorEq, Int.reduceLT, Int.reduceLE, Int.reduceEq, Int.reduceToNat, decide_true, decide_false, Int.reduceNeg, Int.cast_ofNat_Int, sg, AO.sg, Option.isNone_none, Int.toNat_natCast, hend, hil, hi0, hb, hc, h35]
        refine end_pure ?_
        simp only [go_sem, ↓reduceIte, Nat.reduceLT, Nat.reduceLeDiff, Nat.reduceEqDiff, Nat.reduceAdd, Nat.reduceMul, Nat.reduceSub, reduceCtorEq, Int.reduceLT, Int.reduceLE, Int.reduceEq, Int.reduceToNat, decide_true, decide_false, Int.reduceNeg, Int.cast_ofNat_Int, sg, AO.sg, Option.isNone_none]
        have := of_decide_eq_true h35
        rw [← he]
        simp [fld, hc, this, encS_len, encS_take]
      have h35' := of_decide_eq_false h35
      cases h32 : decide (c = 32)
      · cases h9 : decide (c = 9)
        · have h32' := of_decide_eq_false h32
          have h9' := of_decide_eq_false h9
          simp only [go_sem, ↓reduceIte, Nat.reduceLT, Nat.reduceLeDiff, Nat.reduceEqDiff, Nat.reduceAdd, Nat.reduceMul, Nat.reduceSub, reduceCtorEq, Int.reduceLT, Int.reduceLE, Int.reduceEq, Int.reduceToNat, decide_true, decide_false, Int.reduceNeg, Int.cast_ofNat_Int, sg, AO.sg, Option.isNone_none, Int.toNat_natCast, hend, hil, hi0, hb, hc, h35, h32, h9]
          refine Cc_of (allowed1_ok c) ?_
          rintro h' r ⟨rfl, rfl⟩
          cases hal : allB c
          · simp only [go_sem, ↓reduceIte, Nat.reduceLT, Nat.reduceLeDiff, Nat.reduceEqDiff, Nat.reduceAdd, Nat.reduceMul, Nat.reduceSub, reduceCtorEq, Int.reduceLT, Int.reduceLE, Int.reduceEq, Int.reduceToNat, decide_true, decide_false, Int.reduceNeg, Int.cast_ofNat_Int, sg, AO.sg, Option.isNone_none, hal]
            refine end_pure ?_
            simp only [go_sem, ↓reduceIte, Nat.reduceLT, Nat.reduceLeDiff, Nat.reduceEqDiff, Nat.reduceAdd, Nat.reduceMul, Nat.reduceSub, reduceCtorEq, Int.reduceLT, Int.reduceLE, Int.reduceEq, Int.reduceToNat, decide_true, decide_false, Int.reduceNeg, Int.cast_ofNat_Int, sg, AO.sg, Option.isNone_none]
            rw [← he]
            simp [fld, hc, h35', h32', h9', hal, encS]
          · simp only [go_sem, ↓reduceIte, Nat.reduceLT, Nat.reduceLeDiff, Nat.reduceEqDiff, Nat.reduceAdd, Nat.reduceMul, Nat.reduceSub, reduceCtorEq, Int.reduceLT, Int.reduceLE, Int.reduceEq, Int.reduceToNat, decide_true, decide_false, Int.reduceNeg, Int.cast_ofNat_Int, sg, AO.sg, Option.isNone_none, hal, hw, hw0]
            refine ih (true, at_ + 1, at_, acc) _ ⟨by simp only; omega, by simp only; omega, (fun _ => by simp only [List.length_nil]; omega), by simp only [List.length_nil]; omega, ?_⟩ (by simp only [if_true]; omega) ?_
            · rw [← he]
              simp only [if_true, htk]
              simp [fld, hc, h35', h32', h9', hal]
            · (refine Wk.forget ?_; simp [Le, LeE, LeH, get, envIds, hpIds, KeepH, D.ids, idsL, AO.ids, setL, base]; done)
        · have h9' := of_decide_eq_true h9
          simp only [go_sem, ↓reduceIte, Nat.reduceLT, Nat.reduceLeDiff, Nat.reduceEqDiff, Nat.reduceAdd, Nat.reduceMul, Nat.reduceSub, reduceCtorEq, Int.reduceLT, Int.reduceLE, Int.reduceEq, Int.reduceToNat, decide_true, decide_false, Int.reduceNeg, Int.cast_ofNat_Int, sg, AO.sg, Option.isNone_none, Int.toNat_natCast, hend, hil, hi0, hb, hc, h35, h32, h9, hw]
          refine ih (false, at_ + 1, bg, acc) _ ⟨by simp only; omega, by simp only; omega, (fun h => by cases h), by simp only [List.length_nil]; omega, ?_⟩ (by simp; omega) ?_
          · rw [← he]
            simp [fld, hc, h9']
          · (refine Wk.forget ?_; simp [Le, LeE, LeH, get, envIds, hpIds, KeepH, D.ids, idsL, AO.ids, setL, base]; done)
      · have h32' := of_decide_eq_true h32
        simp only [go_sem, ↓reduceIte, Nat.reduceLT, Nat.reduceLeDiff, Nat.reduceEqDiff, Nat.reduceAdd, Nat.reduceMul, Nat.reduceSub, reduceCtorEq, Int.reduceLT, Int.reduceLE, Int.reduceEq, Int.reduceToNat, decide_true, decide_false, Int.reduceNeg, Int.cast_ofNat_Int, sg, AO.sg, Option.isNone_none, Int.toNat_natCast, hend, hil, hi0, hb, hc, h35, h32, hw]
        refine ih (false, at_ + 1, bg, acc) _ ⟨by simp only; omega, by simp only; omega, (fun h => by cases h), by simp only [List.length_nil]; omega, ?_⟩ (by simp; omega) ?_
        · rw [← he]
          simp [fld, hc, h32']
        · (refine Wk.forget ?_; simp [Le, LeE, LeH, get, envIds, hpIds, KeepH, D.ids, idsL, AO.ids, setL, base]; done)
    · simp only [if_true] at he ih
      simp only [forall_const] at h12
      refine ⟨_, rfl, ?_⟩
      simp only [go_sem, ↓reduceIte, Nat.reduceLT, Nat.reduceLeDiff, Nat.reduceEqDiff, Nat.reduceAdd, Nat.reduceMul, Nat.reduceSub, reduceCtorEq, Int.reduceLT, Int.reduceLE, Int.reduceEq, Int.reduceToNat, decide_true, decide_false, Int.reduceNeg, Int.cast_ofNat_Int, sg, AO.sg, Option.isNone_none]
      have hbi : (0 : Int) ≤ (bg : Int) ∧ (bg : Int) ≤ (at_ : Int) ∧ (at_ : Int) ≤ (s.length : Int) := by omega
      have flush : (∀ b r, s.drop at_ = b :: r → (b.toNat : Int) = 35 ∨ (b.toNat : Int) = 32 ∨ (b.toNat : Int) = 9) → fld (s.drop at_) none (acc ++ [(s.take at_).drop bg]) = fld s none [] := by
        intro h
        rw [← fld_flush _ _ _ h]
        exact he
      cases hend : decide ((at_ : Int) = (s.length : Int))
      rotate_left
      · have hend' : at_ = s.length := by have := of_decide_eq_true hend; omega
        have hdn : s.drop at_ = [] := List.drop_of_length_le (by omega)
        simp only [go_sem, ↓reduceIte, Nat.reduceLT, Nat.reduceLeDiff, Nat.reduceEqDiff, Nat.reduceAdd, Nat.reduceMul, Nat.reduceSub, reduceCtorEq, Int.reduceLT, Int.reduceLE, Int.reduceEq, Int.reduceToNat, decide_true, decide_false, Int.reduceNeg, Int.cast_ofNat_Int, sg, AO.sg, Option.isNone_none, hend, Int.toNat_natCast, encS_len, hbi]
        refine ⟨⟨wid1 _ _ rfl, by omega⟩, ?_⟩
        refine ih (false, at_, bg, acc ++ [(s.take at_).drop bg]) _ ⟨hbg, hat, (fun h => by cases h), by have := h12.2.2; have := h12.2.1; simp; omega, ?_⟩ (by simp) ?_
        · simp only [Bool.false_eq_true, if_false]
          exact flush (fun b r h => by rw [hdn] at h; cases h)
        · (refine Wk.forget ?_; simp [Le, LeE, LeH, get, envIds, hpIds, KeepH, D.ids, idsL, AO.ids, setL, base, encS_snoc, encS_len]; done)
      have hlt : at_ < s.length := by have := of_decide_eq_false hend; omega
      have hd := drop_getD s at_ 0 hlt
      have hil : (at_ : Int) < (s.length : Int) := by omega
      have hi0 : (0 : Int) ≤ (at_ : Int) := by omega
      have hw : IntKind.i64.wrap ((at_ : Int) + 1) = ((at_ + 1 : Nat) : Int) := by rw [wrap_i64_id] <;> omega
      have hw0 : IntKind.i64.wrap ((at_ : Int) - bg) = ((at_ - bg : Nat) : Int) := by rw [wrap_i64_id] <;> omega
      have htk : (s.take (at_ + 1)).drop bg = (s.take at_).drop bg ++ [s.getD at_ 0] := by
        rw [List.take_succ_eq_append_getElem hlt, List.drop_append_of_le_length (by simp; omega)]
        simp [List.getD, hlt]
      have hcl : ((s.take at_).drop bg).length = at_ - bg := by simp; omega
      generalize hb : s.getD at_ 0 = b at *
      rw [hd] at he
      generalize hc : (b.toNat : Int) = c at *
      have sep : c = 35 ∨ c = 32 ∨ c = 9 → fld (s.drop at_) none (acc ++ [(s.take at_).drop bg]) = fld s none [] := by
        intro h
        refine flush fun b' r' h' => ?_
        rw [hd] at h'
        cases h'
        rw [hc]
        exact h
      cases h35 : decide (c = 35)
      · cases h32 : decide (c = 32)
        · cases h9 : decide (c = 9)
          · have h35' := of_decide_eq_false h35
            have h32' := of_decide_eq_false h32
            have h9' := of_decide_eq_false h9
            simp only [go_sem, ↓reduceIte, Nat.reduceLT, Nat.reduceLeDiff, Nat.reduceEqDiff, Nat.reduceAdd, Nat.reduceMul, Nat.reduceSub, reduceCtorEq, Int.reduceLT, Int.reduceLE, Int.reduceEq, Int.reduceToNat, decide_true, decide_false, Int.reduceNeg, Int.cast_ofNat_Int, sg, AO.sg, Option.isNone_none, Int.toNat_natCast, hend, hil, hi0, hb, hc, h35, h32, h9]
            refine Cc_of (allowed1_ok c) ?_
            rintro h' r ⟨rfl, rfl⟩
            cases hal : allB c
            · simp only [go_sem, ↓reduceIte, Nat.reduceLT, Nat.reduceLeDiff, Nat.reduceEqDiff, Nat.reduceAdd, Nat.reduceMul, Nat.reduceSub, reduceCtorEq, Int.reduceLT, Int.reduceLE, Int.reduceEq, Int.reduceToNat, decide_true, decide_false, Int.reduceNeg, Int.cast_ofNat_Int, sg, AO.sg, Option.isNone_none, hal]
              refine end_pure ?_
              simp only [go_sem, ↓reduceIte, Nat.reduceLT, Nat.reduceLeDiff, Nat.reduceEqDiff, Nat.reduceAdd, Nat.reduceMul, Nat.reduceSub, reduceCtorEq, Int.reduceLT, Int.reduceLE, Int.reduceEq, Int.reduceToNat, decide_true, decide_false, Int.reduceNeg, Int.cast_ofNat_Int, sg, AO.sg, Option.isNone_none]
              rw [← he]
              simp [fld, hc, h35', h32', h9', hal, encS]
            · cases h12d : decide (((at_ - bg : Nat) : Int) = 12)
              · have h12' : ¬ at_ - bg = 12 := by have := of_decide_eq_false h12d; omega
                simp only [go_sem, ↓reduceIte, Nat.reduceLT, Nat.reduceLeDiff, Nat.reduceEqDiff, Nat.reduceAdd, Nat.reduceMul, Nat.reduceSub, reduceCtorEq, Int.reduceLT, Int.reduceLE, Int.reduceEq, Int.reduceToNat, decide_true, decide_false, Int.reduceNeg, Int.cast_ofNat_Int, sg, AO.sg, Option.isNone_none, hal, hw, hw0, h12d]
                refine ih (true, at_ + 1, bg, acc) _ ⟨by simp only; omega, by simp only; omega, (fun _ => by simp only; omega), by simp only; omega, ?_⟩ (by simp only [if_true]; omega) ?_
                · rw [← he]
                  simp only [if_true, htk]
                  simp [fld, hc, h35', h32', h9', hal, hcl, h12']
                · (refine Wk.forget ?_; simp [Le, LeE, LeH, get, envIds, hpIds, KeepH, D.ids, idsL, AO.ids, setL, base]; done)
              · have h12' : at_ - bg = 12 := by have := of_decide_eq_true h12d; omega
                simp only [go_sem, ↓reduceIte, Nat.reduceLT, Nat.reduceLeDiff, Nat.reduceEqDiff, Nat.reduceAdd, Nat.reduceMul, Nat.reduceSub, reduceCtorEq, Int.reduceLT, Int.reduceLE, Int.reduceEq, Int.reduceToNat, decide_true, decide_false, Int.reduceNeg, Int.cast_ofNat_Int, sg, AO.sg, Option.isNone_none, hal, hw, hw0, h12d]
                refine end_pure ?_
                simp only [go_sem, ↓reduceIte, Nat.reduceLT, Nat.reduceLeDiff, Nat.reduceEqDiff, Nat.reduceAdd, Nat.reduceMul, Nat.reduceSub, reduceCtorEq, Int.reduceLT, Int.reduceLE, Int.reduceEq, Int.reduceToNat, decide_true, decide_false, Int.reduceNeg, Int.cast_ofNat_Int, sg, AO.sg, Option.isNone_none]
                rw [← he]
                simp [fld, hc, h35', h32', h9', hal, hcl, h12', encS]
          · simp only [go_sem, ↓reduceIte, Nat.reduceLT, Nat.reduceLeDiff, Nat.reduceEqDiff, Nat.reduceAdd, Nat.reduceMul, Nat.reduceSub, reduceCtorEq, Int.reduceLT, Int.reduceLE, Int.reduceEq, Int.reduceToNat, decide_true, decide_false, Int.reduceNeg, Int.cast_ofNat_Int, sg, AO.sg, Option.isNone_none, Int.toNat_natCast, hend, hil, hi0, hb, hc, h35, h32, h9, encS_len, hbi]
            refine ⟨⟨wid1 _ _ rfl, by omega⟩, ?_⟩
            refine ih (false, at_, bg, acc ++ [(s.take at_).drop bg]) _ ⟨hbg, hat, (fun h => by cases h), by have := h12.2.2; have := h12.2.1; simp; omega, ?_⟩ (by simp) ?_
            · simp only [Bool.false_eq_true, if_false]
              exact sep (.inr (.inr (of_decide_eq_true h9)))
            · (refine Wk.forget ?_; simp [Le, LeE, LeH, get, envIds, hpIds, KeepH, D.ids, idsL, AO.ids, setL, base, encS_snoc, encS_len]; done)
        · simp only [go_sem, ↓reduceIte, Nat.reduceLT, Nat.reduceLeDiff, Nat.reduceEqDiff, Nat.reduceAdd, Nat.reduceMul, Nat.reduceSub, reduceCtorEq, Int.reduceLT, Int.reduceLE, Int.reduceEq, Int.reduceToNat, decide_true, decide_false, Int.reduceNeg, Int.cast_ofNat_Int, sg, AO.sg, Option.isNone_none, Int.toNat_natCast, hend, hil, hi0, hb, hc, h35, h32, encS_len, hbi]
          refine ⟨⟨wid1 _ _ rfl, by omega⟩, ?_⟩
          refine ih (false, at_, bg, acc ++ [(s.take at_).drop bg]) _ ⟨hbg, hat, (fun h => by cases h), by have := h12.2.2; have := h12.2.1; simp; omega, ?_⟩ (by simp) ?_
          · simp only [Bool.false_eq_true, if_false]
            exact sep (.inr (.inl (of_decide_eq_true h32)))
          · (refine Wk.forget ?_; simp [Le, LeE, LeH, get, envIds, hpIds, KeepH, D.ids, idsL, AO.ids, setL, base, encS_snoc, encS_len]; done)
      · simp only [go_sem, ↓reduceIte, Nat.reduceLT, Nat.reduceLeDiff, Nat.reduceEqDiff, Nat.reduceAdd, Nat.reduceMul, Nat.reduceSub, reduceCtorEq, Int.reduceLT, Int.reduceLE, Int.reduceEq, Int.reduceToNat, decide_true, decide_false, Int.reduceNeg, Int.cast_ofNat_Int, sg, AO.sg, Option.isNone_none, Int.toNat_natCast, hend, hil, hi0, hb, hc, h35, encS_len, hbi]
        refine ⟨⟨wid1 _ _ rfl, by omega⟩, ?_⟩
        refine ih (false, at_, bg, acc ++ [(s.take at_).drop bg]) _ ⟨hbg, hat, (fun h => by cases h), by have := h12.2.2; have := h12.2.1; simp; omega, ?_⟩ (by simp) ?_
        · simp only [Bool.false_eq_true, if_false]
          exact sep (.inl (of_decide_eq_true h35))
        · (refine Wk.forget ?_; simp [Le, LeE, LeH, get, envIds, hpIds, KeepH, D.ids, idsL, AO.ids, setL, base, encS_snoc, encS_len]; done)
end Go.Am
end

section
/- fields.Lines. -/
namespace Go.Am
open Go Go.Proofs
set_option maxRecDepth 100000
set_option linter.unusedVariables false
set_option linter.unusedSimpArgs false
def scanL : List (List UInt8) → Nat → List Ln → List Ln × Int × Int
  | [], _, acc => (acc, 0, 0)
  | t :: r, k, acc => if (fld t none []).2 = 0 then scanL r (k + 1) (if 0 < (fld t none []).1.length then acc ++ [⟨(k : Nat), (fld t none []).1⟩] else acc) else ([], (k : Nat), (fld t none []).2)
def fLines (s : List UInt8) : List Ln × Int × Int := if 6000 < s.length then ([], 0, 1) else scanL (splitL 10 s) 1 []
def linesR (r : List Ln × Int × Int) : D := .tup [.p (.sl (encL r.1)), .p (.int .i64 r.2.1), .p (.int .i64 r.2.2)]
theorem splitL_small (c : UInt8) (l : List UInt8) : ∀ x ∈ splitL c l, x.length ≤ l.length := by
  induction l with
  | nil => simp [splitL]
  | cons b r ih =>
    intro x hx
    simp only [splitL] at hx
    split at hx
    · rcases List.mem_cons.1 hx with rfl | hx
      · simp
      · have := ih x hx; simp; omega
    · split at hx
      · simp at hx; subst hx; simp
      · rename_i y ys h
        rcases List.mem_cons.1 hx with rfl | hx
        · have := ih y (by rw [h]; simp); simp; omega
        · have := ih x (by rw [h]; simp [hx]); simp; omega
theorem lines1_ok (s : List UInt8) : ACalls Tryz.prog 11 [.p (.str s)] [] fun h r => h = [] ∧ r = linesR (fLines s) := by
  refine ACalls_X Tryz.func11 rfl enters11 (by simp [Tryz.f11]) ?_
  cases hlen : decide ((6000 : Int) < (s.length : Int))
  · have hl : s.length ≤ 6000 := by have := of_decide_eq_false hlen; omega
    have hf : fLines s = scanL (splitL 10 s) 1 [] := by unfold fLines; rw [if_neg (by omega)]
    rw [hf]
    simp only [go_sem, ↓reduceIte, Nat.reduceLT, Nat.reduceLeDiff, Nat.reduceEqDiff, Nat.reduceAdd, Nat.reduceMul, Nat.reduceSub, reduceCtorEq, Int.reduceLT, Int.reduceLE, Int.reduceEq, Int.reduceToNat, decide_true, decide_false, Int.reduceNeg, Int.cast_ofNat_Int, sg, AO.sg, Option.isNone_none, hlen]
    refine Cc_of (split_ok s 10 (by omega)) ?_
    rintro h' r ⟨rfl, rfl⟩
    have hsm := splitL_small 10 s
    have hcnt := splitL_len 10 s
    have hcl : s.count 10 ≤ s.length := List.count_le_length
    generalize hS : splitL 10 s = S at *
    simp only [go_sem, ↓reduceIte, Nat.reduceLT, Nat.reduceLeDiff, Nat.reduceEqDiff, Nat.reduceAdd, Nat.reduceMul, Nat.reduceSub, reduceCtorEq, Int.reduceLT, Int.reduceLE, Int.reduceEq, Int.reduceToNat, decide_true, decide_false, Int.reduceNeg, Int.cast_ofNat_Int, sg, AO.sg, Option.isNone_none, encS_len]
    refine X_loop_inv (fun q : Nat × List Ln => ⟨[(14, .ref 10014 0 S.length S.length), (15, .p (.int .i64 (S.length : Nat))), (16, .p (.int .i64 (q.1 : Nat))), (5, .ref 40 0 q.2.length q.2.length)], [(10014, .arr 9 1 (encS S)), (40, .arr 70 2 (encL q.2))], 43⟩)
      (fun q => q.1 ≤ S.length ∧ q.2.length ≤ q.1 ∧ scanL (S.drop q.1) (q.1 + 1) q.2 = scanL S 1 []) (fun q => S.length - q.1) (0, []) ⟨Nat.zero_le _, by simp, by simp⟩ ((Wk.nil (t := 5) (q := 40) (sz := 2) 70 rfl rfl (by decide)).trans (Wk.forget (by simp [Le, LeE, LeH, get, envIds, hpIds, KeepH, D.ids, idsL, AO.ids, setL, base, encL]))) ?_
    rintro ⟨i, acc⟩ n ⟨hi, hn, he⟩ ih
    simp only at hi hn he
    simp only [go_sem, ↓reduceIte, Nat.reduceLT, Nat.reduceLeDiff, Nat.reduceEqDiff, Nat.reduceAdd, Nat.reduceMul, Nat.reduceSub, reduceCtorEq, Int.reduceLT, Int.reduceLE, Int.reduceEq, Int.reduceToNat, decide_true, decide_false, Int.reduceNeg, Int.cast_ofNat_Int, sg, AO.sg, Option.isNone_none]
    refine Cn_split (fun h2 => ?_) (fun h2 => ?_)
    · have hlt : i < S.length := by simp at h2; omega
      have hw := wrap_succ i (by omega)
      have hb := hsm _ (getD_mem S i [] hlt)
      have hil : (i : Int) < (S.length : Int) := by omega
      have hi0 : (0 : Int) ≤ (i : Int) := by omega
      have hg := encS_get S i hlt
      rw [drop_getD S i [] hlt] at he
      generalize S.getD i [] = t at *
      simp only [go_sem, ↓reduceIte, Nat.reduceLT, Nat.reduceLeDiff, Nat.reduceEqDiff, Nat.reduceAdd, Nat.reduceMul, Nat.reduceSub, reduceCtorEq, Int.reduceLT, Int.reduceLE, Int.reduceEq, Int.reduceToNat, decide_true, decide_false, Int.reduceNeg, Int.cast_ofNat_Int, sg, AO.sg, Option.isNone_none, Int.toNat_natCast, encS_len, hg, hil, hi0]
      refine Cc_of (cut1_ok t (by omega)) ?_
      rintro h' r ⟨rfl, rfl⟩
      by_cases hz : (fld t none []).2 = 0
      · by_cases hp : 0 < (fld t none []).1.length
        · have hp' : (0 : Int) < ((fld t none []).1.length : Int) := by omega
          simp only [go_sem, ↓reduceIte, Nat.reduceLT, Nat.reduceLeDiff, Nat.reduceEqDiff, Nat.reduceAdd, Nat.reduceMul, Nat.reduceSub, reduceCtorEq, Int.reduceLT, Int.reduceLE, Int.reduceEq, Int.reduceToNat, decide_true, decide_false, Int.reduceNeg, Int.cast_ofNat_Int, sg, AO.sg, Option.isNone_none, hz, hw, encS_len, encL_len, hp']
          refine ⟨⟨wid1 _ _ rfl, by omega⟩, ?_⟩
          refine ih (i + 1, acc ++ [⟨(i + 1 : Nat), (fld t none []).1⟩]) _ ⟨hlt, by simp only [List.length_append, List.length_cons, List.length_nil]; omega, by rw [← he]; simp only [scanL, hz, hp, if_true]⟩ (by simp only; omega) ?_
          (refine Wk.forget ?_; simp [Le, LeE, LeH, get, envIds, hpIds, KeepH, D.ids, idsL, AO.ids, setL, base, encL_snoc, encL_len]; done)
        · have hp' : ¬ (0 : Int) < ((fld t none []).1.length : Int) := by omega
          simp only [go_sem, ↓reduceIte, Nat.reduceLT, Nat.reduceLeDiff, Nat.reduceEqDiff, Nat.reduceAdd, Nat.reduceMul, Nat.reduceSub, reduceCtorEq, Int.reduceLT, Int.reduceLE, Int.reduceEq, Int.reduceToNat, decide_true, decide_false, Int.reduceNeg, Int.cast_ofNat_Int, sg, AO.sg, Option.isNone_none, hz, hw, encS_len, hp']
          refine ih (i + 1, acc) _ ⟨hlt, by simp only; omega, by rw [← he]; simp only [scanL, hz, hp, if_true, if_false]⟩ (by simp only; omega) ?_
          (refine Wk.forget ?_; simp [Le, LeE, LeH, get, envIds, hpIds, KeepH, D.ids, idsL, AO.ids, setL, base]; done)
      · simp only [go_sem, ↓reduceIte, Nat.reduceLT, Nat.reduceLeDiff, Nat.reduceEqDiff, Nat.reduceAdd, Nat.reduceMul, Nat.reduceSub, reduceCtorEq, Int.reduceLT, Int.reduceLE, Int.reduceEq, Int.reduceToNat, decide_true, decide_false, Int.reduceNeg, Int.cast_ofNat_Int, sg, AO.sg, Option.isNone_none, hz, hw]
        refine end_pure ?_
        simp only [go_sem, ↓reduceIte, Nat.reduceLT, Nat.reduceLeDiff, Nat.reduceEqDiff, Nat.reduceAdd, Nat.reduceMul, Nat.reduceSub, reduceCtorEq, Int.reduceLT, Int.reduceLE, Int.reduceEq, Int.reduceToNat, decide_true, decide_false, Int.reduceNeg, Int.cast_ofNat_Int, sg, AO.sg, Option.isNone_none]
        rw [← he]
        simp [scanL, hz, linesR, encL]
    · simp only [go_sem, ↓reduceIte, Nat.reduceLT, Nat.reduceLeDiff, Nat.reduceEqDiff, Nat.reduceAdd, Nat.reduceMul, Nat.reduceSub, reduceCtorEq, Int.reduceLT, Int.reduceLE, Int.reduceEq, Int.reduceToNat, decide_true, decide_false, Int.reduceNeg, Int.cast_ofNat_Int, sg, AO.sg, Option.isNone_none]
      have hieq : i = S.length := by simp at h2; omega
      subst hieq
      refine end_pure ?_
      simp only [go_sem, ↓reduceIte, Nat.reduceLT, Nat.reduceLeDiff, Nat.reduceEqDiff, Nat.reduceAdd, Nat.reduceMul, Nat.reduceSub, reduceCtorEq, Int.reduceLT, Int.reduceLE, Int.reduceEq, Int.reduceToNat, decide_true, decide_false, Int.reduceNeg, Int.cast_ofNat_Int, sg, AO.sg, Option.isNone_none]
      rw [List.drop_length] at he
      rw [← he]
      simp [scanL, linesR, encL_len, encL_take]
  · have hl : 6000 < s.length := by have := of_decide_eq_true hlen; omega
    have hf : fLines s = ([], 0, 1) := by unfold fLines; rw [if_pos hl]
    rw [hf]
    simp only [go_sem, ↓reduceIte, Nat.reduceLT, Nat.reduceLeDiff, Nat.reduceEqDiff, Nat.reduceAdd, Nat.reduceMul, Nat.reduceSub, reduceCtorEq, Int.reduceLT, Int.reduceLE, Int.reduceEq, Int.reduceToNat, decide_true, decide_false, Int.reduceNeg, Int.cast_ofNat_Int, sg, AO.sg, Option.isNone_none, hlen]
    refine end_pure ?_
    simp only [go_sem, ↓reduceIte, Nat.reduceLT, Nat.reduceLeDiff, Nat.reduceEqDiff, Nat.reduceAdd, Nat.reduceMul, Nat.reduceSub, reduceCtorEq, Int.reduceLT, Int.reduceLE, Int.reduceEq, Int.reduceToNat, decide_true, decide_false, Int.reduceNeg, Int.cast_ofNat_Int, sg, AO.sg, Option.isNone_none]
    try simp [linesR, encL]
end Go.Am
end

section
/- The reference's fields. -/
namespace Go.Am
open Go Go.Proofs
set_option maxRecDepth 100000
set_option linter.unusedVariables false
set_option linter.unusedSimpArgs false
theorem allowed2_ok (c : Int) : ACalls Tryz.prog 96 [.p (.int .u8 c)] [] fun h r => h = [] ∧ r = .p (.bool (allB c)) := by
  refine ACalls_X Tryz.func96 rfl enters96 (by simp [Tryz.f96]) ?_
  by_cases h1 : 33 ≤ c
  · have h1' : (32 : Int) < c := by omega
    by_cases h2 : c ≤ 126
    · simp only [go_sem, ↓reduceIte, Nat.reduceLT, Nat.reduceLeDiff, Nat.reduceEqDiff, Nat.reduceAdd, Nat.reduceMul, Nat.reduceSub, reduceCtorEq, Int.reduceLT, Int.reduceLE, Int.reduceEq, Int.reduceToNat, decide_true, decide_false, Int.reduceNeg, Int.cast_ofNat_Int, sg, AO.sg, Option.isNone_none, h1, h2]
      simp [allB, h1', h2]
    · simp only [go_sem, ↓reduceIte, Nat.reduceLT, Nat.reduceLeDiff, Nat.reduceEqDiff, Nat.reduceAdd, Nat.reduceMul, Nat.reduceSub, reduceCtorEq, Int.reduceLT, Int.reduceLE, Int.reduceEq, Int.reduceToNat, decide_true, decide_false, Int.reduceNeg, Int.cast_ofNat_Int, sg, AO.sg, Option.isNone_none, h1, h2]
      simp [allB, h1', h2]
  · have h1' : ¬ (32 : Int) < c := by omega
    simp only [go_sem, ↓reduceIte, Nat.reduceLT, Nat.reduceLeDiff, Nat.reduceEqDiff, Nat.reduceAdd, Nat.reduceMul, Nat.reduceSub, reduceCtorEq, Int.reduceLT, Int.reduceLE, Int.reduceEq, Int.reduceToNat, decide_true, decide_false, Int.reduceNeg, Int.cast_ofNat_Int, sg, AO.sg, Option.isNone_none, h1]
    simp [allB, h1']
def frI (f : Option Nat) : Int := match f with
  | none => -1
  | some f => (f : Nat)
def curO (s : List UInt8) (i : Nat) (f : Option Nat) : Option (List UInt8) := f.map fun f => (s.take i).drop f
theorem fields2_ok (s : List UInt8) (hs : s.length ≤ 100000000) : ACalls Tryz.prog 53 [.p (.str s)] [] fun h r => h = [] ∧ r = .tup [.p (.sl (encS (fld s none []).1)), .p (.int .i64 (fld s none []).2)] := by
  refine ACalls_X Tryz.func53 rfl enters53 (by simp [Tryz.f53]) ?_
  simp only [go_sem, ↓reduceIte, Nat.reduceLT, Nat.reduceLeDiff, Nat.reduceEqDiff, Nat.reduceAdd, Nat.reduceMul, Nat.reduceSub, reduceCtorEq, Int.reduceLT, Int.reduceLE, Int.reduceEq, Int.reduceToNat, decide_true, decide_false, Int.reduceNeg, Int.cast_ofNat_Int, sg, AO.sg, Option.isNone_none]
  refine X_loop_inv (fun q : Nat × Option Nat × List (List UInt8) => ⟨[(0, .p (.str s)), (4, .ref 58 0 q.2.2.length q.2.2.length), (5, .p (.int .i64 (frI q.2.1))), (6, .p (.int .i64 (q.1 : Nat)))], [(58, .arr 9 1 (encS q.2.2))], 61⟩)
    (fun q => q.1 ≤ s.length ∧ q.2.2.length ≤ q.1 ∧ (∀ f, q.2.1 = some f → f < q.1 ∧ q.1 ≤ f + 12 ∧ q.2.2.length ≤ f) ∧ fld (s.drop q.1) (curO s q.1 q.2.1) q.2.2 = fld s none []) (fun q => s.length + 1 - q.1) (0, none, [])
    ⟨Nat.zero_le _, by simp, by simp, by simp [curO]⟩ ((Wk.nil (t := 4) (q := 58) (sz := 1) 9 rfl rfl (by decide)).trans (Wk.forget (by simp [Le, LeE, LeH, get, envIds, hpIds, KeepH, D.ids, idsL, AO.ids, setL, base, encS, frI]))) ?_
  rintro ⟨i, fo, acc⟩ n ⟨hi, hacc, hf, he⟩ ih
  simp only at hi hacc hf he
  have hil : (i : Int) ≤ (s.length : Int) := by omega
  have hi0 : (0 : Int) ≤ (i : Int) := by omega
  have hw : IntKind.i64.wrap ((i : Int) + 1) = ((i + 1 : Nat) : Int) := by rw [wrap_i64_id] <;> omega
  have hw0 : IntKind.i64.wrap ((i : Int) - i) = 0 := by rw [Int.sub_self]; rfl
  simp only [go_sem, ↓reduceIte, Nat.reduceLT, Nat.reduceLeDiff, Nat.reduceEqDiff, Nat.reduceAdd, Nat.reduceMul, Nat.reduceSub, reduceCtorEq, Int.reduceLT, Int.reduceLE, Int.reduceEq, Int.reduceToNat, decide_true, decide_false, Int.reduceNeg, Int.cast_ofNat_Int, sg, AO.sg, Option.isNone_none, hil]
  cases hend : decide ((i : Int) = (s.length : Int))
  · have hlt : i < s.length := by have := of_decide_eq_false hend; omega
    have hilt : (i : Int) < (s.length : Int) := by omega
    rw [drop_getD s i 0 hlt] at he
    have htk : ∀ f, f ≤ i → (s.take (i + 1)).drop f = (s.take i).drop f ++ [s.getD i 0] := by
      intro f hf
      rw [List.take_succ_eq_append_getElem hlt, List.drop_append_of_le_length (by simp; omega)]
      simp [List.getD, hlt]
    have htki : (s.take (i + 1)).drop i = [s.getD i 0] := by rw [List.drop_take, drop_getD s i 0 hlt]; simp
    generalize hb : s.getD i 0 = b at *
    generalize hc : (b.toNat : Int) = c at *
    cases h35 : decide (c = 35)
    · have h35' := of_decide_eq_false h35
      cases h32 : decide (c = 32)
      · have h32' := of_decide_eq_false h32
        cases h9 : decide (c = 9)
        · have h9' := of_decide_eq_false h9
          simp only [go_sem, ↓reduceIte, Nat.reduceLT, Nat.reduceLeDiff, Nat.reduceEqDiff, Nat.reduceAdd, Nat.reduceMul, Nat.reduceSub, reduceCtorEq, Int.reduceLT, Int.reduceLE, Int.reduceEq, Int.reduceToNat, decide_true, decide_false, Int.reduceNeg, Int.cast_ofNat_Int, sg, AO.sg, Option.isNone_none, Int.toNat_natCast, hil, hilt, hi0, hb, hc, hend, h35, h32, h9]
          refine Cc_of (allowed2_ok c) ?_
          rintro h' r ⟨rfl, rfl⟩
          cases hal : allB c
          · simp only [go_sem, ↓reduceIte, Nat.reduceLT, Nat.reduceLeDiff, Nat.reduceEqDiff, Nat.reduceAdd, Nat.reduceMul, Nat.reduceSub, reduceCtorEq, Int.reduceLT, Int.reduceLE, Int.reduceEq, Int.reduceToNat, decide_true, decide_false, Int.reduceNeg, Int.cast_ofNat_Int, sg, AO.sg, Option.isNone_none, hal]
            refine end_pure ?_
            simp only [go_sem, ↓reduceIte, Nat.reduceLT, Nat.reduceLeDiff, Nat.reduceEqDiff, Nat.reduceAdd, Nat.reduceMul, Nat.reduceSub, reduceCtorEq, Int.reduceLT, Int.reduceLE, Int.reduceEq, Int.reduceToNat, decide_true, decide_false, Int.reduceNeg, Int.cast_ofNat_Int, sg, AO.sg, Option.isNone_none]
            rw [← he]
            simp [fld, hc, h35', h32', h9', hal, encS]
          · cases fo with
            | none =>
              simp only [go_sem, ↓reduceIte, Nat.reduceLT, Nat.reduceLeDiff, Nat.reduceEqDiff, Nat.reduceAdd, Nat.reduceMul, Nat.reduceSub, reduceCtorEq, Int.reduceLT, Int.reduceLE, Int.reduceEq, Int.reduceToNat, decide_true, decide_false, Int.reduceNeg, Int.cast_ofNat_Int, sg, AO.sg, Option.isNone_none, hal, frI, hw, hw0]
              refine ih (i + 1, some i, acc) _ ⟨hlt, by simp only; omega, by intro f h; cases h; simp only; omega, ?_⟩ (by simp only; omega) ?_
              · rw [← he]
                simp only [curO, Option.map_some, Option.map_none, htki]
                simp [fld, hc, h35', h32', h9', hal]
              · (refine Wk.forget ?_; simp [Le, LeE, LeH, get, envIds, hpIds, KeepH, D.ids, idsL, AO.ids, setL, base, frI]; done)
            | some f =>
              obtain ⟨hf1, hf2, hf3⟩ := hf f rfl
              have hfneg : ¬ (f : Int) < 0 := by omega
              have hwf : IntKind.i64.wrap ((i : Int) - f) = ((i - f : Nat) : Int) := by rw [wrap_i64_id] <;> omega
              have hcl : ((s.take i).drop f).length = i - f := by simp; omega
              cases h12 : decide ((12 : Int) ≤ ((i - f : Nat) : Int))
              · have h12' : ¬ i - f = 12 := by have := of_decide_eq_false h12; omega
                simp only [go_sem, ↓reduceIte, Nat.reduceLT, Nat.reduceLeDiff, Nat.reduceEqDiff, Nat.reduceAdd, Nat.reduceMul, Nat.reduceSub, reduceCtorEq, Int.reduceLT, Int.reduceLE, Int.reduceEq, Int.reduceToNat, decide_true, decide_false, Int.reduceNeg, Int.cast_ofNat_Int, sg, AO.sg, Option.isNone_none, hal, frI, hfneg, hw, hwf, h12]
                refine ih (i + 1, some f, acc) _ ⟨hlt, by simp only; omega, by intro f' h; cases h; have := of_decide_eq_false h12; simp only; omega, ?_⟩ (by simp only; omega) ?_
                · rw [← he]
                  simp only [curO, Option.map_some, htk f (by omega)]
                  simp [fld, hc, h35', h32', h9', hal, hcl, h12']
                · (refine Wk.forget ?_; simp [Le, LeE, LeH, get, envIds, hpIds, KeepH, D.ids, idsL, AO.ids, setL, base, frI]; done)
              · have h12' : i - f = 12 := by have := of_decide_eq_true h12; omega
                simp only [go_sem, ↓reduceIte, Nat.reduceLT, Nat.reduceLeDiff, Nat.reduceEqDiff, Nat.reduceAdd, Nat.reduceMul, Nat.reduceSub, reduceCtorEq, Int.reduceLT, Int.reduceLE, Int.reduceEq, Int.reduceToNat, decide_true, decide_false, Int.reduceNeg, Int.cast_ofNat_Int, sg, AO.sg, Option.isNone_none, hal, frI, hfneg, hwf, h12]
                refine end_pure ?_
                simp only [go_sem, ↓reduceIte, Nat.reduceLT, Nat.reduceLeDiff, Nat.reduceEqDiff, Nat.reduceAdd, Nat.reduceMul, Nat.reduceSub, reduceCtorEq, Int.reduceLT, Int.reduceLE, Int.reduceEq, Int.reduceToNat, decide_true, decide_false, Int.reduceNeg, Int.cast_ofNat_Int, sg, AO.sg, Option.isNone_none]
                rw [← he]
                simp [fld, curO, hc, h35', h32', h9', hal, hcl, h12', encS]
        · have h9' := of_decide_eq_true h9
          cases fo with
          | none =>
            simp only [go_sem, ↓reduceIte, Nat.reduceLT, Nat.reduceLeDiff, Nat.reduceEqDiff, Nat.reduceAdd, Nat.reduceMul, Nat.reduceSub, reduceCtorEq, Int.reduceLT, Int.reduceLE, Int.reduceEq, Int.reduceToNat, decide_true, decide_false, Int.reduceNeg, Int.cast_ofNat_Int, sg, AO.sg, Option.isNone_none, Int.toNat_natCast, hil, hilt, hi0, hb, hc, hend, h35, h32, h9, frI, hw]
            refine ih (i + 1, none, acc) _ ⟨hlt, by simp only; omega, (by intro f h; cases h), ?_⟩ (by simp only; omega) ?_
            · rw [← he]
              simp [fld, curO, hc, h9']
            · (refine Wk.forget ?_; simp [Le, LeE, LeH, get, envIds, hpIds, KeepH, D.ids, idsL, AO.ids, setL, base, frI]; done)
          | some f =>
            obtain ⟨hf1, hf2, hf3⟩ := hf f rfl
            have hf0 : (0 : Int) ≤ (f : Int) ∧ (f : Int) ≤ (i : Int) ∧ (i : Int) ≤ (s.length : Int) := by omega
            simp only [go_sem, ↓reduceIte, Nat.reduceLT, Nat.reduceLeDiff, Nat.reduceEqDiff, Nat.reduceAdd, Nat.reduceMul, Nat.reduceSub, reduceCtorEq, Int.reduceLT, Int.reduceLE, Int.reduceEq, Int.reduceToNat, decide_true, decide_false, Int.reduceNeg, Int.cast_ofNat_Int, sg, AO.sg, Option.isNone_none, Int.toNat_natCast, hil, hilt, hi0, hb, hc, hend, h35, h32, h9, frI, hf0, encS_len, hw]
            refine ⟨⟨wid1 _ _ rfl, by omega⟩, ?_⟩
            refine ih (i + 1, none, acc ++ [(s.take i).drop f]) _ ⟨hlt, by simp; omega, (by intro f h; cases h), ?_⟩ (by simp only; omega) ?_
            · rw [← he]
              simp [fld, curO, hc, h9']
            · (refine Wk.forget ?_; simp [Le, LeE, LeH, get, envIds, hpIds, KeepH, D.ids, idsL, AO.ids, setL, base, frI, encS_snoc, encS_len]; done)
      · have h32' := of_decide_eq_true h32
        cases fo with
        | none =>
          simp only [go_sem, ↓reduceIte, Nat.reduceLT, Nat.reduceLeDiff, Nat.reduceEqDiff, Nat.reduceAdd, Nat.reduceMul, Nat.reduceSub, reduceCtorEq, Int.reduceLT, Int.reduceLE, Int.reduceEq, Int.reduceToNat, decide_true, decide_false, Int.reduceNeg, Int.cast_ofNat_Int, sg, AO.sg, Option.isNone_none, Int.toNat_natCast, hil, hilt, hi0, hb, hc, hend, h35, h32, frI, hw]
          refine ih (i + 1, none, acc) _ ⟨hlt, by simp only; omega, (by intro f h; cases h), ?_⟩ (by simp only; omega) ?_
          · rw [← he]
            simp [fld, curO, hc, h32']
          · (refine Wk.forget ?_; simp [Le, LeE, LeH, get, envIds, hpIds, KeepH, D.ids, idsL, AO.ids, setL, base, frI]; done)
        | some f =>
          obtain ⟨hf1, hf2, hf3⟩ := hf f rfl
          have hf0 : (0 : Int) ≤ (f : Int) ∧ (f : Int) ≤ (i : Int) ∧ (i : Int) ≤ (s.length : Int) := by omega
          simp only [go_sem, ↓reduceIte, Nat.reduceLT, Nat.reduceLeDiff, Nat.reduceEqDiff, Nat.reduceAdd, Nat.reduceMul, Nat.reduceSub, reduceCtorEq, Int.reduceLT, Int.reduceLE, Int.reduceEq, Int.reduceToNat, decide_true, decide_false, Int.reduceNeg, Int.cast_ofNat_Int, sg, AO.sg, Option.isNone_none, Int.toNat_natCast, hil, hilt, hi0, hb, hc, hend, h35, h32, frI, hf0, encS_len, hw]
          refine ⟨⟨wid1 _ _ rfl, by omega⟩, ?_⟩
          refine ih (i + 1, none, acc ++ [(s.take i).drop f]) _ ⟨hlt, by simp; omega, (by intro f h; cases h), ?_⟩ (by simp only; omega) ?_
          · rw [← he]
            simp [fld, curO, hc, h32']
          · (refine Wk.forget ?_; simp [Le, LeE, LeH, get, envIds, hpIds, KeepH, D.ids, idsL, AO.ids, setL, base, frI, encS_snoc, encS_len]; done)
    · have h35' := of_decide_eq_true h35
      cases fo with
      | none =>
        simp only [go_sem, ↓reduceIte, Nat.reduceLT, Nat.reduceLeDiff, Nat.reduceEqDiff, Nat.reduceAdd, Nat.reduceMul, Nat.reduceSub, reduceCtorEq, Int.reduceLT, Int.reduceLE, Int.reduceEq, Int.reduceToNat, decide_true, decide_false, Int.reduceNeg, Int.cast_ofNat_Int, sg, AO.sg, Option.isNone_none, Int.toNat_natCast, hil, hilt, hi0, hb, hc, hend, h35, frI]
        refine end_pure ?_
        simp only [go_sem, ↓reduceIte, Nat.reduceLT, Nat.reduceLeDiff, Nat.reduceEqDiff, Nat.reduceAdd, Nat.reduceMul, Nat.reduceSub, reduceCtorEq, Int.reduceLT, Int.reduceLE, Int.reduceEq, Int.reduceToNat, decide_true, decide_false, Int.reduceNeg, Int.cast_ofNat_Int, sg, AO.sg, Option.isNone_none]
        rw [← he]
        simp [fld, curO, hc, h35', encS_len, encS_take]
      | some f =>
        obtain ⟨hf1, hf2, hf3⟩ := hf f rfl
        have hf0 : (0 : Int) ≤ (f : Int) ∧ (f : Int) ≤ (i : Int) ∧ (i : Int) ≤ (s.length : Int) := by omega
        simp only [go_sem, ↓reduceIte, Nat.reduceLT, Nat.reduceLeDiff, Nat.reduceEqDiff, Nat.reduceAdd, Nat.reduceMul, Nat.reduceSub, reduceCtorEq, Int.reduceLT, Int.reduceLE, Int.reduceEq, Int.reduceToNat, decide_true, decide_false, Int.reduceNeg, Int.cast_ofNat_Int, sg, AO.sg, Option.isNone_none, Int.toNat_natCast, hil, hilt, hi0, hb, hc, hend, h35, frI, hf0, encS_len]
        refine ⟨⟨wid1 _ _ rfl, by omega⟩, end_pure ?_⟩
        simp only [go_sem, ↓reduceIte, Nat.reduceLT, Nat.reduceLeDiff, Nat.reduceEqDiff, Nat.reduceAdd, Nat.reduceMul, Nat.reduceSub, reduceCtorEq, Int.reduceLT, Int.reduceLE, Int.reduceEq, Int.reduceToNat, decide_true, decide_false, Int.reduceNeg, Int.cast_ofNat_Int, sg, AO.sg, Option.isNone_none, ← encS_snoc, encS_len]
        rw [← he]
        simp [fld, curO, hc, h35', encS_take, encS_snoc]
        exact List.take_of_length_le (by simp [encS])
  · have hieq : i = s.length := by have := of_decide_eq_true hend; omega
    rw [List.drop_of_length_le (by omega)] at he
    cases fo with
    | none =>
      simp only [go_sem, ↓reduceIte, Nat.reduceLT, Nat.reduceLeDiff, Nat.reduceEqDiff, Nat.reduceAdd, Nat.reduceMul, Nat.reduceSub, reduceCtorEq, Int.reduceLT, Int.reduceLE, Int.reduceEq, Int.reduceToNat, decide_true, decide_false, Int.reduceNeg, Int.cast_ofNat_Int, sg, AO.sg, Option.isNone_none, Int.toNat_natCast, hil, hi0, hend, frI]
      refine end_pure ?_
      simp only [go_sem, ↓reduceIte, Nat.reduceLT, Nat.reduceLeDiff, Nat.reduceEqDiff, Nat.reduceAdd, Nat.reduceMul, Nat.reduceSub, reduceCtorEq, Int.reduceLT, Int.reduceLE, Int.reduceEq, Int.reduceToNat, decide_true, decide_false, Int.reduceNeg, Int.cast_ofNat_Int, sg, AO.sg, Option.isNone_none]
      rw [← he]
      simp [fld, curO, encS_len, encS_take]
    | some f =>
      obtain ⟨hf1, hf2, hf3⟩ := hf f rfl
      have hf0 : (0 : Int) ≤ (f : Int) ∧ (f : Int) ≤ (i : Int) ∧ (i : Int) ≤ (s.length : Int) := by omega
      simp only [go_sem, ↓reduceIte, Nat.reduceLT, Nat.reduceLeDiff, Nat.reduceEqDiff, Nat.reduceAdd, Nat.reduceMul, Nat.reduceSub, reduceCtorEq, Int.reduceLT, Int.reduceLE, Int.reduceEq, Int.reduceToNat, decide_true, decide_false, Int.reduceNeg, Int.cast_ofNat_Int, sg, AO.sg, Option.isNone_none, Int.toNat_natCast, hil, hi0, hend, frI, hf0, encS_len]
      refine ⟨⟨wid1 _ _ rfl, by omega⟩, end_pure ?_⟩
      simp only [go_sem, ↓reduceIte, Nat.reduceLT, Nat.reduceLeDiff, Nat.reduceEqDiff, Nat.reduceAdd, Nat.reduceMul, Nat.reduceSub, reduceCtorEq, Int.reduceLT, Int.reduceLE, Int.reduceEq, Int.reduceToNat, decide_true, decide_false, Int.reduceNeg, Int.cast_ofNat_Int, sg, AO.sg, Option.isNone_none, ← encS_snoc, encS_len]
      rw [← he]
      simp [fld, curO, encS_take, encS_snoc]
      exact List.take_of_length_le (by simp [encS])
end Go.Am
end

section
/- The reference's Lines. -/
namespace Go.Am
open Go Go.Proofs
set_option maxRecDepth 100000
set_option linter.unusedVariables false
set_option linter.unusedSimpArgs false
/-- What is left of the lines: the present line so far, then the rest. -/
theorem splitL_cons (c b : UInt8) (r : List UInt8) (h : b ≠ c) : ∃ x xs, splitL c r = x :: xs ∧ splitL c (b :: r) = (b :: x) :: xs := by
  cases hs : splitL c r with
  | nil => exact (splitL_ne c r hs).elim
  | cons x xs => exact ⟨x, xs, rfl, by simp [splitL, h, hs]⟩
/-- The lines of a text that begins with 'pre', which has no line feed. -/
def withP (pre : List UInt8) : List (List UInt8) → List (List UInt8)
  | [] => [pre]
  | x :: xs => (pre ++ x) :: xs
theorem withP_nil (c : UInt8) (r : List UInt8) : withP [] (splitL c r) = splitL c r := by
  cases hs : splitL c r with
  | nil => exact (splitL_ne c r hs).elim
  | cons x xs => simp [withP]
theorem withP_sep (c : UInt8) (pre r : List UInt8) : withP pre (splitL c (c :: r)) = pre :: splitL c r := by simp [splitL, withP]
theorem withP_more (c b : UInt8) (pre r : List UInt8) (h : b ≠ c) : withP pre (splitL c (b :: r)) = withP (pre ++ [b]) (splitL c r) := by
  obtain ⟨x, xs, h1, h2⟩ := splitL_cons c b r h
  rw [h1, h2]
  simp [withP]
theorem withP_end (c : UInt8) (pre : List UInt8) : withP pre (splitL c []) = [pre] := by simp [splitL, withP]
theorem lines2_ok (s : List UInt8) : ACalls Tryz.prog 20 [.p (.str s)] [] fun h r => h = [] ∧ r = linesR (fLines s) := by
  refine ACalls_X Tryz.func20 rfl enters20 (by simp [Tryz.f20]) ?_
  cases hlen : decide ((6000 : Int) < (s.length : Int))
  · have hl : s.length ≤ 6000 := by have := of_decide_eq_false hlen; omega
    have hfl : fLines s = scanL (splitL 10 s) 1 [] := by unfold fLines; rw [if_neg (by omega)]
    rw [hfl]
    clear hfl
    simp only [go_sem, ↓reduceIte, Nat.reduceLT, Nat.reduceLeDiff, Nat.reduceEqDiff, Nat.reduceAdd, Nat.reduceMul, Nat.reduceSub, reduceCtorEq, Int.reduceLT, Int.reduceLE, Int.reduceEq, Int.reduceToNat, decide_true, decide_false, Int.reduceNeg, Int.cast_ofNat_Int, sg, AO.sg, Option.isNone_none, hlen]
    refine X_loop_inv (fun q : Nat × Nat × Nat × List Ln => ⟨[(0, .p (.str s)), (5, .ref 50 0 q.2.2.2.length q.2.2.2.length), (6, .p (.int .i64 (q.2.1 : Nat))), (7, .p (.int .i64 (q.2.2.1 : Nat))), (8, .p (.int .i64 (q.1 : Nat)))], [(50, .arr 70 2 (encL q.2.2.2))], 56⟩)
      (fun q => (q.1 ≤ s.length + 1 ∧ q.2.1 ≤ q.1 + 1 ∧ q.2.2.2.length ≤ q.1) ∧ ((q.1 ≤ s.length ∧ q.2.2.1 ≤ q.1 ∧ scanL (withP ((s.take q.1).drop q.2.2.1) (splitL 10 (s.drop q.1))) q.2.1 q.2.2.2 = scanL (splitL 10 s) 1 []) ∨ (q.1 = s.length + 1 ∧ scanL [] q.2.1 q.2.2.2 = scanL (splitL 10 s) 1 []))) (fun q => s.length + 1 - q.1) (0, 1, 0, [])
      ⟨⟨by simp, by simp, by simp⟩, .inl ⟨by simp, by simp, by simp [withP_nil]⟩⟩ ((Wk.nil (t := 5) (q := 50) (sz := 2) 70 rfl rfl (by decide)).trans (Wk.forget (by simp [Le, LeE, LeH, get, envIds, hpIds, KeepH, D.ids, idsL, AO.ids, setL, base, encL]))) ?_
    rintro ⟨i, num, fr, acc⟩ n ⟨⟨hi, hnum, hacc⟩, he⟩ ih
    simp only at hi hnum hacc he
    have hi0 : (0 : Int) ≤ (i : Int) := by omega
    have hw : IntKind.i64.wrap ((i : Int) + 1) = ((i + 1 : Nat) : Int) := by rw [wrap_i64_id] <;> omega
    have hwn : IntKind.i64.wrap ((num : Int) + 1) = ((num + 1 : Nat) : Int) := by rw [wrap_i64_id] <;> omega
    rcases he with ⟨hil, hfr, he⟩ | ⟨hil, he⟩
    · have hil' : (i : Int) ≤ (s.length : Int) := by omega
      have hfr0 : (0 : Int) ≤ (fr : Int) ∧ (fr : Int) ≤ (i : Int) ∧ (i : Int) ≤ (s.length : Int) := by omega
      have hsz : ((s.take i).drop fr).length ≤ 100000000 := by simp; omega
      simp only [go_sem, ↓reduceIte, Nat.reduceLT, Nat.reduceLeDiff, Nat.reduceEqDiff, Nat.reduceAdd, Nat.reduceMul, Nat.reduceSub, reduceCtorEq, Int.reduceLT, Int.reduceLE, Int.reduceEq, Int.reduceToNat, decide_true, decide_false, Int.reduceNeg, Int.cast_ofNat_Int, sg, AO.sg, Option.isNone_none, hil']
      cases hend : decide ((i : Int) < (s.length : Int))
      rotate_left
      · have hlt : i < s.length := by have := of_decide_eq_true hend; omega
        have hilt : (i : Int) < (s.length : Int) := by omega
        have htk : (s.take (i + 1)).drop fr = (s.take i).drop fr ++ [s.getD i 0] := by
          rw [List.take_succ_eq_append_getElem hlt, List.drop_append_of_le_length (by simp; omega)]
          simp [List.getD, hlt]
        rw [drop_getD s i 0 hlt] at he
        generalize hb : s.getD i 0 = b at *
        cases h10 : decide ((b.toNat : Int) = 10)
        · have hb10 : b ≠ 10 := by rintro rfl; simp at h10
          simp only [go_sem, ↓reduceIte, Nat.reduceLT, Nat.reduceLeDiff, Nat.reduceEqDiff, Nat.reduceAdd, Nat.reduceMul, Nat.reduceSub, reduceCtorEq, Int.reduceLT, Int.reduceLE, Int.reduceEq, Int.reduceToNat, decide_true, decide_false, Int.reduceNeg, Int.cast_ofNat_Int, sg, AO.sg, Option.isNone_none, Int.toNat_natCast, hil', hilt, hi0, hb, hend, h10, hw]
          rw [withP_more _ _ _ _ hb10, ← htk] at he
          refine ih (i + 1, num, fr, acc) _ ⟨⟨by simp only; omega, by simp only; omega, by simp only; omega⟩, .inl ⟨hlt, by simp only; omega, he⟩⟩ (by simp only; omega) ?_
          (refine Wk.forget ?_; simp [Le, LeE, LeH, get, envIds, hpIds, KeepH, D.ids, idsL, AO.ids, setL, base]; done)
        · have hb10 : b = 10 := by
            have := of_decide_eq_true h10
            exact UInt8.toNat_inj.1 (by simp; omega)
          subst hb10
          rw [withP_sep] at he
          simp only [go_sem, ↓reduceIte, Nat.reduceLT, Nat.reduceLeDiff, Nat.reduceEqDiff, Nat.reduceAdd, Nat.reduceMul, Nat.reduceSub, reduceCtorEq, Int.reduceLT, Int.reduceLE, Int.reduceEq, Int.reduceToNat, decide_true, decide_false, Int.reduceNeg, Int.cast_ofNat_Int, sg, AO.sg, Option.isNone_none, Int.toNat_natCast, hil', hilt, hi0, hb, hend, h10, hfr0]
          refine Cc_of (fields2_ok _ hsz) ?_
          rintro h' r ⟨rfl, rfl⟩
          generalize (s.take i).drop fr = t at *
          by_cases hz : (fld t none []).2 = 0
          · by_cases hp : 0 < (fld t none []).1.length
            · have hp' : (0 : Int) < ((fld t none []).1.length : Int) := by omega
              simp only [go_sem, ↓reduceIte, Nat.reduceLT, Nat.reduceLeDiff, Nat.reduceEqDiff, Nat.reduceAdd, Nat.reduceMul, Nat.reduceSub, reduceCtorEq, Int.reduceLT, Int.reduceLE, Int.reduceEq, Int.reduceToNat, decide_true, decide_false, Int.reduceNeg, Int.cast_ofNat_Int, sg, AO.sg, Option.isNone_none, hz, hw, hwn, encS_len, encL_len, hp']
              refine ⟨⟨wid1 _ _ rfl, by omega⟩, ?_⟩
              refine ih (i + 1, num + 1, i + 1, acc ++ [⟨(num : Nat), (fld t none []).1⟩]) _ ⟨⟨by simp only; omega, by simp only; omega, by simp; omega⟩, .inl ⟨hlt, by simp, ?_⟩⟩ (by simp only; omega) ?_
              · rw [← he]
                simp [scanL, hz, hp, withP_nil]
              · (refine Wk.forget ?_; simp [Le, LeE, LeH, get, envIds, hpIds, KeepH, D.ids, idsL, AO.ids, setL, base, encL_snoc, encL_len]; done)
            · have hp' : ¬ (0 : Int) < ((fld t none []).1.length : Int) := by omega
              simp only [go_sem, ↓reduceIte, Nat.reduceLT, Nat.reduceLeDiff, Nat.reduceEqDiff, Nat.reduceAdd, Nat.reduceMul, Nat.reduceSub, reduceCtorEq, Int.reduceLT, Int.reduceLE, Int.reduceEq, Int.reduceToNat, decide_true, decide_false, Int.reduceNeg, Int.cast_ofNat_Int, sg, AO.sg, Option.isNone_none, hz, hw, hwn, encS_len, hp']
              refine ih (i + 1, num + 1, i + 1, acc) _ ⟨⟨by simp only; omega, by simp only; omega, by simp only; omega⟩, .inl ⟨hlt, by simp, ?_⟩⟩ (by simp only; omega) ?_
              · rw [← he]
                simp [scanL, hz, hp, withP_nil]
              · (refine Wk.forget ?_; simp [Le, LeE, LeH, get, envIds, hpIds, KeepH, D.ids, idsL, AO.ids, setL, base]; done)
          · simp only [go_sem, ↓reduceIte, Nat.reduceLT, Nat.reduceLeDiff, Nat.reduceEqDiff, Nat.reduceAdd, Nat.reduceMul, Nat.reduceSub, reduceCtorEq, Int.reduceLT, Int.reduceLE, Int.reduceEq, Int.reduceToNat, decide_true, decide_false, Int.reduceNeg, Int.cast_ofNat_Int, sg, AO.sg, Option.isNone_none, hz]
            refine end_pure ?_
            simp only [go_sem, ↓reduceIte, Nat.reduceLT, Nat.reduceLeDiff, Nat.reduceEqDiff, Nat.reduceAdd, Nat.reduceMul, Nat.reduceSub, reduceCtorEq, Int.reduceLT, Int.reduceLE, Int.reduceEq, Int.reduceToNat, decide_true, decide_false, Int.reduceNeg, Int.cast_ofNat_Int, sg, AO.sg, Option.isNone_none]
            rw [← he]
            simp [scanL, hz, linesR, encL]
      · have hieq : i = s.length := by have := of_decide_eq_false hend; omega
        rw [show s.drop i = [] from List.drop_of_length_le (by omega), withP_end] at he
        simp only [go_sem, ↓reduceIte, Nat.reduceLT, Nat.reduceLeDiff, Nat.reduceEqDiff, Nat.reduceAdd, Nat.reduceMul, Nat.reduceSub, reduceCtorEq, Int.reduceLT, Int.reduceLE, Int.reduceEq, Int.reduceToNat, decide_true, decide_false, Int.reduceNeg, Int.cast_ofNat_Int, sg, AO.sg, Option.isNone_none, Int.toNat_natCast, hil', hi0, hend, hfr0]
        refine Cc_of (fields2_ok _ hsz) ?_
        rintro h' r ⟨rfl, rfl⟩
        generalize (s.take i).drop fr = t at *
        by_cases hz : (fld t none []).2 = 0
        · by_cases hp : 0 < (fld t none []).1.length
          · have hp' : (0 : Int) < ((fld t none []).1.length : Int) := by omega
            simp only [go_sem, ↓reduceIte, Nat.reduceLT, Nat.reduceLeDiff, Nat.reduceEqDiff, Nat.reduceAdd, Nat.reduceMul, Nat.reduceSub, reduceCtorEq, Int.reduceLT, Int.reduceLE, Int.reduceEq, Int.reduceToNat, decide_true, decide_false, Int.reduceNeg, Int.cast_ofNat_Int, sg, AO.sg, Option.isNone_none, hz, hw, hwn, encS_len, encL_len, hp']
            refine ⟨⟨wid1 _ _ rfl, by omega⟩, ?_⟩
            refine ih (i + 1, num + 1, i + 1, acc ++ [⟨(num : Nat), (fld t none []).1⟩]) _ ⟨⟨by simp only; omega, by simp only; omega, by simp; omega⟩, .inr ⟨by simp only; omega, ?_⟩⟩ (by simp only; omega) ?_
            · rw [← he]
              simp [scanL, hz, hp]
            · (refine Wk.forget ?_; simp [Le, LeE, LeH, get, envIds, hpIds, KeepH, D.ids, idsL, AO.ids, setL, base, encL_snoc, encL_len]; done)
          · have hp' : ¬ (0 : Int) < ((fld t none []).1.length : Int) := by omega
            simp only [go_sem, ↓reduceIte, Nat.reduceLT, Nat.reduceLeDiff, Nat.reduceEqDiff, Nat.reduceAdd, Nat.reduceMul, Nat.reduceSub, reduceCtorEq, Int.reduceLT, Int.reduceLE, Int.reduceEq, Int.reduceToNat, decide_true, decide_false, Int.reduceNeg, Int.cast_ofNat_Int, sg, AO.sg, Option.isNone_none, hz, hw, hwn, encS_len, hp']
            refine ih (i + 1, num + 1, i + 1, acc) _ ⟨⟨by simp only; omega, by simp only; omega, by simp only; omega⟩, .inr ⟨by simp only; omega, ?_⟩⟩ (by simp only; omega) ?_
            · rw [← he]
              simp [scanL, hz, hp]
            · (refine Wk.forget ?_; simp [Le, LeE, LeH, get, envIds, hpIds, KeepH, D.ids, idsL, AO.ids, setL, base]; done)
        · simp only [go_sem, ↓reduceIte, Nat.reduceLT, Nat.reduceLeDiff, Nat.reduceEqDiff, Nat.reduceAdd, Nat.reduceMul, Nat.reduceSub, reduceCtorEq, Int.reduceLT, Int.reduceLE, Int.reduceEq, Int.reduceToNat, decide_true, decide_false, Int.reduceNeg, Int.cast_ofNat_Int, sg, AO.sg, Option.isNone_none, hz]
          refine end_pure ?_
          simp only [go_sem, ↓reduceIte, Nat.reduceLT, Nat.reduceLeDiff, Nat.reduceEqDiff, Nat.reduceAdd, Nat.reduceMul, Nat.reduceSub, reduceCtorEq, Int.reduceLT, Int.reduceLE, Int.reduceEq, Int.reduceToNat, decide_true, decide_false, Int.reduceNeg, Int.cast_ofNat_Int, sg, AO.sg, Option.isNone_none]
          rw [← he]
          simp [scanL, hz, linesR, encL]
    · have hil' : ¬ (i : Int) ≤ (s.length : Int) := by omega
      simp only [go_sem, ↓reduceIte, Nat.reduceLT, Nat.reduceLeDiff, Nat.reduceEqDiff, Nat.reduceAdd, Nat.reduceMul, Nat.reduceSub, reduceCtorEq, Int.reduceLT, Int.reduceLE, Int.reduceEq, Int.reduceToNat, decide_true, decide_false, Int.reduceNeg, Int.cast_ofNat_Int, sg, AO.sg, Option.isNone_none, hil']
      refine end_pure ?_
      simp only [go_sem, ↓reduceIte, Nat.reduceLT, Nat.reduceLeDiff, Nat.reduceEqDiff, Nat.reduceAdd, Nat.reduceMul, Nat.reduceSub, reduceCtorEq, Int.reduceLT, Int.reduceLE, Int.reduceEq, Int.reduceToNat, decide_true, decide_false, Int.reduceNeg, Int.cast_ofNat_Int, sg, AO.sg, Option.isNone_none]
      rw [← he]
      simp [scanL, linesR, encL_len, encL_take]
  · have hl : 6000 < s.length := by have := of_decide_eq_true hlen; omega
    have hf : fLines s = ([], 0, 1) := by unfold fLines; rw [if_pos hl]
    rw [hf]
    simp only [go_sem, ↓reduceIte, Nat.reduceLT, Nat.reduceLeDiff, Nat.reduceEqDiff, Nat.reduceAdd, Nat.reduceMul, Nat.reduceSub, reduceCtorEq, Int.reduceLT, Int.reduceLE, Int.reduceEq, Int.reduceToNat, decide_true, decide_false, Int.reduceNeg, Int.cast_ofNat_Int, sg, AO.sg, Option.isNone_none, hlen]
    refine end_pure ?_
    simp only [go_sem, ↓reduceIte, Nat.reduceLT, Nat.reduceLeDiff, Nat.reduceEqDiff, Nat.reduceAdd, Nat.reduceMul, Nat.reduceSub, reduceCtorEq, Int.reduceLT, Int.reduceLE, Int.reduceEq, Int.reduceToNat, decide_true, decide_false, Int.reduceNeg, Int.cast_ofNat_Int, sg, AO.sg, Option.isNone_none]
    try simp [linesR, encL]
theorem splitL_app (c : UInt8) (t : List UInt8) : ∀ s : List UInt8, splitL c (s ++ c :: t) = splitL c s ++ splitL c t
  | [] => by simp [splitL]
  | b :: r => by
    have ih := splitL_app c t r
    simp only [List.cons_append, splitL]
    split
    · rw [ih]; rfl
    · rw [ih]
      cases hs : splitL c r with
      | nil => exact (splitL_ne c r hs).elim
      | cons x xs => rfl
theorem fld_len : ∀ (t : List UInt8) (c : Option (List UInt8)) (acc : List (List UInt8)), (fld t c acc).1.length ≤ acc.length + c.toList.length + t.length
  | [], none, acc => by simp [fld]
  | [], some cur, acc => by simp [fld]
  | b :: r, c, acc => by
    simp only [fld]
    split
    · simp
    · split
      · have := fld_len r none (acc ++ c.toList)
        simp at this ⊢; omega
      · split
        · split
          · simp
          · have := fld_len r (some (c.getD [] ++ [b])) acc
            simp at this ⊢; omega
        · simp
theorem scanL_small (B : Nat) : ∀ (S : List (List UInt8)) (k : Nat) (acc : List Ln), (∀ t ∈ S, t.length ≤ B) → (∀ x ∈ acc, x.fs.length ≤ B) →
    (scanL S k acc).1.length ≤ acc.length + S.length ∧ ∀ x ∈ (scanL S k acc).1, x.fs.length ≤ B
  | [], k, acc, _, h => by simpa [scanL] using h
  | t :: r, k, acc, hS, h => by
    simp only [scanL]
    split
    · have hl : (fld t none []).1.length ≤ B := by
        have h1 := fld_len t none []
        have h2 := hS t (by simp)
        simp at h1; omega
      have h3 := scanL_small B r (k + 1) (if 0 < (fld t none []).1.length then acc ++ [⟨(k : Nat), (fld t none []).1⟩] else acc) (fun y hy => hS y (by simp [hy])) (fun x hx => by
        split at hx
        · simp only [List.mem_append, List.mem_singleton] at hx
          rcases hx with hx | rfl
          · exact h x hx
          · exact hl
        · exact h x hx)
      have h4 : (if 0 < (fld t none []).1.length then acc ++ [⟨(k : Nat), (fld t none []).1⟩] else acc).length ≤ acc.length + 1 := by split <;> simp
      have h5 := h3.1
      exact ⟨by simp only [List.length_cons]; omega, h3.2⟩
    · simp
theorem fLines_small (s : List UInt8) : (fLines s).1.length ≤ 10000000 ∧ ∀ x ∈ (fLines s).1, x.fs.length ≤ 10000000 := by
  unfold fLines
  split
  · simp
  · rename_i h
    have h1 := splitL_len 10 s
    have h2 : s.count 10 ≤ s.length := List.count_le_length
    have h3 := scanL_small 6000 (splitL 10 s) 1 [] (fun t ht => by have := splitL_small 10 s t ht; omega) (by simp)
    refine ⟨by have := h3.1; simp at this; omega, fun x hx => by have := h3.2 x hx; omega⟩
end Go.Am
end

section
/- Join: P1.3, in plain words; what Lines reads of such a text, and of one with comments and further blanks. -/
namespace Go.Am
open Go Go.Proofs
set_option maxRecDepth 100000
set_option linter.unusedVariables false
set_option linter.unusedSimpArgs false
def propB (s : List UInt8) : Bool := decide (s ≠ []) && (decide (s.length ≤ 12) && s.all fun b => allB b.toNat)
def formB : Int → List Ln → Bool
  | _, [] => true
  | last, x :: r => decide (last < x.num) && (decide (x.fs ≠ []) && (x.fs.all propB && formB x.num r))
def wordsV : List (List UInt8) → List UInt8
  | [] => []
  | x :: r => x ++ r.flatMap fun y => 32 :: y
def textL : Nat → List Ln → List UInt8
  | _, [] => []
  | k, x :: r => List.replicate (x.num.toNat - k) 10 ++ (wordsV x.fs ++ 10 :: textL (x.num.toNat + 1) r)
def joinV (l : List Ln) : List UInt8 × Int := if formB 0 l then (if 6000 < (textL 1 l).length then ([], 1) else (textL 1 l, 0)) else ([], 20)
def szF : List (List UInt8) → Nat
  | [] => 0
  | s :: r => s.length + 1 + szF r
def szL : List Ln → Nat
  | [] => 0
  | x :: r => szF x.fs + szL r
def lastL : Int → List Ln → Int
  | k, [] => k
  | _, x :: r => lastL x.num r
theorem formB_cons {last : Int} {x : Ln} {r : List Ln} : formB last (x :: r) = true ↔ last < x.num ∧ x.fs ≠ [] ∧ (∀ s ∈ x.fs, propB s = true) ∧ formB x.num r = true := by
  simp only [formB, Bool.and_eq_true, decide_eq_true_eq, List.all_eq_true]
theorem propB_iff {s : List UInt8} : propB s = true ↔ s ≠ [] ∧ s.length ≤ 12 ∧ ∀ b ∈ s, allB b.toNat = true := by
  simp only [propB, Bool.and_eq_true, decide_eq_true_eq, List.all_eq_true]
theorem flat_len (r : List (List UInt8)) : (r.flatMap fun y => 32 :: y).length = szF r := by
  induction r with
  | nil => rfl
  | cons x r ih => simp [szF, ih]; omega
theorem wordsV_len : ∀ fs : List (List UInt8), fs ≠ [] → (wordsV fs).length + 1 = szF fs
  | [], h => (h rfl).elim
  | x :: r, _ => by simp only [wordsV, szF, List.length_append, flat_len]; omega
theorem szF_pos : ∀ fs : List (List UInt8), fs ≠ [] → 1 ≤ szF fs
  | [], h => (h rfl).elim
  | x :: r, _ => by simp only [szF]; omega
theorem textL_len : ∀ (l : List Ln) (k : Nat), formB k l = true → ((textL (k + 1) l).length : Int) + k + l.length = szL l + lastL k l ∧ (l.length : Int) ≤ szL l ∧ (k : Int) ≤ lastL k l
  | [], k, _ => by simp [textL, szL, lastL]
  | x :: r, k, h => by
    obtain ⟨h1, h2, h3, h4⟩ := formB_cons.1 h
    obtain ⟨n, hn⟩ : ∃ n : Nat, x.num = (n : Int) := ⟨x.num.toNat, by omega⟩
    rw [hn] at h4 h1
    obtain ⟨h5, h6, h7⟩ := textL_len r n h4
    have h8 := wordsV_len x.fs h2
    have h9 := szF_pos x.fs h2
    simp only [textL, szL, lastL, hn, List.length_append, List.length_cons, List.length_replicate, Int.toNat_natCast]
    omega
theorem join_test (l : List Ln) (h : formB 0 l = true) : (6000 < (textL 1 l).length) ↔ ((6000 : Int) - min (lastL 0 l) 6001 < (szL l : Int) - l.length) := by
  obtain ⟨h1, h2, h3⟩ := textL_len l 0 h
  simp only [Nat.zero_add] at h1
  have h4 : ((0 : Nat) : Int) = 0 := rfl
  rw [h4] at h1 h3
  omega
theorem allB_ne {b : UInt8} (h : allB b.toNat = true) : ¬ (b.toNat : Int) = 35 ∧ ¬ (b.toNat : Int) = 32 ∧ ¬ (b.toNat : Int) = 9 ∧ b ≠ 10 ∧ b ≠ 35 := by
  unfold allB at h
  simp only [Bool.and_eq_true, decide_eq_true_eq, Bool.not_eq_true', decide_eq_false_iff_not] at h
  refine ⟨by omega, by omega, by omega, ?_, ?_⟩
  · rintro rfl; simp at h
  · rintro rfl; simp at h
theorem fld_in : ∀ (s t cur : List UInt8) (acc : List (List UInt8)), (∀ b ∈ s, allB b.toNat = true) → cur.length + s.length ≤ 12 → fld (s ++ t) (some cur) acc = fld t (some (cur ++ s)) acc
  | [], t, cur, acc, _, _ => by simp
  | b :: r, t, cur, acc, h, hl => by
    have hb := h b (by simp)
    obtain ⟨h1, h2, h3, _, _⟩ := allB_ne hb
    simp only [List.length_cons] at hl
    simp only [List.cons_append, fld, h1, h2, h3, hb, if_true, if_false, or_self, Option.getD_some]
    rw [if_neg (by omega), fld_in r t (cur ++ [b]) acc (fun x hx => h x (by simp [hx])) (by simp; omega)]
    simp
theorem fld_word (s t : List UInt8) (acc : List (List UInt8)) (h : propB s = true) : fld (s ++ t) none acc = fld t (some s) acc := by
  obtain ⟨h1, h2, h3⟩ := propB_iff.1 h
  cases s with
  | nil => exact (h1 rfl).elim
  | cons b r =>
    obtain ⟨h4, h5, h6, _, _⟩ := allB_ne (h3 b (by simp))
    rw [List.cons_append, fld_start _ _ _ h4 h5 h6, ← List.cons_append, fld_in _ _ _ _ h3 (by simpa using h2)]
    simp
theorem fld_rest : ∀ (r : List (List UInt8)) (s : List UInt8) (acc : List (List UInt8)), (∀ y ∈ r, propB y = true) → fld (r.flatMap fun y => 32 :: y) (some s) acc = (acc ++ s :: r, 0)
  | [], s, acc, _ => by simp [fld]
  | y :: r, s, acc, h => by
    have h0 : ((32 : UInt8).toNat : Int) = 32 := rfl
    simp only [List.flatMap_cons, List.cons_append, fld, h0]
    rw [if_neg (by decide), if_pos (Or.inl trivial), fld_word _ _ _ (h y (by simp)), fld_rest r y _ (fun x hx => h x (by simp [hx]))]
    simp
theorem fld_words : ∀ fs : List (List UInt8), fs ≠ [] → (∀ s ∈ fs, propB s = true) → fld (wordsV fs) none [] = (fs, 0)
  | [], h, _ => (h rfl).elim
  | x :: r, _, h => by
    simp only [wordsV]
    rw [fld_word _ _ _ (h x (by simp)), fld_rest r x [] (fun y hy => h y (by simp [hy]))]
    simp
theorem splitL_no (c : UInt8) : ∀ w : List UInt8, c ∉ w → splitL c w = [w]
  | [], _ => rfl
  | b :: r, h => by
    have h1 : b ≠ c := fun e => h (by simp [e])
    simp only [splitL, if_neg h1, splitL_no c r (fun e => h (by simp [e]))]
theorem splitL_seg (c : UInt8) (w t : List UInt8) (h : c ∉ w) : splitL c (w ++ c :: t) = w :: splitL c t := by
  rw [splitL_app, splitL_no c w h]; rfl
theorem mem_wordsV {b : UInt8} : ∀ {fs : List (List UInt8)}, b ∈ wordsV fs → b = 32 ∨ ∃ s ∈ fs, b ∈ s
  | [], h => by simp [wordsV] at h
  | x :: r, h => by
    simp only [wordsV, List.mem_append, List.mem_flatMap, List.mem_cons] at h
    rcases h with h | ⟨y, hy, h | h⟩
    · exact .inr ⟨x, by simp, h⟩
    · exact .inl h
    · exact .inr ⟨y, by simp [hy], h⟩
theorem words_no {fs : List (List UInt8)} (h : ∀ s ∈ fs, propB s = true) : (10 : UInt8) ∉ wordsV fs ∧ (35 : UInt8) ∉ wordsV fs := by
  constructor <;> intro hm
  all_goals
    rcases mem_wordsV hm with h1 | ⟨s, hs, h1⟩
    · cases h1
    · have h2 := allB_ne ((propB_iff.1 (h s hs)).2.2 _ h1)
      first | exact h2.2.2.2.1 rfl | exact h2.2.2.2.2 rfl
theorem scan_blank : ∀ (n : Nat) (t : List UInt8) (k : Nat) (acc : List Ln), scanL (splitL 10 (List.replicate n 10 ++ t)) k acc = scanL (splitL 10 t) (k + n) acc
  | 0, t, k, acc => by simp
  | n + 1, t, k, acc => by
    simp only [List.replicate_succ, List.cons_append, splitL, if_true, scanL, fld, List.length_nil, Nat.lt_irrefl, if_false]
    rw [scan_blank n t (k + 1) acc, Nat.add_assoc, Nat.add_comm 1 n]
theorem scan_text : ∀ (l : List Ln) (k : Nat) (acc : List Ln), formB k l = true → scanL (splitL 10 (textL (k + 1) l)) (k + 1) acc = (acc ++ l, 0, 0)
  | [], k, acc, _ => by simp [textL, splitL, scanL, fld]
  | x :: r, k, acc, h => by
    obtain ⟨h1, h2, h3, h4⟩ := formB_cons.1 h
    obtain ⟨num, fs⟩ := x
    obtain ⟨n, rfl⟩ : ∃ n : Nat, num = (n : Int) := ⟨num.toNat, by simp only at h1; omega⟩
    simp only at h1 h2 h3 h4
    simp only [textL, Int.toNat_natCast]
    rw [scan_blank, splitL_seg 10 _ _ (words_no h3).1, show k + 1 + (n - (k + 1)) = n by omega]
    simp only [scanL, fld_words fs h2 h3, if_true]
    rw [if_pos (by cases fs with | nil => exact (h2 rfl).elim | cons a b => simp), scan_text r n _ h4]
    simp
theorem fLines_text (l : List Ln) (h : formB 0 l = true) (hl : (textL 1 l).length ≤ 6000) : fLines (textL 1 l) = (l, 0, 0) := by
  unfold fLines
  rw [if_neg (by omega)]
  have := scan_text l 0 [] h
  simpa using this
def sfxV (cm : List UInt8) : List UInt8 := 32 :: 9 :: 35 :: 32 :: cm.filter (fun b => b ≠ 10)
def modT (cm : List UInt8) : List UInt8 → List UInt8
  | [] => []
  | b :: r => (if b = 10 then sfxV cm else if b = 32 then [9] else []) ++ b :: modT cm r
theorem sfx_no (cm : List UInt8) : (10 : UInt8) ∉ sfxV cm := by
  simp [sfxV]
theorem fld_sfx (cm : List UInt8) (c : Option (List UInt8)) (acc : List (List UInt8)) : fld (sfxV cm) c acc = (acc ++ c.toList, 0) := by
  have h0 : ((32 : UInt8).toNat : Int) = 32 := rfl
  have h1 : ((9 : UInt8).toNat : Int) = 9 := rfl
  have h2 : ((35 : UInt8).toNat : Int) = 35 := rfl
  simp [sfxV, fld, h0, h1, h2]
theorem fld_end (c : Option (List UInt8)) (acc : List (List UInt8)) : fld [] c acc = (acc ++ c.toList, 0) := by cases c <;> simp [fld]
theorem fld_mod (cm : List UInt8) : ∀ (s : List UInt8) (c : Option (List UInt8)) (acc : List (List UInt8)), (10 : UInt8) ∉ s → (35 : UInt8) ∉ s → fld (modT cm s ++ sfxV cm) c acc = fld s c acc ∧ fld (modT cm s) c acc = fld s c acc
  | [], c, acc, _, _ => by simp only [modT, List.nil_append, fld_sfx, fld_end]; exact ⟨trivial, trivial⟩
  | b :: r, c, acc, h10, h35 => by
    have ih := fun c acc => fld_mod cm r c acc (fun e => h10 (by simp [e])) (fun e => h35 (by simp [e]))
    have hb : b ≠ 10 := fun e => h10 (by simp [e])
    simp only [modT, if_neg hb]
    by_cases h32 : b = 32
    · subst h32
      have h0 : ((32 : UInt8).toNat : Int) = 32 := rfl
      have h1 : ((9 : UInt8).toNat : Int) = 9 := rfl
      simp only [if_true, List.cons_append, List.nil_append, fld, h0, h1]
      simp [ih]
    · simp only [if_neg h32, List.nil_append, List.cons_append, fld, (ih _ _).1, (ih _ _).2]
      exact ⟨trivial, trivial⟩
theorem modT_app (cm : List UInt8) : ∀ s t : List UInt8, modT cm (s ++ t) = modT cm s ++ modT cm t
  | [], t => rfl
  | b :: r, t => by simp only [List.cons_append, modT, modT_app cm r t, List.append_assoc]
theorem scanL_cong {x y : List UInt8} {S T : List (List UInt8)} {k : Nat} {acc : List Ln} (h : fld x none [] = fld y none []) (hs : ∀ acc, scanL S (k + 1) acc = scanL T (k + 1) acc) : scanL (x :: S) k acc = scanL (y :: T) k acc := by
  simp only [scanL, h, hs]
theorem scan_mod (cm : List UInt8) : ∀ (s pre : List UInt8) (k : Nat) (acc : List Ln), (35 : UInt8) ∉ s → (35 : UInt8) ∉ pre → (10 : UInt8) ∉ pre → scanL (withP (modT cm pre) (splitL 10 (modT cm s))) k acc = scanL (withP pre (splitL 10 s)) k acc
  | [], pre, k, acc, _, h35, h10 => by
    simp only [modT, withP_end]
    exact scanL_cong (fld_mod cm pre _ _ h10 h35).2 (fun _ => rfl)
  | b :: r, pre, k, acc, hs, h35, h10 => by
    have hr : (35 : UInt8) ∉ r := fun e => hs (by simp [e])
    have hb : b ≠ 35 := fun e => hs (by simp [e])
    by_cases h1 : b = 10
    · subst h1
      rw [withP_sep]
      simp only [modT, if_true]
      rw [splitL_seg 10 _ _ (sfx_no cm)]
      simp only [withP]
      refine scanL_cong (fld_mod cm pre _ _ h10 h35).1 fun acc => ?_
      have := scan_mod cm r [] (k + 1) acc hr (by simp) (by simp)
      simpa only [modT, withP_nil] using this
    · rw [withP_more _ _ _ _ h1, ← scan_mod cm r (pre ++ [b]) k acc hr (by simp [h35, Ne.symm hb]) (by simp [h10, Ne.symm h1])]
      rw [modT_app]
      simp only [modT, if_neg h1, List.append_nil]
      by_cases h2 : b = 32
      · subst h2
        simp only [if_true, List.cons_append, List.nil_append]
        rw [withP_more 10 9 _ _ (by decide), withP_more 10 32 _ _ (by decide), List.append_assoc]
        rfl
      · simp only [if_neg h2, List.nil_append]
        rw [withP_more 10 b _ _ h1]
theorem textL_no : ∀ (l : List Ln) (k : Nat), formB k l = true → (35 : UInt8) ∉ textL (k + 1) l
  | [], k, _ => by simp [textL]
  | x :: r, k, h => by
    obtain ⟨h1, h2, h3, h4⟩ := formB_cons.1 h
    obtain ⟨n, hn⟩ : ∃ n : Nat, x.num = (n : Int) := ⟨x.num.toNat, by omega⟩
    rw [hn] at h4
    have h5 := textL_no r n h4
    have h6 := (words_no h3).2
    simp only [textL, hn, Int.toNat_natCast, List.mem_append, List.mem_cons, List.mem_replicate, not_or]
    exact ⟨fun e => by simp at e, h6, by decide, h5⟩
theorem fLines_mod (cm : List UInt8) (l : List Ln) (h : formB 0 l = true) (hl : (modT cm (textL 1 l)).length ≤ 6000) : fLines (modT cm (textL 1 l)) = (l, 0, 0) := by
  unfold fLines
  rw [if_neg (by omega)]
  have h1 := scan_mod cm (textL 1 l) [] 1 [] (textL_no l 0 h) (by simp) (by simp)
  simp only [modT, withP_nil] at h1
  rw [h1]
  have := scan_text l 0 [] h
  simpa using this
end Go.Am
end
