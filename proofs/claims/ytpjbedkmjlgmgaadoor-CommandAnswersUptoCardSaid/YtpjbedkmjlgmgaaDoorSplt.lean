/- strings.Split at a separator of one byte. -/
import Derived.Test.YtpjbedkmjlgmgaaDoorNumr
import Derived.Lib.Bytealg
import Derived.Laws.Externs
namespace Go.Am
open Go Go.Proofs
set_option maxRecDepth 100000
set_option linter.unusedVariables false
set_option linter.unusedSimpArgs false
def splitL (c : UInt8) : List UInt8 → List (List UInt8)
  | [] => [[]]
  | b :: r => if b = c then [] :: splitL c r else match splitL c r with
    | [] => [[b]]
    | x :: xs => (b :: x) :: xs
theorem splitL_ne (c : UInt8) (l : List UInt8) : splitL c l ≠ [] := by
  cases l with
  | nil => simp [splitL]
  | cons b r =>
    simp only [splitL]
    split
    · simp
    · split <;> simp
theorem splitL_len (c : UInt8) (l : List UInt8) : (splitL c l).length = l.count c + 1 := by
  induction l with
  | nil => simp [splitL]
  | cons b r ih =>
    simp only [splitL]
    split
    · rename_i h; subst h; simp [ih]
    · rename_i h
      rw [List.count_cons_of_ne h]
      cases hs : splitL c r with
      | nil => exact (splitL_ne c r hs).elim
      | cons x xs => rw [hs] at ih; simpa using ih
theorem indexByte_spec (c : UInt8) : ∀ (l : List UInt8), (Lib.indexByte l c = -1 ∧ splitL c l = [l]) ∨ ∃ m : Nat, Lib.indexByte l c = (m : Int) ∧ m < l.length ∧ splitL c l = l.take m :: splitL c (l.drop (m + 1))
  | [] => .inl ⟨rfl, rfl⟩
  | b :: r => by
    simp only [Lib.indexByte]
    by_cases h : b = c
    · subst h
      exact .inr ⟨0, by simp, by simp, by simp [splitL]⟩
    · rcases indexByte_spec c r with ⟨h1, h2⟩ | ⟨m, h1, h2, h3⟩
      · refine .inl ⟨by simp [h, h1], by simp [splitL, h, h2]⟩
      · refine .inr ⟨m + 1, by simp [h, h1], by simp; omega, by simp [splitL, h, h3]⟩
theorem idxb_ok (l : List UInt8) (c : Int) : ACalls Tryd.prog 77 [.p (.str l), .p (.int .u8 c)] [] fun h r => h = [] ∧ r = .p (.int .i64 (Lib.indexByte l c.toNat.toUInt8)) := by
  refine ACalls_ext (run_callFunc_extern Tryd.func77 (by kernel_rfl) (by kernel_rfl) (by kernel_rfl) (e := Extern.BytealgIndexByte.indexByte) (by kernel_rfl)) ?_
  intro vs w F M hd
  obtain ⟨hl, h⟩ := hd
  obtain ⟨v1, v2, rfl⟩ : ∃ v1 v2, vs = #[v1, v2] := by
    match vs, hl with
    | ⟨[v1, v2]⟩, _ => exact ⟨v1, v2, rfl⟩
  have h1 := h 0 _ rfl
  have h2 := h 1 _ rfl
  simp only [List.getD_cons_zero, List.getD_cons_succ] at h1 h2
  cases h1 with | p h1 => cases h1 with | str =>
  cases h2 with | p h2 => cases h2 with | int =>
  exact ⟨_, _, Lib.run_indexByteString _ _ _, .p (.int _ _), rfl, rfl⟩
theorem cntb_ok (l : List UInt8) (c : Int) : ACalls Tryd.prog 63 [.p (.str l), .p (.int .u8 c)] [] fun h r => h = [] ∧ r = .p (.int .i64 (Lib.countByte l c.toNat.toUInt8 : Nat)) := by
  refine ACalls_ext (run_callFunc_extern Tryd.func63 (by kernel_rfl) (by kernel_rfl) (by kernel_rfl) (e := Extern.BytealgCount.count) (by kernel_rfl)) ?_
  intro vs w F M hd
  obtain ⟨hl, h⟩ := hd
  obtain ⟨v1, v2, rfl⟩ : ∃ v1 v2, vs = #[v1, v2] := by
    match vs, hl with
    | ⟨[v1, v2]⟩, _ => exact ⟨v1, v2, rfl⟩
  have h1 := h 0 _ rfl
  have h2 := h 1 _ rfl
  simp only [List.getD_cons_zero, List.getD_cons_succ] at h1 h2
  cases h1 with | p h1 => cases h1 with | str =>
  cases h2 with | p h2 => cases h2 with | int =>
  exact ⟨_, _, Lib.run_countString _ _ _, .p (.int _ _), rfl, rfl⟩
theorem u8_id (c : UInt8) : ((c.toNat : Int)).toNat.toUInt8 = c := by simp
theorem count_ok (l : List UInt8) (c : UInt8) : ACalls Tryd.prog 52 [.p (.str l), .p (.str [c])] [] fun h r => h = [] ∧ r = .p (.int .i64 (l.count c : Nat)) := by
  refine ACalls_X Tryd.func52 rfl enters52 (by simp [Tryd.f52]) ?_
  have h0 : (0 : Int) < 1 := by decide
  simp only [go_sem, ↓reduceIte, Nat.reduceLT, Nat.reduceLeDiff, Nat.reduceEqDiff, Nat.reduceAdd, Nat.reduceMul, Nat.reduceSub, reduceCtorEq, Int.reduceLT, Int.reduceLE, Int.reduceEq, Int.reduceToNat, decide_true, decide_false, Int.reduceNeg, Int.cast_ofNat_Int, sg, AO.sg, Option.isNone_none, List.getD_cons_zero]
  refine Cc_of (cntb_ok l c.toNat) ?_
  rintro h' r ⟨rfl, rfl⟩
  simp only [go_sem, ↓reduceIte, Nat.reduceLT, Nat.reduceLeDiff, Nat.reduceEqDiff, Nat.reduceAdd, Nat.reduceMul, Nat.reduceSub, reduceCtorEq, Int.reduceLT, Int.reduceLE, Int.reduceEq, Int.reduceToNat, decide_true, decide_false, Int.reduceNeg, Int.cast_ofNat_Int, sg, AO.sg, Option.isNone_none, u8_id]
  rfl
theorem index1_ok (l : List UInt8) (c : UInt8) : ACalls Tryd.prog 64 [.p (.str l), .p (.str [c])] [] fun h r => h = [] ∧ r = .p (.int .i64 (Lib.indexByte l c)) := by
  refine ACalls_X Tryd.func64 rfl enters64 (by simp [Tryd.f64]) ?_
  cases he : decide ([c] = l)
  · simp only [go_sem, ↓reduceIte, Nat.reduceLT, Nat.reduceLeDiff, Nat.reduceEqDiff, Nat.reduceAdd, Nat.reduceMul, Nat.reduceSub, reduceCtorEq, Int.reduceLT, Int.reduceLE, Int.reduceEq, Int.reduceToNat, decide_true, decide_false, Int.reduceNeg, Int.cast_ofNat_Int, sg, AO.sg, Option.isNone_none, he, List.getD_cons_zero]
    refine Cc_of (?_ : ACalls Tryd.prog 71 _ _ fun h r => h = [] ∧ r = .p (.int .i64 (Lib.indexByte l c))) ?_
    · refine ACalls_X Tryd.func71 rfl enters71 (by simp [Tryd.f71]) ?_
      simp only [go_sem, ↓reduceIte, Nat.reduceLT, Nat.reduceLeDiff, Nat.reduceEqDiff, Nat.reduceAdd, Nat.reduceMul, Nat.reduceSub, reduceCtorEq, Int.reduceLT, Int.reduceLE, Int.reduceEq, Int.reduceToNat, decide_true, decide_false, Int.reduceNeg, Int.cast_ofNat_Int, sg, AO.sg, Option.isNone_none]
      refine Cc_of (idxb_ok l c.toNat) ?_
      rintro h' r ⟨rfl, rfl⟩
      simp only [go_sem, ↓reduceIte, Nat.reduceLT, Nat.reduceLeDiff, Nat.reduceEqDiff, Nat.reduceAdd, Nat.reduceMul, Nat.reduceSub, reduceCtorEq, Int.reduceLT, Int.reduceLE, Int.reduceEq, Int.reduceToNat, decide_true, decide_false, Int.reduceNeg, Int.cast_ofNat_Int, sg, AO.sg, Option.isNone_none, u8_id]
    · rintro h' r ⟨rfl, rfl⟩
      simp only [go_sem, ↓reduceIte, Nat.reduceLT, Nat.reduceLeDiff, Nat.reduceEqDiff, Nat.reduceAdd, Nat.reduceMul, Nat.reduceSub, reduceCtorEq, Int.reduceLT, Int.reduceLE, Int.reduceEq, Int.reduceToNat, decide_true, decide_false, Int.reduceNeg, Int.cast_ofNat_Int, sg, AO.sg, Option.isNone_none]
  · simp only [go_sem, ↓reduceIte, Nat.reduceLT, Nat.reduceLeDiff, Nat.reduceEqDiff, Nat.reduceAdd, Nat.reduceMul, Nat.reduceSub, reduceCtorEq, Int.reduceLT, Int.reduceLE, Int.reduceEq, Int.reduceToNat, decide_true, decide_false, Int.reduceNeg, Int.cast_ofNat_Int, sg, AO.sg, Option.isNone_none, he]
    have : l = [c] := by simpa using (of_decide_eq_true he).symm
    subst this
    simp [Lib.indexByte]
theorem index_ok (l : List UInt8) (c : UInt8) : ACalls Tryd.prog 53 [.p (.str l), .p (.str [c])] [] fun h r => h = [] ∧ r = .p (.int .i64 (Lib.indexByte l c)) := by
  refine ACalls_X Tryd.func53 rfl enters53 (by simp [Tryd.f53]) ?_
  simp only [go_sem, ↓reduceIte, Nat.reduceLT, Nat.reduceLeDiff, Nat.reduceEqDiff, Nat.reduceAdd, Nat.reduceMul, Nat.reduceSub, reduceCtorEq, Int.reduceLT, Int.reduceLE, Int.reduceEq, Int.reduceToNat, decide_true, decide_false, Int.reduceNeg, Int.cast_ofNat_Int, sg, AO.sg, Option.isNone_none]
  refine Cc_of (index1_ok l c) ?_
  rintro h' r ⟨rfl, rfl⟩
  simp only [go_sem, ↓reduceIte, Nat.reduceLT, Nat.reduceLeDiff, Nat.reduceEqDiff, Nat.reduceAdd, Nat.reduceMul, Nat.reduceSub, reduceCtorEq, Int.reduceLT, Int.reduceLE, Int.reduceEq, Int.reduceToNat, decide_true, decide_false, Int.reduceNeg, Int.cast_ofNat_Int, sg, AO.sg, Option.isNone_none]
theorem set_rep (a r : List (List UInt8)) (y x : List UInt8) : (a ++ y :: r).set a.length x = (a ++ [x]) ++ r := by
  rw [List.set_append_right _ _ (Nat.le_refl _), Nat.sub_self, List.set_cons_zero, List.append_assoc]; rfl
theorem encS_rep (n : Nat) : encS (List.replicate n []) = List.replicate n [.str []] := by simp [encS]
theorem gensplit_ok (l : List UInt8) (c : UInt8) (hl : l.length ≤ 100000000) : ACalls Tryd.prog 44 [.p (.str l), .p (.str [c]), .p (.int .i64 0), .p (.int .i64 (-1))] [] fun h r => h = [(0, .arr 9 1 (encS (splitL c l)))] ∧ r = .ref 0 0 (splitL c l).length (splitL c l).length := by
  refine ACalls_X Tryd.func44 rfl enters44 (by simp [Tryd.f44]) ?_
  have hn := splitL_len c l
  have hc : l.count c ≤ l.length := List.count_le_length
  have w1 : IntKind.i64.wrap ((l.count c : Nat) + 1) = (((splitL c l).length : Nat) : Int) := by rw [hn, wrap_i64_id] <;> omega
  have w2 : IntKind.i64.wrap ((l.length : Int) + 1) = (l.length : Int) + 1 := by rw [wrap_i64_id] <;> omega
  have w3 : ¬ (l.length : Int) + 1 < (((splitL c l).length : Nat) : Int) := by omega
  have w4 : IntKind.i64.wrap ((((splitL c l).length : Nat) : Int) - 1) = ((l.count c : Nat) : Int) := by rw [hn, wrap_i64_id] <;> omega
  simp only [go_sem, ↓reduceIte, Nat.reduceLT, Nat.reduceLeDiff, Nat.reduceEqDiff, Nat.reduceAdd, Nat.reduceMul, Nat.reduceSub, reduceCtorEq, Int.reduceLT, Int.reduceLE, Int.reduceEq, Int.reduceToNat, decide_true, decide_false, Int.reduceNeg, Int.cast_ofNat_Int, sg, AO.sg, Option.isNone_none]
  refine Cc_of (count_ok l c) ?_
  rintro h' r ⟨rfl, rfl⟩
  simp only [go_sem, ↓reduceIte, Nat.reduceLT, Nat.reduceLeDiff, Nat.reduceEqDiff, Nat.reduceAdd, Nat.reduceMul, Nat.reduceSub, reduceCtorEq, Int.reduceLT, Int.reduceLE, Int.reduceEq, Int.reduceToNat, decide_true, decide_false, Int.reduceNeg, Int.cast_ofNat_Int, sg, AO.sg, Option.isNone_none, w1, w2, w3, w4, Int.toNat_natCast]
  refine ⟨by omega, ?_⟩
  generalize hS : splitL c l = S at *
  refine X_loop_inv (fun q : List (List UInt8) × List UInt8 => ⟨[(0, .p (.str q.2)), (1, .p (.str [c])), (2, .p (.int .i64 0)), (3, .p (.int .i64 (l.count c : Nat))), (9, .ref 31 0 S.length S.length), (10, .p (.int .i64 (q.1.length : Nat)))], [(31, .arr 9 1 (encS (q.1 ++ List.replicate (S.length - q.1.length) [])))], 66⟩)
    (fun q => S = q.1 ++ splitL c q.2 ∧ q.2.length ≤ l.length) (fun q => S.length - q.1.length) ([], l) ⟨by simp [hS], by simp⟩ (Wk.forget (by simp [Le, LeE, LeH, get, envIds, hpIds, KeepH, D.ids, idsL, AO.ids, setL, base, encS_rep])) ?_
  rintro ⟨a, t⟩ n ⟨he, ht⟩ ih
  simp only at he ht
  have hln := congrArg List.length he
  rw [List.length_append, splitL_len] at hln
  simp only [go_sem, ↓reduceIte, Nat.reduceLT, Nat.reduceLeDiff, Nat.reduceEqDiff, Nat.reduceAdd, Nat.reduceMul, Nat.reduceSub, reduceCtorEq, Int.reduceLT, Int.reduceLE, Int.reduceEq, Int.reduceToNat, decide_true, decide_false, Int.reduceNeg, Int.cast_ofNat_Int, sg, AO.sg, Option.isNone_none]
  refine Cn_split (fun h2 => ?_) (fun h2 => ?_)
  · have hlt : a.length < l.count c := by simp at h2; omega
    simp only [go_sem, ↓reduceIte, Nat.reduceLT, Nat.reduceLeDiff, Nat.reduceEqDiff, Nat.reduceAdd, Nat.reduceMul, Nat.reduceSub, reduceCtorEq, Int.reduceLT, Int.reduceLE, Int.reduceEq, Int.reduceToNat, decide_true, decide_false, Int.reduceNeg, Int.cast_ofNat_Int, sg, AO.sg, Option.isNone_none]
    refine Cc_of (index_ok t c) ?_
    rintro h' r ⟨rfl, rfl⟩
    rcases indexByte_spec c t with ⟨h3, h4⟩ | ⟨m, h3, h4, h5⟩
    · rw [h4] at he
      have := congrArg List.length he
      simp at this; omega
    · have c1 : ¬ (m : Int) < 0 := by omega
      have w5 : IntKind.i64.wrap ((m : Int) + 0) = (m : Int) := by rw [wrap_i64_id] <;> omega
      have w6 : IntKind.i64.wrap ((m : Int) + 1) = ((m + 1 : Nat) : Int) := by rw [wrap_i64_id] <;> omega
      have w7 := wrap_succ a.length (by omega)
      have hm1 : (0 : Int) ≤ (m : Int) ∧ (m : Int) ≤ (t.length : Int) := by omega
      have hm2 : (0 : Int) ≤ ((m + 1 : Nat) : Int) ∧ ((m + 1 : Nat) : Int) ≤ (t.length : Int) := by omega
      have ha : (0 : Int) ≤ (a.length : Int) ∧ (a.length : Int) < (S.length : Int) := by omega
      obtain ⟨k, hk⟩ : ∃ k, S.length - a.length = k + 1 := ⟨S.length - a.length - 1, by omega⟩
      have hk2 : S.length - (a.length + 1) = k := by omega
      have hlen : S.length = (a ++ [] :: List.replicate k ([] : List UInt8)).length := by simp; omega
      have hg := encS_get (a ++ [] :: List.replicate k ([] : List UInt8)) a.length (by rw [← hlen]; omega)
      simp only [go_sem, ↓reduceIte, Nat.reduceLT, Nat.reduceLeDiff, Nat.reduceEqDiff, Nat.reduceAdd, Nat.reduceMul, Nat.reduceSub, reduceCtorEq, Int.reduceLT, Int.reduceLE, Int.reduceEq, Int.reduceToNat, decide_true, decide_false, Int.reduceNeg, Int.cast_ofNat_Int, sg, AO.sg, Option.isNone_none, h3, c1, hk, w5, w6, w7, Int.toNat_natCast, encS_len, hm1, hm2, ha, hg, Int.le_refl, List.drop_zero, List.take_length]
      refine ⟨hlen, hlen, ?_⟩
      rw [← encS_set, set_rep]
      refine ih (a ++ [t.take m], t.drop (m + 1)) _ ⟨by rw [he, h5]; simp, by simp; omega⟩ (by simp; omega) ?_
      (refine Wk.forget ?_; simp [Le, LeE, LeH, get, envIds, hpIds, KeepH, D.ids, idsL, AO.ids, setL, base, hk2]; done)
  · have hlt : a.length = l.count c := by simp at h2; omega
    have hS1 : S.length - a.length = 1 := by omega
    rcases indexByte_spec c t with ⟨h3, h4⟩ | ⟨m, h3, h4, h5⟩
    · have w7 : IntKind.i64.wrap ((a.length : Int) + 1) = ((S.length : Nat) : Int) := by rw [wrap_i64_id] <;> omega
      have ha : (0 : Int) ≤ (a.length : Int) ∧ (a.length : Int) < (S.length : Int) := by omega
      have hlen : S.length = (a ++ [([] : List UInt8)]).length := by simp; omega
      have hg := encS_get (a ++ [([] : List UInt8)]) a.length (by rw [← hlen]; omega)
      have hfin : S = a ++ [t] := by rw [he, h4]
      have hS0 : (0 : Int) ≤ (S.length : Int) := by omega
      simp only [go_sem, ↓reduceIte, Nat.reduceLT, Nat.reduceLeDiff, Nat.reduceEqDiff, Nat.reduceAdd, Nat.reduceMul, Nat.reduceSub, reduceCtorEq, Int.reduceLT, Int.reduceLE, Int.reduceEq, Int.reduceToNat, decide_true, decide_false, Int.reduceNeg, Int.cast_ofNat_Int, sg, AO.sg, Option.isNone_none, hS1, w7, Int.toNat_natCast, encS_len, ha, hg, Int.le_refl, ← encS_set, set_rep, List.length_set, hS0, Int.sub_zero]
      refine ⟨hlen, hlen, by rw [hfin], end_own ?_⟩
      simp only [go_sem, ↓reduceIte, Nat.reduceLT, Nat.reduceLeDiff, Nat.reduceEqDiff, Nat.reduceAdd, Nat.reduceMul, Nat.reduceSub, reduceCtorEq, Int.reduceLT, Int.reduceLE, Int.reduceEq, Int.reduceToNat, decide_true, decide_false, Int.reduceNeg, Int.cast_ofNat_Int, sg, AO.sg, Option.isNone_none]
      rw [hfin]
    · rw [h5] at he
      have h6 := splitL_len c (t.drop (m + 1))
      have := congrArg List.length he
      simp at this; omega
theorem split_ok (l : List UInt8) (c : UInt8) (hl : l.length ≤ 100000000) : ACalls Tryd.prog 33 [.p (.str l), .p (.str [c])] [] fun h r => h = [(0, .arr 9 1 (encS (splitL c l)))] ∧ r = .ref 0 0 (splitL c l).length (splitL c l).length := by
  refine ACalls_X Tryd.func33 rfl enters33 (by simp [Tryd.f33]) ?_
  simp only [go_sem, ↓reduceIte, Nat.reduceLT, Nat.reduceLeDiff, Nat.reduceEqDiff, Nat.reduceAdd, Nat.reduceMul, Nat.reduceSub, reduceCtorEq, Int.reduceLT, Int.reduceLE, Int.reduceEq, Int.reduceToNat, decide_true, decide_false, Int.reduceNeg, Int.cast_ofNat_Int, sg, AO.sg, Option.isNone_none]
  refine Cc_of (gensplit_ok l c hl) ?_
  rintro h' r ⟨rfl, rfl⟩
  simp only [go_sem, ↓reduceIte, Nat.reduceLT, Nat.reduceLeDiff, Nat.reduceEqDiff, Nat.reduceAdd, Nat.reduceMul, Nat.reduceSub, reduceCtorEq, Int.reduceLT, Int.reduceLE, Int.reduceEq, Int.reduceToNat, decide_true, decide_false, Int.reduceNeg, Int.cast_ofNat_Int, sg, AO.sg, Option.isNone_none]
  refine end_own ?_
  simp only [go_sem, ↓reduceIte, Nat.reduceLT, Nat.reduceLeDiff, Nat.reduceEqDiff, Nat.reduceAdd, Nat.reduceMul, Nat.reduceSub, reduceCtorEq, Int.reduceLT, Int.reduceLE, Int.reduceEq, Int.reduceToNat, decide_true, decide_false, Int.reduceNeg, Int.cast_ofNat_Int, sg, AO.sg, Option.isNone_none]
end Go.Am
