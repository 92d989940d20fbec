/- layout.Format, beside the table of strconv. -/
import Derived.Test.YtefdjkakojfhnaaDoorItoc
namespace Go.Am
open Go Go.Proofs
set_option maxRecDepth 100000
set_option linter.unusedVariables false
set_option linter.unusedSimpArgs false
def fmtR (r : List Ln × Int) : D := .tup [.p (.sl (encL r.1)), .p (.int .i64 r.2)]
theorem fmtLx_ok (d : List Dc) (hd : d.length ≤ 10000000) (hs : ∀ x ∈ d, x.names.length ≤ 10000000 ∧ x.nums.length ≤ 10000000) :
    ACalls Tryd.prog 25 [.p (.sl (encC d))] [(1000000, (.glob 1 tabCs))] fun h r => h = [(1000000, (.glob 1 tabCs))] ∧ r = fmtR (fmtV d []) := by
  refine ACalls_X Tryd.func25 rfl enters25 (by simp [Tryd.f25]) ?_
  simp only [go_sem, ↓reduceIte, Nat.reduceLT, Nat.reduceLeDiff, Nat.reduceEqDiff, Nat.reduceAdd, Nat.reduceMul, Nat.reduceSub, reduceCtorEq, Int.reduceLT, Int.reduceLE, Int.reduceEq, Int.reduceToNat, decide_true, decide_false, Int.reduceNeg, Int.cast_ofNat_Int, sg, AO.sg, Option.isNone_none, encC_len]
  refine X_loop_inv (fun q : Nat × List Ln => ⟨[(10, .p (.sl (encC d))), (11, .p (.int .i64 (d.length : Nat))), (12, .p (.int .i64 (q.1 : Nat))), (4, .ref 49 0 q.2.length q.2.length)], [(49, .arr 72 2 (encL q.2)), (1000000, (.glob 1 tabCs))], 52⟩)
    (fun q => q.1 ≤ d.length ∧ q.2.length ≤ q.1 ∧ fmtV (d.drop q.1) q.2 = fmtV d []) (fun q => d.length - q.1) (0, []) ⟨Nat.zero_le _, by simp, by simp⟩ ((Wk.nil (t := 4) (q := 49) (sz := 2) 72 rfl rfl (by decide)).trans (Wk.forget (by simp [Le, LeE, LeH, get, envIds, hpIds, KeepH, D.ids, idsL, AO.ids, setL, base, encL]))) ?_
  rintro ⟨i, acc⟩ n ⟨hi, ha, he⟩ ih
  simp only at hi ha he
  simp only [go_sem, ↓reduceIte, Nat.reduceLT, Nat.reduceLeDiff, Nat.reduceEqDiff, Nat.reduceAdd, Nat.reduceMul, Nat.reduceSub, reduceCtorEq, Int.reduceLT, Int.reduceLE, Int.reduceEq, Int.reduceToNat, decide_true, decide_false, Int.reduceNeg, Int.cast_ofNat_Int, sg, AO.sg, Option.isNone_none]
  refine Cn_split (fun h2 => ?_) (fun h2 => ?_)
  · have hlt : i < d.length := by simp at h2; omega
    have hw := wrap_succ i (by omega)
    have hdropi := drop_getD d i dc0 hlt
    rw [hdropi] at he
    have hx := hs _ (getD_mem d i dc0 hlt)
    have hg := encC_get d i hlt
    generalize hxe : d.getD i dc0 = x at *
    have hi0 : (0 : Int) ≤ (i : Int) ∧ (i : Int) < (d.length : Int) := by omega
    simp only [go_sem, ↓reduceIte, Nat.reduceLT, Nat.reduceLeDiff, Nat.reduceEqDiff, Nat.reduceAdd, Nat.reduceMul, Nat.reduceSub, reduceCtorEq, Int.reduceLT, Int.reduceLE, Int.reduceEq, Int.reduceToNat, decide_true, decide_false, Int.reduceNeg, Int.cast_ofNat_Int, sg, AO.sg, Option.isNone_none, encC_len, Int.toNat_natCast, hg, hi0]
    refine Cc_of ((valid_ok x ⟨hx.1, hx.2⟩).glob (id := 1000000) (by decide) rfl (by simp [idsL, D.ids, hpIds, Dc.d]) (fun h1 r hr => by rw [hr.1]; rfl)) ?_
    rintro h' r ⟨_, ⟨rfl, rfl⟩, rfl⟩
    simp only [go_sem, ↓reduceIte, Nat.reduceLT, Nat.reduceLeDiff, Nat.reduceEqDiff, Nat.reduceAdd, Nat.reduceMul, Nat.reduceSub, reduceCtorEq, Int.reduceLT, Int.reduceLE, Int.reduceEq, Int.reduceToNat, decide_true, decide_false, Int.reduceNeg, Int.cast_ofNat_Int, sg, AO.sg, Option.isNone_none]
    cases hv : validV x
    · simp only [go_sem, ↓reduceIte, Nat.reduceLT, Nat.reduceLeDiff, Nat.reduceEqDiff, Nat.reduceAdd, Nat.reduceMul, Nat.reduceSub, reduceCtorEq, Int.reduceLT, Int.reduceLE, Int.reduceEq, Int.reduceToNat, decide_true, decide_false, Int.reduceNeg, Int.cast_ofNat_Int, sg, AO.sg, Option.isNone_none]
      refine end_pure ?_
      simp only [go_sem, ↓reduceIte, Nat.reduceLT, Nat.reduceLeDiff, Nat.reduceEqDiff, Nat.reduceAdd, Nat.reduceMul, Nat.reduceSub, reduceCtorEq, Int.reduceLT, Int.reduceLE, Int.reduceEq, Int.reduceToNat, decide_true, decide_false, Int.reduceNeg, Int.cast_ofNat_Int, sg, AO.sg, Option.isNone_none]
      simp only [fmtV, hv] at he
      rw [← he]
      rfl
    · obtain ⟨hw1, hw2, hw3, hw4, hw5⟩ := (valid_iff x).1 hv
      obtain ⟨word, line, names, nums⟩ := x
      simp only at hw1 hw2 hw3 hw4 hw5 hx hg
      obtain ⟨j, rfl⟩ : ∃ j : Nat, word = (j : Int) := ⟨word.toNat, by omega⟩
      have hj : j < 7 := by omega
      have hfc := form_cells j hj
      have hfl : j * 3 + 3 ≤ (formL.flatMap fmC).length := by rw [formC_len]; omega
      have hj0 : (0 : Int) ≤ (j : Int) ∧ (j : Int) < 7 := by omega
      have hdt : List.take 3 (List.drop (j * 3) (List.map D.p (formL.flatMap fmC))) = [.p (.str (formJ j).word), .p (.str (formJ j).fields), .p (.bool (formJ j).more)] := by
        rw [← List.map_drop, ← List.map_take, hfc]; rfl
      have hfw : [[Pd.str (formJ j).word]] ++ encS names = encS ((formJ j).word :: names) := rfl
      have hwid : Wid 1 (encS names) := by simp [Wid, encS]
      simp only [go_sem, ↓reduceIte, Nat.reduceLT, Nat.reduceLeDiff, Nat.reduceEqDiff, Nat.reduceAdd, Nat.reduceMul, Nat.reduceSub, reduceCtorEq, Int.reduceLT, Int.reduceLE, Int.reduceEq, Int.reduceToNat, decide_true, decide_false, Int.reduceNeg, Int.cast_ofNat_Int, sg, AO.sg, Option.isNone_none]
      refine X_any0 mixed (p := [(0, 0), (1, 0), (3, 0), (4, 0), (8, 0), (9, 0), (12, 1), (2, 2), (5, 0), (6, 0), (7, 1), (10, 2), (11, 0), (13, 3)]) (by kernel_rfl) (by simp [LeH, get]) ?_
      simp only [go_sem, ↓reduceIte, Nat.reduceLT, Nat.reduceLeDiff, Nat.reduceEqDiff, Nat.reduceAdd, Nat.reduceMul, Nat.reduceSub, reduceCtorEq, Int.reduceLT, Int.reduceLE, Int.reduceEq, Int.reduceToNat, decide_true, decide_false, Int.reduceNeg, Int.cast_ofNat_Int, sg, AO.sg, Option.isNone_none]
      refine Gh_of (forms_ok.glob (id := 1000000) (by decide) rfl (by simp [idsL, D.ids, hpIds]) (fun h1 r hr => by rw [hr.1]; rfl)) ?_
      rintro h' r ⟨_, ⟨rfl, rfl⟩, rfl⟩
      simp only [go_sem, ↓reduceIte, Nat.reduceLT, Nat.reduceLeDiff, Nat.reduceEqDiff, Nat.reduceAdd, Nat.reduceMul, Nat.reduceSub, reduceCtorEq, Int.reduceLT, Int.reduceLE, Int.reduceEq, Int.reduceToNat, decide_true, decide_false, Int.reduceNeg, Int.cast_ofNat_Int, sg, AO.sg, Option.isNone_none, Int.toNat_natCast, hfl, hdt, hj0, hfw, encS_len]
      refine ⟨⟨hwid, by omega, by omega⟩, ?_⟩
      refine X_loop_inv (fun q : Nat × List (List UInt8) => ⟨[(4, .ref 49 0 acc.length acc.length), (7, .ptr 7 0), (10, .p (.sl (encC d))), (11, .p (.int .i64 (d.length : Nat))), (12, .p (.int .i64 (i : Nat))),
          (32, .p (.sl (encI nums))), (33, .p (.int .i64 (nums.length : Nat))), (34, .p (.int .i64 (q.1 : Nat)))],
          [(7, .box [.p (.int .i64 line), .ref 26 0 q.2.length q.2.length]), (26, .arr 9 1 (encS q.2)), (49, .arr 72 2 (encL acc)), (1000000, (.glob 1 tabCs))], 52⟩)
        (fun q => q.1 ≤ nums.length ∧ q.2.length ≤ 10000001 + q.1 ∧ q.2 ++ (nums.drop q.1).map digV = formLine ⟨j, line, names, nums⟩) (fun q => nums.length - q.1) (0, (formJ j).word :: names) ⟨Nat.zero_le _, by simp; omega, by simp [formLine]⟩
        (Wk.forget (by simp [Le, LeE, LeH, get, envIds, hpIds, KeepH, D.ids, idsL, AO.ids, setL, base, encI_len, encS])) ?_
      rintro ⟨m, fs⟩ n2 ⟨hm, hfs, he2⟩ ih2
      simp only at hm hfs he2
      simp only [go_sem, ↓reduceIte, Nat.reduceLT, Nat.reduceLeDiff, Nat.reduceEqDiff, Nat.reduceAdd, Nat.reduceMul, Nat.reduceSub, reduceCtorEq, Int.reduceLT, Int.reduceLE, Int.reduceEq, Int.reduceToNat, decide_true, decide_false, Int.reduceNeg, Int.cast_ofNat_Int, sg, AO.sg, Option.isNone_none]
      refine Cn_split (fun h3 => ?_) (fun h3 => ?_)
      · have hmt : m < nums.length := by simp at h3; omega
        have hwm := wrap_succ m (by omega)
        have hgm := encI_get nums m hmt
        have hnm : -9223372036854775808 ≤ nums.getD m 0 ∧ nums.getD m 0 ≤ 9223372036854775807 := by
          have := hw5 _ (getD_mem nums m 0 hmt)
          omega
        rw [drop_getD nums m 0 hmt] at he2
        generalize hk : nums.getD m 0 = k at *
        have hm0 : (0 : Int) ≤ (m : Int) ∧ (m : Int) < (nums.length : Int) := by omega
        simp only [go_sem, ↓reduceIte, Nat.reduceLT, Nat.reduceLeDiff, Nat.reduceEqDiff, Nat.reduceAdd, Nat.reduceMul, Nat.reduceSub, reduceCtorEq, Int.reduceLT, Int.reduceLE, Int.reduceEq, Int.reduceToNat, decide_true, decide_false, Int.reduceNeg, Int.cast_ofNat_Int, sg, AO.sg, Option.isNone_none, encI_len, Int.toNat_natCast, hgm, hm0]
        refine X_any [(7, .box [.p (.int .i64 line), .ref 26 0 fs.length fs.length]), (1000000, (.glob 1 tabCs))] mixed (p := [(0, 0), (1, 0), (2, 0), (3, 2), (4, 1), (5, 2), (6, 0), (7, 3)]) (by kernel_rfl) (by simp [LeH, get]) ?_
        simp only [go_sem, ↓reduceIte, Nat.reduceLT, Nat.reduceLeDiff, Nat.reduceEqDiff, Nat.reduceAdd, Nat.reduceMul, Nat.reduceSub, reduceCtorEq, Int.reduceLT, Int.reduceLE, Int.reduceEq, Int.reduceToNat, decide_true, decide_false, Int.reduceNeg, Int.cast_ofNat_Int, sg, AO.sg, Option.isNone_none]
        refine Gh_of (itoa_ok k hnm.1 hnm.2) ?_
        rintro h' r ⟨rfl, rfl⟩
        simp only [go_sem, ↓reduceIte, Nat.reduceLT, Nat.reduceLeDiff, Nat.reduceEqDiff, Nat.reduceAdd, Nat.reduceMul, Nat.reduceSub, reduceCtorEq, Int.reduceLT, Int.reduceLE, Int.reduceEq, Int.reduceToNat, decide_true, decide_false, Int.reduceNeg, Int.cast_ofNat_Int, sg, AO.sg, Option.isNone_none, encS_len]
        refine ⟨⟨wid1 _ _ rfl, by omega⟩, ?_⟩
        simp only [go_sem, ↓reduceIte, Nat.reduceLT, Nat.reduceLeDiff, Nat.reduceEqDiff, Nat.reduceAdd, Nat.reduceMul, Nat.reduceSub, reduceCtorEq, Int.reduceLT, Int.reduceLE, Int.reduceEq, Int.reduceToNat, decide_true, decide_false, Int.reduceNeg, Int.cast_ofNat_Int, sg, AO.sg, Option.isNone_none, hwm]
        refine ih2 (m + 1, fs ++ [digV k]) _ ⟨hmt, by simp; omega, by rw [← he2]; simp⟩ (by simp only; omega) ?_
        (refine Wk.forget ?_; simp [Le, LeE, LeH, get, envIds, hpIds, KeepH, D.ids, idsL, AO.ids, setL, base, encS_snoc, encS_len]; done)
      · have hml : m = nums.length := by simp at h3; omega
        subst hml
        simp only [List.drop_length, List.map_nil, List.append_nil] at he2
        simp only [go_sem, ↓reduceIte, Nat.reduceLT, Nat.reduceLeDiff, Nat.reduceEqDiff, Nat.reduceAdd, Nat.reduceMul, Nat.reduceSub, reduceCtorEq, Int.reduceLT, Int.reduceLE, Int.reduceEq, Int.reduceToNat, decide_true, decide_false, Int.reduceNeg, Int.cast_ofNat_Int, sg, AO.sg, Option.isNone_none, encS_len, encL_len, encS_take fs fs.length (Nat.le_refl _), hw]
        refine ⟨⟨wid1 _ _ rfl, by omega⟩, ?_⟩
        simp only [fmtV, hv, if_true] at he
        refine ih (i + 1, acc ++ [⟨line, fs⟩]) _ ⟨hlt, by simp; omega, by rw [he2]; exact he⟩ (by simp only; omega) ?_
        (refine Wk.forget ?_; simp [Le, LeE, LeH, get, envIds, hpIds, KeepH, D.ids, idsL, AO.ids, setL, base, encL_snoc, encL_len]; done)
  · simp only [go_sem, ↓reduceIte, Nat.reduceLT, Nat.reduceLeDiff, Nat.reduceEqDiff, Nat.reduceAdd, Nat.reduceMul, Nat.reduceSub, reduceCtorEq, Int.reduceLT, Int.reduceLE, Int.reduceEq, Int.reduceToNat, decide_true, decide_false, Int.reduceNeg, Int.cast_ofNat_Int, sg, AO.sg, Option.isNone_none]
    have : i = d.length := by simp at h2; omega
    subst this
    refine end_pure ?_
    simp only [go_sem, ↓reduceIte, Nat.reduceLT, Nat.reduceLeDiff, Nat.reduceEqDiff, Nat.reduceAdd, Nat.reduceMul, Nat.reduceSub, reduceCtorEq, Int.reduceLT, Int.reduceLE, Int.reduceEq, Int.reduceToNat, decide_true, decide_false, Int.reduceNeg, Int.cast_ofNat_Int, sg, AO.sg, Option.isNone_none]
    rw [List.drop_length] at he
    simp only [fmtV] at he
    rw [← he, encL_take _ _ (Nat.le_refl _)]
    exact ⟨(encL_len acc).symm, rfl⟩
theorem fmtL_ok (d : List Dc) (hd : d.length ≤ 10000000) (hs : ∀ x ∈ d, x.names.length ≤ 10000000 ∧ x.nums.length ≤ 10000000 ∧ ∀ n ∈ x.nums, -9223372036854775808 ≤ n ∧ n ≤ 9223372036854775807) :
    ACalls Tryd.prog 25 [.p (.sl (encC d))] [(1000000, (.glob 1 tabCs))] fun h r => h = [(1000000, (.glob 1 tabCs))] ∧ r = fmtR (fmtV d []) := fmtLx_ok d hd fun x hx => ⟨(hs x hx).1, (hs x hx).2.1⟩
end Go.Am
