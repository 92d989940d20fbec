/- lines of the law: what it makes. -/
import Derived.Test.YtefdjkakojfhnaaDoorSamd
namespace Go.Am
open Go Go.Proofs
set_option maxRecDepth 100000
set_option linter.unusedVariables false
set_option linter.unusedSimpArgs false
def wordsL : List (List UInt8) := [[98, 108, 111, 99, 107], [108, 97, 110, 101], [115, 116, 97, 116, 105, 111, 110], [100, 101, 112, 111, 116], [114, 111, 98, 111, 116], [99, 111, 110, 102, 105, 103], [98, 108, 111, 99, 107, 115]]
def partsL : List (List UInt8) := [[97], [98, 49], [99, 45, 100], [49], [48], [45, 55], [57, 57, 57, 57], [49, 48, 48, 48, 48], [48, 49], [120, 33]]
def namesL : List Int := [1, 2, 3, 3, 1, 0, 1]
def numsL : List Int := [2, 0, 1, 1, 1, 4, 1]
def nmL (l : List Int) (nw : Int) : Nat → Nat → Nat → List (List UInt8) → Nat × List (List UInt8)
  | 0, at_, _, fs => (at_, fs)
  | f + 1, at_, i, fs => if (i : Int) < nw + (nextV l at_ 8).tdiv 7 then nmL l nw f (at_ + 1 + 1) (i + 1) (fs ++ [partsL.getD (nextV l (at_ + 1) 3).toNat []]) else (at_ + 1, fs)
def nuL (l : List Int) : Nat → Nat → List (List UInt8) → Nat × List (List UInt8)
  | 0, at_, fs => (at_, fs)
  | k + 1, at_, fs => nuL l k (at_ + 1) (fs ++ [partsL.getD (3 + nextV l at_ 4).toNat []])
def wV (l : List Int) (at_ : Nat) : Int := if 0 < nextV l (at_ + 1) 4 then nextV l (at_ + 1 + 1) 6 else nextV l at_ 7
def aV (l : List Int) (at_ : Nat) : Nat := if 0 < nextV l (at_ + 1) 4 then at_ + 1 + 1 + 1 else at_ + 1 + 1
def p1V (l : List Int) (at_ : Nat) : Nat × List (List UInt8) := nmL l (namesL.getD (wV l at_).toNat 0) 6 (aV l at_ + 1) 0 [wordsL.getD (wV l at_).toNat []]
def p2V (l : List Int) (at_ : Nat) : Nat × List (List UInt8) := nuL l (numsL.getD (wV l at_).toNat 0).toNat (p1V l at_).1 (p1V l at_).2
def lnV (l : List Int) (at_ : Nat) : Ln × Nat :=
  if nextV l (p2V l at_).1 12 = 0 then
    (⟨nextV l (aV l at_) 99, (p2V l at_).2.set (nextV l ((p2V l at_).1 + 1) (p2V l at_).2.length).toNat (partsL.getD (nextV l ((p2V l at_).1 + 1 + 1) 10).toNat [])⟩, (p2V l at_).1 + 1 + 1 + 1)
  else (⟨nextV l (aV l at_) 99, (p2V l at_).2⟩, (p2V l at_).1 + 1)
def mkV (l : List Int) : Nat → Nat → List Ln → List Ln
  | 0, _, acc => acc
  | k + 1, at_, acc => mkV l k (lnV l at_).2 (acc ++ [(lnV l at_).1])
def linesV (l : List Int) : List Ln := mkV l (nextV l 0 6).toNat 1 []
theorem wV_rng (l : List Int) (at_ : Nat) : ∃ k : Nat, wV l at_ = (k : Int) ∧ k < 7 := by
  unfold wV
  split
  · obtain ⟨k, h1, h2⟩ := nextV_rng l (at_ + 1 + 1) 6 (by omega); exact ⟨k, h1, by omega⟩
  · obtain ⟨k, h1, h2⟩ := nextV_rng l at_ 7 (by omega); exact ⟨k, h1, by omega⟩
theorem wordsE_len : (encS wordsL).length = 7 := rfl
theorem partsE_len : (encS partsL).length = 10 := rfl
theorem partsL_len : partsL.length = 10 := rfl
theorem namesE_len : (encI namesL).length = 7 := rfl
theorem numsE_len : (encI numsL).length = 7 := rfl
theorem lines_ok (l : List Int) : ACalls Tryd.prog 30 [.p (.sl (encI l))] [] fun h r => h = [(0, .arr 72 2 (encL (linesV l)))] ∧ r = .ref 0 0 (linesV l).length (linesV l).length := by
  refine ACalls_X Tryd.func30 rfl enters30 (by simp [Tryd.f30]) ?_
  simp only [go_sem, ↓reduceIte, Nat.reduceLT, Nat.reduceLeDiff, Nat.reduceEqDiff, Nat.reduceAdd, Nat.reduceMul, Nat.reduceSub, reduceCtorEq, Int.reduceLT, Int.reduceLE, Int.reduceEq, Int.reduceToNat, decide_true, decide_false, Int.reduceNeg, Int.cast_ofNat_Int, sg, AO.sg, Option.isNone_none]
  refine Cc_of (next_ok l 0 6 (by omega) (in64_small _ (by omega) (by omega))) ?_
  rintro h' r ⟨rfl, rfl⟩
  obtain ⟨k0, hk0, hk6⟩ := nextV_rng l 0 6 (by omega)
  have hgoal : linesV l = mkV l k0 1 [] := by unfold linesV; rw [hk0]; rfl
  rw [hgoal]
  simp only [go_sem, ↓reduceIte, Nat.reduceLT, Nat.reduceLeDiff, Nat.reduceEqDiff, Nat.reduceAdd, Nat.reduceMul, Nat.reduceSub, reduceCtorEq, Int.reduceLT, Int.reduceLE, Int.reduceEq, Int.reduceToNat, decide_true, decide_false, Int.reduceNeg, Int.cast_ofNat_Int, sg, AO.sg, Option.isNone_none, tapeC, hk0]
  refine X_loop_inv (fun q : Nat × Nat × List Ln => ⟨[(3, .ptr 16 0), (4, .ref 17 0 7 7), (5, .ref 18 0 10 10), (6, .ref 19 0 7 7), (7, .ref 20 0 7 7), (8, .ref 104 0 q.2.2.length q.2.2.length), (9, .p (.int .i64 (q.1 : Nat)))],
      [(16, .box [.p (.sl (encI l)), .p (.int .i64 (q.2.1 : Nat))]), (17, .arr 9 1 (encS wordsL)), (18, .arr 9 1 (encS partsL)), (19, .arr 3 1 (encI namesL)), (20, .arr 3 1 (encI numsL)), (104, .arr 72 2 (encL q.2.2))], 106⟩)
    (fun q => q.1 ≤ 6 ∧ q.2.1 ≤ 1 + 100 * (6 - q.1) ∧ q.2.2.length ≤ 6 - q.1 ∧ mkV l q.1 q.2.1 q.2.2 = mkV l k0 1 []) (fun q => q.1) (k0, 1, []) ⟨by simp only; omega, by simp only; omega, by simp, rfl⟩
    ((Wk.nil (t := 8) (q := 104) (sz := 2) 72 rfl rfl (by decide)).trans (Wk.forget (by simp [Le, LeE, LeH, get, envIds, hpIds, KeepH, D.ids, idsL, AO.ids, setL, base, encL, encS, encI, wordsL, partsL, namesL, numsL]))) ?_
  rintro ⟨k, at_, acc⟩ n ⟨hk, hat, hacc, he⟩ ih
  simp only at hk hat hacc he
  simp only [go_sem, ↓reduceIte, Nat.reduceLT, Nat.reduceLeDiff, Nat.reduceEqDiff, Nat.reduceAdd, Nat.reduceMul, Nat.reduceSub, reduceCtorEq, Int.reduceLT, Int.reduceLE, Int.reduceEq, Int.reduceToNat, decide_true, decide_false, Int.reduceNeg, Int.cast_ofNat_Int, sg, AO.sg, Option.isNone_none]
  refine Cn_split (fun h2 => ?_) (fun h2 => ?_)
  · have hk1 : 1 ≤ k := by simp at h2; omega
    obtain ⟨k, rfl⟩ : ∃ j, k = j + 1 := ⟨k - 1, by omega⟩
    simp only [go_sem, ↓reduceIte, Nat.reduceLT, Nat.reduceLeDiff, Nat.reduceEqDiff, Nat.reduceAdd, Nat.reduceMul, Nat.reduceSub, reduceCtorEq, Int.reduceLT, Int.reduceLE, Int.reduceEq, Int.reduceToNat, decide_true, decide_false, Int.reduceNeg, Int.cast_ofNat_Int, sg, AO.sg, Option.isNone_none]
    refine Cc_of (next_ok l at_ 7 (by omega) (in64_small _ (by omega) (by omega))) ?_
    rintro h' r ⟨rfl, rfl⟩
    simp only [go_sem, ↓reduceIte, Nat.reduceLT, Nat.reduceLeDiff, Nat.reduceEqDiff, Nat.reduceAdd, Nat.reduceMul, Nat.reduceSub, reduceCtorEq, Int.reduceLT, Int.reduceLE, Int.reduceEq, Int.reduceToNat, decide_true, decide_false, Int.reduceNeg, Int.cast_ofNat_Int, sg, AO.sg, Option.isNone_none, tapeC]
    refine Cc_of (next_ok l (at_ + 1) 4 (by omega) (in64_small _ (by omega) (by omega))) ?_
    rintro h' r ⟨rfl, rfl⟩
    simp only [go_sem, ↓reduceIte, Nat.reduceLT, Nat.reduceLeDiff, Nat.reduceEqDiff, Nat.reduceAdd, Nat.reduceMul, Nat.reduceSub, reduceCtorEq, Int.reduceLT, Int.reduceLE, Int.reduceEq, Int.reduceToNat, decide_true, decide_false, Int.reduceNeg, Int.cast_ofNat_Int, sg, AO.sg, Option.isNone_none, tapeC]
    have haV : aV l at_ ≤ at_ + 3 := by unfold aV; split <;> omega
    obtain ⟨w, hw, hw7⟩ := wV_rng l at_
    refine Cn_split (fun h3 => ?_) (fun h3 => ?_)
    rotate_left
    all_goals
      first
        | (have h3' : ¬ 0 < nextV l (at_ + 1) 4 := by simpa using h3
           have e1 : nextV l at_ 7 = (w : Int) := by rw [← hw]; simp [wV, h3']
           have e2 : at_ + 1 + 1 = aV l at_ := by simp [aV, h3']
           simp only [go_sem, ↓reduceIte, Nat.reduceLT, Nat.reduceLeDiff, Nat.reduceEqDiff, Nat.reduceAdd, Nat.reduceMul, Nat.reduceSub, reduceCtorEq, Int.reduceLT, Int.reduceLE, Int.reduceEq, Int.reduceToNat, decide_true, decide_false, Int.reduceNeg, Int.cast_ofNat_Int, sg, AO.sg, Option.isNone_none, tapeC, e1, e2])
        | (have h3' : 0 < nextV l (at_ + 1) 4 := by simpa using h3
           have e1 : nextV l (at_ + 1 + 1) 6 = (w : Int) := by rw [← hw]; simp [wV, h3']
           have e2 : at_ + 1 + 1 + 1 = aV l at_ := by simp [aV, h3']
           simp only [go_sem, ↓reduceIte, Nat.reduceLT, Nat.reduceLeDiff, Nat.reduceEqDiff, Nat.reduceAdd, Nat.reduceMul, Nat.reduceSub, reduceCtorEq, Int.reduceLT, Int.reduceLE, Int.reduceEq, Int.reduceToNat, decide_true, decide_false, Int.reduceNeg, Int.cast_ofNat_Int, sg, AO.sg, Option.isNone_none, tapeC]
           refine Cc_of (next_ok l (at_ + 1 + 1) 6 (by omega) (in64_small _ (by omega) (by omega))) ?_
           rintro h' r ⟨rfl, rfl⟩
           simp only [go_sem, ↓reduceIte, Nat.reduceLT, Nat.reduceLeDiff, Nat.reduceEqDiff, Nat.reduceAdd, Nat.reduceMul, Nat.reduceSub, reduceCtorEq, Int.reduceLT, Int.reduceLE, Int.reduceEq, Int.reduceToNat, decide_true, decide_false, Int.reduceNeg, Int.cast_ofNat_Int, sg, AO.sg, Option.isNone_none, tapeC, e1, e2])
      have hw0 : (0 : Int) ≤ (w : Int) ∧ (w : Int) < 7 := by omega
      have hgw := encS_get wordsL w (by simpa [wordsL] using hw7)
      have hgn := encI_get namesL w (by simpa [namesL] using hw7)
      have hgk := encI_get numsL w (by simpa [numsL] using hw7)
      generalize ha : aV l at_ = a at haV e2
      refine X_any [(17, .arr 9 1 (encS wordsL))] mixed (p := [(0, 0), (2, 0), (3, 0), (4, 0), (5, 0), (6, 1), (8, 1), (1, 2), (7, 0), (9, 3)]) (by kernel_rfl) (by simp [LeH, get]) ?_
      simp only [go_sem, ↓reduceIte, Nat.reduceLT, Nat.reduceLeDiff, Nat.reduceEqDiff, Nat.reduceAdd, Nat.reduceMul, Nat.reduceSub, reduceCtorEq, Int.reduceLT, Int.reduceLE, Int.reduceEq, Int.reduceToNat, decide_true, decide_false, Int.reduceNeg, Int.cast_ofNat_Int, sg, AO.sg, Option.isNone_none, tapeC, Int.toNat_natCast, hgw, wordsE_len, hw0]
      refine Gh_of (next_ok l a 99 (by omega) (in64_small _ (by omega) (by omega))) ?_
      rintro h' r ⟨rfl, rfl⟩
      simp only [go_sem, ↓reduceIte, Nat.reduceLT, Nat.reduceLeDiff, Nat.reduceEqDiff, Nat.reduceAdd, Nat.reduceMul, Nat.reduceSub, reduceCtorEq, Int.reduceLT, Int.reduceLE, Int.reduceEq, Int.reduceToNat, decide_true, decide_false, Int.reduceNeg, Int.cast_ofNat_Int, sg, AO.sg, Option.isNone_none, tapeC]
      have hnw : 0 ≤ namesL.getD w 0 ∧ namesL.getD w 0 ≤ 3 := by
        rcases w with _ | _ | _ | _ | _ | _ | _ | w <;> first | decide | omega
      have hnk : 0 ≤ numsL.getD w 0 ∧ numsL.getD w 0 ≤ 4 := by
        rcases w with _ | _ | _ | _ | _ | _ | _ | w <;> first | decide | omega
      refine X_loop_inv (fun q : Nat × Nat × List (List UInt8) => ⟨[(3, .ptr 16 0), (4, .ref 17 0 7 7), (5, .ref 18 0 10 10), (6, .ref 19 0 7 7), (7, .ref 20 0 7 7), (8, .ref 104 0 acc.length acc.length), (9, .p (.int .i64 (k + 1 : Nat))), (10, .p (.int .i64 (w : Nat))), (11, .ptr 11 0), (12, .p (.int .i64 (q.1 : Nat)))],
          [(11, .box [.p (.int .i64 (nextV l a 99)), .ref 40 0 q.2.2.length q.2.2.length]), (40, .arr 9 1 (encS q.2.2)),
           (16, .box [.p (.sl (encI l)), .p (.int .i64 (q.2.1 : Nat))]), (17, .arr 9 1 (encS wordsL)), (18, .arr 9 1 (encS partsL)), (19, .arr 3 1 (encI namesL)), (20, .arr 3 1 (encI numsL)), (104, .arr 72 2 (encL acc))], 106⟩)
        (fun q => q.1 ≤ 4 ∧ q.2.1 ≤ a + 1 + 2 * q.1 ∧ q.2.2.length = 1 + q.1 ∧ nmL l (namesL.getD w 0) (6 - q.1) q.2.1 q.1 q.2.2 = p1V l at_) (fun q => 6 - q.1) (0, a + 1, [wordsL.getD w []]) ⟨by simp, by simp, by simp, by simp only [p1V, hw, ha, Int.toNat_natCast]⟩
        (Wk.forget (by simp [Le, LeE, LeH, get, envIds, hpIds, KeepH, D.ids, idsL, AO.ids, setL, base, encS])) ?_
      rintro ⟨i, b, fs⟩ m ⟨hi4, hb, hfs, he1⟩ ih1
      simp only at hi4 hb hfs he1
      simp only [go_sem, ↓reduceIte, Nat.reduceLT, Nat.reduceLeDiff, Nat.reduceEqDiff, Nat.reduceAdd, Nat.reduceMul, Nat.reduceSub, reduceCtorEq, Int.reduceLT, Int.reduceLE, Int.reduceEq, Int.reduceToNat, decide_true, decide_false, Int.reduceNeg, Int.cast_ofNat_Int, sg, AO.sg, Option.isNone_none]
      refine X_any [(19, .arr 3 1 (encI namesL))] mixed (p := [(0, 0), (1, 0), (2, 0), (3, 0), (4, 0), (5, 0), (6, 2), (7, 0), (8, 0), (9, 0)]) (by kernel_rfl) (by simp [LeH, get]) ?_
      simp only [go_sem, ↓reduceIte, Nat.reduceLT, Nat.reduceLeDiff, Nat.reduceEqDiff, Nat.reduceAdd, Nat.reduceMul, Nat.reduceSub, reduceCtorEq, Int.reduceLT, Int.reduceLE, Int.reduceEq, Int.reduceToNat, decide_true, decide_false, Int.reduceNeg, Int.cast_ofNat_Int, sg, AO.sg, Option.isNone_none, tapeC, Int.toNat_natCast, hgn, namesE_len, hw0]
      refine Gh_of (next_ok l b 8 (by omega) (in64_small _ (by omega) (by omega))) ?_
      rintro h' r ⟨rfl, rfl⟩
      obtain ⟨v, hv, hv8⟩ := nextV_rng l b 8 (by omega)
      have hvd : (v : Int).tdiv 7 = 0 ∨ (v : Int).tdiv 7 = 1 := by
        have h0 : v = 0 ∨ v = 1 ∨ v = 2 ∨ v = 3 ∨ v = 4 ∨ v = 5 ∨ v = 6 ∨ v = 7 := by omega
        rcases h0 with rfl | rfl | rfl | rfl | rfl | rfl | rfl | rfl <;> decide
      have hwd : IntKind.i64.wrap ((v : Int).tdiv 7) = (v : Int).tdiv 7 := by rw [wrap_i64_id] <;> omega
      have hws : IntKind.i64.wrap (namesL.getD w 0 + (v : Int).tdiv 7) = namesL.getD w 0 + (v : Int).tdiv 7 := by rw [wrap_i64_id] <;> omega
      rw [show 6 - i = (5 - i) + 1 by omega] at he1
      simp only [nmL, hv] at he1
      simp only [go_sem, ↓reduceIte, Nat.reduceLT, Nat.reduceLeDiff, Nat.reduceEqDiff, Nat.reduceAdd, Nat.reduceMul, Nat.reduceSub, reduceCtorEq, Int.reduceLT, Int.reduceLE, Int.reduceEq, Int.reduceToNat, decide_true, decide_false, Int.reduceNeg, Int.cast_ofNat_Int, sg, AO.sg, Option.isNone_none, tapeC, hv, hwd, hws]
      refine Cn_split (fun h4 => ?_) (fun h4 => ?_)
      · have h4' : (i : Int) < namesL.getD w 0 + (v : Int).tdiv 7 := by simpa using h4
        rw [if_pos h4'] at he1
        have hw1 := wrap_succ i (by omega)
        obtain ⟨u, hu, hu3⟩ := nextV_rng l (b + 1) 3 (by omega)
        have hgu := encS_get partsL u (by have : partsL.length = 10 := rfl; omega)
        simp only [go_sem, ↓reduceIte, Nat.reduceLT, Nat.reduceLeDiff, Nat.reduceEqDiff, Nat.reduceAdd, Nat.reduceMul, Nat.reduceSub, reduceCtorEq, Int.reduceLT, Int.reduceLE, Int.reduceEq, Int.reduceToNat, decide_true, decide_false, Int.reduceNeg, Int.cast_ofNat_Int, sg, AO.sg, Option.isNone_none]
        refine X_any [(11, .box [.p (.int .i64 (nextV l a 99)), .ref 40 0 fs.length fs.length]), (18, .arr 9 1 (encS partsL))] mixed (p := [(0, 0), (1, 0), (2, 0), (3, 0), (4, 2), (5, 0), (6, 0), (7, 1), (8, 2), (9, 0), (10, 3)]) (by kernel_rfl) (by simp [LeH, get]) ?_
        simp only [go_sem, ↓reduceIte, Nat.reduceLT, Nat.reduceLeDiff, Nat.reduceEqDiff, Nat.reduceAdd, Nat.reduceMul, Nat.reduceSub, reduceCtorEq, Int.reduceLT, Int.reduceLE, Int.reduceEq, Int.reduceToNat, decide_true, decide_false, Int.reduceNeg, Int.cast_ofNat_Int, sg, AO.sg, Option.isNone_none, tapeC]
        refine Gh_of (next_ok l (b + 1) 3 (by omega) (in64_small _ (by omega) (by omega))) ?_
        rintro h' r ⟨rfl, rfl⟩
        have hu0 : (0 : Int) ≤ (u : Int) ∧ (u : Int) < 10 := by omega
        simp only [go_sem, ↓reduceIte, Nat.reduceLT, Nat.reduceLeDiff, Nat.reduceEqDiff, Nat.reduceAdd, Nat.reduceMul, Nat.reduceSub, reduceCtorEq, Int.reduceLT, Int.reduceLE, Int.reduceEq, Int.reduceToNat, decide_true, decide_false, Int.reduceNeg, Int.cast_ofNat_Int, sg, AO.sg, Option.isNone_none, tapeC, hu, Int.toNat_natCast, hgu, partsE_len, hu0, encS_len, partsL_len, hw1]
        refine ⟨⟨wid1 _ _ rfl, by omega⟩, ?_⟩
        rw [hu, Int.toNat_natCast] at he1
        refine ih1 (i + 1, b + 1 + 1, fs ++ [partsL.getD u []]) _ ⟨by simp only; omega, by simp only; omega, by simp only [List.length_append, List.length_cons, List.length_nil]; omega, by rw [← he1, show 6 - (i + 1) = 5 - i by omega]⟩ (by simp only; omega) ?_
        (refine Wk.forget ?_; simp [Le, LeE, LeH, get, envIds, hpIds, KeepH, D.ids, idsL, AO.ids, setL, base, encS_snoc, encS_len]; done)
      · have h4' : ¬ (i : Int) < namesL.getD w 0 + (v : Int).tdiv 7 := by simpa using h4
        rw [if_neg h4'] at he1
        simp only [go_sem, ↓reduceIte, Nat.reduceLT, Nat.reduceLeDiff, Nat.reduceEqDiff, Nat.reduceAdd, Nat.reduceMul, Nat.reduceSub, reduceCtorEq, Int.reduceLT, Int.reduceLE, Int.reduceEq, Int.reduceToNat, decide_true, decide_false, Int.reduceNeg, Int.cast_ofNat_Int, sg, AO.sg, Option.isNone_none]
        refine X_loop_inv (fun q : Nat × Nat × List (List UInt8) => ⟨[(3, .ptr 16 0), (4, .ref 17 0 7 7), (5, .ref 18 0 10 10), (6, .ref 19 0 7 7), (7, .ref 20 0 7 7), (8, .ref 104 0 acc.length acc.length), (9, .p (.int .i64 (k + 1 : Nat))), (10, .p (.int .i64 (w : Nat))), (11, .ptr 11 0), (13, .p (.int .i64 (q.1 : Nat)))],
            [(11, .box [.p (.int .i64 (nextV l a 99)), .ref 40 0 q.2.2.length q.2.2.length]), (40, .arr 9 1 (encS q.2.2)),
             (16, .box [.p (.sl (encI l)), .p (.int .i64 (q.2.1 : Nat))]), (17, .arr 9 1 (encS wordsL)), (18, .arr 9 1 (encS partsL)), (19, .arr 3 1 (encI namesL)), (20, .arr 3 1 (encI numsL)), (104, .arr 72 2 (encL acc))], 106⟩)
          (fun q => (q.1 : Int) ≤ numsL.getD w 0 ∧ q.2.1 ≤ a + 12 + q.1 ∧ 1 ≤ q.2.2.length ∧ q.2.2.length ≤ 5 + q.1 ∧ nuL l ((numsL.getD w 0).toNat - q.1) q.2.1 q.2.2 = p2V l at_) (fun q => 6 - q.1) (0, b + 1, fs)
          ⟨by simp only; omega, by simp only; omega, by simp only; omega, by simp only; omega, by simp only [p2V, hw, Int.toNat_natCast, ← he1]; rfl⟩ (Wk.forget (by simp [Le, LeE, LeH, get, envIds, hpIds, KeepH, D.ids, idsL, AO.ids, setL, base])) ?_
        rintro ⟨i2, b2, fs2⟩ m2 ⟨hi5, hb2, hfs1, hfs2, he2⟩ ih2
        simp only at hi5 hb2 hfs1 hfs2 he2
        simp only [go_sem, ↓reduceIte, Nat.reduceLT, Nat.reduceLeDiff, Nat.reduceEqDiff, Nat.reduceAdd, Nat.reduceMul, Nat.reduceSub, reduceCtorEq, Int.reduceLT, Int.reduceLE, Int.reduceEq, Int.reduceToNat, decide_true, decide_false, Int.reduceNeg, Int.cast_ofNat_Int, sg, AO.sg, Option.isNone_none, Int.toNat_natCast, hgk, numsE_len, hw0]
        refine Cn_split (fun h5 => ?_) (fun h5 => ?_)
        · have h5' : (i2 : Int) < numsL.getD w 0 := by simpa using h5
          rw [show (numsL.getD w 0).toNat - i2 = ((numsL.getD w 0).toNat - (i2 + 1)) + 1 by omega] at he2
          simp only [nuL] at he2
          have hw1 := wrap_succ i2 (by omega)
          obtain ⟨u, hu, hu3⟩ := nextV_rng l b2 4 (by omega)
          have hgu := encS_get partsL (3 + u) (by have : partsL.length = 10 := rfl; omega)
          have hwu : IntKind.i64.wrap (3 + (u : Int)) = ((3 + u : Nat) : Int) := by rw [wrap_i64_id] <;> omega
          simp only [go_sem, ↓reduceIte, Nat.reduceLT, Nat.reduceLeDiff, Nat.reduceEqDiff, Nat.reduceAdd, Nat.reduceMul, Nat.reduceSub, reduceCtorEq, Int.reduceLT, Int.reduceLE, Int.reduceEq, Int.reduceToNat, decide_true, decide_false, Int.reduceNeg, Int.cast_ofNat_Int, sg, AO.sg, Option.isNone_none]
          refine X_any [(11, .box [.p (.int .i64 (nextV l a 99)), .ref 40 0 fs2.length fs2.length]), (18, .arr 9 1 (encS partsL))] mixed (p := [(0, 0), (1, 0), (2, 0), (3, 0), (4, 2), (5, 0), (6, 0), (7, 0), (8, 1), (9, 2), (10, 0), (11, 3)]) (by kernel_rfl) (by simp [LeH, get]) ?_
          simp only [go_sem, ↓reduceIte, Nat.reduceLT, Nat.reduceLeDiff, Nat.reduceEqDiff, Nat.reduceAdd, Nat.reduceMul, Nat.reduceSub, reduceCtorEq, Int.reduceLT, Int.reduceLE, Int.reduceEq, Int.reduceToNat, decide_true, decide_false, Int.reduceNeg, Int.cast_ofNat_Int, sg, AO.sg, Option.isNone_none, tapeC]
          refine Gh_of (next_ok l b2 4 (by omega) (in64_small _ (by omega) (by omega))) ?_
          rintro h' r ⟨rfl, rfl⟩
          have hu0 : (0 : Int) ≤ ((3 + u : Nat) : Int) ∧ ((3 + u : Nat) : Int) < 10 := by omega
          simp only [go_sem, ↓reduceIte, Nat.reduceLT, Nat.reduceLeDiff, Nat.reduceEqDiff, Nat.reduceAdd, Nat.reduceMul, Nat.reduceSub, reduceCtorEq, Int.reduceLT, Int.reduceLE, Int.reduceEq, Int.reduceToNat, decide_true, decide_false, Int.reduceNeg, Int.cast_ofNat_Int, sg, AO.sg, Option.isNone_none, tapeC, hu, hwu, Int.toNat_natCast, hgu, partsE_len, hu0, encS_len, partsL_len, hw1]
          refine ⟨⟨wid1 _ _ rfl, by omega⟩, ?_⟩
          rw [hu, show (3 + (u : Int)).toNat = 3 + u by omega] at he2
          refine ih2 (i2 + 1, b2 + 1, fs2 ++ [partsL.getD (3 + u) []]) _ ⟨by simp only; omega, by simp only; omega, by simp only [List.length_append, List.length_cons, List.length_nil]; omega, by simp only [List.length_append, List.length_cons, List.length_nil]; omega, he2⟩ (by simp only; omega) ?_
          (refine Wk.forget ?_; simp [Le, LeE, LeH, get, envIds, hpIds, KeepH, D.ids, idsL, AO.ids, setL, base, encS_snoc, encS_len]; done)
        · have h5' : ¬ (i2 : Int) < numsL.getD w 0 := by simpa using h5
          rw [show (numsL.getD w 0).toNat - i2 = 0 by omega] at he2
          simp only [nuL] at he2
          have hln : lnV l at_ = if nextV l b2 12 = 0 then (⟨nextV l a 99, fs2.set (nextV l (b2 + 1) fs2.length).toNat (partsL.getD (nextV l (b2 + 1 + 1) 10).toNat [])⟩, b2 + 1 + 1 + 1) else (⟨nextV l a 99, fs2⟩, b2 + 1) := by
            simp only [lnV, ha, ← he2]
          have hwk : IntKind.i64.wrap (((k + 1 : Nat) : Int) - 1) = (k : Int) := by rw [wrap_i64_id] <;> omega
          simp only [go_sem, ↓reduceIte, Nat.reduceLT, Nat.reduceLeDiff, Nat.reduceEqDiff, Nat.reduceAdd, Nat.reduceMul, Nat.reduceSub, reduceCtorEq, Int.reduceLT, Int.reduceLE, Int.reduceEq, Int.reduceToNat, decide_true, decide_false, Int.reduceNeg, Int.cast_ofNat_Int, sg, AO.sg, Option.isNone_none]
          refine Cc_of (next_ok l b2 12 (by omega) (in64_small _ (by omega) (by omega))) ?_
          rintro h' r ⟨rfl, rfl⟩
          simp only [go_sem, ↓reduceIte, Nat.reduceLT, Nat.reduceLeDiff, Nat.reduceEqDiff, Nat.reduceAdd, Nat.reduceMul, Nat.reduceSub, reduceCtorEq, Int.reduceLT, Int.reduceLE, Int.reduceEq, Int.reduceToNat, decide_true, decide_false, Int.reduceNeg, Int.cast_ofNat_Int, sg, AO.sg, Option.isNone_none, tapeC]
          refine Cn_split (fun h6 => ?_) (fun h6 => ?_)
          · have h6' : nextV l b2 12 = 0 := by simpa using h6
            rw [if_pos h6'] at hln
            obtain ⟨x, hx, hxl⟩ := nextV_rng l (b2 + 1) fs2.length (by omega)
            obtain ⟨u, hu, hu3⟩ := nextV_rng l (b2 + 1 + 1) 10 (by omega)
            have hgu := encS_get partsL u (by have : partsL.length = 10 := rfl; omega)
            have hgx := encS_get fs2 x (by omega)
            have hu0 : (0 : Int) ≤ (u : Int) ∧ (u : Int) < 10 := by omega
            have hx0 : (0 : Int) ≤ (x : Int) ∧ (x : Int) < (fs2.length : Int) := by omega
            refine X_any [(11, .box [.p (.int .i64 (nextV l a 99)), .ref 40 0 fs2.length fs2.length]), (18, .arr 9 1 (encS partsL)), (40, .arr 9 1 (encS fs2))] mixed (p := [(0, 0), (1, 0), (2, 0), (3, 0), (4, 0), (5, 0), (7, 0), (8, 0), (9, 0), (10, 0), (6, 2), (11, 2), (12, 0), (13, 0), (14, 0), (15, 3)]) (by kernel_rfl) (by simp [LeH, get]) ?_
            simp only [go_sem, ↓reduceIte, Nat.reduceLT, Nat.reduceLeDiff, Nat.reduceEqDiff, Nat.reduceAdd, Nat.reduceMul, Nat.reduceSub, reduceCtorEq, Int.reduceLT, Int.reduceLE, Int.reduceEq, Int.reduceToNat, decide_true, decide_false, Int.reduceNeg, Int.cast_ofNat_Int, sg, AO.sg, Option.isNone_none, tapeC, encS_len, partsL_len]
            refine Gh_of (next_ok l (b2 + 1) fs2.length (by omega) (in64_small _ (by omega) (by omega))) ?_
            rintro h' r ⟨rfl, rfl⟩
            simp only [go_sem, ↓reduceIte, Nat.reduceLT, Nat.reduceLeDiff, Nat.reduceEqDiff, Nat.reduceAdd, Nat.reduceMul, Nat.reduceSub, reduceCtorEq, Int.reduceLT, Int.reduceLE, Int.reduceEq, Int.reduceToNat, decide_true, decide_false, Int.reduceNeg, Int.cast_ofNat_Int, sg, AO.sg, Option.isNone_none, tapeC, hx]
            refine Gh_of (next_ok l (b2 + 1 + 1) 10 (by omega) (in64_small _ (by omega) (by omega))) ?_
            rintro h' r ⟨rfl, rfl⟩
            simp only [go_sem, ↓reduceIte, Nat.reduceLT, Nat.reduceLeDiff, Nat.reduceEqDiff, Nat.reduceAdd, Nat.reduceMul, Nat.reduceSub, reduceCtorEq, Int.reduceLT, Int.reduceLE, Int.reduceEq, Int.reduceToNat, decide_true, decide_false, Int.reduceNeg, Int.cast_ofNat_Int, sg, AO.sg, Option.isNone_none, tapeC, hu, Int.toNat_natCast, hgu, hgx, encS_len, partsL_len, hu0, hx0, List.length_set, hwk, encL_len, encS_take fs2 fs2.length (Nat.le_refl _), ← encS_set, encS_take (fs2.set x (partsL.getD u [])) fs2.length (by simp)]
            rw [hx, hu, Int.toNat_natCast, Int.toNat_natCast] at hln
            refine ⟨⟨wid1 _ _ rfl, by omega⟩, ?_⟩
            refine ih (k, (lnV l at_).2, acc ++ [(lnV l at_).1]) _ ⟨by simp only; omega, by rw [hln]; simp only; omega, by simp only [List.length_append, List.length_cons, List.length_nil]; omega, by rw [← he]; rfl⟩ (by simp only; omega) ?_
            rw [hln]
            (refine Wk.forget ?_; simp [Le, LeE, LeH, get, envIds, hpIds, KeepH, D.ids, idsL, AO.ids, setL, base, encL_snoc, encL_len]; done)
          · have h6' : ¬ nextV l b2 12 = 0 := by simpa using h6
            rw [if_neg h6'] at hln
            simp only [go_sem, ↓reduceIte, Nat.reduceLT, Nat.reduceLeDiff, Nat.reduceEqDiff, Nat.reduceAdd, Nat.reduceMul, Nat.reduceSub, reduceCtorEq, Int.reduceLT, Int.reduceLE, Int.reduceEq, Int.reduceToNat, decide_true, decide_false, Int.reduceNeg, Int.cast_ofNat_Int, sg, AO.sg, Option.isNone_none, encS_len, encL_len, hwk, encS_take fs2 fs2.length (Nat.le_refl _)]
            refine ⟨⟨wid1 _ _ rfl, by omega⟩, ?_⟩
            refine ih (k, (lnV l at_).2, acc ++ [(lnV l at_).1]) _ ⟨by simp only; omega, by rw [hln]; simp only; omega, by simp only [List.length_append, List.length_cons, List.length_nil]; omega, by rw [← he]; rfl⟩ (by simp only; omega) ?_
            rw [hln]
            (refine Wk.forget ?_; simp [Le, LeE, LeH, get, envIds, hpIds, KeepH, D.ids, idsL, AO.ids, setL, base, encL_snoc, encL_len]; done)
  · simp only [go_sem, ↓reduceIte, Nat.reduceLT, Nat.reduceLeDiff, Nat.reduceEqDiff, Nat.reduceAdd, Nat.reduceMul, Nat.reduceSub, reduceCtorEq, Int.reduceLT, Int.reduceLE, Int.reduceEq, Int.reduceToNat, decide_true, decide_false, Int.reduceNeg, Int.cast_ofNat_Int, sg, AO.sg, Option.isNone_none]
    have hk0 : k = 0 := by simp at h2; omega
    subst hk0
    refine end_own ?_
    simp only [go_sem, ↓reduceIte, Nat.reduceLT, Nat.reduceLeDiff, Nat.reduceEqDiff, Nat.reduceAdd, Nat.reduceMul, Nat.reduceSub, reduceCtorEq, Int.reduceLT, Int.reduceLE, Int.reduceEq, Int.reduceToNat, decide_true, decide_false, Int.reduceNeg, Int.cast_ofNat_Int, sg, AO.sg, Option.isNone_none]
    rw [← he]
    simp [mkV]
end Go.Am
