/- The reference's Format of commands. -/
import Derived.Test.YtpjbedkmjlgmgaaDoorCmdf
namespace Go.Am
open Go Go.Proofs
set_option maxRecDepth 100000
set_option linter.unusedVariables false
set_option linter.unusedSimpArgs false
theorem form2_ok (c : Cd) (hc : smallC2 c) : ACalls Tryd.prog 14 [.agg c.cs] [] fun h r => h = [] ∧ r = ansR (fmtC c) := by
  obtain ⟨hc1, hc2, hc3, hc4⟩ := hc
  obtain ⟨kind, a, b, nn⟩ := c
  simp only at hc1 hc2 hc3 hc4
  have hfm : fmtC ⟨kind, a, b, nn⟩ = if (1 ≤ kind ∧ kind ≤ 10) ∧ cmdV (txtC ⟨kind, a, b, nn⟩) = ⟨kind, a, b, nn⟩ then (txtC ⟨kind, a, b, nn⟩, 0) else ([], 20) := rfl
  rw [hfm]
  clear hfm
  refine ACalls_X Tryd.func14 rfl enters14 (by simp [Tryd.f14]) ?_
  simp only [go_sem, ↓reduceIte, Nat.reduceLT, Nat.reduceLeDiff, Nat.reduceEqDiff, Nat.reduceAdd, Nat.reduceMul, Nat.reduceSub, reduceCtorEq, Int.reduceLT, Int.reduceLE, Int.reduceEq, Int.reduceToNat, decide_true, decide_false, Int.reduceNeg, Int.cast_ofNat_Int, sg, AO.sg, Option.isNone_none, Cd.cs]
  refine Cc_of ((word_ok kind)) ?_
  rintro h' r ⟨rfl, rfl⟩
  by_cases h1 : 1 ≤ kind ∧ kind ≤ 10
  rotate_left
  · have hw : wordO kind = [] := by unfold wordO; rw [if_neg h1]
    simp only [go_sem, ↓reduceIte, Nat.reduceLT, Nat.reduceLeDiff, Nat.reduceEqDiff, Nat.reduceAdd, Nat.reduceMul, Nat.reduceSub, reduceCtorEq, Int.reduceLT, Int.reduceLE, Int.reduceEq, Int.reduceToNat, decide_true, decide_false, Int.reduceNeg, Int.cast_ofNat_Int, sg, AO.sg, Option.isNone_none, hw]
    rw [if_neg (fun h => h1 h.1)]
    refine end_pure ?_
    simp only [go_sem, ↓reduceIte, Nat.reduceLT, Nat.reduceLeDiff, Nat.reduceEqDiff, Nat.reduceAdd, Nat.reduceMul, Nat.reduceSub, reduceCtorEq, Int.reduceLT, Int.reduceLE, Int.reduceEq, Int.reduceToNat, decide_true, decide_false, Int.reduceNeg, Int.cast_ofNat_Int, sg, AO.sg, Option.isNone_none]
    rfl
  obtain ⟨j, rfl⟩ : ∃ j : Nat, kind = (j : Int) := ⟨kind.toNat, by omega⟩
  have hjr : j < 11 := by omega
  have hks := fK_small j
  have hp := propB_iff.1 (fK_prop j (by omega) hjr)
  have hw : wordO (j : Int) = (fK j).word := by unfold wordO; rw [if_pos h1, Int.toNat_natCast]
  have hct : txtC ⟨j, a, b, nn⟩ = wordsV ((fK j).word :: (([a, b].take (fK j).na) ++ (if (fK j).nu = 0 then [] else [digV nn]))) := rfl
  have hkw : kindR (fK j).word = .tup [.p (.int .i64 (j : Nat)), .p (.int .i64 ((fK j).na : Nat)), .p (.bool (decide ((fK j).nu = 1)))] := by
    unfold kindR; rw [wordK_form j (by omega) hjr]
  have hrng : cmdV (txtC ⟨j, a, b, nn⟩) = ⟨j, a, b, nn⟩ → (fK j).nu ≠ 0 → 0 ≤ nn ∧ nn ≤ 9999 := by
    intro h hn
    obtain ⟨j', e1, _, _, _, _, e2, _⟩ := cmdV_inv h (by simp only; omega)
    simp only at e1 e2
    have : j' = j := by omega
    subst this
    exact e2 hn
  have hk1 := kind_ok (fK j).word
  rw [hkw] at hk1
  rw [hct] at hrng ⊢
  clear hct hkw
  have hwne := hp.1
  have hwl := hp.2.1
  clear hp
  generalize (fK j).word = wd at *
  generalize (fK j).na = na at *
  generalize (fK j).nu = nu at *
  obtain ⟨k1, k2, k3⟩ := hks
  have hci : ∀ T : List UInt8, (decide ((cmdV T).kind = (j : Int)) && (decide ((cmdV T).a = a) && (decide ((cmdV T).b = b) && decide ((cmdV T).n = nn)))) = decide (cmdV T = ⟨j, a, b, nn⟩) := fun T => cs_inj (x := cmdV T) (y := ⟨j, a, b, nn⟩)
  simp only [go_sem, ↓reduceIte, Nat.reduceLT, Nat.reduceLeDiff, Nat.reduceEqDiff, Nat.reduceAdd, Nat.reduceMul, Nat.reduceSub, reduceCtorEq, Int.reduceLT, Int.reduceLE, Int.reduceEq, Int.reduceToNat, decide_true, decide_false, Int.reduceNeg, Int.cast_ofNat_Int, sg, AO.sg, Option.isNone_none, hw, hwne]
  refine Cc_of ((hk1)) ?_
  rintro h' r ⟨rfl, rfl⟩
  by_cases hnu : nu = 0
  · subst hnu
    rcases take_two_cases na k1 with rfl | rfl | rfl
    · have eW : wordsV (wd :: ([a, b].take 0 ++ (if (0 : Nat) = 0 then [] else [digV nn]))) = wd := by simp [wordsV]
      rw [eW]
      simp only [go_sem, ↓reduceIte, Nat.reduceLT, Nat.reduceLeDiff, Nat.reduceEqDiff, Nat.reduceAdd, Nat.reduceMul, Nat.reduceSub, reduceCtorEq, Int.reduceLT, Int.reduceLE, Int.reduceEq, Int.reduceToNat, decide_true, decide_false, Int.reduceNeg, Int.cast_ofNat_Int, sg, AO.sg, Option.isNone_none]
      refine X_any0 mixed (p := [(0, 0), (2, 0), (1, 2), (3, 0)]) (by kernel_rfl) (by simp [LeH, get]) ?_
      simp only [go_sem, ↓reduceIte, Nat.reduceLT, Nat.reduceLeDiff, Nat.reduceEqDiff, Nat.reduceAdd, Nat.reduceMul, Nat.reduceSub, reduceCtorEq, Int.reduceLT, Int.reduceLE, Int.reduceEq, Int.reduceToNat, decide_true, decide_false, Int.reduceNeg, Int.cast_ofNat_Int, sg, AO.sg, Option.isNone_none]
      refine Gh_of ((cmdr_ok wd)) ?_
      rintro h' r ⟨rfl, rfl⟩
      simp only [go_sem, ↓reduceIte, Nat.reduceLT, Nat.reduceLeDiff, Nat.reduceEqDiff, Nat.reduceAdd, Nat.reduceMul, Nat.reduceSub, reduceCtorEq, Int.reduceLT, Int.reduceLE, Int.reduceEq, Int.reduceToNat, decide_true, decide_false, Int.reduceNeg, Int.cast_ofNat_Int, sg, AO.sg, Option.isNone_none, Cd.cs, hci]
      cases heq : decide (cmdV wd = ⟨(j : Int), a, b, nn⟩)
      · simp only [go_sem, ↓reduceIte, Nat.reduceLT, Nat.reduceLeDiff, Nat.reduceEqDiff, Nat.reduceAdd, Nat.reduceMul, Nat.reduceSub, reduceCtorEq, Int.reduceLT, Int.reduceLE, Int.reduceEq, Int.reduceToNat, decide_true, decide_false, Int.reduceNeg, Int.cast_ofNat_Int, sg, AO.sg, Option.isNone_none, heq]
        rw [if_neg (fun h => of_decide_eq_false heq h.2)]
        refine end_pure ?_
        simp only [go_sem, ↓reduceIte, Nat.reduceLT, Nat.reduceLeDiff, Nat.reduceEqDiff, Nat.reduceAdd, Nat.reduceMul, Nat.reduceSub, reduceCtorEq, Int.reduceLT, Int.reduceLE, Int.reduceEq, Int.reduceToNat, decide_true, decide_false, Int.reduceNeg, Int.cast_ofNat_Int, sg, AO.sg, Option.isNone_none]
        rfl
      · simp only [go_sem, ↓reduceIte, Nat.reduceLT, Nat.reduceLeDiff, Nat.reduceEqDiff, Nat.reduceAdd, Nat.reduceMul, Nat.reduceSub, reduceCtorEq, Int.reduceLT, Int.reduceLE, Int.reduceEq, Int.reduceToNat, decide_true, decide_false, Int.reduceNeg, Int.cast_ofNat_Int, sg, AO.sg, Option.isNone_none, heq]
        rw [if_pos ⟨⟨by omega, by omega⟩, of_decide_eq_true heq⟩]
        refine end_pure ?_
        simp only [go_sem, ↓reduceIte, Nat.reduceLT, Nat.reduceLeDiff, Nat.reduceEqDiff, Nat.reduceAdd, Nat.reduceMul, Nat.reduceSub, reduceCtorEq, Int.reduceLT, Int.reduceLE, Int.reduceEq, Int.reduceToNat, decide_true, decide_false, Int.reduceNeg, Int.cast_ofNat_Int, sg, AO.sg, Option.isNone_none]
        rfl
    · have eW : wordsV (wd :: ([a, b].take 1 ++ (if (0 : Nat) = 0 then [] else [digV nn]))) = wd ++ 32 :: a := by simp [wordsV]
      rw [eW]
      simp only [go_sem, ↓reduceIte, Nat.reduceLT, Nat.reduceLeDiff, Nat.reduceEqDiff, Nat.reduceAdd, Nat.reduceMul, Nat.reduceSub, reduceCtorEq, Int.reduceLT, Int.reduceLE, Int.reduceEq, Int.reduceToNat, decide_true, decide_false, Int.reduceNeg, Int.cast_ofNat_Int, sg, AO.sg, Option.isNone_none]
      refine ⟨by unfold maxLen; first | omega | (simp only [List.length_append, List.length_cons, List.length_nil]; omega), by unfold maxLen; first | omega | (simp only [List.length_append, List.length_cons, List.length_nil]; omega), ?_⟩
      refine X_any0 mixed (p := [(0, 0), (2, 0), (1, 2), (3, 0)]) (by kernel_rfl) (by simp [LeH, get]) ?_
      simp only [go_sem, ↓reduceIte, Nat.reduceLT, Nat.reduceLeDiff, Nat.reduceEqDiff, Nat.reduceAdd, Nat.reduceMul, Nat.reduceSub, reduceCtorEq, Int.reduceLT, Int.reduceLE, Int.reduceEq, Int.reduceToNat, decide_true, decide_false, Int.reduceNeg, Int.cast_ofNat_Int, sg, AO.sg, Option.isNone_none]
      refine Gh_of ((cmdr_ok (wd ++ 32 :: a))) ?_
      rintro h' r ⟨rfl, rfl⟩
      simp only [go_sem, ↓reduceIte, Nat.reduceLT, Nat.reduceLeDiff, Nat.reduceEqDiff, Nat.reduceAdd, Nat.reduceMul, Nat.reduceSub, reduceCtorEq, Int.reduceLT, Int.reduceLE, Int.reduceEq, Int.reduceToNat, decide_true, decide_false, Int.reduceNeg, Int.cast_ofNat_Int, sg, AO.sg, Option.isNone_none, Cd.cs, hci]
      cases heq : decide (cmdV (wd ++ 32 :: a) = ⟨(j : Int), a, b, nn⟩)
      · simp only [go_sem, ↓reduceIte, Nat.reduceLT, Nat.reduceLeDiff, Nat.reduceEqDiff, Nat.reduceAdd, Nat.reduceMul, Nat.reduceSub, reduceCtorEq, Int.reduceLT, Int.reduceLE, Int.reduceEq, Int.reduceToNat, decide_true, decide_false, Int.reduceNeg, Int.cast_ofNat_Int, sg, AO.sg, Option.isNone_none, heq]
        rw [if_neg (fun h => of_decide_eq_false heq h.2)]
        refine end_pure ?_
        simp only [go_sem, ↓reduceIte, Nat.reduceLT, Nat.reduceLeDiff, Nat.reduceEqDiff, Nat.reduceAdd, Nat.reduceMul, Nat.reduceSub, reduceCtorEq, Int.reduceLT, Int.reduceLE, Int.reduceEq, Int.reduceToNat, decide_true, decide_false, Int.reduceNeg, Int.cast_ofNat_Int, sg, AO.sg, Option.isNone_none]
        rfl
      · simp only [go_sem, ↓reduceIte, Nat.reduceLT, Nat.reduceLeDiff, Nat.reduceEqDiff, Nat.reduceAdd, Nat.reduceMul, Nat.reduceSub, reduceCtorEq, Int.reduceLT, Int.reduceLE, Int.reduceEq, Int.reduceToNat, decide_true, decide_false, Int.reduceNeg, Int.cast_ofNat_Int, sg, AO.sg, Option.isNone_none, heq]
        rw [if_pos ⟨⟨by omega, by omega⟩, of_decide_eq_true heq⟩]
        refine end_pure ?_
        simp only [go_sem, ↓reduceIte, Nat.reduceLT, Nat.reduceLeDiff, Nat.reduceEqDiff, Nat.reduceAdd, Nat.reduceMul, Nat.reduceSub, reduceCtorEq, Int.reduceLT, Int.reduceLE, Int.reduceEq, Int.reduceToNat, decide_true, decide_false, Int.reduceNeg, Int.cast_ofNat_Int, sg, AO.sg, Option.isNone_none]
        rfl
    · have eW : wordsV (wd :: ([a, b].take 2 ++ (if (0 : Nat) = 0 then [] else [digV nn]))) = wd ++ 32 :: a ++ 32 :: b := by simp [wordsV]
      rw [eW]
      simp only [go_sem, ↓reduceIte, Nat.reduceLT, Nat.reduceLeDiff, Nat.reduceEqDiff, Nat.reduceAdd, Nat.reduceMul, Nat.reduceSub, reduceCtorEq, Int.reduceLT, Int.reduceLE, Int.reduceEq, Int.reduceToNat, decide_true, decide_false, Int.reduceNeg, Int.cast_ofNat_Int, sg, AO.sg, Option.isNone_none]
      refine ⟨by unfold maxLen; first | omega | (simp only [List.length_append, List.length_cons, List.length_nil]; omega), by unfold maxLen; first | omega | (simp only [List.length_append, List.length_cons, List.length_nil]; omega), ?_⟩
      refine ⟨by unfold maxLen; first | omega | (simp only [List.length_append, List.length_cons, List.length_nil]; omega), by unfold maxLen; first | omega | (simp only [List.length_append, List.length_cons, List.length_nil]; omega), ?_⟩
      refine X_any0 mixed (p := [(0, 0), (2, 0), (1, 2), (3, 0)]) (by kernel_rfl) (by simp [LeH, get]) ?_
      simp only [go_sem, ↓reduceIte, Nat.reduceLT, Nat.reduceLeDiff, Nat.reduceEqDiff, Nat.reduceAdd, Nat.reduceMul, Nat.reduceSub, reduceCtorEq, Int.reduceLT, Int.reduceLE, Int.reduceEq, Int.reduceToNat, decide_true, decide_false, Int.reduceNeg, Int.cast_ofNat_Int, sg, AO.sg, Option.isNone_none]
      refine Gh_of ((cmdr_ok (wd ++ 32 :: a ++ 32 :: b))) ?_
      rintro h' r ⟨rfl, rfl⟩
      simp only [go_sem, ↓reduceIte, Nat.reduceLT, Nat.reduceLeDiff, Nat.reduceEqDiff, Nat.reduceAdd, Nat.reduceMul, Nat.reduceSub, reduceCtorEq, Int.reduceLT, Int.reduceLE, Int.reduceEq, Int.reduceToNat, decide_true, decide_false, Int.reduceNeg, Int.cast_ofNat_Int, sg, AO.sg, Option.isNone_none, Cd.cs, hci]
      cases heq : decide (cmdV (wd ++ 32 :: a ++ 32 :: b) = ⟨(j : Int), a, b, nn⟩)
      · simp only [go_sem, ↓reduceIte, Nat.reduceLT, Nat.reduceLeDiff, Nat.reduceEqDiff, Nat.reduceAdd, Nat.reduceMul, Nat.reduceSub, reduceCtorEq, Int.reduceLT, Int.reduceLE, Int.reduceEq, Int.reduceToNat, decide_true, decide_false, Int.reduceNeg, Int.cast_ofNat_Int, sg, AO.sg, Option.isNone_none, heq]
        rw [if_neg (fun h => of_decide_eq_false heq h.2)]
        refine end_pure ?_
        simp only [go_sem, ↓reduceIte, Nat.reduceLT, Nat.reduceLeDiff, Nat.reduceEqDiff, Nat.reduceAdd, Nat.reduceMul, Nat.reduceSub, reduceCtorEq, Int.reduceLT, Int.reduceLE, Int.reduceEq, Int.reduceToNat, decide_true, decide_false, Int.reduceNeg, Int.cast_ofNat_Int, sg, AO.sg, Option.isNone_none]
        rfl
      · simp only [go_sem, ↓reduceIte, Nat.reduceLT, Nat.reduceLeDiff, Nat.reduceEqDiff, Nat.reduceAdd, Nat.reduceMul, Nat.reduceSub, reduceCtorEq, Int.reduceLT, Int.reduceLE, Int.reduceEq, Int.reduceToNat, decide_true, decide_false, Int.reduceNeg, Int.cast_ofNat_Int, sg, AO.sg, Option.isNone_none, heq]
        rw [if_pos ⟨⟨by omega, by omega⟩, of_decide_eq_true heq⟩]
        refine end_pure ?_
        simp only [go_sem, ↓reduceIte, Nat.reduceLT, Nat.reduceLeDiff, Nat.reduceEqDiff, Nat.reduceAdd, Nat.reduceMul, Nat.reduceSub, reduceCtorEq, Int.reduceLT, Int.reduceLE, Int.reduceEq, Int.reduceToNat, decide_true, decide_false, Int.reduceNeg, Int.cast_ofNat_Int, sg, AO.sg, Option.isNone_none]
        rfl
  · have hn1 : nu = 1 := by omega
    have hna := k3 hnu
    subst hn1 hna
    have eW : wordsV (wd :: ([a, b].take 0 ++ (if (1 : Nat) = 0 then [] else [digV nn]))) = wd ++ 32 :: digV nn := by simp [wordsV]
    rw [eW] at hrng ⊢
    by_cases h3 : nn < 0
    · simp only [go_sem, ↓reduceIte, Nat.reduceLT, Nat.reduceLeDiff, Nat.reduceEqDiff, Nat.reduceAdd, Nat.reduceMul, Nat.reduceSub, reduceCtorEq, Int.reduceLT, Int.reduceLE, Int.reduceEq, Int.reduceToNat, decide_true, decide_false, Int.reduceNeg, Int.cast_ofNat_Int, sg, AO.sg, Option.isNone_none, h3]
      rw [if_neg (fun h => by have := hrng h.2 (by decide); omega)]
      refine end_pure ?_
      simp only [go_sem, ↓reduceIte, Nat.reduceLT, Nat.reduceLeDiff, Nat.reduceEqDiff, Nat.reduceAdd, Nat.reduceMul, Nat.reduceSub, reduceCtorEq, Int.reduceLT, Int.reduceLE, Int.reduceEq, Int.reduceToNat, decide_true, decide_false, Int.reduceNeg, Int.cast_ofNat_Int, sg, AO.sg, Option.isNone_none]
      rfl
    by_cases h4 : 9999 < nn
    · simp only [go_sem, ↓reduceIte, Nat.reduceLT, Nat.reduceLeDiff, Nat.reduceEqDiff, Nat.reduceAdd, Nat.reduceMul, Nat.reduceSub, reduceCtorEq, Int.reduceLT, Int.reduceLE, Int.reduceEq, Int.reduceToNat, decide_true, decide_false, Int.reduceNeg, Int.cast_ofNat_Int, sg, AO.sg, Option.isNone_none, h3, h4]
      rw [if_neg (fun h => by have := hrng h.2 (by decide); omega)]
      refine end_pure ?_
      simp only [go_sem, ↓reduceIte, Nat.reduceLT, Nat.reduceLeDiff, Nat.reduceEqDiff, Nat.reduceAdd, Nat.reduceMul, Nat.reduceSub, reduceCtorEq, Int.reduceLT, Int.reduceLE, Int.reduceEq, Int.reduceToNat, decide_true, decide_false, Int.reduceNeg, Int.cast_ofNat_Int, sg, AO.sg, Option.isNone_none]
      rfl
    have hdl := digV_len nn (by omega) (by omega)
    simp only [go_sem, ↓reduceIte, Nat.reduceLT, Nat.reduceLeDiff, Nat.reduceEqDiff, Nat.reduceAdd, Nat.reduceMul, Nat.reduceSub, reduceCtorEq, Int.reduceLT, Int.reduceLE, Int.reduceEq, Int.reduceToNat, decide_true, decide_false, Int.reduceNeg, Int.cast_ofNat_Int, sg, AO.sg, Option.isNone_none, h3, h4]
    refine Cc_of ((digits_ok nn (by omega) (by omega))) ?_
    rintro h' r ⟨rfl, rfl⟩
    simp only [go_sem, ↓reduceIte, Nat.reduceLT, Nat.reduceLeDiff, Nat.reduceEqDiff, Nat.reduceAdd, Nat.reduceMul, Nat.reduceSub, reduceCtorEq, Int.reduceLT, Int.reduceLE, Int.reduceEq, Int.reduceToNat, decide_true, decide_false, Int.reduceNeg, Int.cast_ofNat_Int, sg, AO.sg, Option.isNone_none]
    refine ⟨by unfold maxLen; first | omega | (simp only [List.length_append, List.length_cons, List.length_nil]; omega), by unfold maxLen; first | omega | (simp only [List.length_append, List.length_cons, List.length_nil]; omega), ?_⟩
    refine X_any0 mixed (p := [(0, 0), (2, 0), (1, 2), (3, 0)]) (by kernel_rfl) (by simp [LeH, get]) ?_
    simp only [go_sem, ↓reduceIte, Nat.reduceLT, Nat.reduceLeDiff, Nat.reduceEqDiff, Nat.reduceAdd, Nat.reduceMul, Nat.reduceSub, reduceCtorEq, Int.reduceLT, Int.reduceLE, Int.reduceEq, Int.reduceToNat, decide_true, decide_false, Int.reduceNeg, Int.cast_ofNat_Int, sg, AO.sg, Option.isNone_none]
    refine Gh_of ((cmdr_ok (wd ++ 32 :: digV nn))) ?_
    rintro h' r ⟨rfl, rfl⟩
    simp only [go_sem, ↓reduceIte, Nat.reduceLT, Nat.reduceLeDiff, Nat.reduceEqDiff, Nat.reduceAdd, Nat.reduceMul, Nat.reduceSub, reduceCtorEq, Int.reduceLT, Int.reduceLE, Int.reduceEq, Int.reduceToNat, decide_true, decide_false, Int.reduceNeg, Int.cast_ofNat_Int, sg, AO.sg, Option.isNone_none, Cd.cs, hci]
    cases heq : decide (cmdV (wd ++ 32 :: digV nn) = ⟨(j : Int), a, b, nn⟩)
    · simp only [go_sem, ↓reduceIte, Nat.reduceLT, Nat.reduceLeDiff, Nat.reduceEqDiff, Nat.reduceAdd, Nat.reduceMul, Nat.reduceSub, reduceCtorEq, Int.reduceLT, Int.reduceLE, Int.reduceEq, Int.reduceToNat, decide_true, decide_false, Int.reduceNeg, Int.cast_ofNat_Int, sg, AO.sg, Option.isNone_none, heq]
      rw [if_neg (fun h => of_decide_eq_false heq h.2)]
      refine end_pure ?_
      simp only [go_sem, ↓reduceIte, Nat.reduceLT, Nat.reduceLeDiff, Nat.reduceEqDiff, Nat.reduceAdd, Nat.reduceMul, Nat.reduceSub, reduceCtorEq, Int.reduceLT, Int.reduceLE, Int.reduceEq, Int.reduceToNat, decide_true, decide_false, Int.reduceNeg, Int.cast_ofNat_Int, sg, AO.sg, Option.isNone_none]
      rfl
    · simp only [go_sem, ↓reduceIte, Nat.reduceLT, Nat.reduceLeDiff, Nat.reduceEqDiff, Nat.reduceAdd, Nat.reduceMul, Nat.reduceSub, reduceCtorEq, Int.reduceLT, Int.reduceLE, Int.reduceEq, Int.reduceToNat, decide_true, decide_false, Int.reduceNeg, Int.cast_ofNat_Int, sg, AO.sg, Option.isNone_none, heq]
      rw [if_pos ⟨⟨by omega, by omega⟩, of_decide_eq_true heq⟩]
      refine end_pure ?_
      simp only [go_sem, ↓reduceIte, Nat.reduceLT, Nat.reduceLeDiff, Nat.reduceEqDiff, Nat.reduceAdd, Nat.reduceMul, Nat.reduceSub, reduceCtorEq, Int.reduceLT, Int.reduceLE, Int.reduceEq, Int.reduceToNat, decide_true, decide_false, Int.reduceNeg, Int.cast_ofNat_Int, sg, AO.sg, Option.isNone_none]
      rfl
end Go.Am
