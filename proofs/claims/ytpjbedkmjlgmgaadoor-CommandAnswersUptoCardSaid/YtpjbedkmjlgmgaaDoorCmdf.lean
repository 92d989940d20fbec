/- Format of commands. -/
import Derived.Test.YtpjbedkmjlgmgaaDoorShlj
namespace Go.Am
open Go Go.Proofs
set_option maxRecDepth 100000
set_option linter.unusedVariables false
set_option linter.unusedSimpArgs false
def strsC (c : Cd) : List (List UInt8) := [c.a, c.b]
/-- strings of what is asked are not too long -/
def smallC2 (c : Cd) : Prop := c.a.length ≤ 4000000 ∧ c.b.length ≤ 4000000 ∧ -9223372036854775808 ≤ c.n ∧ c.n ≤ 9223372036854775807
theorem joink_ok (fs : List (List UInt8)) (hne : fs ≠ []) (hl : fs.length ≤ 100000000) (hs : szF fs ≤ 1000000000000) : ACalls Tryd.prog 30 [.p (.sl (encS fs)), .p (.str [32])] [] fun h r => h = [] ∧ r = .p (.str (wordsV fs)) := joinw_ok fs hne hl hs
theorem cs_inj {x y : Cd} : (decide (x.kind = y.kind) && (decide (x.a = y.a) && (decide (x.b = y.b) && decide (x.n = y.n)))) = decide (x = y) := by
  obtain ⟨x1, x2, x3, x4⟩ := x
  obtain ⟨y1, y2, y3, y4⟩ := y
  simp [Cd.mk.injEq, Bool.decide_and]
theorem digN_le (n : Nat) (h : n ≤ 9223372036854775808) : (digN n).length ≤ 20 := by
  have := digN_len 19 n (by omega)
  omega
theorem digV_le (n : Int) (h0 : -9223372036854775808 ≤ n) (h1 : n ≤ 9223372036854775807) : (digV n).length ≤ 21 := by
  unfold digV
  split
  · have := digN_le (-n).toNat (by omega)
    simp only [List.length_cons]; omega
  · have := digN_le n.toNat (by omega)
    omega
theorem take_two_cases (na : Nat) (h : na ≤ 2) : na = 0 ∨ na = 1 ∨ na = 2 := by omega
theorem form1_ok (c : Cd) (hc : smallC2 c) : ACalls Tryd.prog 13 [.agg c.cs] [(1000000, (.glob 0 tabCs))] fun h r => h = [(1000000, (.glob 0 tabCs))] ∧ r = ansR (fmtC c) := by
  obtain ⟨hc1, hc2, hc3, hc4⟩ := hc
  obtain ⟨kind, a, b, nn⟩ := c
  simp only at hc1 hc2 hc3 hc4
  have hdig := digV_le nn hc3 hc4
  have hfm : fmtC ⟨kind, a, b, nn⟩ = if (1 ≤ kind ∧ kind ≤ 10) ∧ cmdV (txtC ⟨kind, a, b, nn⟩) = ⟨kind, a, b, nn⟩ then (txtC ⟨kind, a, b, nn⟩, 0) else ([], 20) := rfl
  rw [hfm]
  clear hfm
  refine ACalls_X Tryd.func13 rfl enters13 (by simp [Tryd.f13]) ?_
  simp only [go_sem, ↓reduceIte, Nat.reduceLT, Nat.reduceLeDiff, Nat.reduceEqDiff, Nat.reduceAdd, Nat.reduceMul, Nat.reduceSub, reduceCtorEq, Int.reduceLT, Int.reduceLE, Int.reduceEq, Int.reduceToNat, decide_true, decide_false, Int.reduceNeg, Int.cast_ofNat_Int, sg, AO.sg, Option.isNone_none, Cd.cs]
  refine Cc_of ((formsk_ok).glob (id := 1000000) (by decide) rfl (by simp [idsL, D.ids, hpIds]) (fun h1 r hr => by rw [hr.1]; rfl)) ?_
  rintro h' r ⟨_, ⟨rfl, rfl⟩, rfl⟩
  simp only [go_sem, ↓reduceIte, Nat.reduceLT, Nat.reduceLeDiff, Nat.reduceEqDiff, Nat.reduceAdd, Nat.reduceMul, Nat.reduceSub, reduceCtorEq, Int.reduceLT, Int.reduceLE, Int.reduceEq, Int.reduceToNat, decide_true, decide_false, Int.reduceNeg, Int.cast_ofNat_Int, sg, AO.sg, Option.isNone_none, formK_len]
  by_cases h1 : kind ≤ 0
  · simp only [go_sem, ↓reduceIte, Nat.reduceLT, Nat.reduceLeDiff, Nat.reduceEqDiff, Nat.reduceAdd, Nat.reduceMul, Nat.reduceSub, reduceCtorEq, Int.reduceLT, Int.reduceLE, Int.reduceEq, Int.reduceToNat, decide_true, decide_false, Int.reduceNeg, Int.cast_ofNat_Int, sg, AO.sg, Option.isNone_none, h1]
    rw [if_neg (by omega)]
    refine end_pure ?_
    simp only [go_sem, ↓reduceIte, Nat.reduceLT, Nat.reduceLeDiff, Nat.reduceEqDiff, Nat.reduceAdd, Nat.reduceMul, Nat.reduceSub, reduceCtorEq, Int.reduceLT, Int.reduceLE, Int.reduceEq, Int.reduceToNat, decide_true, decide_false, Int.reduceNeg, Int.cast_ofNat_Int, sg, AO.sg, Option.isNone_none]
    rfl
  by_cases h2 : 11 ≤ kind
  · simp only [go_sem, ↓reduceIte, Nat.reduceLT, Nat.reduceLeDiff, Nat.reduceEqDiff, Nat.reduceAdd, Nat.reduceMul, Nat.reduceSub, reduceCtorEq, Int.reduceLT, Int.reduceLE, Int.reduceEq, Int.reduceToNat, decide_true, decide_false, Int.reduceNeg, Int.cast_ofNat_Int, sg, AO.sg, Option.isNone_none, h1, h2]
    rw [if_neg (by omega)]
    refine end_pure ?_
    simp only [go_sem, ↓reduceIte, Nat.reduceLT, Nat.reduceLeDiff, Nat.reduceEqDiff, Nat.reduceAdd, Nat.reduceMul, Nat.reduceSub, reduceCtorEq, Int.reduceLT, Int.reduceLE, Int.reduceEq, Int.reduceToNat, decide_true, decide_false, Int.reduceNeg, Int.cast_ofNat_Int, sg, AO.sg, Option.isNone_none]
    rfl
  obtain ⟨j, rfl⟩ : ∃ j : Nat, kind = (j : Int) := ⟨kind.toNat, by omega⟩
  have hjr : j < 11 := by omega
  have hfc := formK_cells j hjr
  have hks := fK_small j
  have hjp : (0 : Int) ≤ (j : Int) ∧ (j : Int) < 11 := by omega
  have hfl : j * 3 + 3 ≤ (formK.flatMap fkC).length := by rw [formK_len]; omega
  have hdt : List.take 3 (List.drop (j * 3) (List.map D.p (formK.flatMap fkC))) = [.p (.str (fK j).word), .p (.int .i64 ((fK j).na : Nat)), .p (.int .i64 ((fK j).nu : Nat))] := by
    rw [← List.map_drop, ← List.map_take, hfc]; rfl
  have hwl : (fK j).word.length ≤ 12 := (propB_iff.1 (fK_prop j (by omega) hjr)).2.1
  have hct : txtC ⟨j, a, b, nn⟩ = wordsV ((fK j).word :: (([a, b].take (fK j).na) ++ (if (fK j).nu = 0 then [] else [digV nn]))) := rfl
  rw [hct]
  clear hfc hct
  generalize (fK j).word = wd at *
  generalize (fK j).na = na at *
  generalize (fK j).nu = nu at *
  obtain ⟨k1, k2, k3⟩ := hks
  have hna : ((na : Nat) : Int) ≤ 2 := by omega
  have hna0 : (0 : Int) ≤ ((na : Nat) : Int) := by omega
  simp only [go_sem, ↓reduceIte, Nat.reduceLT, Nat.reduceLeDiff, Nat.reduceEqDiff, Nat.reduceAdd, Nat.reduceMul, Nat.reduceSub, reduceCtorEq, Int.reduceLT, Int.reduceLE, Int.reduceEq, Int.reduceToNat, decide_true, decide_false, Int.reduceNeg, Int.cast_ofNat_Int, sg, AO.sg, Option.isNone_none, h1, h2, Int.toNat_natCast, hjp, hfl, hdt]
  refine X_any0 mixed (p := [(0, 0), (1, 0), (3, 0), (4, 0), (5, 0), (6, 0), (8, 0), (9, 0), (2, 1), (7, 1), (10, 2), (11, 2), (12, 0)]) (by kernel_rfl) (by simp [LeH, get]) ?_
  have hwA : Wid 1 (List.take na [[Pd.str a], [Pd.str b]]) := by
    intro y hy
    have := List.mem_of_mem_take hy
    simp at this
    rcases this with rfl | rfl <;> rfl
  have hle : (List.take na [[Pd.str a], [Pd.str b]]).length ≤ 2 := by simp; omega
  have hsub : ((na : Int) - 0).toNat = na := by omega
  simp only [go_sem, ↓reduceIte, Nat.reduceLT, Nat.reduceLeDiff, Nat.reduceEqDiff, Nat.reduceAdd, Nat.reduceMul, Nat.reduceSub, reduceCtorEq, Int.reduceLT, Int.reduceLE, Int.reduceEq, Int.reduceToNat, decide_true, decide_false, Int.reduceNeg, Int.cast_ofNat_Int, sg, AO.sg, Option.isNone_none, Int.toNat_natCast, hna, hna0, hsub, Int.reduceToNat, Int.sub_zero]
  refine ⟨⟨hwA, by omega, by omega⟩, ?_⟩
  have e1 : [Pd.str wd] :: List.take na [[Pd.str a], [Pd.str b]] = encS (wd :: [a, b].take na) := by simp [encS, List.map_take]
  have e1l : (List.take na [[Pd.str a], [Pd.str b]]).length + 1 = (wd :: [a, b].take na).length := by simp
  rw [e1, e1l]
  have hszt : szF (wd :: [a, b].take na) ≤ 20000000 := by
    rcases take_two_cases na k1 with rfl | rfl | rfl <;> simp [szF] <;> omega
  have hlt : (wd :: [a, b].take na).length ≤ 3 := by simp; omega
  have hci : ∀ T : List UInt8, (decide ((cmdV T).kind = (j : Int)) && (decide ((cmdV T).a = a) && (decide ((cmdV T).b = b) && decide ((cmdV T).n = nn)))) = decide (cmdV T = ⟨j, a, b, nn⟩) := fun T => cs_inj (x := cmdV T) (y := ⟨j, a, b, nn⟩)
  generalize hws : wd :: [a, b].take na = ws at *
  have hwne : ws ≠ [] := by rw [← hws]; simp
  by_cases hnu : nu = 0
  · subst hnu
    have eW : wd :: ([a, b].take na ++ (if (0 : Nat) = 0 then [] else [digV nn])) = ws := by rw [if_pos rfl, List.append_nil, hws]
    rw [eW]
    simp only [go_sem, ↓reduceIte, Nat.reduceLT, Nat.reduceLeDiff, Nat.reduceEqDiff, Nat.reduceAdd, Nat.reduceMul, Nat.reduceSub, reduceCtorEq, Int.reduceLT, Int.reduceLE, Int.reduceEq, Int.reduceToNat, decide_true, decide_false, Int.reduceNeg, Int.cast_ofNat_Int, sg, AO.sg, Option.isNone_none, encS_len, encS_take ws ws.length (Nat.le_refl _)]
    refine Cc_of ((joink_ok ws hwne (by omega) (by omega)).glob (id := 1000000) (by decide) rfl (by simp [idsL, D.ids, hpIds]) (fun h1 r hr => by rw [hr.1]; rfl)) ?_
    rintro h' r ⟨_, ⟨rfl, rfl⟩, rfl⟩
    simp only [go_sem, ↓reduceIte, Nat.reduceLT, Nat.reduceLeDiff, Nat.reduceEqDiff, Nat.reduceAdd, Nat.reduceMul, Nat.reduceSub, reduceCtorEq, Int.reduceLT, Int.reduceLE, Int.reduceEq, Int.reduceToNat, decide_true, decide_false, Int.reduceNeg, Int.cast_ofNat_Int, sg, AO.sg, Option.isNone_none]
    refine X_any0 mixed (p := [(0, 0), (2, 0), (1, 2), (3, 0)]) (by kernel_rfl) (by simp [LeH, get]) ?_
    simp only [go_sem, ↓reduceIte, Nat.reduceLT, Nat.reduceLeDiff, Nat.reduceEqDiff, Nat.reduceAdd, Nat.reduceMul, Nat.reduceSub, reduceCtorEq, Int.reduceLT, Int.reduceLE, Int.reduceEq, Int.reduceToNat, decide_true, decide_false, Int.reduceNeg, Int.cast_ofNat_Int, sg, AO.sg, Option.isNone_none]
    refine Gh_of ((cmdp_ok (wordsV ws)).glob (id := 1000000) (by decide) rfl (by simp [idsL, D.ids, hpIds, Cd.cs]) (fun h1 r hr => by rw [hr.1]; rfl)) ?_
    rintro h' r ⟨_, ⟨rfl, rfl⟩, rfl⟩
    simp only [go_sem, ↓reduceIte, Nat.reduceLT, Nat.reduceLeDiff, Nat.reduceEqDiff, Nat.reduceAdd, Nat.reduceMul, Nat.reduceSub, reduceCtorEq, Int.reduceLT, Int.reduceLE, Int.reduceEq, Int.reduceToNat, decide_true, decide_false, Int.reduceNeg, Int.cast_ofNat_Int, sg, AO.sg, Option.isNone_none, Cd.cs, hci]
    cases heq : decide (cmdV (wordsV ws) = ⟨(j : Int), a, b, nn⟩)
    · simp only [go_sem, ↓reduceIte, Nat.reduceLT, Nat.reduceLeDiff, Nat.reduceEqDiff, Nat.reduceAdd, Nat.reduceMul, Nat.reduceSub, reduceCtorEq, Int.reduceLT, Int.reduceLE, Int.reduceEq, Int.reduceToNat, decide_true, decide_false, Int.reduceNeg, Int.cast_ofNat_Int, sg, AO.sg, Option.isNone_none, heq]
      rw [if_neg (fun h => of_decide_eq_false heq h.2)]
      refine end_pure ?_
      simp only [go_sem, ↓reduceIte, Nat.reduceLT, Nat.reduceLeDiff, Nat.reduceEqDiff, Nat.reduceAdd, Nat.reduceMul, Nat.reduceSub, reduceCtorEq, Int.reduceLT, Int.reduceLE, Int.reduceEq, Int.reduceToNat, decide_true, decide_false, Int.reduceNeg, Int.cast_ofNat_Int, sg, AO.sg, Option.isNone_none]
      rfl
    · simp only [go_sem, ↓reduceIte, Nat.reduceLT, Nat.reduceLeDiff, Nat.reduceEqDiff, Nat.reduceAdd, Nat.reduceMul, Nat.reduceSub, reduceCtorEq, Int.reduceLT, Int.reduceLE, Int.reduceEq, Int.reduceToNat, decide_true, decide_false, Int.reduceNeg, Int.cast_ofNat_Int, sg, AO.sg, Option.isNone_none, heq]
      rw [if_pos ⟨⟨by omega, by omega⟩, of_decide_eq_true heq⟩]
      refine end_pure ?_
      simp only [go_sem, ↓reduceIte, Nat.reduceLT, Nat.reduceLeDiff, Nat.reduceEqDiff, Nat.reduceAdd, Nat.reduceMul, Nat.reduceSub, reduceCtorEq, Int.reduceLT, Int.reduceLE, Int.reduceEq, Int.reduceToNat, decide_true, decide_false, Int.reduceNeg, Int.cast_ofNat_Int, sg, AO.sg, Option.isNone_none]
      rfl
  · have hn1 : nu = 1 := by omega
    subst hn1
    have eW : wd :: ([a, b].take na ++ (if (1 : Nat) = 0 then [] else [digV nn])) = ws ++ [digV nn] := by rw [if_neg (by decide), ← hws]; rfl
    rw [eW]
    simp only [go_sem, ↓reduceIte, Nat.reduceLT, Nat.reduceLeDiff, Nat.reduceEqDiff, Nat.reduceAdd, Nat.reduceMul, Nat.reduceSub, reduceCtorEq, Int.reduceLT, Int.reduceLE, Int.reduceEq, Int.reduceToNat, decide_true, decide_false, Int.reduceNeg, Int.cast_ofNat_Int, sg, AO.sg, Option.isNone_none, encS_len]
    refine Cc_of (itoa_ok nn hc3 hc4) ?_
    rintro h' r ⟨rfl, rfl⟩
    simp only [go_sem, ↓reduceIte, Nat.reduceLT, Nat.reduceLeDiff, Nat.reduceEqDiff, Nat.reduceAdd, Nat.reduceMul, Nat.reduceSub, reduceCtorEq, Int.reduceLT, Int.reduceLE, Int.reduceEq, Int.reduceToNat, decide_true, decide_false, Int.reduceNeg, Int.cast_ofNat_Int, sg, AO.sg, Option.isNone_none, encS_len]
    refine ⟨⟨wid1 _ _ rfl, by omega⟩, ?_⟩
    have e2 : encS ws ++ [[Pd.str (digV nn)]] = encS (ws ++ [digV nn]) := by rw [encS_snoc]
    rw [e2]
    have hsz3 : szF (ws ++ [digV nn]) ≤ 30000000 := by
      have : ∀ (r : List (List UInt8)) (x : List UInt8), szF (r ++ [x]) = szF r + (x.length + 1) := by
        intro r x
        induction r with
        | nil => simp [szF]
        | cons y r ih => simp only [List.cons_append, szF, ih]; omega
      rw [this]; omega
    have hl3 : (ws ++ [digV nn]).length = ws.length + 1 := by simp
    have htk3 : List.take (ws.length + 1) (encS (ws ++ [digV nn])) = encS (ws ++ [digV nn]) := encS_take _ _ (by simp)
    simp only [go_sem, ↓reduceIte, Nat.reduceLT, Nat.reduceLeDiff, Nat.reduceEqDiff, Nat.reduceAdd, Nat.reduceMul, Nat.reduceSub, reduceCtorEq, Int.reduceLT, Int.reduceLE, Int.reduceEq, Int.reduceToNat, decide_true, decide_false, Int.reduceNeg, Int.cast_ofNat_Int, sg, AO.sg, Option.isNone_none, encS_len, hl3, htk3]
    refine Cc_of ((joink_ok (ws ++ [digV nn]) (by simp) (by omega) (by omega)).glob (id := 1000000) (by decide) rfl (by simp [idsL, D.ids, hpIds]) (fun h1 r hr => by rw [hr.1]; rfl)) ?_
    rintro h' r ⟨_, ⟨rfl, rfl⟩, rfl⟩
    simp only [go_sem, ↓reduceIte, Nat.reduceLT, Nat.reduceLeDiff, Nat.reduceEqDiff, Nat.reduceAdd, Nat.reduceMul, Nat.reduceSub, reduceCtorEq, Int.reduceLT, Int.reduceLE, Int.reduceEq, Int.reduceToNat, decide_true, decide_false, Int.reduceNeg, Int.cast_ofNat_Int, sg, AO.sg, Option.isNone_none]
    refine X_any0 mixed (p := [(0, 0), (2, 0), (1, 2), (3, 0)]) (by kernel_rfl) (by simp [LeH, get]) ?_
    simp only [go_sem, ↓reduceIte, Nat.reduceLT, Nat.reduceLeDiff, Nat.reduceEqDiff, Nat.reduceAdd, Nat.reduceMul, Nat.reduceSub, reduceCtorEq, Int.reduceLT, Int.reduceLE, Int.reduceEq, Int.reduceToNat, decide_true, decide_false, Int.reduceNeg, Int.cast_ofNat_Int, sg, AO.sg, Option.isNone_none]
    refine Gh_of ((cmdp_ok (wordsV (ws ++ [digV nn]))).glob (id := 1000000) (by decide) rfl (by simp [idsL, D.ids, hpIds, Cd.cs]) (fun h1 r hr => by rw [hr.1]; rfl)) ?_
    rintro h' r ⟨_, ⟨rfl, rfl⟩, rfl⟩
    simp only [go_sem, ↓reduceIte, Nat.reduceLT, Nat.reduceLeDiff, Nat.reduceEqDiff, Nat.reduceAdd, Nat.reduceMul, Nat.reduceSub, reduceCtorEq, Int.reduceLT, Int.reduceLE, Int.reduceEq, Int.reduceToNat, decide_true, decide_false, Int.reduceNeg, Int.cast_ofNat_Int, sg, AO.sg, Option.isNone_none, Cd.cs, hci]
    cases heq : decide (cmdV (wordsV (ws ++ [digV nn])) = ⟨(j : Int), a, b, nn⟩)
    · simp only [go_sem, ↓reduceIte, Nat.reduceLT, Nat.reduceLeDiff, Nat.reduceEqDiff, Nat.reduceAdd, Nat.reduceMul, Nat.reduceSub, reduceCtorEq, Int.reduceLT, Int.reduceLE, Int.reduceEq, Int.reduceToNat, decide_true, decide_false, Int.reduceNeg, Int.cast_ofNat_Int, sg, AO.sg, Option.isNone_none, heq]
      rw [if_neg (fun h => of_decide_eq_false heq h.2)]
      refine end_pure ?_
      simp only [go_sem, ↓reduceIte, Nat.reduceLT, Nat.reduceLeDiff, Nat.reduceEqDiff, Nat.reduceAdd, Nat.reduceMul, Nat.reduceSub, reduceCtorEq, Int.reduceLT, Int.reduceLE, Int.reduceEq, Int.reduceToNat, decide_true, decide_false, Int.reduceNeg, Int.cast_ofNat_Int, sg, AO.sg, Option.isNone_none]
      rfl
    · simp only [go_sem, ↓reduceIte, Nat.reduceLT, Nat.reduceLeDiff, Nat.reduceEqDiff, Nat.reduceAdd, Nat.reduceMul, Nat.reduceSub, reduceCtorEq, Int.reduceLT, Int.reduceLE, Int.reduceEq, Int.reduceToNat, decide_true, decide_false, Int.reduceNeg, Int.cast_ofNat_Int, sg, AO.sg, Option.isNone_none, heq]
      rw [if_pos ⟨⟨by omega, by omega⟩, of_decide_eq_true heq⟩]
      refine end_pure ?_
      simp only [go_sem, ↓reduceIte, Nat.reduceLT, Nat.reduceLeDiff, Nat.reduceEqDiff, Nat.reduceAdd, Nat.reduceMul, Nat.reduceSub, reduceCtorEq, Int.reduceLT, Int.reduceLE, Int.reduceEq, Int.reduceToNat, decide_true, decide_false, Int.reduceNeg, Int.cast_ofNat_Int, sg, AO.sg, Option.isNone_none]
      rfl
def refW : List (List UInt8) := [[116, 97, 115, 107], [99, 97, 110, 99, 101, 108], [115, 116, 97, 116, 117, 115], [114, 101, 109, 111, 118, 101], [99, 108, 111, 115, 101], [111, 112, 101, 110], [97, 100, 100], [98, 108, 111, 99, 107], [102, 108, 101, 101, 116], [113, 117, 101, 117, 101]]
def refK : List Nat := [1, 2, 7, 6, 3, 4, 5, 8, 9, 10]
theorem refW_k (i : Nat) (h : i < 10) : wordK (refW.getD i []) = refK.getD i 0 := by
  have : ∀ i : Fin 10, wordK (refW.getD i.val []) = refK.getD i.val 0 := by decide
  exact this ⟨i, h⟩
theorem refK_all (j : Nat) (h : 1 ≤ j) (h2 : j < 11) : ∃ i, i < 10 ∧ refK.getD i 0 = j := by
  have : ∀ j : Fin 11, 1 ≤ j.val → ∃ i : Fin 10, refK.getD i.val 0 = j.val := by decide
  obtain ⟨i, hi⟩ := this ⟨j, h2⟩ h
  exact ⟨i.val, i.isLt, hi⟩
def wordO (k : Int) : List UInt8 := if 1 ≤ k ∧ k ≤ 10 then (fK k.toNat).word else []
theorem word_ok (k : Int) : ACalls Tryd.prog 31 [.p (.int .i64 k)] [] fun h r => h = [] ∧ r = .p (.str (wordO k)) := by
  refine ACalls_X Tryd.func31 rfl enters31 (by simp [Tryd.f31]) ?_
  simp only [go_sem, ↓reduceIte, Nat.reduceLT, Nat.reduceLeDiff, Nat.reduceEqDiff, Nat.reduceAdd, Nat.reduceMul, Nat.reduceSub, reduceCtorEq, Int.reduceLT, Int.reduceLE, Int.reduceEq, Int.reduceToNat, decide_true, decide_false, Int.reduceNeg, Int.cast_ofNat_Int, sg, AO.sg, Option.isNone_none]
  refine X_loop_inv (fun i : Nat => ⟨[(0, .p (.int .i64 k)), (3, .ref 8 0 10 10), (4, .p (.int .i64 (i : Nat)))], [(8, .arr 9 1 (encS refW))], 31⟩) (fun i => i ≤ 10 ∧ ∀ i' : Nat, i' < i → ((refK.getD i' 0 : Nat) : Int) ≠ k) (fun i => 10 - i) 0 ⟨by omega, by simp⟩ (Wk.forget (by simp [Le, LeE, LeH, get, envIds, hpIds, KeepH, D.ids, idsL, AO.ids, setL, base, encS, refW])) ?_
  rintro i n ⟨hi, hno⟩ ih
  have hel : (encS refW).length = 10 := rfl
  simp only [go_sem, ↓reduceIte, Nat.reduceLT, Nat.reduceLeDiff, Nat.reduceEqDiff, Nat.reduceAdd, Nat.reduceMul, Nat.reduceSub, reduceCtorEq, Int.reduceLT, Int.reduceLE, Int.reduceEq, Int.reduceToNat, decide_true, decide_false, Int.reduceNeg, Int.cast_ofNat_Int, sg, AO.sg, Option.isNone_none, hel]
  refine Cn_split (fun h2 => ?_) (fun h2 => ?_)
  · have hlt : i < 10 := by simp at h2; omega
    have hi0 : (0 : Int) ≤ (i : Int) ∧ (i : Int) < 10 := by omega
    have hg := encS_get refW i hlt
    have hk := refW_k i hlt
    have hw := wrap_succ i (by omega)
    have hkr := wordK_rng (refW.getD i [])
    generalize refW.getD i [] = w at *
    simp only [go_sem, ↓reduceIte, Nat.reduceLT, Nat.reduceLeDiff, Nat.reduceEqDiff, Nat.reduceAdd, Nat.reduceMul, Nat.reduceSub, reduceCtorEq, Int.reduceLT, Int.reduceLE, Int.reduceEq, Int.reduceToNat, decide_true, decide_false, Int.reduceNeg, Int.cast_ofNat_Int, sg, AO.sg, Option.isNone_none, Int.toNat_natCast, hi0, hg, hel]
    refine Cc_of ((kind_ok w)) ?_
    rintro h' r ⟨rfl, rfl⟩
    unfold kindR
    cases hck : decide (((wordK w : Nat) : Int) = k)
    · simp only [go_sem, ↓reduceIte, Nat.reduceLT, Nat.reduceLeDiff, Nat.reduceEqDiff, Nat.reduceAdd, Nat.reduceMul, Nat.reduceSub, reduceCtorEq, Int.reduceLT, Int.reduceLE, Int.reduceEq, Int.reduceToNat, decide_true, decide_false, Int.reduceNeg, Int.cast_ofNat_Int, sg, AO.sg, Option.isNone_none, hck, hw]
      refine ih (i + 1) _ ⟨by omega, fun i' hi' => ?_⟩ (by omega) (Wk.forget (by simp [Le, LeE, LeH, get, envIds, hpIds, KeepH, D.ids, idsL, AO.ids, setL, base]))
      rcases Nat.lt_succ_iff_lt_or_eq.1 hi' with h3 | rfl
      · exact hno i' h3
      · rw [← hk]; exact of_decide_eq_false hck
    · simp only [go_sem, ↓reduceIte, Nat.reduceLT, Nat.reduceLeDiff, Nat.reduceEqDiff, Nat.reduceAdd, Nat.reduceMul, Nat.reduceSub, reduceCtorEq, Int.reduceLT, Int.reduceLE, Int.reduceEq, Int.reduceToNat, decide_true, decide_false, Int.reduceNeg, Int.cast_ofNat_Int, sg, AO.sg, Option.isNone_none, hck, Int.toNat_natCast, hi0, hg, hel]
      have h3 := of_decide_eq_true hck
      have h4 : wordK w ≠ 0 := by
        rw [hk]
        rcases i with _ | _ | _ | _ | _ | _ | _ | _ | _ | _ | i
        all_goals first | decide | omega
      have h5 : wordO k = w := by
        unfold wordO
        rw [if_pos (by omega), ← h3, Int.toNat_natCast]
        exact hkr.2.2 h4
      rw [h5]
  · have hie : i = 10 := by simp at h2; omega
    subst hie
    simp only [go_sem, ↓reduceIte, Nat.reduceLT, Nat.reduceLeDiff, Nat.reduceEqDiff, Nat.reduceAdd, Nat.reduceMul, Nat.reduceSub, reduceCtorEq, Int.reduceLT, Int.reduceLE, Int.reduceEq, Int.reduceToNat, decide_true, decide_false, Int.reduceNeg, Int.cast_ofNat_Int, sg, AO.sg, Option.isNone_none]
    have h5 : wordO k = [] := by
      unfold wordO
      rw [if_neg]
      intro h
      obtain ⟨i, h6, h7⟩ := refK_all k.toNat (by omega) (by omega)
      exact hno i h6 (by rw [h7]; omega)
    rw [h5]
end Go.Am
