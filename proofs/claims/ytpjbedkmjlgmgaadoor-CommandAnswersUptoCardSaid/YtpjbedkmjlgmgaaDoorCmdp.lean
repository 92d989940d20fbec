/- command.Parse. -/
import Derived.Test.YtpjbedkmjlgmgaaDoorCmdv
namespace Go.Am
open Go Go.Proofs
set_option maxRecDepth 100000
set_option linter.unusedVariables false
set_option linter.unusedSimpArgs false
theorem formsk_ok : ACalls Tryd.prog 18 [] [] fun h r => h = [] ∧ r = .agg ((formK.flatMap fkC).map .p) := by
  refine ACalls_X Tryd.func18 rfl enters18 (by simp [Tryd.f18]) ?_
  simp only [go_sem, ↓reduceIte, Nat.reduceLT, Nat.reduceLeDiff, Nat.reduceEqDiff, Nat.reduceAdd, Nat.reduceMul, Nat.reduceSub, reduceCtorEq, Int.reduceLT, Int.reduceLE, Int.reduceEq, Int.reduceToNat, decide_true, decide_false, Int.reduceNeg, Int.cast_ofNat_Int, sg, AO.sg, Option.isNone_none]
  refine end_own ?_
  simp only [go_sem, ↓reduceIte, Nat.reduceLT, Nat.reduceLeDiff, Nat.reduceEqDiff, Nat.reduceAdd, Nat.reduceMul, Nat.reduceSub, reduceCtorEq, Int.reduceLT, Int.reduceLE, Int.reduceEq, Int.reduceToNat, decide_true, decide_false, Int.reduceNeg, Int.cast_ofNat_Int, sg, AO.sg, Option.isNone_none]
  rfl
theorem cap1_ok (f : Fk) (w : List UInt8) (fs : List (List UInt8)) : ACalls Tryd.prog 20 [.agg ((fkC f).map .p), .ptr 1000000 0] [(1000000, .box [.p (.sl (encS (w :: fs)))])] fun h r => h = [(1000000, .box [.p (.sl (encS (w :: fs)))])] ∧ r = .p (.bool (decide (f.word = w))) := by
  refine ACalls_X Tryd.func20 rfl enters20 (by simp [Tryd.f20]) ?_
  unfold fkC
  simp only [go_sem, ↓reduceIte, Nat.reduceLT, Nat.reduceLeDiff, Nat.reduceEqDiff, Nat.reduceAdd, Nat.reduceMul, Nat.reduceSub, reduceCtorEq, Int.reduceLT, Int.reduceLE, Int.reduceEq, Int.reduceToNat, decide_true, decide_false, Int.reduceNeg, Int.cast_ofNat_Int, sg, AO.sg, Option.isNone_none]
  refine X_any [(1000000, .box [.p (.sl (encS (w :: fs)))]), (2, .box [.p (.str f.word), .p (.int .i64 (f.na : Nat)), .p (.int .i64 (f.nu : Nat))])] mixed (p := [(0, 0), (1, 0), (2, 0), (3, 0), (4, 0), (5, 0), (6, 0)]) (by kernel_rfl) (by simp [LeH, get]) ?_
  have h0 : (encS (w :: fs)).getD 0 [] = [.str w] := rfl
  simp only [go_sem, ↓reduceIte, Nat.reduceLT, Nat.reduceLeDiff, Nat.reduceEqDiff, Nat.reduceAdd, Nat.reduceMul, Nat.reduceSub, reduceCtorEq, Int.reduceLT, Int.reduceLE, Int.reduceEq, Int.reduceToNat, decide_true, decide_false, Int.reduceNeg, Int.cast_ofNat_Int, sg, AO.sg, Option.isNone_none, encS_len, h0]
  omega
theorem cap2_ok (s : List UInt8) : ACalls Tryd.prog 22 [.p (.str s)] [] fun h r => h = [] ∧ r = .p (.bool (!nameB s)) := by
  refine ACalls_X Tryd.func22 rfl enters22 (by simp [Tryd.f22]) ?_
  simp only [go_sem, ↓reduceIte, Nat.reduceLT, Nat.reduceLeDiff, Nat.reduceEqDiff, Nat.reduceAdd, Nat.reduceMul, Nat.reduceSub, reduceCtorEq, Int.reduceLT, Int.reduceLE, Int.reduceEq, Int.reduceToNat, decide_true, decide_false, Int.reduceNeg, Int.cast_ofNat_Int, sg, AO.sg, Option.isNone_none]
  refine Cc_of ((name1_ok s)) ?_
  rintro h' r ⟨rfl, rfl⟩
  simp only [go_sem, ↓reduceIte, Nat.reduceLT, Nat.reduceLeDiff, Nat.reduceEqDiff, Nat.reduceAdd, Nat.reduceMul, Nat.reduceSub, reduceCtorEq, Int.reduceLT, Int.reduceLE, Int.reduceEq, Int.reduceToNat, decide_true, decide_false, Int.reduceNeg, Int.cast_ofNat_Int, sg, AO.sg, Option.isNone_none]
def encK (l : List Fk) : List (List Pd) := l.map fkC
theorem encK_len (l : List Fk) : (encK l).length = l.length := by simp [encK]
theorem encK_get (l : List Fk) (i : Nat) (h : i < l.length) : (encK l).getD i [] = [.str l[i].word, .int .i64 (l[i].na : Nat), .int .i64 (l[i].nu : Nat)] := by simp [encK, List.getD, h, fkC]
theorem indexK_ok (l : List Fk) (hl : l.length ≤ 140737488355328) (g : FuncId) (p : Fk → Bool) (x1 : Pd)
    (hp : ∀ x : Fk, ACalls Tryd.prog g [.agg [.p (.str x.word), .p (.int .i64 (x.na : Nat)), .p (.int .i64 (x.nu : Nat))], .ptr 1000000 0] [(1000000, .box [.p x1])] fun h r => h = [(1000000, .box [.p x1])] ∧ r = .p (.bool (p x))) :
    ACalls Tryd.prog 19 [.p (.sl (encK l)), .fn g [.ptr 1000000 0]] [(1000000, .box [.p x1])] fun h r => h = [(1000000, .box [.p x1])] ∧ r = .p (.int .i64 (findI p 0 l)) := by
  refine ACalls_X Tryd.func19 rfl enters19 (by simp [Tryd.f19]) ?_
  simp only [go_sem, ↓reduceIte, Nat.reduceLT, Nat.reduceLeDiff, Nat.reduceEqDiff, Nat.reduceAdd, Nat.reduceMul, Nat.reduceSub, reduceCtorEq, Int.reduceLT, Int.reduceLE, Int.reduceEq, Int.reduceToNat, decide_true, decide_false, Int.reduceNeg, Int.cast_ofNat_Int, sg, AO.sg, Option.isNone_none, encK_len]
  refine X_loop_inv (fun i => ⟨[(0, .p (.sl (encK l))), (1, .fn g [.ptr 1000000 0]), (7, .p (.int .i64 (l.length : Nat))), (8, .p (.int .i64 (i : Nat)))], [(1000000, .box [.p x1])], 19⟩) (fun i => i ≤ l.length ∧ ∀ j x, j < i → l[j]? = some x → p x = false) (fun i => l.length - i) 0 ⟨Nat.zero_le _, by simp⟩
    (Wk.forget (by simp [Le, LeE, LeH, get, envIds, hpIds, KeepH, D.ids, idsL, AO.ids, setL, base])) ?_
  rintro i n ⟨hi, he⟩ ih
  simp only [go_sem, ↓reduceIte, Nat.reduceLT, Nat.reduceLeDiff, Nat.reduceEqDiff, Nat.reduceAdd, Nat.reduceMul, Nat.reduceSub, reduceCtorEq, Int.reduceLT, Int.reduceLE, Int.reduceEq, Int.reduceToNat, decide_true, decide_false, Int.reduceNeg, Int.cast_ofNat_Int, sg, AO.sg, Option.isNone_none]
  refine Cn_split (fun h2 => ?_) (fun h2 => ?_)
  · have hlt : i < l.length := by simp at h2; omega
    simp only [go_sem, ↓reduceIte, Nat.reduceLT, Nat.reduceLeDiff, Nat.reduceEqDiff, Nat.reduceAdd, Nat.reduceMul, Nat.reduceSub, reduceCtorEq, Int.reduceLT, Int.reduceLE, Int.reduceEq, Int.reduceToNat, decide_true, decide_false, Int.reduceNeg, Int.cast_ofNat_Int, sg, AO.sg, Option.isNone_none, encK_len, Int.toNat_natCast, encK_get l i hlt]
    have hw := wrap_succ i (by omega)
    have hx : l[i]? = some l[i] := by simp
    have hdrop : l.drop i = l[i] :: l.drop (i + 1) := by rw [List.drop_eq_getElem_cons hlt]
    refine ⟨by omega, Cc_of (hp l[i]) ?_⟩
    rintro h' r ⟨rfl, rfl⟩
    simp only [go_sem, ↓reduceIte, Nat.reduceLT, Nat.reduceLeDiff, Nat.reduceEqDiff, Nat.reduceAdd, Nat.reduceMul, Nat.reduceSub, reduceCtorEq, Int.reduceLT, Int.reduceLE, Int.reduceEq, Int.reduceToNat, decide_true, decide_false, Int.reduceNeg, Int.cast_ofNat_Int, sg, AO.sg, Option.isNone_none]
    cases hpx : p l[i]
    · simp only [go_sem, ↓reduceIte, Nat.reduceLT, Nat.reduceLeDiff, Nat.reduceEqDiff, Nat.reduceAdd, Nat.reduceMul, Nat.reduceSub, reduceCtorEq, Int.reduceLT, Int.reduceLE, Int.reduceEq, Int.reduceToNat, decide_true, decide_false, Int.reduceNeg, Int.cast_ofNat_Int, sg, AO.sg, Option.isNone_none, hw]
      refine ih (i + 1) _ ⟨by omega, fun j x hj hjx => ?_⟩ (by omega) (Wk.forget (by simp [Le, LeE, LeH, get, envIds, hpIds, KeepH, D.ids, idsL, AO.ids, setL, base]))
      rcases Nat.lt_succ_iff_lt_or_eq.1 hj with hj | rfl
      · exact he j x hj hjx
      · rw [hx] at hjx; cases hjx; exact hpx
    · simp only [go_sem, ↓reduceIte, Nat.reduceLT, Nat.reduceLeDiff, Nat.reduceEqDiff, Nat.reduceAdd, Nat.reduceMul, Nat.reduceSub, reduceCtorEq, Int.reduceLT, Int.reduceLE, Int.reduceEq, Int.reduceToNat, decide_true, decide_false, Int.reduceNeg, Int.cast_ofNat_Int, sg, AO.sg, Option.isNone_none]
      rw [findI_drop p l i hi he, hdrop]
      simp only [findI, hpx, if_true, and_self]
  · simp only [go_sem, ↓reduceIte, Nat.reduceLT, Nat.reduceLeDiff, Nat.reduceEqDiff, Nat.reduceAdd, Nat.reduceMul, Nat.reduceSub, reduceCtorEq, Int.reduceLT, Int.reduceLE, Int.reduceEq, Int.reduceToNat, decide_true, decide_false, Int.reduceNeg, Int.cast_ofNat_Int, sg, AO.sg, Option.isNone_none]
    have : i = l.length := by simp at h2; omega
    rw [findI_drop p l i hi he, this, List.drop_length]
    simp [findI]
theorem cmdp_ok (t : List UInt8) : ACalls Tryd.prog 9 [.p (.str t)] [] fun h r => h = [] ∧ r = .agg (cmdV t).cs := by
  have hne := fLines_ne t
  have hsm := fLines_small t
  refine ACalls_X Tryd.func9 rfl enters9 (by simp [Tryd.f9]) ?_
  simp only [go_sem, ↓reduceIte, Nat.reduceLT, Nat.reduceLeDiff, Nat.reduceEqDiff, Nat.reduceAdd, Nat.reduceMul, Nat.reduceSub, reduceCtorEq, Int.reduceLT, Int.reduceLE, Int.reduceEq, Int.reduceToNat, decide_true, decide_false, Int.reduceNeg, Int.cast_ofNat_Int, sg, AO.sg, Option.isNone_none]
  refine Cc_of ((lines1_ok t)) ?_
  rintro h' r ⟨rfl, rfl⟩
  simp only [go_sem, ↓reduceIte, Nat.reduceLT, Nat.reduceLeDiff, Nat.reduceEqDiff, Nat.reduceAdd, Nat.reduceMul, Nat.reduceSub, reduceCtorEq, Int.reduceLT, Int.reduceLE, Int.reduceEq, Int.reduceToNat, decide_true, decide_false, Int.reduceNeg, Int.cast_ofNat_Int, sg, AO.sg, Option.isNone_none, linesR, encL_len]
  by_cases he : (fLines t).2.2 = 0
  rotate_left
  · simp only [go_sem, ↓reduceIte, Nat.reduceLT, Nat.reduceLeDiff, Nat.reduceEqDiff, Nat.reduceAdd, Nat.reduceMul, Nat.reduceSub, reduceCtorEq, Int.reduceLT, Int.reduceLE, Int.reduceEq, Int.reduceToNat, decide_true, decide_false, Int.reduceNeg, Int.cast_ofNat_Int, sg, AO.sg, Option.isNone_none, he]
    refine end_own ?_
    simp only [go_sem, ↓reduceIte, Nat.reduceLT, Nat.reduceLeDiff, Nat.reduceEqDiff, Nat.reduceAdd, Nat.reduceMul, Nat.reduceSub, reduceCtorEq, Int.reduceLT, Int.reduceLE, Int.reduceEq, Int.reduceToNat, decide_true, decide_false, Int.reduceNeg, Int.cast_ofNat_Int, sg, AO.sg, Option.isNone_none]
    simp [cmdV, he, cd0, Cd.cs]
  by_cases h1 : ((fLines t).1.length : Int) = 1
  rotate_left
  · have h1' : ¬ (fLines t).1.length = 1 := by omega
    simp only [go_sem, ↓reduceIte, Nat.reduceLT, Nat.reduceLeDiff, Nat.reduceEqDiff, Nat.reduceAdd, Nat.reduceMul, Nat.reduceSub, reduceCtorEq, Int.reduceLT, Int.reduceLE, Int.reduceEq, Int.reduceToNat, decide_true, decide_false, Int.reduceNeg, Int.cast_ofNat_Int, sg, AO.sg, Option.isNone_none, he, h1, encL_len]
    refine end_own ?_
    simp only [go_sem, ↓reduceIte, Nat.reduceLT, Nat.reduceLeDiff, Nat.reduceEqDiff, Nat.reduceAdd, Nat.reduceMul, Nat.reduceSub, reduceCtorEq, Int.reduceLT, Int.reduceLE, Int.reduceEq, Int.reduceToNat, decide_true, decide_false, Int.reduceNeg, Int.cast_ofNat_Int, sg, AO.sg, Option.isNone_none]
    simp [cmdV, h1', cd0, Cd.cs]
  have h1' : (fLines t).1.length = 1 := by omega
  have hcv : cmdV t = cmdF ((fLines t).1.getD 0 ln0).fs := by unfold cmdV; rw [if_pos ⟨he, h1'⟩]
  have hg := encL_get (fLines t).1 0 (by omega)
  have hn0 := hne _ (getD_mem (fLines t).1 0 ln0 (by omega))
  have hs0 := hsm.2 _ (getD_mem (fLines t).1 0 ln0 (by omega))
  rw [hcv]
  simp only [go_sem, ↓reduceIte, Nat.reduceLT, Nat.reduceLeDiff, Nat.reduceEqDiff, Nat.reduceAdd, Nat.reduceMul, Nat.reduceSub, reduceCtorEq, Int.reduceLT, Int.reduceLE, Int.reduceEq, Int.reduceToNat, decide_true, decide_false, Int.reduceNeg, Int.cast_ofNat_Int, sg, AO.sg, Option.isNone_none, he, h1, h1', encL_len, hg]
  generalize ((fLines t).1.getD 0 ln0).fs = fs at *
  clear hcv hg hne hsm
  obtain ⟨w, rest, rfl⟩ : ∃ w rest, fs = w :: rest := by
    cases fs with
    | nil => exact (hn0 rfl).elim
    | cons w r => exact ⟨w, r, rfl⟩
  simp only [List.length_cons] at hs0
  refine Cc_of ((formsk_ok)) ?_
  rintro h' r ⟨rfl, rfl⟩
  simp only [go_sem, ↓reduceIte, Nat.reduceLT, Nat.reduceLeDiff, Nat.reduceEqDiff, Nat.reduceAdd, Nat.reduceMul, Nat.reduceSub, reduceCtorEq, Int.reduceLT, Int.reduceLE, Int.reduceEq, Int.reduceToNat, decide_true, decide_false, Int.reduceNeg, Int.cast_ofNat_Int, sg, AO.sg, Option.isNone_none, formK_len]
  refine Af_wk (Wk.seal (t := 7) (id := 7) (xs := formK.flatMap fkC) (env1 := [(2, .ptr 2 0), (6, .ptr 6 0)]) (hp1 := [(2, .box [.p (.int .i64 0), .p (.str []), .p (.str []), .p (.int .i64 0)]), (6, .box [.p (.sl (encS (w :: rest)))])]) rfl rfl rfl
    (by simp [Le, LeE, LeH, get, envIds, hpIds, KeepH, D.ids, idsL, AO.ids, base])) ?_
  simp only [go_sem, ↓reduceIte, Nat.reduceLT, Nat.reduceLeDiff, Nat.reduceEqDiff, Nat.reduceAdd, Nat.reduceMul, Nat.reduceSub, reduceCtorEq, Int.reduceLT, Int.reduceLE, Int.reduceEq, Int.reduceToNat, decide_true, decide_false, Int.reduceNeg, Int.cast_ofNat_Int, sg, AO.sg, Option.isNone_none]
  refine Af_sliceArr (L := 1) rfl ti54 ti53 rfl rfl (by decide) formK_len (by decide) ?_
  simp only [go_sem, ↓reduceIte, Nat.reduceLT, Nat.reduceLeDiff, Nat.reduceEqDiff, Nat.reduceAdd, Nat.reduceMul, Nat.reduceSub, reduceCtorEq, Int.reduceLT, Int.reduceLE, Int.reduceEq, Int.reduceToNat, decide_true, decide_false, Int.reduceNeg, Int.cast_ofNat_Int, sg, AO.sg, Option.isNone_none]
  refine Cc_of ((indexK_ok formK.tail (by decide) 20 (fun f => decide (f.word = w)) _ (fun x => cap1_ok x w rest))) ?_
  rintro h' r ⟨rfl, rfl⟩
  obtain ⟨hw1, hw2, hw3⟩ := wordK_rng w
  have hks := fK_small (wordK w)
  have hfc := formK_cells (wordK w) hw2
  have hcg : cmdF (w :: rest) = cmdG (wordK w) (fK (wordK w)).na (fK (wordK w)).nu (w :: rest) := rfl
  rw [hcg]
  have hwv : IntKind.i64.wrap (findI (fun f : Fk => decide (f.word = w)) 0 formK.tail + 1) = (wordK w : Int) := by
    rw [hw1, wrap_i64_id] <;> omega
  clear hw1 hw3 hcg
  generalize wordK w = j at *
  generalize (fK j).word = wd at *
  generalize (fK j).na = na at *
  generalize (fK j).nu = nu at *
  have hjp : (0 : Int) ≤ j ∧ (j : Int) < 11 := by omega
  have hfl : 0 + 3 ≤ (List.drop (j * 3) (formK.flatMap fkC)).length := by rw [List.length_drop, formK_len]; omega
  have hrest : rest.length ≤ 10000000 := by omega
  have bad : (j = 0 ∨ (w :: rest).length ≠ 1 + na + nu ∨ (((w :: rest).take (1 + na)).drop 1).any (fun s => !nameB s) = true) → cmdG j na nu (w :: rest) = cd0 := fun h => by unfold cmdG; rw [if_pos h]
  cases hj0 : decide ((j : Int) = 0)
  rotate_left
  · simp only [go_sem, ↓reduceIte, Nat.reduceLT, Nat.reduceLeDiff, Nat.reduceEqDiff, Nat.reduceAdd, Nat.reduceMul, Nat.reduceSub, reduceCtorEq, Int.reduceLT, Int.reduceLE, Int.reduceEq, Int.reduceToNat, decide_true, decide_false, Int.reduceNeg, Int.cast_ofNat_Int, sg, AO.sg, Option.isNone_none, hwv, Int.toNat_natCast, hfc, hfl, hjp, hj0]
    refine end_own ?_
    simp only [go_sem, ↓reduceIte, Nat.reduceLT, Nat.reduceLeDiff, Nat.reduceEqDiff, Nat.reduceAdd, Nat.reduceMul, Nat.reduceSub, reduceCtorEq, Int.reduceLT, Int.reduceLE, Int.reduceEq, Int.reduceToNat, decide_true, decide_false, Int.reduceNeg, Int.cast_ofNat_Int, sg, AO.sg, Option.isNone_none]
    rw [bad (.inl (by have := of_decide_eq_true hj0; omega))]
    rfl
  have hj0' : j ≠ 0 := by have := of_decide_eq_false hj0; omega
  have hwa : IntKind.i64.wrap (1 + (na : Int)) = ((1 + na : Nat) : Int) := by rw [wrap_i64_id] <;> omega
  have hwb : IntKind.i64.wrap (((1 + na : Nat) : Int) + (nu : Int)) = ((1 + na + nu : Nat) : Int) := by rw [wrap_i64_id] <;> omega
  have hlen : (encS (w :: rest)).length = rest.length + 1 := by rw [encS_len]; rfl
  cases hl : decide (((rest.length + 1 : Nat) : Int) = ((1 + na + nu : Nat) : Int))
  · simp only [go_sem, ↓reduceIte, Nat.reduceLT, Nat.reduceLeDiff, Nat.reduceEqDiff, Nat.reduceAdd, Nat.reduceMul, Nat.reduceSub, reduceCtorEq, Int.reduceLT, Int.reduceLE, Int.reduceEq, Int.reduceToNat, decide_true, decide_false, Int.reduceNeg, Int.cast_ofNat_Int, sg, AO.sg, Option.isNone_none, hwv, Int.toNat_natCast, hfc, hfl, hjp, hj0, hwa, hwb, hlen, hl]
    refine end_own ?_
    simp only [go_sem, ↓reduceIte, Nat.reduceLT, Nat.reduceLeDiff, Nat.reduceEqDiff, Nat.reduceAdd, Nat.reduceMul, Nat.reduceSub, reduceCtorEq, Int.reduceLT, Int.reduceLE, Int.reduceEq, Int.reduceToNat, decide_true, decide_false, Int.reduceNeg, Int.cast_ofNat_Int, sg, AO.sg, Option.isNone_none]
    rw [bad (.inr (.inl (by rw [List.length_cons]; have := of_decide_eq_false hl; omega)))]
    rfl
  have hl' : (w :: rest).length = 1 + na + nu := by rw [List.length_cons]; have := of_decide_eq_true hl; omega
  have hb1 : (1 : Int) ≤ ((1 + na : Nat) : Int) := by omega
  have hb2 : ((1 + na : Nat) : Int) ≤ ((rest.length + 1 : Nat) : Int) := by rw [List.length_cons] at hl'; omega
  have hwid : Wid 1 (encS (w :: rest)) := by simp [Wid, encS]
  have hsl : List.drop 1 (List.take (1 + na) (encS (w :: rest))) = encS (((w :: rest).take (1 + na)).drop 1) := by simp [encS, List.map_take, List.map_drop]
  have htl : (((w :: rest).take (1 + na)).drop 1).length ≤ 100 := by rw [List.length_drop, List.length_take]; omega
  simp only [go_sem, ↓reduceIte, Nat.reduceLT, Nat.reduceLeDiff, Nat.reduceEqDiff, Nat.reduceAdd, Nat.reduceMul, Nat.reduceSub, reduceCtorEq, Int.reduceLT, Int.reduceLE, Int.reduceEq, Int.reduceToNat, decide_true, decide_false, Int.reduceNeg, Int.cast_ofNat_Int, sg, AO.sg, Option.isNone_none, hwv, Int.toNat_natCast, hfc, hfl, hjp, hj0, hwa, hwb, hlen, hl, hsl, hb1, hb2, hwid, Int.reduceToNat]
  refine Cc_of ((containsS_ok _ (by omega) 22 (fun s => !nameB s) cap2_ok)) ?_
  rintro h' r ⟨rfl, rfl⟩
  rw [findI_any]
  cases hany : (((w :: rest).take (1 + na)).drop 1).any (fun s => !nameB s)
  rotate_left
  · simp only [go_sem, ↓reduceIte, Nat.reduceLT, Nat.reduceLeDiff, Nat.reduceEqDiff, Nat.reduceAdd, Nat.reduceMul, Nat.reduceSub, reduceCtorEq, Int.reduceLT, Int.reduceLE, Int.reduceEq, Int.reduceToNat, decide_true, decide_false, Int.reduceNeg, Int.cast_ofNat_Int, sg, AO.sg, Option.isNone_none, hany]
    refine end_own ?_
    simp only [go_sem, ↓reduceIte, Nat.reduceLT, Nat.reduceLeDiff, Nat.reduceEqDiff, Nat.reduceAdd, Nat.reduceMul, Nat.reduceSub, reduceCtorEq, Int.reduceLT, Int.reduceLE, Int.reduceEq, Int.reduceToNat, decide_true, decide_false, Int.reduceNeg, Int.cast_ofNat_Int, sg, AO.sg, Option.isNone_none]
    rw [bad (.inr (.inr hany))]
    rfl
  have good : cmdG j na nu (w :: rest) = if nu = 0 then ⟨j, if 0 < na then fld1 (w :: rest) else [], if 1 < na then fld2 (w :: rest) else [], 0⟩
      else if (numV (fld1 (w :: rest))).2 = true ∧ 0 ≤ (numV (fld1 (w :: rest))).1 then ⟨j, if 0 < na then fld1 (w :: rest) else [], if 1 < na then fld2 (w :: rest) else [], (numV (fld1 (w :: rest))).1⟩ else cd0 := by
    unfold cmdG
    rw [if_neg]
    rintro (h | h | h)
    · exact hj0' h
    · exact h hl'
    · rw [hany] at h; cases h
  rw [good]
  clear good bad
  obtain ⟨k1, k2, k3⟩ := hks
  have hg1 : 1 < (w :: rest).length → (encS (w :: rest)).getD 1 [] = [.str (fld1 (w :: rest))] := fun h => encS_get _ 1 h
  have hg2 : 2 < (w :: rest).length → (encS (w :: rest)).getD 2 [] = [.str (fld2 (w :: rest))] := fun h => encS_get _ 2 h
  rw [List.length_cons] at hl' hg1 hg2
  generalize fld1 (w :: rest) = f1 at *
  generalize fld2 (w :: rest) = f2 at *
  by_cases hn0 : nu = 0
  · subst hn0
    rcases na with _ | _ | _ | na
    · simp only [go_sem, ↓reduceIte, Nat.reduceLT, Nat.reduceLeDiff, Nat.reduceEqDiff, Nat.reduceAdd, Nat.reduceMul, Nat.reduceSub, reduceCtorEq, Int.reduceLT, Int.reduceLE, Int.reduceEq, Int.reduceToNat, decide_true, decide_false, Int.reduceNeg, Int.cast_ofNat_Int, sg, AO.sg, Option.isNone_none, hany]
      refine end_own ?_
      simp only [go_sem, ↓reduceIte, Nat.reduceLT, Nat.reduceLeDiff, Nat.reduceEqDiff, Nat.reduceAdd, Nat.reduceMul, Nat.reduceSub, reduceCtorEq, Int.reduceLT, Int.reduceLE, Int.reduceEq, Int.reduceToNat, decide_true, decide_false, Int.reduceNeg, Int.cast_ofNat_Int, sg, AO.sg, Option.isNone_none]
      simp [Cd.cs]
    · have hr1 : (1 : Int) < ((rest.length + 1 : Nat) : Int) := by omega
      simp only [go_sem, ↓reduceIte, Nat.reduceLT, Nat.reduceLeDiff, Nat.reduceEqDiff, Nat.reduceAdd, Nat.reduceMul, Nat.reduceSub, reduceCtorEq, Int.reduceLT, Int.reduceLE, Int.reduceEq, Int.reduceToNat, decide_true, decide_false, Int.reduceNeg, Int.cast_ofNat_Int, sg, AO.sg, Option.isNone_none, hany, hlen, hr1, hg1 (by omega), Int.reduceToNat]
      refine end_own ?_
      simp only [go_sem, ↓reduceIte, Nat.reduceLT, Nat.reduceLeDiff, Nat.reduceEqDiff, Nat.reduceAdd, Nat.reduceMul, Nat.reduceSub, reduceCtorEq, Int.reduceLT, Int.reduceLE, Int.reduceEq, Int.reduceToNat, decide_true, decide_false, Int.reduceNeg, Int.cast_ofNat_Int, sg, AO.sg, Option.isNone_none]
      simp [Cd.cs]
    · have hr1 : (1 : Int) < ((rest.length + 1 : Nat) : Int) := by omega
      have hr2 : (2 : Int) < ((rest.length + 1 : Nat) : Int) := by omega
      simp only [go_sem, ↓reduceIte, Nat.reduceLT, Nat.reduceLeDiff, Nat.reduceEqDiff, Nat.reduceAdd, Nat.reduceMul, Nat.reduceSub, reduceCtorEq, Int.reduceLT, Int.reduceLE, Int.reduceEq, Int.reduceToNat, decide_true, decide_false, Int.reduceNeg, Int.cast_ofNat_Int, sg, AO.sg, Option.isNone_none, hany, hlen, hr1, hr2, hg1 (by omega), hg2 (by omega), Int.reduceToNat]
      refine end_own ?_
      simp only [go_sem, ↓reduceIte, Nat.reduceLT, Nat.reduceLeDiff, Nat.reduceEqDiff, Nat.reduceAdd, Nat.reduceMul, Nat.reduceSub, reduceCtorEq, Int.reduceLT, Int.reduceLE, Int.reduceEq, Int.reduceToNat, decide_true, decide_false, Int.reduceNeg, Int.cast_ofNat_Int, sg, AO.sg, Option.isNone_none]
      simp [Cd.cs]
    · omega
  · have hn1 : nu = 1 := by omega
    have hna0 := k3 hn0
    subst hn1 hna0
    have hr1 : (1 : Int) < ((rest.length + 1 : Nat) : Int) := by omega
    simp only [go_sem, ↓reduceIte, Nat.reduceLT, Nat.reduceLeDiff, Nat.reduceEqDiff, Nat.reduceAdd, Nat.reduceMul, Nat.reduceSub, reduceCtorEq, Int.reduceLT, Int.reduceLE, Int.reduceEq, Int.reduceToNat, decide_true, decide_false, Int.reduceNeg, Int.cast_ofNat_Int, sg, AO.sg, Option.isNone_none, hany, hlen, hr1, hg1 (by omega), Int.reduceToNat]
    refine Cc_of ((number1_ok f1)) ?_
    rintro h' r ⟨rfl, rfl⟩
    cases hnv : (numV f1).2
    · simp only [go_sem, ↓reduceIte, Nat.reduceLT, Nat.reduceLeDiff, Nat.reduceEqDiff, Nat.reduceAdd, Nat.reduceMul, Nat.reduceSub, reduceCtorEq, Int.reduceLT, Int.reduceLE, Int.reduceEq, Int.reduceToNat, decide_true, decide_false, Int.reduceNeg, Int.cast_ofNat_Int, sg, AO.sg, Option.isNone_none, hnv]
      refine end_own ?_
      simp only [go_sem, ↓reduceIte, Nat.reduceLT, Nat.reduceLeDiff, Nat.reduceEqDiff, Nat.reduceAdd, Nat.reduceMul, Nat.reduceSub, reduceCtorEq, Int.reduceLT, Int.reduceLE, Int.reduceEq, Int.reduceToNat, decide_true, decide_false, Int.reduceNeg, Int.cast_ofNat_Int, sg, AO.sg, Option.isNone_none]
      simp [cd0, Cd.cs]
    · by_cases hneg : (numV f1).1 < 0
      · simp only [go_sem, ↓reduceIte, Nat.reduceLT, Nat.reduceLeDiff, Nat.reduceEqDiff, Nat.reduceAdd, Nat.reduceMul, Nat.reduceSub, reduceCtorEq, Int.reduceLT, Int.reduceLE, Int.reduceEq, Int.reduceToNat, decide_true, decide_false, Int.reduceNeg, Int.cast_ofNat_Int, sg, AO.sg, Option.isNone_none, hnv, hneg]
        refine end_own ?_
        simp only [go_sem, ↓reduceIte, Nat.reduceLT, Nat.reduceLeDiff, Nat.reduceEqDiff, Nat.reduceAdd, Nat.reduceMul, Nat.reduceSub, reduceCtorEq, Int.reduceLT, Int.reduceLE, Int.reduceEq, Int.reduceToNat, decide_true, decide_false, Int.reduceNeg, Int.cast_ofNat_Int, sg, AO.sg, Option.isNone_none]
        have : ¬ 0 ≤ (numV f1).1 := by omega
        simp [this, cd0, Cd.cs]
      · simp only [go_sem, ↓reduceIte, Nat.reduceLT, Nat.reduceLeDiff, Nat.reduceEqDiff, Nat.reduceAdd, Nat.reduceMul, Nat.reduceSub, reduceCtorEq, Int.reduceLT, Int.reduceLE, Int.reduceEq, Int.reduceToNat, decide_true, decide_false, Int.reduceNeg, Int.cast_ofNat_Int, sg, AO.sg, Option.isNone_none, hnv, hneg]
        refine end_own ?_
        simp only [go_sem, ↓reduceIte, Nat.reduceLT, Nat.reduceLeDiff, Nat.reduceEqDiff, Nat.reduceAdd, Nat.reduceMul, Nat.reduceSub, reduceCtorEq, Int.reduceLT, Int.reduceLE, Int.reduceEq, Int.reduceToNat, decide_true, decide_false, Int.reduceNeg, Int.cast_ofNat_Int, sg, AO.sg, Option.isNone_none]
        have : 0 ≤ (numV f1).1 := by omega
        simp [this, Cd.cs]
end Go.Am
