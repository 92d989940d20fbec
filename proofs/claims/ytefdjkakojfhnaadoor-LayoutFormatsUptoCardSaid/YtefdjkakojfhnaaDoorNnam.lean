/- The reference's check of names, of configurations; its count of cells. -/
import Derived.Test.YtefdjkakojfhnaaDoorNblk
namespace Go.Am
open Go Go.Proofs
set_option maxRecDepth 100000
set_option linter.unusedVariables false
set_option linter.unusedSimpArgs false
def namesN (n : Nt) : List (List UInt8) := n.blocks.map Blk.name ++ n.spurs.map Spr.name
def namesP (n : Nt) : Prop := ∀ i, i < (namesN n).length → nameB ((namesN n).getD i []) = true ∧ ∀ k, k < i → (namesN n).getD i [] ≠ (namesN n).getD k []
instance (n : Nt) : Decidable (namesP n) := by unfold namesP; exact inferInstance
theorem take_map_snoc {α β : Type} (f : α → β) (l : List α) (i : Nat) (x : α) (h : i < l.length) : (l.take (i + 1)).map f = (l.take i).map f ++ [f (l.getD i x)] := by
  rw [List.take_add_one, List.map_append, List.getD, List.getElem?_eq_getElem h]; rfl
theorem names_ok (n : Nt) (hb : n.blocks.length ≤ 10000000) (hs : n.spurs.length ≤ 10000000) : ACalls Tryd.prog 73 [.agg n.cs] [] fun h r => h = [] ∧ r = .p (.bool (decide (namesP n))) := by
  generalize hL : namesN n = L
  have hLl : L.length = n.blocks.length + n.spurs.length := by rw [← hL]; simp [namesN]
  refine ACalls_X Tryd.func73 rfl enters73 (by simp [Tryd.f73]) ?_
  simp only [go_sem, ↓reduceIte, Nat.reduceLT, Nat.reduceLeDiff, Nat.reduceEqDiff, Nat.reduceAdd, Nat.reduceMul, Nat.reduceSub, reduceCtorEq, Int.reduceLT, Int.reduceLE, Int.reduceEq, Int.reduceToNat, decide_true, decide_false, Int.reduceNeg, Int.cast_ofNat_Int, sg, AO.sg, Option.isNone_none, Nt.cs]
  refine X_loop_inv (fun i : Nat => ⟨[(1, .ptr 1 0), (3, .ref 23 0 i i), (4, .p (.int .i64 (i : Nat)))], [(1, .box (Nt.cs n)), (23, .arr 9 1 (encS ((n.blocks.take i).map Blk.name)))], 66⟩) (fun i => i ≤ n.blocks.length) (fun i => n.blocks.length - i) 0 (Nat.zero_le _) ((Wk.nil (t := 3) (q := 23) (sz := 1) 9 rfl rfl (by decide)).trans (Wk.forget (by simp [Le, LeE, LeH, get, envIds, hpIds, KeepH, D.ids, idsL, AO.ids, setL, base, Nt.cs, encS]))) ?_
  rintro i m hi ih
  have hll : (encS ((n.blocks.take i).map Blk.name)).length = i := by rw [encS_len]; simp; omega
  simp only [go_sem, ↓reduceIte, Nat.reduceLT, Nat.reduceLeDiff, Nat.reduceEqDiff, Nat.reduceAdd, Nat.reduceMul, Nat.reduceSub, reduceCtorEq, Int.reduceLT, Int.reduceLE, Int.reduceEq, Int.reduceToNat, decide_true, decide_false, Int.reduceNeg, Int.cast_ofNat_Int, sg, AO.sg, Option.isNone_none, Nt.cs, encK_len]
  refine Cn_split (fun h2 => ?_) (fun h2 => ?_)
  · have hlt : i < n.blocks.length := by simp at h2; omega
    have hw := wrap_succ i (by omega)
    have hgb := encK_get n.blocks i hlt
    have hi0 : (0 : Int) ≤ (i : Int) ∧ (i : Int) < (n.blocks.length : Int) := by omega
    simp only [go_sem, ↓reduceIte, Nat.reduceLT, Nat.reduceLeDiff, Nat.reduceEqDiff, Nat.reduceAdd, Nat.reduceMul, Nat.reduceSub, reduceCtorEq, Int.reduceLT, Int.reduceLE, Int.reduceEq, Int.reduceToNat, decide_true, decide_false, Int.reduceNeg, Int.cast_ofNat_Int, sg, AO.sg, Option.isNone_none, encK_len, Nt.cs, Int.toNat_natCast, hgb, hi0, hll]
    refine ⟨⟨wid1 _ _ rfl, by omega⟩, ?_⟩
    simp only [go_sem, ↓reduceIte, Nat.reduceLT, Nat.reduceLeDiff, Nat.reduceEqDiff, Nat.reduceAdd, Nat.reduceMul, Nat.reduceSub, reduceCtorEq, Int.reduceLT, Int.reduceLE, Int.reduceEq, Int.reduceToNat, decide_true, decide_false, Int.reduceNeg, Int.cast_ofNat_Int, sg, AO.sg, Option.isNone_none, hw]
    refine ih (i + 1) _ hlt (by omega) ?_
    (refine Wk.forget ?_; simp [Le, LeE, LeH, get, envIds, hpIds, KeepH, D.ids, idsL, AO.ids, setL, base, Nt.cs, take_map_snoc Blk.name n.blocks i blk0 hlt, encS_snoc, hll, -List.map_take]; done)
  have : i = n.blocks.length := by simp at h2; omega
  subst this
  clear ih hll
  simp only [go_sem, ↓reduceIte, Nat.reduceLT, Nat.reduceLeDiff, Nat.reduceEqDiff, Nat.reduceAdd, Nat.reduceMul, Nat.reduceSub, reduceCtorEq, Int.reduceLT, Int.reduceLE, Int.reduceEq, Int.reduceToNat, decide_true, decide_false, Int.reduceNeg, Int.cast_ofNat_Int, sg, AO.sg, Option.isNone_none]
  refine X_loop_inv (fun i : Nat => ⟨[(1, .ptr 1 0), (3, .ref 23 0 (n.blocks.length + i) (n.blocks.length + i)), (5, .p (.int .i64 (i : Nat)))], [(1, .box (Nt.cs n)), (23, .arr 9 1 (encS (n.blocks.map Blk.name ++ (n.spurs.take i).map Spr.name)))], 66⟩) (fun i => i ≤ n.spurs.length) (fun i => n.spurs.length - i) 0 (Nat.zero_le _) (Wk.forget (by simp [Le, LeE, LeH, get, envIds, hpIds, KeepH, D.ids, idsL, AO.ids, setL, base, Nt.cs, encS])) ?_
  rintro i m2 hi2 ih
  have hll : (encS (n.blocks.map Blk.name ++ (n.spurs.take i).map Spr.name)).length = n.blocks.length + i := by rw [encS_len]; simp; omega
  simp only [go_sem, ↓reduceIte, Nat.reduceLT, Nat.reduceLeDiff, Nat.reduceEqDiff, Nat.reduceAdd, Nat.reduceMul, Nat.reduceSub, reduceCtorEq, Int.reduceLT, Int.reduceLE, Int.reduceEq, Int.reduceToNat, decide_true, decide_false, Int.reduceNeg, Int.cast_ofNat_Int, sg, AO.sg, Option.isNone_none, Nt.cs, encP_len]
  refine Cn_split (fun h2 => ?_) (fun h2 => ?_)
  · have hlt : i < n.spurs.length := by simp at h2; omega
    have hw := wrap_succ i (by omega)
    have hgb := encP_get n.spurs i hlt
    have hi0 : (0 : Int) ≤ (i : Int) ∧ (i : Int) < (n.spurs.length : Int) := by omega
    simp only [go_sem, ↓reduceIte, Nat.reduceLT, Nat.reduceLeDiff, Nat.reduceEqDiff, Nat.reduceAdd, Nat.reduceMul, Nat.reduceSub, reduceCtorEq, Int.reduceLT, Int.reduceLE, Int.reduceEq, Int.reduceToNat, decide_true, decide_false, Int.reduceNeg, Int.cast_ofNat_Int, sg, AO.sg, Option.isNone_none, encP_len, Nt.cs, Int.toNat_natCast, hgb, hi0, hll]
    refine ⟨⟨wid1 _ _ rfl, by omega⟩, ?_⟩
    simp only [go_sem, ↓reduceIte, Nat.reduceLT, Nat.reduceLeDiff, Nat.reduceEqDiff, Nat.reduceAdd, Nat.reduceMul, Nat.reduceSub, reduceCtorEq, Int.reduceLT, Int.reduceLE, Int.reduceEq, Int.reduceToNat, decide_true, decide_false, Int.reduceNeg, Int.cast_ofNat_Int, sg, AO.sg, Option.isNone_none, hw]
    refine ih (i + 1) _ hlt (by omega) ?_
    (refine Wk.forget ?_; simp [Le, LeE, LeH, get, envIds, hpIds, KeepH, D.ids, idsL, AO.ids, setL, base, Nt.cs, take_map_snoc Spr.name n.spurs i spr0 hlt, encS_snoc, ← List.append_assoc, Nat.add_assoc, hll, -List.map_take]; done)
  have : i = n.spurs.length := by simp at h2; omega
  subst this
  clear ih hll
  rw [List.take_length, show n.blocks.map Blk.name ++ n.spurs.map Spr.name = L from hL, ← hLl]
  simp only [go_sem, ↓reduceIte, Nat.reduceLT, Nat.reduceLeDiff, Nat.reduceEqDiff, Nat.reduceAdd, Nat.reduceMul, Nat.reduceSub, reduceCtorEq, Int.reduceLT, Int.reduceLE, Int.reduceEq, Int.reduceToNat, decide_true, decide_false, Int.reduceNeg, Int.cast_ofNat_Int, sg, AO.sg, Option.isNone_none]
  have hP : namesP n ↔ ∀ i, i < L.length → nameB (L.getD i []) = true ∧ ∀ k, k < i → L.getD i [] ≠ L.getD k [] := by unfold namesP; rw [hL]
  refine X_loop_inv (fun i : Nat => ⟨[(3, .ref 23 0 L.length L.length), (6, .p (.int .i64 (i : Nat)))], [(23, .arr 9 1 (encS L))], 66⟩) (fun i => i ≤ L.length ∧ ∀ j, j < i → nameB (L.getD j []) = true ∧ ∀ k, k < j → L.getD j [] ≠ L.getD k []) (fun i => L.length - i) 0 ⟨Nat.zero_le _, fun j hj => absurd hj (Nat.not_lt_zero _)⟩ (Wk.forget (by simp [Le, LeE, LeH, get, envIds, hpIds, KeepH, D.ids, idsL, AO.ids, setL, base, Nt.cs, encS])) ?_
  rintro i m3 ⟨hi3, hall⟩ ih
  simp only [go_sem, ↓reduceIte, Nat.reduceLT, Nat.reduceLeDiff, Nat.reduceEqDiff, Nat.reduceAdd, Nat.reduceMul, Nat.reduceSub, reduceCtorEq, Int.reduceLT, Int.reduceLE, Int.reduceEq, Int.reduceToNat, decide_true, decide_false, Int.reduceNeg, Int.cast_ofNat_Int, sg, AO.sg, Option.isNone_none, encS_len]
  refine Cn_split (fun h3 => ?_) (fun h3 => ?_)
  rotate_left
  · simp only [go_sem, ↓reduceIte, Nat.reduceLT, Nat.reduceLeDiff, Nat.reduceEqDiff, Nat.reduceAdd, Nat.reduceMul, Nat.reduceSub, reduceCtorEq, Int.reduceLT, Int.reduceLE, Int.reduceEq, Int.reduceToNat, decide_true, decide_false, Int.reduceNeg, Int.cast_ofNat_Int, sg, AO.sg, Option.isNone_none]
    have : i = L.length := by simp at h3; omega
    subst this
    rw [decide_eq_true (hP.2 hall)]
    try simp
  have hlt : i < L.length := by simp at h3; omega
  have hw := wrap_succ i (by omega)
  have hgi := encS_get L i hlt
  have hi0 : (0 : Int) ≤ (i : Int) ∧ (i : Int) < (L.length : Int) := by omega
  simp only [go_sem, ↓reduceIte, Nat.reduceLT, Nat.reduceLeDiff, Nat.reduceEqDiff, Nat.reduceAdd, Nat.reduceMul, Nat.reduceSub, reduceCtorEq, Int.reduceLT, Int.reduceLE, Int.reduceEq, Int.reduceToNat, decide_true, decide_false, Int.reduceNeg, Int.cast_ofNat_Int, sg, AO.sg, Option.isNone_none, encS_len, Int.toNat_natCast, hgi, hi0]
  refine Cc_of ((name2_ok _)) ?_
  rintro h' r ⟨rfl, rfl⟩
  cases hn : nameB (L.getD i [])
  · simp only [go_sem, ↓reduceIte, Nat.reduceLT, Nat.reduceLeDiff, Nat.reduceEqDiff, Nat.reduceAdd, Nat.reduceMul, Nat.reduceSub, reduceCtorEq, Int.reduceLT, Int.reduceLE, Int.reduceEq, Int.reduceToNat, decide_true, decide_false, Int.reduceNeg, Int.cast_ofNat_Int, sg, AO.sg, Option.isNone_none, hn]
    rw [decide_eq_false (fun hp => by have := (hP.1 hp i hlt).1; rw [hn] at this; cases this)]
    try simp
  simp only [go_sem, ↓reduceIte, Nat.reduceLT, Nat.reduceLeDiff, Nat.reduceEqDiff, Nat.reduceAdd, Nat.reduceMul, Nat.reduceSub, reduceCtorEq, Int.reduceLT, Int.reduceLE, Int.reduceEq, Int.reduceToNat, decide_true, decide_false, Int.reduceNeg, Int.cast_ofNat_Int, sg, AO.sg, Option.isNone_none, hn]
  refine X_loop_inv (fun k : Nat => ⟨[(3, .ref 23 0 L.length L.length), (6, .p (.int .i64 (i : Nat))), (7, .p (.int .i64 (k : Nat)))], [(23, .arr 9 1 (encS L))], 66⟩) (fun k => k ≤ i ∧ ∀ j, j < k → L.getD i [] ≠ L.getD j []) (fun k => i - k) 0 ⟨Nat.zero_le _, fun j hj => absurd hj (Nat.not_lt_zero _)⟩ (Wk.forget (by simp [Le, LeE, LeH, get, envIds, hpIds, KeepH, D.ids, idsL, AO.ids, setL, base, encS])) ?_
  rintro k m4 ⟨hk, hne⟩ ih2
  simp only [go_sem, ↓reduceIte, Nat.reduceLT, Nat.reduceLeDiff, Nat.reduceEqDiff, Nat.reduceAdd, Nat.reduceMul, Nat.reduceSub, reduceCtorEq, Int.reduceLT, Int.reduceLE, Int.reduceEq, Int.reduceToNat, decide_true, decide_false, Int.reduceNeg, Int.cast_ofNat_Int, sg, AO.sg, Option.isNone_none]
  refine Cn_split (fun h4 => ?_) (fun h4 => ?_)
  · have hkt : k < i := by simp at h4; omega
    have hwk := wrap_succ k (by omega)
    have hgk := encS_get L k (by omega)
    have hk0 : (0 : Int) ≤ (k : Int) ∧ (k : Int) < (L.length : Int) := by omega
    simp only [go_sem, ↓reduceIte, Nat.reduceLT, Nat.reduceLeDiff, Nat.reduceEqDiff, Nat.reduceAdd, Nat.reduceMul, Nat.reduceSub, reduceCtorEq, Int.reduceLT, Int.reduceLE, Int.reduceEq, Int.reduceToNat, decide_true, decide_false, Int.reduceNeg, Int.cast_ofNat_Int, sg, AO.sg, Option.isNone_none]
    refine X_any [(23, .arr 9 1 (encS L))] mixed (p := [(0, 0), (1, 0), (2, 0), (3, 0), (4, 0), (5, 0), (6, 0), (7, 0), (8, 0)]) (by kernel_rfl) (by simp [LeH, get]) ?_
    simp only [go_sem, ↓reduceIte, Nat.reduceLT, Nat.reduceLeDiff, Nat.reduceEqDiff, Nat.reduceAdd, Nat.reduceMul, Nat.reduceSub, reduceCtorEq, Int.reduceLT, Int.reduceLE, Int.reduceEq, Int.reduceToNat, decide_true, decide_false, Int.reduceNeg, Int.cast_ofNat_Int, sg, AO.sg, Option.isNone_none, encS_len, Int.toNat_natCast, hgi, hi0, hgk, hk0]
    cases he : decide (L.getD i [] = L.getD k [])
    · simp only [go_sem, ↓reduceIte, Nat.reduceLT, Nat.reduceLeDiff, Nat.reduceEqDiff, Nat.reduceAdd, Nat.reduceMul, Nat.reduceSub, reduceCtorEq, Int.reduceLT, Int.reduceLE, Int.reduceEq, Int.reduceToNat, decide_true, decide_false, Int.reduceNeg, Int.cast_ofNat_Int, sg, AO.sg, Option.isNone_none, he, hwk]
      refine ih2 (k + 1) _ ⟨hkt, fun j hj => ?_⟩ (by omega) ?_
      · rcases Nat.lt_succ_iff_lt_or_eq.1 hj with h5 | rfl
        · exact hne j h5
        · exact of_decide_eq_false he
      · (refine Wk.forget ?_; simp [Le, LeE, LeH, get, envIds, hpIds, KeepH, D.ids, idsL, AO.ids, setL, base]; done)
    · simp only [go_sem, ↓reduceIte, Nat.reduceLT, Nat.reduceLeDiff, Nat.reduceEqDiff, Nat.reduceAdd, Nat.reduceMul, Nat.reduceSub, reduceCtorEq, Int.reduceLT, Int.reduceLE, Int.reduceEq, Int.reduceToNat, decide_true, decide_false, Int.reduceNeg, Int.cast_ofNat_Int, sg, AO.sg, Option.isNone_none, he]
      rw [decide_eq_false (fun hp => (hP.1 hp i hlt).2 k hkt (of_decide_eq_true he))]
      try simp
  · have : k = i := by simp at h4; omega
    subst this
    simp only [go_sem, ↓reduceIte, Nat.reduceLT, Nat.reduceLeDiff, Nat.reduceEqDiff, Nat.reduceAdd, Nat.reduceMul, Nat.reduceSub, reduceCtorEq, Int.reduceLT, Int.reduceLE, Int.reduceEq, Int.reduceToNat, decide_true, decide_false, Int.reduceNeg, Int.cast_ofNat_Int, sg, AO.sg, Option.isNone_none, hw]
    refine ih (k + 1) _ ⟨hlt, fun j hj => ?_⟩ (by omega) ?_
    · rcases Nat.lt_succ_iff_lt_or_eq.1 hj with h5 | rfl
      · exact hall j h5
      · exact ⟨hn, hne⟩
    · (refine Wk.forget ?_; simp [Le, LeE, LeH, get, envIds, hpIds, KeepH, D.ids, idsL, AO.ids, setL, base]; done)
def cfgP (cq ca cd cp : Int) : Prop := 1 ≤ cq ∧ cq ≤ 8 ∧ 0 ≤ ca ∧ ca ≤ 4 ∧ 0 ≤ cd ∧ cd ≤ 3 ∧ 1 ≤ cp ∧ cp ≤ 16
instance (cq ca cd cp : Int) : Decidable (cfgP cq ca cd cp) := by unfold cfgP; exact inferInstance
theorem configured_ok (cq ca cd cp : Int) : ACalls Tryd.prog 74 [.agg [.p (.int .i64 cq), .p (.int .i64 ca), .p (.int .i64 cd), .p (.int .i64 cp)]] [] fun h r => h = [] ∧ r = .p (.bool (decide (cfgP cq ca cd cp))) := by
  refine ACalls_X Tryd.func74 rfl enters74 (by simp [Tryd.f74]) ?_
  by_cases h1 : 1 ≤ cq
  rotate_left
  · simp only [go_sem, ↓reduceIte, Nat.reduceLT, Nat.reduceLeDiff, Nat.reduceEqDiff, Nat.reduceAdd, Nat.reduceMul, Nat.reduceSub, reduceCtorEq, Int.reduceLT, Int.reduceLE, Int.reduceEq, Int.reduceToNat, decide_true, decide_false, Int.reduceNeg, Int.cast_ofNat_Int, sg, AO.sg, Option.isNone_none, h1]; simp [cfgP, h1]
  by_cases h2 : cq ≤ 8
  rotate_left
  · simp only [go_sem, ↓reduceIte, Nat.reduceLT, Nat.reduceLeDiff, Nat.reduceEqDiff, Nat.reduceAdd, Nat.reduceMul, Nat.reduceSub, reduceCtorEq, Int.reduceLT, Int.reduceLE, Int.reduceEq, Int.reduceToNat, decide_true, decide_false, Int.reduceNeg, Int.cast_ofNat_Int, sg, AO.sg, Option.isNone_none, h1, h2]; simp [cfgP, h2]
  by_cases h3 : 0 ≤ ca
  rotate_left
  · simp only [go_sem, ↓reduceIte, Nat.reduceLT, Nat.reduceLeDiff, Nat.reduceEqDiff, Nat.reduceAdd, Nat.reduceMul, Nat.reduceSub, reduceCtorEq, Int.reduceLT, Int.reduceLE, Int.reduceEq, Int.reduceToNat, decide_true, decide_false, Int.reduceNeg, Int.cast_ofNat_Int, sg, AO.sg, Option.isNone_none, h1, h2, h3]; simp [cfgP, h3]
  by_cases h4 : ca ≤ 4
  rotate_left
  · simp only [go_sem, ↓reduceIte, Nat.reduceLT, Nat.reduceLeDiff, Nat.reduceEqDiff, Nat.reduceAdd, Nat.reduceMul, Nat.reduceSub, reduceCtorEq, Int.reduceLT, Int.reduceLE, Int.reduceEq, Int.reduceToNat, decide_true, decide_false, Int.reduceNeg, Int.cast_ofNat_Int, sg, AO.sg, Option.isNone_none, h1, h2, h3, h4]; simp [cfgP, h4]
  by_cases h5 : 0 ≤ cd
  rotate_left
  · simp only [go_sem, ↓reduceIte, Nat.reduceLT, Nat.reduceLeDiff, Nat.reduceEqDiff, Nat.reduceAdd, Nat.reduceMul, Nat.reduceSub, reduceCtorEq, Int.reduceLT, Int.reduceLE, Int.reduceEq, Int.reduceToNat, decide_true, decide_false, Int.reduceNeg, Int.cast_ofNat_Int, sg, AO.sg, Option.isNone_none, h1, h2, h3, h4, h5]; simp [cfgP, h5]
  by_cases h6 : cd ≤ 3
  rotate_left
  · simp only [go_sem, ↓reduceIte, Nat.reduceLT, Nat.reduceLeDiff, Nat.reduceEqDiff, Nat.reduceAdd, Nat.reduceMul, Nat.reduceSub, reduceCtorEq, Int.reduceLT, Int.reduceLE, Int.reduceEq, Int.reduceToNat, decide_true, decide_false, Int.reduceNeg, Int.cast_ofNat_Int, sg, AO.sg, Option.isNone_none, h1, h2, h3, h4, h5, h6]; simp [cfgP, h6]
  by_cases h7 : 1 ≤ cp
  rotate_left
  · simp only [go_sem, ↓reduceIte, Nat.reduceLT, Nat.reduceLeDiff, Nat.reduceEqDiff, Nat.reduceAdd, Nat.reduceMul, Nat.reduceSub, reduceCtorEq, Int.reduceLT, Int.reduceLE, Int.reduceEq, Int.reduceToNat, decide_true, decide_false, Int.reduceNeg, Int.cast_ofNat_Int, sg, AO.sg, Option.isNone_none, h1, h2, h3, h4, h5, h6, h7]; simp [cfgP, h7]
  by_cases h8 : cp ≤ 16
  · simp only [go_sem, ↓reduceIte, Nat.reduceLT, Nat.reduceLeDiff, Nat.reduceEqDiff, Nat.reduceAdd, Nat.reduceMul, Nat.reduceSub, reduceCtorEq, Int.reduceLT, Int.reduceLE, Int.reduceEq, Int.reduceToNat, decide_true, decide_false, Int.reduceNeg, Int.cast_ofNat_Int, sg, AO.sg, Option.isNone_none, h1, h2, h3, h4, h5, h6, h7, h8]; simp [cfgP, h1, h2, h3, h4, h5, h6, h7, h8]
  · simp only [go_sem, ↓reduceIte, Nat.reduceLT, Nat.reduceLeDiff, Nat.reduceEqDiff, Nat.reduceAdd, Nat.reduceMul, Nat.reduceSub, reduceCtorEq, Int.reduceLT, Int.reduceLE, Int.reduceEq, Int.reduceToNat, decide_true, decide_false, Int.reduceNeg, Int.cast_ofNat_Int, sg, AO.sg, Option.isNone_none, h1, h2, h3, h4, h5, h6, h7, h8]; simp [cfgP, h8]
end Go.Am
