/- Texts of this proof, merged: Netq, Ring, Netp, Netw. -/
import Derived.Test.YtfpgmanaikgemaaGreatDoorMe
section
/- The slots of the depots: as many as counted, and one of them is free: plain Lean. -/
namespace Go.Am
open Go Go.Proofs
set_option maxRecDepth 100000
set_option linter.unusedVariables false
set_option linter.unusedSimpArgs false
theorem ph_le : ∀ (a b : List Int), a.Nodup → (∀ x ∈ a, x ∈ b) → a.length ≤ b.length
  | [], _, _, _ => by simp
  | x :: a, b, hn, hs => by
    rw [List.nodup_cons] at hn
    have hx := hs x (by simp)
    have h1 := ph_le a (b.erase x) hn.2 (fun y hy => (List.mem_erase_of_ne (fun e => hn.1 (by rw [← e]; exact hy))).2 (hs y (by simp [hy])))
    rw [List.length_erase_of_mem hx] at h1
    have := List.length_pos_of_mem hx
    simp only [List.length_cons]; omega
def slotL (s : Spr) : List Int := if s.depot = true then (List.range s.slots.toNat).map (fun j => s.base + ((j : Nat) : Int)) else []
def slotList (l : List Spr) : List Int := l.flatMap slotL
theorem slotList_snoc (l : List Spr) (s : Spr) : slotList (l ++ [s]) = slotList l ++ slotL s := by simp [slotList]
theorem slotL_mem {s : Spr} {x : Int} : x ∈ slotL s ↔ inD x s = true := by
  unfold slotL inD
  by_cases h : s.depot = true
  · rw [if_pos h, h]
    simp only [List.mem_map, List.mem_range, Bool.true_and, Bool.and_eq_true, decide_eq_true_eq]
    constructor
    · rintro ⟨j, hj, rfl⟩; omega
    · rintro ⟨h1, h2⟩; exact ⟨(x - s.base).toNat, by omega, by omega⟩
  · have h2 : s.depot = false := by simpa using h
    rw [if_neg h, h2]; simp
theorem slotL_nodup (s : Spr) : (slotL s).Nodup := by
  unfold slotL
  split
  · rw [List.nodup_iff_pairwise_ne, List.pairwise_map]
    exact (List.pairwise_lt_range).imp fun h => by omega
  · exact List.nodup_nil
theorem slotList_ok {nb : Nat} {l : List Spr} (h : spursP nb l) : ∀ k, k ≤ l.length → (slotList (l.take k)).Nodup ∧ ∀ x ∈ slotList (l.take k), x < (nb : Int) + sumS (l.take k)
  | 0, _ => by simp [slotList]
  | k + 1, hk => by
    obtain ⟨h1, h2⟩ := slotList_ok h k (by omega)
    have hs := h k (by omega)
    rw [take_snoc l k spr0 (by omega), slotList_snoc, sumS_snoc]
    generalize l.getD k spr0 = s at *
    obtain ⟨_, _, _, _, h5, h6, h7⟩ := hs
    have hm : ∀ x ∈ slotL s, s.base ≤ x ∧ x < s.base + s.slots := fun x hx => by
      have := slotL_mem.1 hx
      unfold inD at this
      simp at this
      exact ⟨this.2.1, this.2.2⟩
    refine ⟨?_, fun x hx => ?_⟩
    · rw [List.nodup_append]
      refine ⟨h1, slotL_nodup s, fun x hx y hy e => ?_⟩
      have h8 := h2 x hx
      have h9 := hm y hy
      omega
    · rcases List.mem_append.1 hx with hx | hx
      · have := h2 x hx; omega
      · have := hm x hx; omega
theorem getD_rep (c k : Nat) : (List.replicate c false).getD k false = false := by
  simp only [List.getD, List.getElem?_replicate]; split <;> rfl
theorem openB_rep (c : Nat) (s : Spr) : openB (List.replicate c false) s = true := by
  unfold openB
  simp only [getD_rep]
  simp
theorem slotsV_list {nb : Nat} {l : List Spr} (h : spursP nb l) (c : Nat) : ∀ k, k ≤ l.length → slotsV (List.replicate c false) (l.take k) = ((slotList (l.take k)).length : Int)
  | 0, _ => by simp [slotsV, slotList]
  | k + 1, hk => by
    have h1 := slotsV_list h c k (by omega)
    have hs := h k (by omega)
    rw [take_snoc l k spr0 (by omega), slotsV_snoc, slotList_snoc, List.length_append, h1, openB_rep]
    obtain ⟨_, _, _, _, h5, h6, h7⟩ := hs
    generalize l.getD k spr0 = s at *
    unfold slotL
    cases hd : s.depot
    · simp
    · simp; omega
/-- One slot is free. -/
theorem free_slot {nb : Nat} {l : List Spr} (h : spursP nb l) (c : Nat) {rb : List Int} (hr : (rb.length : Int) < slotsV (List.replicate c false) l) : ∃ s ∈ l, ∃ j : Nat, s.depot = true ∧ (j : Int) < s.slots ∧ s.base + (j : Int) ∉ rb := by
  have h1 := slotsV_list h c l.length (Nat.le_refl _)
  have h2 := (slotList_ok h l.length (Nat.le_refl _)).1
  rw [List.take_length] at h1 h2
  have hne : ¬ ∀ x ∈ slotList l, x ∈ rb := fun hh => by have := ph_le _ rb h2 hh; omega
  have : ∃ x, x ∈ slotList l ∧ x ∉ rb := Classical.byContradiction fun hc => hne fun x hx => Classical.byContradiction fun hx2 => hc ⟨x, hx, hx2⟩
  obtain ⟨x, hx, hx2⟩ := this
  obtain ⟨s, hs, hxs⟩ := List.mem_flatMap.1 hx
  have h3 := slotL_mem.1 hxs
  unfold inD at h3
  simp at h3
  exact ⟨s, hs, (x - s.base).toNat, h3.1, by omega, by rw [show s.base + (((x - s.base).toNat : Nat) : Int) = x by omega]; exact hx2⟩
end Go.Am
end

section
/- The generator's lanes. -/
namespace Go.Am
open Go Go.Proofs
set_option maxRecDepth 100000
set_option linter.unusedVariables false
set_option linter.unusedSimpArgs false
def RP (b i : Nat) (r : List Int) : Prop := r.Pairwise (· < ·) ∧ (∀ x ∈ r, 0 ≤ x ∧ x < (b : Int) ∧ x ≠ (i : Int)) ∧ r.length ≤ 4 ∧ (1 < b → (((i + 1) % b : Nat) : Int) ∈ r)
theorem RP.row {b i : Nat} {r : List Int} (h : RP b i r) : rowP b i r := by
  intro k hk
  obtain ⟨h1, h2, _, _⟩ := h
  have h3 := h2 _ (getD_mem r k 0 hk)
  refine ⟨h3.1, h3.2.1, h3.2.2, fun hk0 => ?_⟩
  rw [getD_eq hk, getD_eq (show k - 1 < r.length by omega)]
  exact List.pairwise_iff_getElem.1 h1 (k - 1) k (by omega) hk (by omega)
theorem RP.ins {b i : Nat} {r : List Int} {x : Int} (h : RP b i r) (h0 : 0 ≤ x) (hb : x < (b : Int)) (hi : x ≠ (i : Int)) (hn : x ∉ r) (hl : r.length < 4) : RP b i (insV r x) := by
  obtain ⟨h1, h2, h3, h4⟩ := h
  refine ⟨insV_asc r x h1 hn, fun y hy => ?_, by rw [insV_len]; omega, fun hb1 => (insV_mem r x _).2 (.inr (h4 hb1))⟩
  rcases (insV_mem r x y).1 hy with rfl | hy
  · exact ⟨h0, hb, hi⟩
  · exact h2 y hy
theorem encG_tail (l : List (List Int)) (i : Nat) : ((encG l)[i]?.getD []).tail = [] := by
  unfold encG
  rw [List.getElem?_map]
  cases l[i]? <;> rfl
def netC (b : Nat) (rest : List D) : List D := [.ref 1000002 0 b b, .ref 1000003 0 b b] ++ rest
set_option maxHeartbeats 800000 in
theorem ring_ok (l : List Int) (at_ b : Nat) (bl : List Blk) (nx : List (List Int)) (hat : at_ < 1000000) (hb1 : 1 ≤ b) (hb : b ≤ 10) (hbl : bl.length = b) (hnx : nx.length = b) (hemp : ∀ i, i < b → nx.getD i [] = []) :
    ACalls Tryz.prog 30 [.ptr 1000000 0, .ptr 1000001 0]
      [(1000000, .box (tapeC l at_)), (1000001, .box [.ref 1000002 0 b b, .ref 1000003 0 b b, .cl [], .cl [], .p (.int .i64 0), .p (.int .i64 0), .p (.int .i64 0), .p (.int .i64 0)]), (1000002, .arr 75 3 (encK bl)), (1000003, .arr 22 1 (encG nx))]
      fun h r => ∃ at2 nx2, at2 ≤ at_ + 20 ∧ nx2.length = b ∧ (∀ i, i < b → RP b i (nx2.getD i [])) ∧ r = .tup [] ∧
        h = [(1000000, .box (tapeC l at2)), (1000001, .box [.ref 1000002 0 b b, .ref 1000003 0 b b, .cl [], .cl [], .p (.int .i64 0), .p (.int .i64 0), .p (.int .i64 0), .p (.int .i64 0)]), (1000002, .arr 75 3 (encK bl)), (1000003, .arr 22 1 (encG nx2))] := by
  refine ACalls_X Tryz.func30 rfl enters30 (by simp [Tryz.f30]) ?_
  simp only [go_sem, ↓reduceIte, Nat.reduceLT, Nat.reduceLeDiff, Nat.reduceEqDiff, Nat.reduceAdd, Nat.reduceMul, Nat.reduceSub, reduceCtorEq, Int.reduceLT, Int.reduceLE, Int.reduceEq, Int.reduceToNat, decide_true, decide_false, Int.reduceNeg, Int.cast_ofNat_Int, sg, AO.sg, Option.isNone_none, tapeC]
  refine ⟨by rw [encK_len]; exact hbl.symm, ?_⟩
  refine X_loop_inv (fun q : Nat × List (List Int) => ⟨[(0, .ptr 1000000 0), (1, .ptr 1000001 0), (4, .p (.int .i64 (b : Nat))), (5, .p (.int .i64 (q.1 : Nat)))],
      [(1000000, .box [.p (.sl (encI l)), .p (.int .i64 (at_ : Nat))]), (1000001, .box [.ref 1000002 0 b b, .ref 1000003 0 b b, .cl [], .cl [], .p (.int .i64 0), .p (.int .i64 0), .p (.int .i64 0), .p (.int .i64 0)]), (1000002, .arr 75 3 (encK bl)), (1000003, .arr 22 1 (encG q.2))], 98⟩)
    (fun q => q.1 ≤ b ∧ q.2.length = b ∧ (∀ j, j < q.1 → RP b j (q.2.getD j [])) ∧ (∀ j, q.1 ≤ j → j < b → q.2.getD j [] = [])) (fun q => b - q.1) (0, nx) ⟨Nat.zero_le _, hnx, fun j hj => absurd hj (Nat.not_lt_zero _), fun j _ hj => hemp j hj⟩ (Wk.forget (by simp [Le, LeE, LeH, get, envIds, hpIds, KeepH, D.ids, idsL, AO.ids, setL, base, encG])) ?_
  rintro ⟨i, g⟩ m ⟨hi, hgl, hdone, hrest⟩ ih
  simp only at hi hgl hdone hrest
  cases c1 : decide ((i : Int) < (b : Int))
  rotate_left
  · cases c2 : decide (1 < (b : Int))
    rotate_left
    · have hib : i < b := by have := of_decide_eq_true c1; omega
      have hb2 : 1 < b := by have := of_decide_eq_true c2; omega
      have hw := wrap_succ i (by omega)
      have hmod : ((i + 1 : Nat) : Int).tmod (b : Int) = (((i + 1) % b : Nat) : Int) := by rw [Int.tmod_eq_emod_of_nonneg (by omega)]; omega
      have hne : ¬ (b : Int) = 0 := by omega
      have hi0 : (0 : Int) ≤ (i : Int) ∧ (i : Int) < (b : Int) := by omega
      simp only [go_sem, ↓reduceIte, Nat.reduceLT, Nat.reduceLeDiff, Nat.reduceEqDiff, Nat.reduceAdd, Nat.reduceMul, Nat.reduceSub, reduceCtorEq, Int.reduceLT, Int.reduceLE, Int.reduceEq, Int.reduceToNat, decide_true, decide_false, Int.reduceNeg, Int.cast_ofNat_Int, sg, AO.sg, Option.isNone_none, c1, c2]
      refine X_any0 mixed (p := [(0, 0), (1, 0), (2, 0), (3, 0), (4, 0), (5, 0), (6, 0), (7, 0), (8, 0), (9, 1), (10, 0), (11, 3)]) (by kernel_rfl) (by simp [LeH, get]) ?_
      simp only [go_sem, ↓reduceIte, Nat.reduceLT, Nat.reduceLeDiff, Nat.reduceEqDiff, Nat.reduceAdd, Nat.reduceMul, Nat.reduceSub, reduceCtorEq, Int.reduceLT, Int.reduceLE, Int.reduceEq, Int.reduceToNat, decide_true, decide_false, Int.reduceNeg, Int.cast_ofNat_Int, sg, AO.sg, Option.isNone_none, hw, hmod, hne, encG_len, hgl, Int.toNat_natCast, hi0]
      refine ih (i + 1, g.set i [(((i + 1) % b : Nat) : Int)]) _ ⟨hib, by simpa using hgl, fun j hj => ?_, fun j hj hjb => ?_⟩ (by simp only; omega) ?_
      · rw [getD_set]
        by_cases e : i = j
        · subst e
          rw [if_pos ⟨rfl, by omega⟩]
          have hm : (i + 1) % b < b := Nat.mod_lt _ (by omega)
          have hm2 : (i + 1) % b ≠ i := by
            intro h
            rcases Nat.lt_or_ge (i + 1) b with h5 | h5
            · rw [Nat.mod_eq_of_lt h5] at h; omega
            · have : i + 1 = b := by omega
              rw [this, Nat.mod_self] at h; omega
          refine ⟨List.pairwise_singleton _ _, fun x hx => ?_, by simp, fun _ => by simp⟩
          rw [List.mem_singleton] at hx
          subst hx
          omega
        · rw [if_neg (fun h => e h.1)]; exact hdone j (by omega)
      · rw [getD_set, if_neg (by omega)]; exact hrest j (by omega) hjb
      · (refine Wk.forget ?_; simp [Le, LeE, LeH, get, envIds, hpIds, KeepH, D.ids, idsL, AO.ids, setL, base, encG_set, encG_tail, encI]; done)
    · have hb0 : b = 1 := by have := of_decide_eq_false c2; omega
      have hi1 : i = 0 := by have := of_decide_eq_true c1; omega
      have hRP : ∀ u, u < b → RP b u (g.getD u []) := fun u hu => by
        rw [hrest u (by omega) hu]
        exact ⟨List.Pairwise.nil, fun x hx => absurd hx (by simp), by simp, fun h => absurd h (by omega)⟩
      simp only [go_sem, ↓reduceIte, Nat.reduceLT, Nat.reduceLeDiff, Nat.reduceEqDiff, Nat.reduceAdd, Nat.reduceMul, Nat.reduceSub, reduceCtorEq, Int.reduceLT, Int.reduceLE, Int.reduceEq, Int.reduceToNat, decide_true, decide_false, Int.reduceNeg, Int.cast_ofNat_Int, sg, AO.sg, Option.isNone_none, c1, c2]
      refine Cc_of ((next_ok l at_ 4 (by omega) (in64_small _ (by omega) (by omega)))) ?_
      rintro h' r ⟨rfl, rfl⟩
      obtain ⟨k0, hk0, hk4⟩ := nextV_rng l at_ 4 (by omega)
      simp only [go_sem, ↓reduceIte, Nat.reduceLT, Nat.reduceLeDiff, Nat.reduceEqDiff, Nat.reduceAdd, Nat.reduceMul, Nat.reduceSub, reduceCtorEq, Int.reduceLT, Int.reduceLE, Int.reduceEq, Int.reduceToNat, decide_true, decide_false, Int.reduceNeg, Int.cast_ofNat_Int, sg, AO.sg, Option.isNone_none, tapeC, hk0]
      refine X_loop_inv (fun q : Nat × Nat × List (List Int) => ⟨[(0, .ptr 1000000 0), (1, .ptr 1000001 0), (4, .p (.int .i64 (b : Nat))), (6, .p (.int .i64 (q.1 : Nat)))],
          [(1000000, .box [.p (.sl (encI l)), .p (.int .i64 (q.2.1 : Nat))]), (1000001, .box [.ref 1000002 0 b b, .ref 1000003 0 b b, .cl [], .cl [], .p (.int .i64 0), .p (.int .i64 0), .p (.int .i64 0), .p (.int .i64 0)]), (1000002, .arr 75 3 (encK bl)), (1000003, .arr 22 1 (encG q.2.2))], 98⟩)
        (fun q => q.1 ≤ 3 ∧ q.2.1 ≤ at_ + 1 + 3 * (3 - q.1) ∧ q.2.2.length = b ∧ ∀ i, i < b → RP b i (q.2.2.getD i [])) (fun q => q.1) (k0, at_ + 1, g) ⟨by simp only; omega, by simp only; omega, hgl, hRP⟩ (Wk.forget (by simp [Le, LeE, LeH, get, envIds, hpIds, KeepH, D.ids, idsL, AO.ids, setL, base, encG])) ?_
      rintro ⟨k, a, g2⟩ m2 ⟨hk3, hal, hg2l, hRP2⟩ ih2
      simp only at hk3 hal hg2l hRP2
      cases d1 : decide (0 < (k : Int))
      · simp only [go_sem, ↓reduceIte, Nat.reduceLT, Nat.reduceLeDiff, Nat.reduceEqDiff, Nat.reduceAdd, Nat.reduceMul, Nat.reduceSub, reduceCtorEq, Int.reduceLT, Int.reduceLE, Int.reduceEq, Int.reduceToNat, decide_true, decide_false, Int.reduceNeg, Int.cast_ofNat_Int, sg, AO.sg, Option.isNone_none, d1]
        refine end_own ?_
        simp only [go_sem, ↓reduceIte, Nat.reduceLT, Nat.reduceLeDiff, Nat.reduceEqDiff, Nat.reduceAdd, Nat.reduceMul, Nat.reduceSub, reduceCtorEq, Int.reduceLT, Int.reduceLE, Int.reduceEq, Int.reduceToNat, decide_true, decide_false, Int.reduceNeg, Int.cast_ofNat_Int, sg, AO.sg, Option.isNone_none]
        refine ⟨a, g2, by omega, hg2l, hRP2, ?_⟩
        first | exact ⟨rfl, rfl⟩ | rfl | simp
      cases d2 : decide (2 < (b : Int))
      · simp only [go_sem, ↓reduceIte, Nat.reduceLT, Nat.reduceLeDiff, Nat.reduceEqDiff, Nat.reduceAdd, Nat.reduceMul, Nat.reduceSub, reduceCtorEq, Int.reduceLT, Int.reduceLE, Int.reduceEq, Int.reduceToNat, decide_true, decide_false, Int.reduceNeg, Int.cast_ofNat_Int, sg, AO.sg, Option.isNone_none, d1, d2]
        refine end_own ?_
        simp only [go_sem, ↓reduceIte, Nat.reduceLT, Nat.reduceLeDiff, Nat.reduceEqDiff, Nat.reduceAdd, Nat.reduceMul, Nat.reduceSub, reduceCtorEq, Int.reduceLT, Int.reduceLE, Int.reduceEq, Int.reduceToNat, decide_true, decide_false, Int.reduceNeg, Int.cast_ofNat_Int, sg, AO.sg, Option.isNone_none]
        refine ⟨a, g2, by omega, hg2l, hRP2, ?_⟩
        first | exact ⟨rfl, rfl⟩ | rfl | simp
      have hkp : 1 ≤ k := by have := of_decide_eq_true d1; omega
      obtain ⟨k, rfl⟩ : ∃ j, k = j + 1 := ⟨k - 1, by omega⟩
      have hwk := wrap_pred k (by omega)
      have hb3 : 2 < b := by have := of_decide_eq_true d2; omega
      have hbz : (0 : Int) < (b : Int) := by omega
      obtain ⟨ii, hii, hiib⟩ := nextV_rng l a b hbz
      obtain ⟨jj, hjj, hjjb⟩ := nextV_rng l (a + 1) b hbz
      have hii0 : (0 : Int) ≤ (ii : Int) ∧ (ii : Int) < (b : Int) := by omega
      have hgi := encG_get g2 ii (by omega)
      have hRl := (hRP2 ii (by omega)).2.2.1
      simp only [go_sem, ↓reduceIte, Nat.reduceLT, Nat.reduceLeDiff, Nat.reduceEqDiff, Nat.reduceAdd, Nat.reduceMul, Nat.reduceSub, reduceCtorEq, Int.reduceLT, Int.reduceLE, Int.reduceEq, Int.reduceToNat, decide_true, decide_false, Int.reduceNeg, Int.cast_ofNat_Int, sg, AO.sg, Option.isNone_none, d1, d2]
      refine Cc_of ((next_ok l a b (by omega) (in64_small _ (by omega) (by omega)))) ?_
      rintro h' r ⟨rfl, rfl⟩
      simp only [go_sem, ↓reduceIte, Nat.reduceLT, Nat.reduceLeDiff, Nat.reduceEqDiff, Nat.reduceAdd, Nat.reduceMul, Nat.reduceSub, reduceCtorEq, Int.reduceLT, Int.reduceLE, Int.reduceEq, Int.reduceToNat, decide_true, decide_false, Int.reduceNeg, Int.cast_ofNat_Int, sg, AO.sg, Option.isNone_none, tapeC, hii]
      refine Cc_of ((next_ok l (a + 1) b (by omega) (in64_small _ (by omega) (by omega)))) ?_
      rintro h' r ⟨rfl, rfl⟩
      simp only [go_sem, ↓reduceIte, Nat.reduceLT, Nat.reduceLeDiff, Nat.reduceEqDiff, Nat.reduceAdd, Nat.reduceMul, Nat.reduceSub, reduceCtorEq, Int.reduceLT, Int.reduceLE, Int.reduceEq, Int.reduceToNat, decide_true, decide_false, Int.reduceNeg, Int.cast_ofNat_Int, sg, AO.sg, Option.isNone_none, tapeC, hjj]
      refine Cc_of ((next_ok l (a + 1 + 1) 3 (by omega) (in64_small _ (by omega) (by omega)))) ?_
      rintro h' r ⟨rfl, rfl⟩
      simp only [go_sem, ↓reduceIte, Nat.reduceLT, Nat.reduceLeDiff, Nat.reduceEqDiff, Nat.reduceAdd, Nat.reduceMul, Nat.reduceSub, reduceCtorEq, Int.reduceLT, Int.reduceLE, Int.reduceEq, Int.reduceToNat, decide_true, decide_false, Int.reduceNeg, Int.cast_ofNat_Int, sg, AO.sg, Option.isNone_none, tapeC]
      have hmod2 : (((ii : Int) + 2)).tmod (b : Int) = (((ii + 2) % b : Nat) : Int) := by
        rw [show (ii : Int) + 2 = ((ii + 2 : Nat) : Int) by omega, Int.tmod_eq_emod_of_nonneg (by omega)]
        exact (Int.natCast_emod _ _).symm
      have hwi : IntKind.i64.wrap ((ii : Int) + 2) = (ii : Int) + 2 := by rw [wrap_i64_id] <;> omega
      have hbne : ¬ (b : Int) = 0 := by omega
      have hm2 : (ii + 2) % b < b := Nat.mod_lt _ (by omega)
      cases d3 : decide (0 < nextV l (a + 1 + 1) 3)
      · skip
        have hJ0 : (0 : Int) ≤ ((jj : Nat) : Int) ∧ ((jj : Nat) : Int) < (b : Int) := by omega
        cases d4 : decide ((ii : Int) = ((jj : Nat) : Int))
        rotate_left
        · simp only [go_sem, ↓reduceIte, Nat.reduceLT, Nat.reduceLeDiff, Nat.reduceEqDiff, Nat.reduceAdd, Nat.reduceMul, Nat.reduceSub, reduceCtorEq, Int.reduceLT, Int.reduceLE, Int.reduceEq, Int.reduceToNat, decide_true, decide_false, Int.reduceNeg, Int.cast_ofNat_Int, sg, AO.sg, Option.isNone_none, d3, hwk, d4, hwk]
          refine ih2 (k, a + 1 + 1 + 1, g2) _ ⟨by simp only; omega, by simp only; omega, hg2l, hRP2⟩ (by simp only; omega) ?_
          (refine Wk.forget ?_; simp [Le, LeE, LeH, get, envIds, hpIds, KeepH, D.ids, idsL, AO.ids, setL, base]; done)
        simp only [go_sem, ↓reduceIte, Nat.reduceLT, Nat.reduceLeDiff, Nat.reduceEqDiff, Nat.reduceAdd, Nat.reduceMul, Nat.reduceSub, reduceCtorEq, Int.reduceLT, Int.reduceLE, Int.reduceEq, Int.reduceToNat, decide_true, decide_false, Int.reduceNeg, Int.cast_ofNat_Int, sg, AO.sg, Option.isNone_none, d3, hwk, d4, encG_len, hg2l, Int.toNat_natCast, hgi, hii0]
        refine Cc_of ((has_ok (g2.getD ii []) ((jj : Nat) : Int) (by omega))) ?_
        rintro h' r ⟨rfl, rfl⟩
        cases d5 : decide (((jj : Nat) : Int) ∈ g2.getD ii [])
        rotate_left
        · simp only [go_sem, ↓reduceIte, Nat.reduceLT, Nat.reduceLeDiff, Nat.reduceEqDiff, Nat.reduceAdd, Nat.reduceMul, Nat.reduceSub, reduceCtorEq, Int.reduceLT, Int.reduceLE, Int.reduceEq, Int.reduceToNat, decide_true, decide_false, Int.reduceNeg, Int.cast_ofNat_Int, sg, AO.sg, Option.isNone_none, d5, hwk]
          refine ih2 (k, a + 1 + 1 + 1, g2) _ ⟨by simp only; omega, by simp only; omega, hg2l, hRP2⟩ (by simp only; omega) ?_
          (refine Wk.forget ?_; simp [Le, LeE, LeH, get, envIds, hpIds, KeepH, D.ids, idsL, AO.ids, setL, base]; done)
        cases d6 : decide (((g2.getD ii []).length : Int) < 4)
        · simp only [go_sem, ↓reduceIte, Nat.reduceLT, Nat.reduceLeDiff, Nat.reduceEqDiff, Nat.reduceAdd, Nat.reduceMul, Nat.reduceSub, reduceCtorEq, Int.reduceLT, Int.reduceLE, Int.reduceEq, Int.reduceToNat, decide_true, decide_false, Int.reduceNeg, Int.cast_ofNat_Int, sg, AO.sg, Option.isNone_none, d5, encG_len, encI_len, hg2l, Int.toNat_natCast, hgi, hii0, d6, hwk]
          refine ih2 (k, a + 1 + 1 + 1, g2) _ ⟨by simp only; omega, by simp only; omega, hg2l, hRP2⟩ (by simp only; omega) ?_
          (refine Wk.forget ?_; simp [Le, LeE, LeH, get, envIds, hpIds, KeepH, D.ids, idsL, AO.ids, setL, base]; done)
        simp only [go_sem, ↓reduceIte, Nat.reduceLT, Nat.reduceLeDiff, Nat.reduceEqDiff, Nat.reduceAdd, Nat.reduceMul, Nat.reduceSub, reduceCtorEq, Int.reduceLT, Int.reduceLE, Int.reduceEq, Int.reduceToNat, decide_true, decide_false, Int.reduceNeg, Int.cast_ofNat_Int, sg, AO.sg, Option.isNone_none, d5, encG_len, encI_len, hg2l, Int.toNat_natCast, hgi, hii0, d6]
        refine X_any0 mixed (p := [(0, 0), (1, 0), (2, 0), (3, 0), (4, 0), (5, 0), (6, 0), (7, 0), (8, 0), (9, 0), (10, 0), (11, 0), (12, 0), (13, 2), (14, 0), (15, 3)]) (by kernel_rfl) (by simp [LeH, get]) ?_
        simp only [go_sem, ↓reduceIte, Nat.reduceLT, Nat.reduceLeDiff, Nat.reduceEqDiff, Nat.reduceAdd, Nat.reduceMul, Nat.reduceSub, reduceCtorEq, Int.reduceLT, Int.reduceLE, Int.reduceEq, Int.reduceToNat, decide_true, decide_false, Int.reduceNeg, Int.cast_ofNat_Int, sg, AO.sg, Option.isNone_none, encG_len, encI_len, hg2l, Int.toNat_natCast, hgi, hii0]
        refine Gh_of ((insert_ok (g2.getD ii []) ((jj : Nat) : Int) (by omega))) ?_
        rintro h' r ⟨rfl, rfl⟩
        simp only [go_sem, ↓reduceIte, Nat.reduceLT, Nat.reduceLeDiff, Nat.reduceEqDiff, Nat.reduceAdd, Nat.reduceMul, Nat.reduceSub, reduceCtorEq, Int.reduceLT, Int.reduceLE, Int.reduceEq, Int.reduceToNat, decide_true, decide_false, Int.reduceNeg, Int.cast_ofNat_Int, sg, AO.sg, Option.isNone_none, encG_len, hg2l, Int.toNat_natCast, hii0, hwk]
        refine ih2 (k, a + 1 + 1 + 1, g2.set ii (insV (g2.getD ii []) ((jj : Nat) : Int))) _ ⟨by simp only; omega, by simp only; omega, by simpa using hg2l, fun u hu => ?_⟩ (by simp only; omega) ?_
        · rw [getD_set]
          by_cases e : ii = u
          · subst e
            rw [if_pos ⟨rfl, by omega⟩]
            exact (hRP2 ii hu).ins hJ0.1 hJ0.2 (fun h => of_decide_eq_false d4 h.symm) (of_decide_eq_false d5) (by have := of_decide_eq_true d6; omega)
          · rw [if_neg (fun h => e h.1)]; exact hRP2 u hu
        · (refine Wk.forget ?_; simp [Le, LeE, LeH, get, envIds, hpIds, KeepH, D.ids, idsL, AO.ids, setL, base, encG_set, encG_tail]; done)
      · generalize (ii + 2) % b = J at hmod2 hm2
        have hJ0 : (0 : Int) ≤ ((J : Nat) : Int) ∧ ((J : Nat) : Int) < (b : Int) := by omega
        cases d4 : decide ((ii : Int) = ((J : Nat) : Int))
        rotate_left
        · simp only [go_sem, ↓reduceIte, Nat.reduceLT, Nat.reduceLeDiff, Nat.reduceEqDiff, Nat.reduceAdd, Nat.reduceMul, Nat.reduceSub, reduceCtorEq, Int.reduceLT, Int.reduceLE, Int.reduceEq, Int.reduceToNat, decide_true, decide_false, Int.reduceNeg, Int.cast_ofNat_Int, sg, AO.sg, Option.isNone_none, d3, hwi, hmod2, hbne, d4, hwk]
          refine ih2 (k, a + 1 + 1 + 1, g2) _ ⟨by simp only; omega, by simp only; omega, hg2l, hRP2⟩ (by simp only; omega) ?_
          (refine Wk.forget ?_; simp [Le, LeE, LeH, get, envIds, hpIds, KeepH, D.ids, idsL, AO.ids, setL, base]; done)
        simp only [go_sem, ↓reduceIte, Nat.reduceLT, Nat.reduceLeDiff, Nat.reduceEqDiff, Nat.reduceAdd, Nat.reduceMul, Nat.reduceSub, reduceCtorEq, Int.reduceLT, Int.reduceLE, Int.reduceEq, Int.reduceToNat, decide_true, decide_false, Int.reduceNeg, Int.cast_ofNat_Int, sg, AO.sg, Option.isNone_none, d3, hwi, hmod2, hbne, d4, encG_len, hg2l, Int.toNat_natCast, hgi, hii0]
        refine Cc_of ((has_ok (g2.getD ii []) ((J : Nat) : Int) (by omega))) ?_
        rintro h' r ⟨rfl, rfl⟩
        cases d5 : decide (((J : Nat) : Int) ∈ g2.getD ii [])
        rotate_left
        · simp only [go_sem, ↓reduceIte, Nat.reduceLT, Nat.reduceLeDiff, Nat.reduceEqDiff, Nat.reduceAdd, Nat.reduceMul, Nat.reduceSub, reduceCtorEq, Int.reduceLT, Int.reduceLE, Int.reduceEq, Int.reduceToNat, decide_true, decide_false, Int.reduceNeg, Int.cast_ofNat_Int, sg, AO.sg, Option.isNone_none, d5, hwk]
          refine ih2 (k, a + 1 + 1 + 1, g2) _ ⟨by simp only; omega, by simp only; omega, hg2l, hRP2⟩ (by simp only; omega) ?_
          (refine Wk.forget ?_; simp [Le, LeE, LeH, get, envIds, hpIds, KeepH, D.ids, idsL, AO.ids, setL, base]; done)
        cases d6 : decide (((g2.getD ii []).length : Int) < 4)
        · simp only [go_sem, ↓reduceIte, Nat.reduceLT, Nat.reduceLeDiff, Nat.reduceEqDiff, Nat.reduceAdd, Nat.reduceMul, Nat.reduceSub, reduceCtorEq, Int.reduceLT, Int.reduceLE, Int.reduceEq, Int.reduceToNat, decide_true, decide_false, Int.reduceNeg, Int.cast_ofNat_Int, sg, AO.sg, Option.isNone_none, d5, encG_len, encI_len, hg2l, Int.toNat_natCast, hgi, hii0, d6, hwk]
          refine ih2 (k, a + 1 + 1 + 1, g2) _ ⟨by simp only; omega, by simp only; omega, hg2l, hRP2⟩ (by simp only; omega) ?_
          (refine Wk.forget ?_; simp [Le, LeE, LeH, get, envIds, hpIds, KeepH, D.ids, idsL, AO.ids, setL, base]; done)
        simp only [go_sem, ↓reduceIte, Nat.reduceLT, Nat.reduceLeDiff, Nat.reduceEqDiff, Nat.reduceAdd, Nat.reduceMul, Nat.reduceSub, reduceCtorEq, Int.reduceLT, Int.reduceLE, Int.reduceEq, Int.reduceToNat, decide_true, decide_false, Int.reduceNeg, Int.cast_ofNat_Int, sg, AO.sg, Option.isNone_none, d5, encG_len, encI_len, hg2l, Int.toNat_natCast, hgi, hii0, d6]
        refine X_any0 mixed (p := [(0, 0), (1, 0), (2, 0), (3, 0), (4, 0), (5, 0), (6, 0), (7, 0), (8, 0), (9, 0), (10, 0), (11, 0), (12, 0), (13, 2), (14, 0), (15, 3)]) (by kernel_rfl) (by simp [LeH, get]) ?_
        simp only [go_sem, ↓reduceIte, Nat.reduceLT, Nat.reduceLeDiff, Nat.reduceEqDiff, Nat.reduceAdd, Nat.reduceMul, Nat.reduceSub, reduceCtorEq, Int.reduceLT, Int.reduceLE, Int.reduceEq, Int.reduceToNat, decide_true, decide_false, Int.reduceNeg, Int.cast_ofNat_Int, sg, AO.sg, Option.isNone_none, encG_len, encI_len, hg2l, Int.toNat_natCast, hgi, hii0]
        refine Gh_of ((insert_ok (g2.getD ii []) ((J : Nat) : Int) (by omega))) ?_
        rintro h' r ⟨rfl, rfl⟩
        simp only [go_sem, ↓reduceIte, Nat.reduceLT, Nat.reduceLeDiff, Nat.reduceEqDiff, Nat.reduceAdd, Nat.reduceMul, Nat.reduceSub, reduceCtorEq, Int.reduceLT, Int.reduceLE, Int.reduceEq, Int.reduceToNat, decide_true, decide_false, Int.reduceNeg, Int.cast_ofNat_Int, sg, AO.sg, Option.isNone_none, encG_len, hg2l, Int.toNat_natCast, hii0, hwk]
        refine ih2 (k, a + 1 + 1 + 1, g2.set ii (insV (g2.getD ii []) ((J : Nat) : Int))) _ ⟨by simp only; omega, by simp only; omega, by simpa using hg2l, fun u hu => ?_⟩ (by simp only; omega) ?_
        · rw [getD_set]
          by_cases e : ii = u
          · subst e
            rw [if_pos ⟨rfl, by omega⟩]
            exact (hRP2 ii hu).ins hJ0.1 hJ0.2 (fun h => of_decide_eq_false d4 h.symm) (of_decide_eq_false d5) (by have := of_decide_eq_true d6; omega)
          · rw [if_neg (fun h => e h.1)]; exact hRP2 u hu
        · (refine Wk.forget ?_; simp [Le, LeE, LeH, get, envIds, hpIds, KeepH, D.ids, idsL, AO.ids, setL, base, encG_set, encG_tail]; done)
  · have hie : i = b := by have := of_decide_eq_false c1; omega
    have hRP : ∀ u, u < b → RP b u (g.getD u []) := fun u hu => hdone u (by omega)
    simp only [go_sem, ↓reduceIte, Nat.reduceLT, Nat.reduceLeDiff, Nat.reduceEqDiff, Nat.reduceAdd, Nat.reduceMul, Nat.reduceSub, reduceCtorEq, Int.reduceLT, Int.reduceLE, Int.reduceEq, Int.reduceToNat, decide_true, decide_false, Int.reduceNeg, Int.cast_ofNat_Int, sg, AO.sg, Option.isNone_none, c1, c1]
    refine Cc_of ((next_ok l at_ 4 (by omega) (in64_small _ (by omega) (by omega)))) ?_
    rintro h' r ⟨rfl, rfl⟩
    obtain ⟨k0, hk0, hk4⟩ := nextV_rng l at_ 4 (by omega)
    simp only [go_sem, ↓reduceIte, Nat.reduceLT, Nat.reduceLeDiff, Nat.reduceEqDiff, Nat.reduceAdd, Nat.reduceMul, Nat.reduceSub, reduceCtorEq, Int.reduceLT, Int.reduceLE, Int.reduceEq, Int.reduceToNat, decide_true, decide_false, Int.reduceNeg, Int.cast_ofNat_Int, sg, AO.sg, Option.isNone_none, tapeC, hk0]
    refine X_loop_inv (fun q : Nat × Nat × List (List Int) => ⟨[(0, .ptr 1000000 0), (1, .ptr 1000001 0), (4, .p (.int .i64 (b : Nat))), (6, .p (.int .i64 (q.1 : Nat)))],
        [(1000000, .box [.p (.sl (encI l)), .p (.int .i64 (q.2.1 : Nat))]), (1000001, .box [.ref 1000002 0 b b, .ref 1000003 0 b b, .cl [], .cl [], .p (.int .i64 0), .p (.int .i64 0), .p (.int .i64 0), .p (.int .i64 0)]), (1000002, .arr 75 3 (encK bl)), (1000003, .arr 22 1 (encG q.2.2))], 98⟩)
      (fun q => q.1 ≤ 3 ∧ q.2.1 ≤ at_ + 1 + 3 * (3 - q.1) ∧ q.2.2.length = b ∧ ∀ i, i < b → RP b i (q.2.2.getD i [])) (fun q => q.1) (k0, at_ + 1, g) ⟨by simp only; omega, by simp only; omega, hgl, hRP⟩ (Wk.forget (by simp [Le, LeE, LeH, get, envIds, hpIds, KeepH, D.ids, idsL, AO.ids, setL, base, encG])) ?_
    rintro ⟨k, a, g2⟩ m2 ⟨hk3, hal, hg2l, hRP2⟩ ih2
    simp only at hk3 hal hg2l hRP2
    cases d1 : decide (0 < (k : Int))
    · simp only [go_sem, ↓reduceIte, Nat.reduceLT, Nat.reduceLeDiff, Nat.reduceEqDiff, Nat.reduceAdd, Nat.reduceMul, Nat.reduceSub, reduceCtorEq, Int.reduceLT, Int.reduceLE, Int.reduceEq, Int.reduceToNat, decide_true, decide_false, Int.reduceNeg, Int.cast_ofNat_Int, sg, AO.sg, Option.isNone_none, d1]
      refine end_own ?_
      simp only [go_sem, ↓reduceIte, Nat.reduceLT, Nat.reduceLeDiff, Nat.reduceEqDiff, Nat.reduceAdd, Nat.reduceMul, Nat.reduceSub, reduceCtorEq, Int.reduceLT, Int.reduceLE, Int.reduceEq, Int.reduceToNat, decide_true, decide_false, Int.reduceNeg, Int.cast_ofNat_Int, sg, AO.sg, Option.isNone_none]
      refine ⟨a, g2, by omega, hg2l, hRP2, ?_⟩
      first | exact ⟨rfl, rfl⟩ | rfl | simp
    cases d2 : decide (2 < (b : Int))
    · simp only [go_sem, ↓reduceIte, Nat.reduceLT, Nat.reduceLeDiff, Nat.reduceEqDiff, Nat.reduceAdd, Nat.reduceMul, Nat.reduceSub, reduceCtorEq, Int.reduceLT, Int.reduceLE, Int.reduceEq, Int.reduceToNat, decide_true, decide_false, Int.reduceNeg, Int.cast_ofNat_Int, sg, AO.sg, Option.isNone_none, d1, d2]
      refine end_own ?_
      simp only [go_sem, ↓reduceIte, Nat.reduceLT, Nat.reduceLeDiff, Nat.reduceEqDiff, Nat.reduceAdd, Nat.reduceMul, Nat.reduceSub, reduceCtorEq, Int.reduceLT, Int.reduceLE, Int.reduceEq, Int.reduceToNat, decide_true, decide_false, Int.reduceNeg, Int.cast_ofNat_Int, sg, AO.sg, Option.isNone_none]
      refine ⟨a, g2, by omega, hg2l, hRP2, ?_⟩
      first | exact ⟨rfl, rfl⟩ | rfl | simp
    have hkp : 1 ≤ k := by have := of_decide_eq_true d1; omega
    obtain ⟨k, rfl⟩ : ∃ j, k = j + 1 := ⟨k - 1, by omega⟩
    have hwk := wrap_pred k (by omega)
    have hb3 : 2 < b := by have := of_decide_eq_true d2; omega
    have hbz : (0 : Int) < (b : Int) := by omega
    obtain ⟨ii, hii, hiib⟩ := nextV_rng l a b hbz
    obtain ⟨jj, hjj, hjjb⟩ := nextV_rng l (a + 1) b hbz
    have hii0 : (0 : Int) ≤ (ii : Int) ∧ (ii : Int) < (b : Int) := by omega
    have hgi := encG_get g2 ii (by omega)
    have hRl := (hRP2 ii (by omega)).2.2.1
    simp only [go_sem, ↓reduceIte, Nat.reduceLT, Nat.reduceLeDiff, Nat.reduceEqDiff, Nat.reduceAdd, Nat.reduceMul, Nat.reduceSub, reduceCtorEq, Int.reduceLT, Int.reduceLE, Int.reduceEq, Int.reduceToNat, decide_true, decide_false, Int.reduceNeg, Int.cast_ofNat_Int, sg, AO.sg, Option.isNone_none, d1, d2]
    refine Cc_of ((next_ok l a b (by omega) (in64_small _ (by omega) (by omega)))) ?_
    rintro h' r ⟨rfl, rfl⟩
    simp only [go_sem, ↓reduceIte, Nat.reduceLT, Nat.reduceLeDiff, Nat.reduceEqDiff, Nat.reduceAdd, Nat.reduceMul, Nat.reduceSub, reduceCtorEq, Int.reduceLT, Int.reduceLE, Int.reduceEq, Int.reduceToNat, decide_true, decide_false, Int.reduceNeg, Int.cast_ofNat_Int, sg, AO.sg, Option.isNone_none, tapeC, hii]
    refine Cc_of ((next_ok l (a + 1) b (by omega) (in64_small _ (by omega) (by omega)))) ?_
    rintro h' r ⟨rfl, rfl⟩
    simp only [go_sem, ↓reduceIte, Nat.reduceLT, Nat.reduceLeDiff, Nat.reduceEqDiff, Nat.reduceAdd, Nat.reduceMul, Nat.reduceSub, reduceCtorEq, Int.reduceLT, Int.reduceLE, Int.reduceEq, Int.reduceToNat, decide_true, decide_false, Int.reduceNeg, Int.cast_ofNat_Int, sg, AO.sg, Option.isNone_none, tapeC, hjj]
    refine Cc_of ((next_ok l (a + 1 + 1) 3 (by omega) (in64_small _ (by omega) (by omega)))) ?_
    rintro h' r ⟨rfl, rfl⟩
    simp only [go_sem, ↓reduceIte, Nat.reduceLT, Nat.reduceLeDiff, Nat.reduceEqDiff, Nat.reduceAdd, Nat.reduceMul, Nat.reduceSub, reduceCtorEq, Int.reduceLT, Int.reduceLE, Int.reduceEq, Int.reduceToNat, decide_true, decide_false, Int.reduceNeg, Int.cast_ofNat_Int, sg, AO.sg, Option.isNone_none, tapeC]
    have hmod2 : (((ii : Int) + 2)).tmod (b : Int) = (((ii + 2) % b : Nat) : Int) := by
      rw [show (ii : Int) + 2 = ((ii + 2 : Nat) : Int) by omega, Int.tmod_eq_emod_of_nonneg (by omega)]
      exact (Int.natCast_emod _ _).symm
    have hwi : IntKind.i64.wrap ((ii : Int) + 2) = (ii : Int) + 2 := by rw [wrap_i64_id] <;> omega
    have hbne : ¬ (b : Int) = 0 := by omega
    have hm2 : (ii + 2) % b < b := Nat.mod_lt _ (by omega)
    cases d3 : decide (0 < nextV l (a + 1 + 1) 3)
    · skip
      have hJ0 : (0 : Int) ≤ ((jj : Nat) : Int) ∧ ((jj : Nat) : Int) < (b : Int) := by omega
      cases d4 : decide ((ii : Int) = ((jj : Nat) : Int))
      rotate_left
      · simp only [go_sem, ↓reduceIte, Nat.reduceLT, Nat.reduceLeDiff, Nat.reduceEqDiff, Nat.reduceAdd, Nat.reduceMul, Nat.reduceSub, reduceCtorEq, Int.reduceLT, Int.reduceLE, Int.reduceEq, Int.reduceToNat, decide_true, decide_false, Int.reduceNeg, Int.cast_ofNat_Int, sg, AO.sg, Option.isNone_none, d3, hwk, d4, hwk]
        refine ih2 (k, a + 1 + 1 + 1, g2) _ ⟨by simp only; omega, by simp only; omega, hg2l, hRP2⟩ (by simp only; omega) ?_
        (refine Wk.forget ?_; simp [Le, LeE, LeH, get, envIds, hpIds, KeepH, D.ids, idsL, AO.ids, setL, base]; done)
      simp only [go_sem, ↓reduceIte, Nat.reduceLT, Nat.reduceLeDiff, Nat.reduceEqDiff, Nat.reduceAdd, Nat.reduceMul, Nat.reduceSub, reduceCtorEq, Int.reduceLT, Int.reduceLE, Int.reduceEq, Int.reduceToNat, decide_true, decide_false, Int.reduceNeg, Int.cast_ofNat_Int, sg, AO.sg, Option.isNone_none, d3, hwk, d4, encG_len, hg2l, Int.toNat_natCast, hgi, hii0]
      refine Cc_of ((has_ok (g2.getD ii []) ((jj : Nat) : Int) (by omega))) ?_
      rintro h' r ⟨rfl, rfl⟩
      cases d5 : decide (((jj : Nat) : Int) ∈ g2.getD ii [])
      rotate_left
      · simp only [go_sem, ↓reduceIte, Nat.reduceLT, Nat.reduceLeDiff, Nat.reduceEqDiff, Nat.reduceAdd, Nat.reduceMul, Nat.reduceSub, reduceCtorEq, Int.reduceLT, Int.reduceLE, Int.reduceEq, Int.reduceToNat, decide_true, decide_false, Int.reduceNeg, Int.cast_ofNat_Int, sg, AO.sg, Option.isNone_none, d5, hwk]
        refine ih2 (k, a + 1 + 1 + 1, g2) _ ⟨by simp only; omega, by simp only; omega, hg2l, hRP2⟩ (by simp only; omega) ?_
        (refine Wk.forget ?_; simp [Le, LeE, LeH, get, envIds, hpIds, KeepH, D.ids, idsL, AO.ids, setL, base]; done)
      cases d6 : decide (((g2.getD ii []).length : Int) < 4)
      · simp only [go_sem, ↓reduceIte, Nat.reduceLT, Nat.reduceLeDiff, Nat.reduceEqDiff, Nat.reduceAdd, Nat.reduceMul, Nat.reduceSub, reduceCtorEq, Int.reduceLT, Int.reduceLE, Int.reduceEq, Int.reduceToNat, decide_true, decide_false, Int.reduceNeg, Int.cast_ofNat_Int, sg, AO.sg, Option.isNone_none, d5, encG_len, encI_len, hg2l, Int.toNat_natCast, hgi, hii0, d6, hwk]
        refine ih2 (k, a + 1 + 1 + 1, g2) _ ⟨by simp only; omega, by simp only; omega, hg2l, hRP2⟩ (by simp only; omega) ?_
        (refine Wk.forget ?_; simp [Le, LeE, LeH, get, envIds, hpIds, KeepH, D.ids, idsL, AO.ids, setL, base]; done)
      simp only [go_sem, ↓reduceIte, Nat.reduceLT, Nat.reduceLeDiff, Nat.reduceEqDiff, Nat.reduceAdd, Nat.reduceMul, Nat.reduceSub, reduceCtorEq, Int.reduceLT, Int.reduceLE, Int.reduceEq, Int.reduceToNat, decide_true, decide_false, Int.reduceNeg, Int.cast_ofNat_Int, sg, AO.sg, Option.isNone_none, d5, encG_len, encI_len, hg2l, Int.toNat_natCast, hgi, hii0, d6]
      refine X_any0 mixed (p := [(0, 0), (1, 0), (2, 0), (3, 0), (4, 0), (5, 0), (6, 0), (7, 0), (8, 0), (9, 0), (10, 0), (11, 0), (12, 0), (13, 2), (14, 0), (15, 3)]) (by kernel_rfl) (by simp [LeH, get]) ?_
      simp only [go_sem, ↓reduceIte, Nat.reduceLT, Nat.reduceLeDiff, Nat.reduceEqDiff, Nat.reduceAdd, Nat.reduceMul, Nat.reduceSub, reduceCtorEq, Int.reduceLT, Int.reduceLE, Int.reduceEq, Int.reduceToNat, decide_true, decide_false, Int.reduceNeg, Int.cast_ofNat_Int, sg, AO.sg, Option.isNone_none, encG_len, encI_len, hg2l, Int.toNat_natCast, hgi, hii0]
      refine Gh_of ((insert_ok (g2.getD ii []) ((jj : Nat) : Int) (by omega))) ?_
      rintro h' r ⟨rfl, rfl⟩
      simp only [go_sem, ↓reduceIte, Nat.reduceLT, Nat.reduceLeDiff, Nat.reduceEqDiff, Nat.reduceAdd, Nat.reduceMul, Nat.reduceSub, reduceCtorEq, Int.reduceLT, Int.reduceLE, Int.reduceEq, Int.reduceToNat, decide_true, decide_false, Int.reduceNeg, Int.cast_ofNat_Int, sg, AO.sg, Option.isNone_none, encG_len, hg2l, Int.toNat_natCast, hii0, hwk]
      refine ih2 (k, a + 1 + 1 + 1, g2.set ii (insV (g2.getD ii []) ((jj : Nat) : Int))) _ ⟨by simp only; omega, by simp only; omega, by simpa using hg2l, fun u hu => ?_⟩ (by simp only; omega) ?_
      · rw [getD_set]
        by_cases e : ii = u
        · subst e
          rw [if_pos ⟨rfl, by omega⟩]
          exact (hRP2 ii hu).ins hJ0.1 hJ0.2 (fun h => of_decide_eq_false d4 h.symm) (of_decide_eq_false d5) (by have := of_decide_eq_true d6; omega)
        · rw [if_neg (fun h => e h.1)]; exact hRP2 u hu
      · (refine Wk.forget ?_; simp [Le, LeE, LeH, get, envIds, hpIds, KeepH, D.ids, idsL, AO.ids, setL, base, encG_set, encG_tail]; done)
    · generalize (ii + 2) % b = J at hmod2 hm2
      have hJ0 : (0 : Int) ≤ ((J : Nat) : Int) ∧ ((J : Nat) : Int) < (b : Int) := by omega
      cases d4 : decide ((ii : Int) = ((J : Nat) : Int))
      rotate_left
      · simp only [go_sem, ↓reduceIte, Nat.reduceLT, Nat.reduceLeDiff, Nat.reduceEqDiff, Nat.reduceAdd, Nat.reduceMul, Nat.reduceSub, reduceCtorEq, Int.reduceLT, Int.reduceLE, Int.reduceEq, Int.reduceToNat, decide_true, decide_false, Int.reduceNeg, Int.cast_ofNat_Int, sg, AO.sg, Option.isNone_none, d3, hwi, hmod2, hbne, d4, hwk]
        refine ih2 (k, a + 1 + 1 + 1, g2) _ ⟨by simp only; omega, by simp only; omega, hg2l, hRP2⟩ (by simp only; omega) ?_
        (refine Wk.forget ?_; simp [Le, LeE, LeH, get, envIds, hpIds, KeepH, D.ids, idsL, AO.ids, setL, base]; done)
      simp only [go_sem, ↓reduceIte, Nat.reduceLT, Nat.reduceLeDiff, Nat.reduceEqDiff, Nat.reduceAdd, Nat.reduceMul, Nat.reduceSub, reduceCtorEq, Int.reduceLT, Int.reduceLE, Int.reduceEq, Int.reduceToNat, decide_true, decide_false, Int.reduceNeg, Int.cast_ofNat_Int, sg, AO.sg, Option.isNone_none, d3, hwi, hmod2, hbne, d4, encG_len, hg2l, Int.toNat_natCast, hgi, hii0]
      refine Cc_of ((has_ok (g2.getD ii []) ((J : Nat) : Int) (by omega))) ?_
      rintro h' r ⟨rfl, rfl⟩
      cases d5 : decide (((J : Nat) : Int) ∈ g2.getD ii [])
      rotate_left
      · simp only [go_sem, ↓reduceIte, Nat.reduceLT, Nat.reduceLeDiff, Nat.reduceEqDiff, Nat.reduceAdd, Nat.reduceMul, Nat.reduceSub, reduceCtorEq, Int.reduceLT, Int.reduceLE, Int.reduceEq, Int.reduceToNat, decide_true, decide_false, Int.reduceNeg, Int.cast_ofNat_Int, sg, AO.sg, Option.isNone_none, d5, hwk]
        refine ih2 (k, a + 1 + 1 + 1, g2) _ ⟨by simp only; omega, by simp only; omega, hg2l, hRP2⟩ (by simp only; omega) ?_
        (refine Wk.forget ?_; simp [Le, LeE, LeH, get, envIds, hpIds, KeepH, D.ids, idsL, AO.ids, setL, base]; done)
      cases d6 : decide (((g2.getD ii []).length : Int) < 4)
      · simp only [go_sem, ↓reduceIte, Nat.reduceLT, Nat.reduceLeDiff, Nat.reduceEqDiff, Nat.reduceAdd, Nat.reduceMul, Nat.reduceSub, reduceCtorEq, Int.reduceLT, Int.reduceLE, Int.reduceEq, Int.reduceToNat, decide_true, decide_false, Int.reduceNeg, Int.cast_ofNat_Int, sg, AO.sg, Option.isNone_none, d5, encG_len, encI_len, hg2l, Int.toNat_natCast, hgi, hii0, d6, hwk]
        refine ih2 (k, a + 1 + 1 + 1, g2) _ ⟨by simp only; omega, by simp only; omega, hg2l, hRP2⟩ (by simp only; omega) ?_
        (refine Wk.forget ?_; simp [Le, LeE, LeH, get, envIds, hpIds, KeepH, D.ids, idsL, AO.ids, setL, base]; done)
      simp only [go_sem, ↓reduceIte, Nat.reduceLT, Nat.reduceLeDiff, Nat.reduceEqDiff, Nat.reduceAdd, Nat.reduceMul, Nat.reduceSub, reduceCtorEq, Int.reduceLT, Int.reduceLE, Int.reduceEq, Int.reduceToNat, decide_true, decide_false, Int.reduceNeg, Int.cast_ofNat_Int, sg, AO.sg, Option.isNone_none, d5, encG_len, encI_len, hg2l, Int.toNat_natCast, hgi, hii0, d6]
      refine X_any0 mixed (p := [(0, 0), (1, 0), (2, 0), (3, 0), (4, 0), (5, 0), (6, 0), (7, 0), (8, 0), (9, 0), (10, 0), (11, 0), (12, 0), (13, 2), (14, 0), (15, 3)]) (by kernel_rfl) (by simp [LeH, get]) ?_
      simp only [go_sem, ↓reduceIte, Nat.reduceLT, Nat.reduceLeDiff, Nat.reduceEqDiff, Nat.reduceAdd, Nat.reduceMul, Nat.reduceSub, reduceCtorEq, Int.reduceLT, Int.reduceLE, Int.reduceEq, Int.reduceToNat, decide_true, decide_false, Int.reduceNeg, Int.cast_ofNat_Int, sg, AO.sg, Option.isNone_none, encG_len, encI_len, hg2l, Int.toNat_natCast, hgi, hii0]
      refine Gh_of ((insert_ok (g2.getD ii []) ((J : Nat) : Int) (by omega))) ?_
      rintro h' r ⟨rfl, rfl⟩
      simp only [go_sem, ↓reduceIte, Nat.reduceLT, Nat.reduceLeDiff, Nat.reduceEqDiff, Nat.reduceAdd, Nat.reduceMul, Nat.reduceSub, reduceCtorEq, Int.reduceLT, Int.reduceLE, Int.reduceEq, Int.reduceToNat, decide_true, decide_false, Int.reduceNeg, Int.cast_ofNat_Int, sg, AO.sg, Option.isNone_none, encG_len, hg2l, Int.toNat_natCast, hii0, hwk]
      refine ih2 (k, a + 1 + 1 + 1, g2.set ii (insV (g2.getD ii []) ((J : Nat) : Int))) _ ⟨by simp only; omega, by simp only; omega, by simpa using hg2l, fun u hu => ?_⟩ (by simp only; omega) ?_
      · rw [getD_set]
        by_cases e : ii = u
        · subst e
          rw [if_pos ⟨rfl, by omega⟩]
          exact (hRP2 ii hu).ins hJ0.1 hJ0.2 (fun h => of_decide_eq_false d4 h.symm) (of_decide_eq_false d5) (by have := of_decide_eq_true d6; omega)
        · rw [if_neg (fun h => e h.1)]; exact hRP2 u hu
      · (refine Wk.forget ?_; simp [Le, LeE, LeH, get, envIds, hpIds, KeepH, D.ids, idsL, AO.ids, setL, base, encG_set, encG_tail]; done)
end Go.Am
end

section
/- What the generator makes, and that it is valid: plain Lean. -/
namespace Go.Am
open Go Go.Proofs
set_option maxRecDepth 100000
set_option linter.unusedVariables false
set_option linter.unusedSimpArgs false
def digT (i : Nat) : List UInt8 := if i < 10 then [UInt8.ofNat (48 + i)] else [UInt8.ofNat (48 + i / 10), UInt8.ofNat (48 + i % 10)]
theorem digN_T (i : Nat) (h : i < 100) : digN i = digT i := by
  unfold digT
  by_cases h1 : i < 10
  · rw [if_pos h1, digN_small i h1]
  · rw [if_neg h1, digN_big i h1, digN_small (i / 10) (by omega)]; rfl
theorem digT_inj : ∀ i, i < 24 → ∀ j, j < 24 → digT i = digT j → i = j := by decide
theorem nameB_b : ∀ i, i < 24 → nameB (98 :: digT i) = true := by decide
theorem nameB_s : ∀ i, i < 24 → nameB (115 :: digT i) = true := by decide
/-- What the generator makes. -/
structure NetP (n : Nt) : Prop where
  nb : 1 ≤ n.blocks.length ∧ n.blocks.length ≤ 10
  bl : ∀ i, i < n.blocks.length → (n.blocks.getD i blk0).name = 98 :: digN i ∧ xyP (n.blocks.getD i blk0)
  nl : n.next.length = n.blocks.length
  nx : ∀ i, i < n.blocks.length → RP n.blocks.length i (n.next.getD i [])
  ns : 3 ≤ n.spurs.length ∧ n.spurs.length ≤ 5
  sp : ∀ i, i < n.spurs.length → (n.spurs.getD i spr0).name = 115 :: digN i ∧ (i = 0 → (n.spurs.getD i spr0).depot = true) ∧ (i = 1 ∨ i = 2 → (n.spurs.getD i spr0).depot = false)
  ss : spursP n.blocks.length n.spurs
  rl : n.robots.length ≤ 3
  rb : robotsP n.spurs n.robots
  cf : cfgP n.cq n.ca n.cd n.cp
theorem namesN_get {n : Nt} (i : Nat) (hi : i < (namesN n).length) : (namesN n).getD i [] = if i < n.blocks.length then (n.blocks.getD i blk0).name else (n.spurs.getD (i - n.blocks.length) spr0).name := by
  have hl : (namesN n).length = n.blocks.length + n.spurs.length := by simp [namesN]
  have hi2 : i < n.blocks.length + n.spurs.length := by omega
  rw [getD_eq hi]
  unfold namesN at hi ⊢
  by_cases h : i < n.blocks.length
  · rw [if_pos h, List.getElem_append_left (by simpa using h), List.getElem_map, getD_eq h]
  · rw [if_neg h, List.getElem_append_right (by simpa using h), List.getElem_map, getD_eq (show i - n.blocks.length < n.spurs.length by omega)]
    simp
theorem NetP.valid {n : Nt} (h : NetP n) : validN n := by
  obtain ⟨nb, bl, nl, nx, ns, sp, ss, rl, rb, cf⟩ := h
  refine ⟨⟨nb.1, by omega, nl, fun i hi => ⟨(bl i hi).2, (nx i hi).2.2.1, (nx i hi).row⟩⟩, by omega, fun i hi => ?_, by omega, cf, ss, rb, ?_⟩
  · have hl : (namesN n).length = n.blocks.length + n.spurs.length := by simp [namesN]
    have key : ∀ j, j < (namesN n).length → ∃ c d, (namesN n).getD j [] = c :: digT d ∧ d < 24 ∧ ((j < n.blocks.length ∧ c = 98 ∧ d = j) ∨ (n.blocks.length ≤ j ∧ c = 115 ∧ d = j - n.blocks.length)) := by
      intro j hj
      rw [namesN_get j hj]
      by_cases h1 : j < n.blocks.length
      · rw [if_pos h1, (bl j h1).1, digN_T j (by omega)]
        exact ⟨98, j, rfl, by omega, .inl ⟨h1, rfl, rfl⟩⟩
      · rw [if_neg h1, (sp (j - n.blocks.length) (by omega)).1, digN_T _ (by omega)]
        exact ⟨115, j - n.blocks.length, rfl, by omega, .inr ⟨by omega, rfl, rfl⟩⟩
    obtain ⟨c, d, h1, h2, h3⟩ := key i hi
    refine ⟨?_, fun k hk => ?_⟩
    · rw [h1]
      rcases h3 with ⟨_, rfl, _⟩ | ⟨_, rfl, _⟩
      · exact nameB_b d h2
      · exact nameB_s d h2
    · obtain ⟨c2, d2, h4, h5, h6⟩ := key k (by omega)
      rw [h1, h4]
      intro he
      rw [List.cons.injEq] at he
      have hd := digT_inj d h2 d2 h5 he.2
      rcases h3 with ⟨_, rfl, rfl⟩ | ⟨_, rfl, rfl⟩ <;> rcases h6 with ⟨_, rfl, rfl⟩ | ⟨_, rfl, rfl⟩
      · omega
      · exact absurd he.1 (by decide)
      · exact absurd he.1 (by decide)
      · omega
  · have h0 := (sp 0 (by omega)).2.1 rfl
    rw [List.length_filter_pos_iff]
    exact ⟨_, getD_mem n.spurs 0 spr0 (by omega), h0⟩
end Go.Am
end

section
/- The generator of networks. -/
namespace Go.Am
open Go Go.Proofs
set_option maxRecDepth 100000
set_option linter.unusedVariables false
set_option linter.unusedSimpArgs false
theorem getD_append_last {α : Type} (l : List α) (x y : α) (i : Nat) : (l ++ [x]).getD i y = if i < l.length then l.getD i y else if i = l.length then x else y := by
  simp only [List.getD]
  by_cases h : i < l.length
  · rw [if_pos h, List.getElem?_append_left h]
  · rw [if_neg h, List.getElem?_append_right (by omega)]
    by_cases h2 : i = l.length
    · rw [if_pos h2, h2]; simp
    · rw [if_neg h2]
      have : 1 ≤ i - l.length := by omega
      obtain ⟨m, hm⟩ : ∃ m, i - l.length = m + 1 := ⟨i - l.length - 1, by omega⟩
      rw [hm]; simp
def blkP (bl : List Blk) : Prop := ∀ i, i < bl.length → (bl.getD i blk0).name = 98 :: digN i ∧ xyP (bl.getD i blk0)
theorem blkP_snoc {bl : List Blk} (h : blkP bl) (x y : Int) (hx : -4 ≤ x ∧ x ≤ 4) (hy : -4 ≤ y ∧ y ≤ 4) : blkP (bl ++ [⟨98 :: digN bl.length, x, y⟩]) := by
  intro i hi
  rw [getD_append_last]
  by_cases h1 : i < bl.length
  · rw [if_pos h1]; exact h i h1
  · have h2 : i = bl.length := by simp at hi; omega
    rw [if_neg h1, if_pos h2, h2]
    exact ⟨rfl, by unfold xyP; simp only; omega⟩
def sprP (nb : Nat) (l : List Spr) : Prop := ∀ i, i < l.length → (l.getD i spr0).name = 115 :: digN i ∧ (i = 0 → (l.getD i spr0).depot = true) ∧ (i = 1 ∨ i = 2 → (l.getD i spr0).depot = false) ∧ spurP nb (nb + sumS (l.take i)) (l.getD i spr0)
theorem robotsP_snoc {sp : List Spr} {rb : List Int} {x : Int} (h : robotsP sp rb) (h1 : sp.any (inD x) = true) (h2 : x ∉ rb) : robotsP sp (rb ++ [x]) := by
  intro i hi
  rw [getD_append_last]
  by_cases h3 : i < rb.length
  · rw [if_pos h3, List.take_append_of_le_length (by omega)]; exact h i h3
  · have h4 : i = rb.length := by simp at hi; omega
    subst h4
    rw [if_neg h3, if_pos rfl, List.take_left' rfl]
    exact ⟨h1, h2⟩
theorem sprP.spurs {nb : Nat} {l : List Spr} (h : sprP nb l) : spursP nb l := fun i hi => (h i hi).2.2.2
theorem sprP.rng {nb : Nat} {l : List Spr} (h : sprP nb l) : 0 ≤ sumS l ∧ sumS l ≤ 4 * l.length := sumS_all h.spurs
theorem sprP.snoc {nb : Nat} {l : List Spr} (h : sprP nb l) (dp : Bool) (x y z : Int) (hx : 0 ≤ x ∧ x < (nb : Int)) (hy : 0 ≤ y ∧ y < (nb : Int)) (hz : 1 ≤ z ∧ z ≤ 4) (h0 : l.length = 0 → dp = true) (h1 : l.length = 1 ∨ l.length = 2 → dp = false) :
    sprP nb (l ++ [⟨115 :: digN l.length, dp, x, y, z, (nb : Int) + sumS l⟩]) := by
  intro i hi
  rw [getD_append_last]
  by_cases h2 : i < l.length
  · rw [if_pos h2, List.take_append_of_le_length (by omega)]; exact h i h2
  · have h3 : i = l.length := by simp at hi; omega
    subst h3
    rw [if_neg h2, if_pos rfl, List.take_left' rfl]
    exact ⟨rfl, h0, h1, hx.1, hx.2, hy.1, hy.2, hz.1, hz.2, rfl⟩
set_option maxHeartbeats 1600000 in
theorem net_ok (l : List Int) (at_ most : Nat) (hat : at_ < 100000) (hm1 : 1 ≤ most) (hm2 : most ≤ 10) :
    ACalls Tryz.prog 8 [.ptr 1000000 0, .p (.int .i64 (most : Nat))] [(1000000, .box (tapeC l at_))]
      fun h r => ∃ at2 n, at2 ≤ at_ + 200 ∧ NetP n ∧ h = [(1000000, .box (tapeC l at2))] ∧ r = .agg n.cs := by
  refine ACalls_X Tryz.func8 rfl enters8 (by simp [Tryz.f8]) ?_
  simp only [go_sem, ↓reduceIte, Nat.reduceLT, Nat.reduceLeDiff, Nat.reduceEqDiff, Nat.reduceAdd, Nat.reduceMul, Nat.reduceSub, reduceCtorEq, Int.reduceLT, Int.reduceLE, Int.reduceEq, Int.reduceToNat, decide_true, decide_false, Int.reduceNeg, Int.cast_ofNat_Int, sg, AO.sg, Option.isNone_none, tapeC]
  refine Cc_of ((next_ok l at_ most (by omega) (in64_small _ (by omega) (by omega)))) ?_
  rintro h' r ⟨rfl, rfl⟩
  obtain ⟨k0, hk0, hk1⟩ := nextV_rng l at_ most (by omega)
  have hwk0 : IntKind.i64.wrap (1 + (k0 : Int)) = ((k0 + 1 : Nat) : Int) := by rw [wrap_i64_id] <;> omega
  simp only [go_sem, ↓reduceIte, Nat.reduceLT, Nat.reduceLeDiff, Nat.reduceEqDiff, Nat.reduceAdd, Nat.reduceMul, Nat.reduceSub, reduceCtorEq, Int.reduceLT, Int.reduceLE, Int.reduceEq, Int.reduceToNat, decide_true, decide_false, Int.reduceNeg, Int.cast_ofNat_Int, sg, AO.sg, Option.isNone_none, tapeC, hk0, hwk0]
  refine X_loop_inv (fun q : Nat × Nat × List Blk => ⟨[(0, .ptr 1000000 0), (4, .ptr 4 0), (5, .ptr 5 0), (6, .p (.int .i64 (q.1 : Nat)))],
      [(1000000, .box [.p (.sl (encI l)), .p (.int .i64 (q.2.1 : Nat))]), (4, .box [.cl [], .cl [], .cl [], .cl [], .p (.int .i64 0), .p (.int .i64 0), .p (.int .i64 0), .p (.int .i64 0)]),
       (5, .box [.ref 43 0 q.2.2.length q.2.2.length, .ref 48 0 q.2.2.length q.2.2.length, .cl [], .cl [], .p (.int .i64 0), .p (.int .i64 0), .p (.int .i64 0), .p (.int .i64 0)]), (43, .arr 75 3 (encK q.2.2)), (48, .arr 22 1 (encG (List.replicate q.2.2.length [])))], 191⟩)
    (fun q => q.1 + q.2.2.length = k0 + 1 ∧ q.2.1 = at_ + 1 + 2 * q.2.2.length ∧ blkP q.2.2) (fun q => q.1) (k0 + 1, at_ + 1, []) ⟨by simp, by simp, fun i hi => by simp at hi⟩
    ((Wk.nilBox (id := 5) (j := 0) (q := 43) (sz := 3) 75 rfl rfl rfl (by decide)).trans ((Wk.nilBox (id := 5) (j := 1) (q := 48) (sz := 1) 22 rfl rfl rfl (by decide)).trans (Wk.forget (by simp [Le, LeE, LeH, get, envIds, hpIds, KeepH, D.ids, idsL, AO.ids, setL, base, encK, encG])))) ?_
  rintro ⟨k, a, bl⟩ m ⟨hk, ha, hbl⟩ ih
  simp only at hk ha hbl
  cases c1 : decide (0 < (k : Int))
  rotate_left
  · obtain ⟨k, rfl⟩ : ∃ j, k = j + 1 := ⟨k - 1, by have := of_decide_eq_true c1; omega⟩
    have hwk := wrap_pred k (by omega)
    obtain ⟨x, hx, hx9⟩ := nextV_rng l a 9 (by omega)
    obtain ⟨y, hy, hy9⟩ := nextV_rng l (a + 1) 9 (by omega)
    have hwx : IntKind.i64.wrap ((x : Int) - 4) = (x : Int) - 4 := by rw [wrap_i64_id] <;> omega
    have hwy : IntKind.i64.wrap ((y : Int) - 4) = (y : Int) - 4 := by rw [wrap_i64_id] <;> omega
    have hdl := digN_len 15 bl.length (by omega)
    simp only [go_sem, ↓reduceIte, Nat.reduceLT, Nat.reduceLeDiff, Nat.reduceEqDiff, Nat.reduceAdd, Nat.reduceMul, Nat.reduceSub, reduceCtorEq, Int.reduceLT, Int.reduceLE, Int.reduceEq, Int.reduceToNat, decide_true, decide_false, Int.reduceNeg, Int.cast_ofNat_Int, sg, AO.sg, Option.isNone_none, c1, encK_len]
    refine X_any [(5, .box [.ref 43 0 bl.length bl.length, .ref 48 0 bl.length bl.length, .cl [], .cl [], .p (.int .i64 0), .p (.int .i64 0), .p (.int .i64 0), .p (.int .i64 0)])] mixed (p := [(0, 0), (1, 0), (2, 0), (5, 0), (8, 0), (3, 2), (4, 0), (6, 2), (7, 0), (9, 2), (10, 0), (11, 0), (12, 1), (13, 2), (14, 0), (15, 3)]) (by kernel_rfl) (by simp [LeH, get]) ?_
    simp only [go_sem, ↓reduceIte, Nat.reduceLT, Nat.reduceLeDiff, Nat.reduceEqDiff, Nat.reduceAdd, Nat.reduceMul, Nat.reduceSub, reduceCtorEq, Int.reduceLT, Int.reduceLE, Int.reduceEq, Int.reduceToNat, decide_true, decide_false, Int.reduceNeg, Int.cast_ofNat_Int, sg, AO.sg, Option.isNone_none]
    refine Gh_of ((digits_nn bl.length (by omega))) ?_
    rintro h' r ⟨rfl, rfl⟩
    simp only [go_sem, ↓reduceIte, Nat.reduceLT, Nat.reduceLeDiff, Nat.reduceEqDiff, Nat.reduceAdd, Nat.reduceMul, Nat.reduceSub, reduceCtorEq, Int.reduceLT, Int.reduceLE, Int.reduceEq, Int.reduceToNat, decide_true, decide_false, Int.reduceNeg, Int.cast_ofNat_Int, sg, AO.sg, Option.isNone_none]
    refine ⟨by unfold maxLen; omega, ?_⟩
    refine Gh_of ((next_ok l a 9 (by omega) (in64_small _ (by omega) (by omega)))) ?_
    rintro h' r ⟨rfl, rfl⟩
    simp only [go_sem, ↓reduceIte, Nat.reduceLT, Nat.reduceLeDiff, Nat.reduceEqDiff, Nat.reduceAdd, Nat.reduceMul, Nat.reduceSub, reduceCtorEq, Int.reduceLT, Int.reduceLE, Int.reduceEq, Int.reduceToNat, decide_true, decide_false, Int.reduceNeg, Int.cast_ofNat_Int, sg, AO.sg, Option.isNone_none, tapeC, hx, hwx]
    refine Gh_of ((next_ok l (a + 1) 9 (by omega) (in64_small _ (by omega) (by omega)))) ?_
    rintro h' r ⟨rfl, rfl⟩
    simp only [go_sem, ↓reduceIte, Nat.reduceLT, Nat.reduceLeDiff, Nat.reduceEqDiff, Nat.reduceAdd, Nat.reduceMul, Nat.reduceSub, reduceCtorEq, Int.reduceLT, Int.reduceLE, Int.reduceEq, Int.reduceToNat, decide_true, decide_false, Int.reduceNeg, Int.cast_ofNat_Int, sg, AO.sg, Option.isNone_none, tapeC, hy, hwy, encK_len]
    refine ⟨⟨wid1 _ _ rfl, by omega⟩, ?_⟩
    simp only [go_sem, ↓reduceIte, Nat.reduceLT, Nat.reduceLeDiff, Nat.reduceEqDiff, Nat.reduceAdd, Nat.reduceMul, Nat.reduceSub, reduceCtorEq, Int.reduceLT, Int.reduceLE, Int.reduceEq, Int.reduceToNat, decide_true, decide_false, Int.reduceNeg, Int.cast_ofNat_Int, sg, AO.sg, Option.isNone_none, encG_len, List.length_replicate]
    refine ⟨⟨wid1 _ _ rfl, by omega⟩, ?_⟩
    simp only [go_sem, ↓reduceIte, Nat.reduceLT, Nat.reduceLeDiff, Nat.reduceEqDiff, Nat.reduceAdd, Nat.reduceMul, Nat.reduceSub, reduceCtorEq, Int.reduceLT, Int.reduceLE, Int.reduceEq, Int.reduceToNat, decide_true, decide_false, Int.reduceNeg, Int.cast_ofNat_Int, sg, AO.sg, Option.isNone_none, hwk]
    refine ih (k, a + 1 + 1, bl ++ [⟨98 :: digN bl.length, (x : Int) - 4, (y : Int) - 4⟩]) _ ⟨by simp; omega, by simp; omega, blkP_snoc hbl _ _ (by omega) (by omega)⟩ (by simp only; omega) ?_
    (refine Wk.forget ?_; simp [Le, LeE, LeH, get, envIds, hpIds, KeepH, D.ids, idsL, AO.ids, setL, base, encK_snoc, encK_len, encG, encI, List.replicate_succ']; done)
  have hkz : k = 0 := by have := of_decide_eq_false c1; omega
  subst hkz
  have hnb : bl.length = k0 + 1 := by omega
  clear ih hwk0
  simp only [go_sem, ↓reduceIte, Nat.reduceLT, Nat.reduceLeDiff, Nat.reduceEqDiff, Nat.reduceAdd, Nat.reduceMul, Nat.reduceSub, reduceCtorEq, Int.reduceLT, Int.reduceLE, Int.reduceEq, Int.reduceToNat, decide_true, decide_false, Int.reduceNeg, Int.cast_ofNat_Int, sg, AO.sg, Option.isNone_none, c1, encK_len]
  refine Cc_of (ring_ok l a bl.length bl (List.replicate bl.length []) (by omega) (by omega) (by omega) rfl (by simp) (fun i hi => by simp [List.getD, hi])) ?_
  rintro h' r ⟨a2, nx, ha2, hnl, hnx, rfl, rfl⟩
  have hnb2 : 1 ≤ bl.length ∧ bl.length ≤ 10 := by omega
  have ha3 : a2 ≤ at_ + 100 := by omega
  clear hk ha hnb hk0 hk1 ha2
  simp only [go_sem, ↓reduceIte, Nat.reduceLT, Nat.reduceLeDiff, Nat.reduceEqDiff, Nat.reduceAdd, Nat.reduceMul, Nat.reduceSub, reduceCtorEq, Int.reduceLT, Int.reduceLE, Int.reduceEq, Int.reduceToNat, decide_true, decide_false, Int.reduceNeg, Int.cast_ofNat_Int, sg, AO.sg, Option.isNone_none, tapeC, encK_len]
  refine Cc_of ((next_ok l a2 3 (by omega) (in64_small _ (by omega) (by omega)))) ?_
  rintro h' r ⟨rfl, rfl⟩
  obtain ⟨k3, hk3, hk4⟩ := nextV_rng l a2 3 (by omega)
  have hwk3 : IntKind.i64.wrap (3 + (k3 : Int)) = ((k3 + 3 : Nat) : Int) := by rw [wrap_i64_id] <;> omega
  simp only [go_sem, ↓reduceIte, Nat.reduceLT, Nat.reduceLeDiff, Nat.reduceEqDiff, Nat.reduceAdd, Nat.reduceMul, Nat.reduceSub, reduceCtorEq, Int.reduceLT, Int.reduceLE, Int.reduceEq, Int.reduceToNat, decide_true, decide_false, Int.reduceNeg, Int.cast_ofNat_Int, sg, AO.sg, Option.isNone_none, tapeC, hk3, hwk3]
  refine X_loop_inv (fun q : Nat × Nat × List Spr => ⟨[(0, .ptr 1000000 0), (4, .ptr 4 0), (5, .ptr 5 0), (8, .p (.int .i64 ((bl.length : Int) + sumS q.2.2))), (9, .p (.int .i64 (q.1 : Nat)))],
      [(1000000, .box [.p (.sl (encI l)), .p (.int .i64 (q.2.1 : Nat))]), (4, .box [.cl [], .cl [], .cl [], .cl [], .p (.int .i64 0), .p (.int .i64 0), .p (.int .i64 0), .p (.int .i64 0)]),
       (5, .box [.ref 43 0 bl.length bl.length, .ref 48 0 bl.length bl.length, .ref 102 0 q.2.2.length q.2.2.length, .cl [], .p (.int .i64 0), .p (.int .i64 0), .p (.int .i64 0), .p (.int .i64 0)]), (43, .arr 75 3 (encK bl)), (48, .arr 22 1 (encG nx)), (102, .arr 77 6 (encP q.2.2))], 191⟩)
    (fun q => q.1 + q.2.2.length = k3 + 3 ∧ q.2.1 ≤ a2 + 1 + 4 * q.2.2.length ∧ sprP bl.length q.2.2) (fun q => q.1) (k3 + 3, a2 + 1, []) ⟨by simp, by simp, fun i hi => by simp at hi⟩
    ((Wk.nilBox (id := 5) (j := 2) (q := 102) (sz := 6) 77 rfl rfl rfl (by decide)).trans (Wk.forget (by simp [Le, LeE, LeH, get, envIds, hpIds, KeepH, D.ids, idsL, AO.ids, setL, base, encP, sumS]))) ?_
  rintro ⟨k, a, sp⟩ m2 ⟨hk, ha, hsp⟩ ih
  simp only at hk ha hsp
  have hsr := hsp.rng
  cases c2 : decide (0 < (k : Int))
  rotate_left
  · obtain ⟨k, rfl⟩ : ∃ j, k = j + 1 := ⟨k - 1, by have := of_decide_eq_true c2; omega⟩
    have hwk := wrap_pred k (by omega)
    have hdl := digN_len 15 sp.length (by omega)
    have hbz : (0 : Int) < (bl.length : Int) := by omega
    by_cases hi0 : sp.length = 0
    · have hi1 : ((sp.length : Nat) : Int) = 0 := by omega
      have hd : decide (((sp.length : Nat) : Int) = 0) = true := decide_eq_true hi1
      simp only [go_sem, ↓reduceIte, Nat.reduceLT, Nat.reduceLeDiff, Nat.reduceEqDiff, Nat.reduceAdd, Nat.reduceMul, Nat.reduceSub, reduceCtorEq, Int.reduceLT, Int.reduceLE, Int.reduceEq, Int.reduceToNat, decide_true, decide_false, Int.reduceNeg, Int.cast_ofNat_Int, sg, AO.sg, Option.isNone_none, c2, encP_len]
      refine X_any [(5, .box [.ref 43 0 bl.length bl.length, .ref 48 0 bl.length bl.length, .ref 102 0 sp.length sp.length, .cl [], .p (.int .i64 0), .p (.int .i64 0), .p (.int .i64 0), .p (.int .i64 0)]), (43, .arr 75 3 (encK bl))] mixed (p := [(0, 0), (3, 0), (4, 0), (14, 0), (15, 0), (16, 0), (17, 0), (19, 0), (20, 0), (21, 0), (22, 0), (24, 0), (27, 0), (29, 1), (1, 2), (2, 0), (5, 0), (6, 0), (7, 0), (8, 0), (9, 0), (10, 2), (11, 0), (12, 0), (13, 0), (18, 2), (23, 2), (25, 2), (26, 0), (28, 0), (30, 3)]) (by kernel_rfl) (by simp [LeH, get]) ?_
      simp only [go_sem, ↓reduceIte, Nat.reduceLT, Nat.reduceLeDiff, Nat.reduceEqDiff, Nat.reduceAdd, Nat.reduceMul, Nat.reduceSub, reduceCtorEq, Int.reduceLT, Int.reduceLE, Int.reduceEq, Int.reduceToNat, decide_true, decide_false, Int.reduceNeg, Int.cast_ofNat_Int, sg, AO.sg, Option.isNone_none, hd, encK_len]
      refine Gh_of ((digits_nn sp.length (by omega))) ?_
      rintro h' r ⟨rfl, rfl⟩
      simp only [go_sem, ↓reduceIte, Nat.reduceLT, Nat.reduceLeDiff, Nat.reduceEqDiff, Nat.reduceAdd, Nat.reduceMul, Nat.reduceSub, reduceCtorEq, Int.reduceLT, Int.reduceLE, Int.reduceEq, Int.reduceToNat, decide_true, decide_false, Int.reduceNeg, Int.cast_ofNat_Int, sg, AO.sg, Option.isNone_none, hd, encK_len]
      refine ⟨by unfold maxLen; omega, ?_⟩
      obtain ⟨x, hx, hxb⟩ := nextV_rng l a bl.length hbz
      obtain ⟨y, hy, hyb⟩ := nextV_rng l (a + 1) bl.length hbz
      obtain ⟨z, hz, hzb⟩ := nextV_rng l (a + 1 + 1) 3 (by omega)
      have hwz : IntKind.i64.wrap (1 + (z : Int)) = 1 + (z : Int) := by rw [wrap_i64_id] <;> omega
      have hwb : IntKind.i64.wrap ((bl.length : Int) + sumS sp + (1 + (z : Int))) = (bl.length : Int) + sumS sp + (1 + (z : Int)) := by rw [wrap_i64_id] <;> omega
      refine Gh_of ((next_ok l a bl.length (by omega) (in64_small _ (by omega) (by omega)))) ?_
      rintro h' r ⟨rfl, rfl⟩
      simp only [go_sem, ↓reduceIte, Nat.reduceLT, Nat.reduceLeDiff, Nat.reduceEqDiff, Nat.reduceAdd, Nat.reduceMul, Nat.reduceSub, reduceCtorEq, Int.reduceLT, Int.reduceLE, Int.reduceEq, Int.reduceToNat, decide_true, decide_false, Int.reduceNeg, Int.cast_ofNat_Int, sg, AO.sg, Option.isNone_none, tapeC, hx]
      refine Gh_of ((next_ok l (a + 1) bl.length (by omega) (in64_small _ (by omega) (by omega)))) ?_
      rintro h' r ⟨rfl, rfl⟩
      simp only [go_sem, ↓reduceIte, Nat.reduceLT, Nat.reduceLeDiff, Nat.reduceEqDiff, Nat.reduceAdd, Nat.reduceMul, Nat.reduceSub, reduceCtorEq, Int.reduceLT, Int.reduceLE, Int.reduceEq, Int.reduceToNat, decide_true, decide_false, Int.reduceNeg, Int.cast_ofNat_Int, sg, AO.sg, Option.isNone_none, tapeC, hy]
      refine Gh_of ((next_ok l (a + 1 + 1) 3 (by omega) (in64_small _ (by omega) (by omega)))) ?_
      rintro h' r ⟨rfl, rfl⟩
      simp only [go_sem, ↓reduceIte, Nat.reduceLT, Nat.reduceLeDiff, Nat.reduceEqDiff, Nat.reduceAdd, Nat.reduceMul, Nat.reduceSub, reduceCtorEq, Int.reduceLT, Int.reduceLE, Int.reduceEq, Int.reduceToNat, decide_true, decide_false, Int.reduceNeg, Int.cast_ofNat_Int, sg, AO.sg, Option.isNone_none, tapeC, hz, hwz, hwb, encP_len]
      refine ⟨⟨wid1 _ _ rfl, by omega⟩, ?_⟩
      simp only [go_sem, ↓reduceIte, Nat.reduceLT, Nat.reduceLeDiff, Nat.reduceEqDiff, Nat.reduceAdd, Nat.reduceMul, Nat.reduceSub, reduceCtorEq, Int.reduceLT, Int.reduceLE, Int.reduceEq, Int.reduceToNat, decide_true, decide_false, Int.reduceNeg, Int.cast_ofNat_Int, sg, AO.sg, Option.isNone_none, hwk]
      refine ih (k, a + 1 + 1 + 1, sp ++ [⟨115 :: digN sp.length, true, (x : Int), (y : Int), 1 + (z : Int), (bl.length : Int) + sumS sp⟩]) _ ⟨by simp; omega, by simp; omega, hsp.snoc _ _ _ _ (by omega) (by omega) (by omega) (fun _ => rfl) (fun h => by omega)⟩ (by simp only; omega) ?_
      (refine Wk.forget ?_; simp [Le, LeE, LeH, get, envIds, hpIds, KeepH, D.ids, idsL, AO.ids, setL, base, encP_snoc, encP_len, sumS_snoc, Int.add_assoc]; done)
    by_cases hi2 : sp.length ≤ 2
    · have hd : decide (((sp.length : Nat) : Int) = 0) = false := decide_eq_false (by omega)
      have hd2 : decide (2 < ((sp.length : Nat) : Int)) = false := decide_eq_false (by omega)
      simp only [go_sem, ↓reduceIte, Nat.reduceLT, Nat.reduceLeDiff, Nat.reduceEqDiff, Nat.reduceAdd, Nat.reduceMul, Nat.reduceSub, reduceCtorEq, Int.reduceLT, Int.reduceLE, Int.reduceEq, Int.reduceToNat, decide_true, decide_false, Int.reduceNeg, Int.cast_ofNat_Int, sg, AO.sg, Option.isNone_none, c2, encP_len]
      refine X_any [(5, .box [.ref 43 0 bl.length bl.length, .ref 48 0 bl.length bl.length, .ref 102 0 sp.length sp.length, .cl [], .p (.int .i64 0), .p (.int .i64 0), .p (.int .i64 0), .p (.int .i64 0)]), (43, .arr 75 3 (encK bl))] mixed (p := [(0, 0), (3, 0), (4, 0), (14, 0), (15, 0), (16, 0), (17, 0), (19, 0), (20, 0), (21, 0), (22, 0), (24, 0), (27, 0), (29, 1), (1, 2), (2, 0), (5, 0), (6, 0), (7, 0), (8, 0), (9, 0), (10, 2), (11, 0), (12, 0), (13, 0), (18, 2), (23, 2), (25, 2), (26, 0), (28, 0), (30, 3)]) (by kernel_rfl) (by simp [LeH, get]) ?_
      simp only [go_sem, ↓reduceIte, Nat.reduceLT, Nat.reduceLeDiff, Nat.reduceEqDiff, Nat.reduceAdd, Nat.reduceMul, Nat.reduceSub, reduceCtorEq, Int.reduceLT, Int.reduceLE, Int.reduceEq, Int.reduceToNat, decide_true, decide_false, Int.reduceNeg, Int.cast_ofNat_Int, sg, AO.sg, Option.isNone_none, hd, hd2, encK_len]
      refine Gh_of ((digits_nn sp.length (by omega))) ?_
      rintro h' r ⟨rfl, rfl⟩
      simp only [go_sem, ↓reduceIte, Nat.reduceLT, Nat.reduceLeDiff, Nat.reduceEqDiff, Nat.reduceAdd, Nat.reduceMul, Nat.reduceSub, reduceCtorEq, Int.reduceLT, Int.reduceLE, Int.reduceEq, Int.reduceToNat, decide_true, decide_false, Int.reduceNeg, Int.cast_ofNat_Int, sg, AO.sg, Option.isNone_none, hd, hd2, encK_len]
      refine ⟨by unfold maxLen; omega, ?_⟩
      obtain ⟨x, hx, hxb⟩ := nextV_rng l a bl.length hbz
      obtain ⟨y, hy, hyb⟩ := nextV_rng l (a + 1) bl.length hbz
      obtain ⟨z, hz, hzb⟩ := nextV_rng l (a + 1 + 1) 3 (by omega)
      have hwz : IntKind.i64.wrap (1 + (z : Int)) = 1 + (z : Int) := by rw [wrap_i64_id] <;> omega
      have hwb : IntKind.i64.wrap ((bl.length : Int) + sumS sp + (1 + (z : Int))) = (bl.length : Int) + sumS sp + (1 + (z : Int)) := by rw [wrap_i64_id] <;> omega
      refine Gh_of ((next_ok l a bl.length (by omega) (in64_small _ (by omega) (by omega)))) ?_
      rintro h' r ⟨rfl, rfl⟩
      simp only [go_sem, ↓reduceIte, Nat.reduceLT, Nat.reduceLeDiff, Nat.reduceEqDiff, Nat.reduceAdd, Nat.reduceMul, Nat.reduceSub, reduceCtorEq, Int.reduceLT, Int.reduceLE, Int.reduceEq, Int.reduceToNat, decide_true, decide_false, Int.reduceNeg, Int.cast_ofNat_Int, sg, AO.sg, Option.isNone_none, tapeC, hx]
      refine Gh_of ((next_ok l (a + 1) bl.length (by omega) (in64_small _ (by omega) (by omega)))) ?_
      rintro h' r ⟨rfl, rfl⟩
      simp only [go_sem, ↓reduceIte, Nat.reduceLT, Nat.reduceLeDiff, Nat.reduceEqDiff, Nat.reduceAdd, Nat.reduceMul, Nat.reduceSub, reduceCtorEq, Int.reduceLT, Int.reduceLE, Int.reduceEq, Int.reduceToNat, decide_true, decide_false, Int.reduceNeg, Int.cast_ofNat_Int, sg, AO.sg, Option.isNone_none, tapeC, hy]
      refine Gh_of ((next_ok l (a + 1 + 1) 3 (by omega) (in64_small _ (by omega) (by omega)))) ?_
      rintro h' r ⟨rfl, rfl⟩
      simp only [go_sem, ↓reduceIte, Nat.reduceLT, Nat.reduceLeDiff, Nat.reduceEqDiff, Nat.reduceAdd, Nat.reduceMul, Nat.reduceSub, reduceCtorEq, Int.reduceLT, Int.reduceLE, Int.reduceEq, Int.reduceToNat, decide_true, decide_false, Int.reduceNeg, Int.cast_ofNat_Int, sg, AO.sg, Option.isNone_none, tapeC, hz, hwz, hwb, encP_len]
      refine ⟨⟨wid1 _ _ rfl, by omega⟩, ?_⟩
      simp only [go_sem, ↓reduceIte, Nat.reduceLT, Nat.reduceLeDiff, Nat.reduceEqDiff, Nat.reduceAdd, Nat.reduceMul, Nat.reduceSub, reduceCtorEq, Int.reduceLT, Int.reduceLE, Int.reduceEq, Int.reduceToNat, decide_true, decide_false, Int.reduceNeg, Int.cast_ofNat_Int, sg, AO.sg, Option.isNone_none, hwk]
      refine ih (k, a + 1 + 1 + 1, sp ++ [⟨115 :: digN sp.length, false, (x : Int), (y : Int), 1 + (z : Int), (bl.length : Int) + sumS sp⟩]) _ ⟨by simp; omega, by simp; omega, hsp.snoc _ _ _ _ (by omega) (by omega) (by omega) (fun h => by omega) (fun _ => rfl)⟩ (by simp only; omega) ?_
      (refine Wk.forget ?_; simp [Le, LeE, LeH, get, envIds, hpIds, KeepH, D.ids, idsL, AO.ids, setL, base, encP_snoc, encP_len, sumS_snoc, Int.add_assoc]; done)
    · have hd : decide (((sp.length : Nat) : Int) = 0) = false := decide_eq_false (by omega)
      have hd2 : decide (2 < ((sp.length : Nat) : Int)) = true := decide_eq_true (by omega)
      simp only [go_sem, ↓reduceIte, Nat.reduceLT, Nat.reduceLeDiff, Nat.reduceEqDiff, Nat.reduceAdd, Nat.reduceMul, Nat.reduceSub, reduceCtorEq, Int.reduceLT, Int.reduceLE, Int.reduceEq, Int.reduceToNat, decide_true, decide_false, Int.reduceNeg, Int.cast_ofNat_Int, sg, AO.sg, Option.isNone_none, c2, encP_len]
      refine X_any [(5, .box [.ref 43 0 bl.length bl.length, .ref 48 0 bl.length bl.length, .ref 102 0 sp.length sp.length, .cl [], .p (.int .i64 0), .p (.int .i64 0), .p (.int .i64 0), .p (.int .i64 0)]), (43, .arr 75 3 (encK bl))] mixed (p := [(0, 0), (3, 0), (4, 0), (14, 0), (15, 0), (16, 0), (17, 0), (19, 0), (20, 0), (21, 0), (22, 0), (24, 0), (27, 0), (29, 1), (1, 2), (2, 0), (5, 0), (6, 0), (7, 0), (8, 0), (9, 0), (10, 2), (11, 0), (12, 0), (13, 0), (18, 2), (23, 2), (25, 2), (26, 0), (28, 0), (30, 3)]) (by kernel_rfl) (by simp [LeH, get]) ?_
      simp only [go_sem, ↓reduceIte, Nat.reduceLT, Nat.reduceLeDiff, Nat.reduceEqDiff, Nat.reduceAdd, Nat.reduceMul, Nat.reduceSub, reduceCtorEq, Int.reduceLT, Int.reduceLE, Int.reduceEq, Int.reduceToNat, decide_true, decide_false, Int.reduceNeg, Int.cast_ofNat_Int, sg, AO.sg, Option.isNone_none, hd, hd2, encK_len]
      refine Gh_of ((digits_nn sp.length (by omega))) ?_
      rintro h' r ⟨rfl, rfl⟩
      simp only [go_sem, ↓reduceIte, Nat.reduceLT, Nat.reduceLeDiff, Nat.reduceEqDiff, Nat.reduceAdd, Nat.reduceMul, Nat.reduceSub, reduceCtorEq, Int.reduceLT, Int.reduceLE, Int.reduceEq, Int.reduceToNat, decide_true, decide_false, Int.reduceNeg, Int.cast_ofNat_Int, sg, AO.sg, Option.isNone_none, hd, hd2, encK_len]
      refine ⟨by unfold maxLen; omega, ?_⟩
      refine Gh_of ((next_ok l a 2 (by omega) (in64_small _ (by omega) (by omega)))) ?_
      rintro h' r ⟨rfl, rfl⟩
      simp only [go_sem, ↓reduceIte, Nat.reduceLT, Nat.reduceLeDiff, Nat.reduceEqDiff, Nat.reduceAdd, Nat.reduceMul, Nat.reduceSub, reduceCtorEq, Int.reduceLT, Int.reduceLE, Int.reduceEq, Int.reduceToNat, decide_true, decide_false, Int.reduceNeg, Int.cast_ofNat_Int, sg, AO.sg, Option.isNone_none, tapeC, hd, hd2]
      obtain ⟨x, hx, hxb⟩ := nextV_rng l (a + 1) bl.length hbz
      obtain ⟨y, hy, hyb⟩ := nextV_rng l ((a + 1) + 1) bl.length hbz
      obtain ⟨z, hz, hzb⟩ := nextV_rng l ((a + 1) + 1 + 1) 3 (by omega)
      have hwz : IntKind.i64.wrap (1 + (z : Int)) = 1 + (z : Int) := by rw [wrap_i64_id] <;> omega
      have hwb : IntKind.i64.wrap ((bl.length : Int) + sumS sp + (1 + (z : Int))) = (bl.length : Int) + sumS sp + (1 + (z : Int)) := by rw [wrap_i64_id] <;> omega
      refine Gh_of ((next_ok l (a + 1) bl.length (by omega) (in64_small _ (by omega) (by omega)))) ?_
      rintro h' r ⟨rfl, rfl⟩
      simp only [go_sem, ↓reduceIte, Nat.reduceLT, Nat.reduceLeDiff, Nat.reduceEqDiff, Nat.reduceAdd, Nat.reduceMul, Nat.reduceSub, reduceCtorEq, Int.reduceLT, Int.reduceLE, Int.reduceEq, Int.reduceToNat, decide_true, decide_false, Int.reduceNeg, Int.cast_ofNat_Int, sg, AO.sg, Option.isNone_none, tapeC, hx]
      refine Gh_of ((next_ok l ((a + 1) + 1) bl.length (by omega) (in64_small _ (by omega) (by omega)))) ?_
      rintro h' r ⟨rfl, rfl⟩
      simp only [go_sem, ↓reduceIte, Nat.reduceLT, Nat.reduceLeDiff, Nat.reduceEqDiff, Nat.reduceAdd, Nat.reduceMul, Nat.reduceSub, reduceCtorEq, Int.reduceLT, Int.reduceLE, Int.reduceEq, Int.reduceToNat, decide_true, decide_false, Int.reduceNeg, Int.cast_ofNat_Int, sg, AO.sg, Option.isNone_none, tapeC, hy]
      refine Gh_of ((next_ok l ((a + 1) + 1 + 1) 3 (by omega) (in64_small _ (by omega) (by omega)))) ?_
      rintro h' r ⟨rfl, rfl⟩
      simp only [go_sem, ↓reduceIte, Nat.reduceLT, Nat.reduceLeDiff, Nat.reduceEqDiff, Nat.reduceAdd, Nat.reduceMul, Nat.reduceSub, reduceCtorEq, Int.reduceLT, Int.reduceLE, Int.reduceEq, Int.reduceToNat, decide_true, decide_false, Int.reduceNeg, Int.cast_ofNat_Int, sg, AO.sg, Option.isNone_none, tapeC, hz, hwz, hwb, encP_len]
      refine ⟨⟨wid1 _ _ rfl, by omega⟩, ?_⟩
      simp only [go_sem, ↓reduceIte, Nat.reduceLT, Nat.reduceLeDiff, Nat.reduceEqDiff, Nat.reduceAdd, Nat.reduceMul, Nat.reduceSub, reduceCtorEq, Int.reduceLT, Int.reduceLE, Int.reduceEq, Int.reduceToNat, decide_true, decide_false, Int.reduceNeg, Int.cast_ofNat_Int, sg, AO.sg, Option.isNone_none, hwk]
      refine ih (k, (a + 1) + 1 + 1 + 1, sp ++ [⟨115 :: digN sp.length, (decide (nextV l a 2 = 0)), (x : Int), (y : Int), 1 + (z : Int), (bl.length : Int) + sumS sp⟩]) _ ⟨by simp; omega, by simp; omega, hsp.snoc _ _ _ _ (by omega) (by omega) (by omega) (fun h => by omega) (fun h => by omega)⟩ (by simp only; omega) ?_
      (refine Wk.forget ?_; simp [Le, LeE, LeH, get, envIds, hpIds, KeepH, D.ids, idsL, AO.ids, setL, base, encP_snoc, encP_len, sumS_snoc, Int.add_assoc]; done)
  have hkz2 : k = 0 := by have := of_decide_eq_false c2; omega
  subst hkz2
  have hns : 3 ≤ sp.length ∧ sp.length ≤ 5 := by omega
  have ha4 : a ≤ at_ + 130 := by omega
  clear ih hk ha hwk3 hk3
  obtain ⟨q1, hq1, hq1b⟩ := nextV_rng l a 4 (by omega)
  obtain ⟨q2, hq2, hq2b⟩ := nextV_rng l (a + 1) 3 (by omega)
  obtain ⟨q3, hq3, hq3b⟩ := nextV_rng l (a + 1 + 1) 3 (by omega)
  obtain ⟨q4, hq4, hq4b⟩ := nextV_rng l (a + 1 + 1 + 1) 8 (by omega)
  obtain ⟨q5, hq5, hq5b⟩ := nextV_rng l (a + 1 + 1 + 1 + 1) 3 (by omega)
  have hw1 : IntKind.i64.wrap (1 + (q1 : Int)) = 1 + (q1 : Int) := by rw [wrap_i64_id] <;> omega
  have hw4 : IntKind.i64.wrap (1 + (q4 : Int)) = 1 + (q4 : Int) := by rw [wrap_i64_id] <;> omega
  have hw5 : IntKind.i64.wrap (1 + (q5 : Int)) = ((q5 + 1 : Nat) : Int) := by rw [wrap_i64_id] <;> omega
  have hP : ∀ rb : List Int, rb.length ≤ 3 → robotsP sp rb → NetP ⟨bl, nx, sp, rb, 1 + q1, q2, q3, 1 + q4⟩ := fun rb hr1 hr2 =>
    ⟨hnb2, hbl, hnl, hnx, hns, fun i hi => ⟨(hsp i hi).1, (hsp i hi).2.1, (hsp i hi).2.2.1⟩, hsp.spurs, hr1, hr2, by unfold cfgP; simp only; omega⟩
  have hF : ACalls Tryz.prog 31 [.agg [.p (.sl (encK bl)), .p (.sl (encG nx)), .p (.sl (encP sp)), .p (.sl []), .p (.int .i64 (1 + q1)), .p (.int .i64 q2), .p (.int .i64 q3), .p (.int .i64 (1 + q4))]] [] _ :=
    fleet_ok ⟨bl, nx, sp, [], 1 + q1, q2, q3, 1 + q4⟩ (hP [] (by simp) (fun i hi => by simp at hi)).valid
  have e1 := encK_take bl bl.length (Nat.le_refl _)
  have e2 := encG_take nx bl.length (by omega)
  have e3 := encP_take sp sp.length (Nat.le_refl _)
  simp only [go_sem, ↓reduceIte, Nat.reduceLT, Nat.reduceLeDiff, Nat.reduceEqDiff, Nat.reduceAdd, Nat.reduceMul, Nat.reduceSub, reduceCtorEq, Int.reduceLT, Int.reduceLE, Int.reduceEq, Int.reduceToNat, decide_true, decide_false, Int.reduceNeg, Int.cast_ofNat_Int, sg, AO.sg, Option.isNone_none, c2]
  refine Cc_of ((next_ok l a 4 (by omega) (in64_small _ (by omega) (by omega)))) ?_
  rintro h' r ⟨rfl, rfl⟩
  simp only [go_sem, ↓reduceIte, Nat.reduceLT, Nat.reduceLeDiff, Nat.reduceEqDiff, Nat.reduceAdd, Nat.reduceMul, Nat.reduceSub, reduceCtorEq, Int.reduceLT, Int.reduceLE, Int.reduceEq, Int.reduceToNat, decide_true, decide_false, Int.reduceNeg, Int.cast_ofNat_Int, sg, AO.sg, Option.isNone_none, tapeC, hq1, hw1]
  refine Cc_of ((next_ok l (a + 1) 3 (by omega) (in64_small _ (by omega) (by omega)))) ?_
  rintro h' r ⟨rfl, rfl⟩
  simp only [go_sem, ↓reduceIte, Nat.reduceLT, Nat.reduceLeDiff, Nat.reduceEqDiff, Nat.reduceAdd, Nat.reduceMul, Nat.reduceSub, reduceCtorEq, Int.reduceLT, Int.reduceLE, Int.reduceEq, Int.reduceToNat, decide_true, decide_false, Int.reduceNeg, Int.cast_ofNat_Int, sg, AO.sg, Option.isNone_none, tapeC, hq2]
  refine Cc_of ((next_ok l (a + 1 + 1) 3 (by omega) (in64_small _ (by omega) (by omega)))) ?_
  rintro h' r ⟨rfl, rfl⟩
  simp only [go_sem, ↓reduceIte, Nat.reduceLT, Nat.reduceLeDiff, Nat.reduceEqDiff, Nat.reduceAdd, Nat.reduceMul, Nat.reduceSub, reduceCtorEq, Int.reduceLT, Int.reduceLE, Int.reduceEq, Int.reduceToNat, decide_true, decide_false, Int.reduceNeg, Int.cast_ofNat_Int, sg, AO.sg, Option.isNone_none, tapeC, hq3]
  refine Cc_of ((next_ok l (a + 1 + 1 + 1) 8 (by omega) (in64_small _ (by omega) (by omega)))) ?_
  rintro h' r ⟨rfl, rfl⟩
  simp only [go_sem, ↓reduceIte, Nat.reduceLT, Nat.reduceLeDiff, Nat.reduceEqDiff, Nat.reduceAdd, Nat.reduceMul, Nat.reduceSub, reduceCtorEq, Int.reduceLT, Int.reduceLE, Int.reduceEq, Int.reduceToNat, decide_true, decide_false, Int.reduceNeg, Int.cast_ofNat_Int, sg, AO.sg, Option.isNone_none, tapeC, hq4, hw4, encK_len, encG_len, hnl, encP_len, e1, e2, e3]
  refine Cc_of hF ?_
  rintro h' r ⟨rfl, o, slv, cap, rfl, hcap, hslv⟩
  simp only [go_sem, ↓reduceIte, Nat.reduceLT, Nat.reduceLeDiff, Nat.reduceEqDiff, Nat.reduceAdd, Nat.reduceMul, Nat.reduceSub, reduceCtorEq, Int.reduceLT, Int.reduceLE, Int.reduceEq, Int.reduceToNat, decide_true, decide_false, Int.reduceNeg, Int.cast_ofNat_Int, sg, AO.sg, Option.isNone_none]
  refine Cc_of ((next_ok l (a + 1 + 1 + 1 + 1) 3 (by omega) (in64_small _ (by omega) (by omega)))) ?_
  rintro h' r ⟨rfl, rfl⟩
  simp only [go_sem, ↓reduceIte, Nat.reduceLT, Nat.reduceLeDiff, Nat.reduceEqDiff, Nat.reduceAdd, Nat.reduceMul, Nat.reduceSub, reduceCtorEq, Int.reduceLT, Int.reduceLE, Int.reduceEq, Int.reduceToNat, decide_true, decide_false, Int.reduceNeg, Int.cast_ofNat_Int, sg, AO.sg, Option.isNone_none, tapeC, hq5, hw5]
  refine X_loop_inv (fun q : Nat × Nat × List Int => ⟨[(0, .ptr 1000000 0), (4, .ptr 4 0), (5, .ptr 5 0), (12, .ptr 12 0), (14, .p (.int .i64 (q.1 : Nat)))],
      [(1000000, .box [.p (.sl (encI l)), .p (.int .i64 (q.2.1 : Nat))]), (4, .box [.cl [], .cl [], .cl [], .cl [], .p (.int .i64 0), .p (.int .i64 0), .p (.int .i64 0), .p (.int .i64 0)]),
       (5, .box [.ref 43 0 bl.length bl.length, .ref 48 0 bl.length bl.length, .ref 102 0 sp.length sp.length, .ref 188 0 q.2.2.length q.2.2.length, .p (.int .i64 (1 + q1)), .p (.int .i64 q2), .p (.int .i64 q3), .p (.int .i64 (1 + q4))]),
       (12, .box [.p (.int .i64 (o.length : Nat)), .p (.sl (encI o)), .p (.int .i64 slv), .p (.int .i64 cap)]), (43, .fro 3 (encK bl)), (48, .fro 1 (encG nx)), (102, .fro 6 (encP sp)), (188, .arr 3 1 (encI q.2.2))], 191⟩)
    (fun q => q.1 + q.2.2.length ≤ q5 + 1 ∧ q.2.1 + q.1 ≤ a + 10 ∧ robotsP sp q.2.2) (fun q => q.1) (q5 + 1, a + 1 + 1 + 1 + 1 + 1, []) ⟨by simp, by simp only; omega, fun i hi => by simp at hi⟩
    ((Wk.nilBox (id := 5) (j := 3) (q := 188) (sz := 1) 3 rfl rfl rfl (by decide)).trans (Wk.forget (by simp [Le, LeE, LeH, get, envIds, hpIds, KeepH, D.ids, idsL, AO.ids, setL, base, encI]))) ?_
  rintro ⟨k, b, rb⟩ m3 ⟨hk, hb, hrb⟩ ih
  simp only at hk hb hrb
  have e4 := encI_take rb rb.length (Nat.le_refl _)
  cases c3 : decide (0 < (k : Int))
  · simp only [go_sem, ↓reduceIte, Nat.reduceLT, Nat.reduceLeDiff, Nat.reduceEqDiff, Nat.reduceAdd, Nat.reduceMul, Nat.reduceSub, reduceCtorEq, Int.reduceLT, Int.reduceLE, Int.reduceEq, Int.reduceToNat, decide_true, decide_false, Int.reduceNeg, Int.cast_ofNat_Int, sg, AO.sg, Option.isNone_none, c3]
    refine end_pure ?_
    simp only [go_sem, ↓reduceIte, Nat.reduceLT, Nat.reduceLeDiff, Nat.reduceEqDiff, Nat.reduceAdd, Nat.reduceMul, Nat.reduceSub, reduceCtorEq, Int.reduceLT, Int.reduceLE, Int.reduceEq, Int.reduceToNat, decide_true, decide_false, Int.reduceNeg, Int.cast_ofNat_Int, sg, AO.sg, Option.isNone_none, encK_len, encG_len, hnl, encP_len, encI_len, e1, e2, e3, e4]
    refine ⟨b, ⟨bl, nx, sp, rb, 1 + q1, q2, q3, 1 + q4⟩, by omega, hP rb (by omega) hrb, ?_⟩
    first | exact ⟨rfl, rfl⟩ | rfl | simp [Nt.cs]
  cases c4 : decide ((rb.length : Int) < cap)
  · simp only [go_sem, ↓reduceIte, Nat.reduceLT, Nat.reduceLeDiff, Nat.reduceEqDiff, Nat.reduceAdd, Nat.reduceMul, Nat.reduceSub, reduceCtorEq, Int.reduceLT, Int.reduceLE, Int.reduceEq, Int.reduceToNat, decide_true, decide_false, Int.reduceNeg, Int.cast_ofNat_Int, sg, AO.sg, Option.isNone_none, c3, c4, encI_len]
    refine end_pure ?_
    simp only [go_sem, ↓reduceIte, Nat.reduceLT, Nat.reduceLeDiff, Nat.reduceEqDiff, Nat.reduceAdd, Nat.reduceMul, Nat.reduceSub, reduceCtorEq, Int.reduceLT, Int.reduceLE, Int.reduceEq, Int.reduceToNat, decide_true, decide_false, Int.reduceNeg, Int.cast_ofNat_Int, sg, AO.sg, Option.isNone_none, encK_len, encG_len, hnl, encP_len, encI_len, e1, e2, e3, e4]
    refine ⟨b, ⟨bl, nx, sp, rb, 1 + q1, q2, q3, 1 + q4⟩, by omega, hP rb (by omega) hrb, ?_⟩
    first | exact ⟨rfl, rfl⟩ | rfl | simp [Nt.cs]
  simp only [go_sem, ↓reduceIte, Nat.reduceLT, Nat.reduceLeDiff, Nat.reduceEqDiff, Nat.reduceAdd, Nat.reduceMul, Nat.reduceSub, reduceCtorEq, Int.reduceLT, Int.reduceLE, Int.reduceEq, Int.reduceToNat, decide_true, decide_false, Int.reduceNeg, Int.cast_ofNat_Int, sg, AO.sg, Option.isNone_none, c3, c4, encI_len]
  have hrl : rb.length ≤ 3 := by omega
  have hss := hsp.spurs
  refine X_loop_inv (fun q : Nat × List Int => ⟨[(0, .ptr 1000000 0), (4, .ptr 4 0), (5, .ptr 5 0), (12, .ptr 12 0), (14, .p (.int .i64 (k : Nat))), (15, .ref 177 0 q.2.length q.2.length), (16, .p (.int .i64 (q.1 : Nat)))],
      [(1000000, .box [.p (.sl (encI l)), .p (.int .i64 (b : Nat))]), (4, .box [.cl [], .cl [], .cl [], .cl [], .p (.int .i64 0), .p (.int .i64 0), .p (.int .i64 0), .p (.int .i64 0)]),
       (5, .box [.ref 43 0 bl.length bl.length, .ref 48 0 bl.length bl.length, .ref 102 0 sp.length sp.length, .ref 188 0 rb.length rb.length, .p (.int .i64 (1 + q1)), .p (.int .i64 q2), .p (.int .i64 q3), .p (.int .i64 (1 + q4))]),
       (12, .box [.p (.int .i64 (o.length : Nat)), .p (.sl (encI o)), .p (.int .i64 slv), .p (.int .i64 cap)]), (43, .fro 3 (encK bl)), (48, .fro 1 (encG nx)), (102, .fro 6 (encP sp)), (188, .arr 3 1 (encI rb)), (177, .arr 3 1 (encI q.2))], 191⟩)
    (fun q => q.1 ≤ sp.length ∧ q.2.length ≤ 4 * q.1 ∧ (∀ x ∈ q.2, sp.any (inD x) = true ∧ x ∉ rb) ∧ ∀ u, u < q.1 → ∀ j : Nat, (sp.getD u spr0).depot = true → (j : Int) < (sp.getD u spr0).slots → (sp.getD u spr0).base + (j : Int) ∈ rb ∨ (sp.getD u spr0).base + (j : Int) ∈ q.2)
    (fun q => sp.length - q.1) (0, []) ⟨Nat.zero_le _, by simp, fun x hx => by simp at hx, fun u hu => absurd hu (Nat.not_lt_zero _)⟩
    ((Wk.nil (t := 15) (q := 177) (sz := 1) 3 rfl rfl (by decide)).trans (Wk.forget (by simp [Le, LeE, LeH, get, envIds, hpIds, KeepH, D.ids, idsL, AO.ids, setL, base, encI]))) ?_
  rintro ⟨i, fr⟩ m4 ⟨hi, hfl, hfr, hcov⟩ ih4
  simp only at hi hfl hfr hcov
  cases c5 : decide ((i : Int) < (sp.length : Int))
  rotate_left
  · have hit : i < sp.length := by have := of_decide_eq_true c5; omega
    have hwi := wrap_succ i (by omega)
    have hgs := encP_get sp i hit
    have hi0 : (0 : Int) ≤ (i : Int) ∧ (i : Int) < (sp.length : Int) := by omega
    have hmem := getD_mem sp i spr0 hit
    obtain ⟨_, _, _, _, g5, g6, g7⟩ := hss i hit
    obtain ⟨g8, g9, _⟩ := spur_rng hss hit
    generalize hse : sp.getD i spr0 = s at *
    simp only [go_sem, ↓reduceIte, Nat.reduceLT, Nat.reduceLeDiff, Nat.reduceEqDiff, Nat.reduceAdd, Nat.reduceMul, Nat.reduceSub, reduceCtorEq, Int.reduceLT, Int.reduceLE, Int.reduceEq, Int.reduceToNat, decide_true, decide_false, Int.reduceNeg, Int.cast_ofNat_Int, sg, AO.sg, Option.isNone_none, c5, encP_len]
    refine X_loop_inv (fun q : Nat × List Int => ⟨[(0, .ptr 1000000 0), (4, .ptr 4 0), (5, .ptr 5 0), (12, .ptr 12 0), (14, .p (.int .i64 (k : Nat))), (15, .ref 177 0 q.2.length q.2.length), (16, .p (.int .i64 (i : Nat))), (17, .p (.int .i64 (q.1 : Nat)))],
        [(1000000, .box [.p (.sl (encI l)), .p (.int .i64 (b : Nat))]), (4, .box [.cl [], .cl [], .cl [], .cl [], .p (.int .i64 0), .p (.int .i64 0), .p (.int .i64 0), .p (.int .i64 0)]),
       (5, .box [.ref 43 0 bl.length bl.length, .ref 48 0 bl.length bl.length, .ref 102 0 sp.length sp.length, .ref 188 0 rb.length rb.length, .p (.int .i64 (1 + q1)), .p (.int .i64 q2), .p (.int .i64 q3), .p (.int .i64 (1 + q4))]),
       (12, .box [.p (.int .i64 (o.length : Nat)), .p (.sl (encI o)), .p (.int .i64 slv), .p (.int .i64 cap)]), (43, .fro 3 (encK bl)), (48, .fro 1 (encG nx)), (102, .fro 6 (encP sp)), (188, .arr 3 1 (encI rb)), (177, .arr 3 1 (encI q.2))], 191⟩)
      (fun q => q.1 ≤ 4 ∧ (q.1 : Int) ≤ s.slots ∧ q.2.length ≤ 4 * i + q.1 ∧ (∀ x ∈ q.2, sp.any (inD x) = true ∧ x ∉ rb) ∧ (∀ u, u < i → ∀ j : Nat, (sp.getD u spr0).depot = true → (j : Int) < (sp.getD u spr0).slots → (sp.getD u spr0).base + (j : Int) ∈ rb ∨ (sp.getD u spr0).base + (j : Int) ∈ q.2) ∧ ∀ j : Nat, j < q.1 → s.base + (j : Int) ∈ rb ∨ s.base + (j : Int) ∈ q.2)
      (fun q => 4 - q.1) (0, fr) ⟨by simp, by simp only; omega, by simp only; omega, hfr, hcov, fun j hj => absurd hj (Nat.not_lt_zero _)⟩ (Wk.forget (by simp [Le, LeE, LeH, get, envIds, hpIds, KeepH, D.ids, idsL, AO.ids, setL, base, encI])) ?_
    rintro ⟨j, f2⟩ m5 ⟨hj4, hjs, hf2l, hf2, hcov2, hcj⟩ ih5
    simp only at hj4 hjs hf2l hf2 hcov2 hcj
    have hstep : (¬ ((j : Int) < s.slots) ∨ s.depot = false) → ∀ u, u < i + 1 → ∀ j : Nat, (sp.getD u spr0).depot = true → (j : Int) < (sp.getD u spr0).slots → (sp.getD u spr0).base + (j : Int) ∈ rb ∨ (sp.getD u spr0).base + (j : Int) ∈ f2 := by
      intro hx u hu v hd hv
      rcases Nat.lt_succ_iff_lt_or_eq.1 hu with h5 | rfl
      · exact hcov2 u h5 v hd hv
      · rw [hse] at hd hv ⊢
        rcases hx with hx | hx
        · exact hcj v (by omega)
        · rw [hx] at hd; cases hd
    cases c6 : decide ((j : Int) < s.slots)
    · simp only [go_sem, ↓reduceIte, Nat.reduceLT, Nat.reduceLeDiff, Nat.reduceEqDiff, Nat.reduceAdd, Nat.reduceMul, Nat.reduceSub, reduceCtorEq, Int.reduceLT, Int.reduceLE, Int.reduceEq, Int.reduceToNat, decide_true, decide_false, Int.reduceNeg, Int.cast_ofNat_Int, sg, AO.sg, Option.isNone_none, encP_len, Int.toNat_natCast, hgs, hi0, c6, hwi]
      refine ih4 (i + 1, f2) _ ⟨hit, by simp only; omega, hf2, hstep (.inl (of_decide_eq_false c6))⟩ (by simp only; omega) ?_
      (refine Wk.forget ?_; simp [Le, LeE, LeH, get, envIds, hpIds, KeepH, D.ids, idsL, AO.ids, setL, base]; done)
    cases c7 : s.depot
    · simp only [go_sem, ↓reduceIte, Nat.reduceLT, Nat.reduceLeDiff, Nat.reduceEqDiff, Nat.reduceAdd, Nat.reduceMul, Nat.reduceSub, reduceCtorEq, Int.reduceLT, Int.reduceLE, Int.reduceEq, Int.reduceToNat, decide_true, decide_false, Int.reduceNeg, Int.cast_ofNat_Int, sg, AO.sg, Option.isNone_none, encP_len, Int.toNat_natCast, hgs, hi0, c6, c7, hwi]
      refine ih4 (i + 1, f2) _ ⟨hit, by simp only; omega, hf2, hstep (.inr c7)⟩ (by simp only; omega) ?_
      (refine Wk.forget ?_; simp [Le, LeE, LeH, get, envIds, hpIds, KeepH, D.ids, idsL, AO.ids, setL, base]; done)
    have hjt := of_decide_eq_true c6
    have hwj := wrap_succ j (by omega)
    have hwx : IntKind.i64.wrap (s.base + (j : Int)) = s.base + (j : Int) := by rw [wrap_i64_id] <;> omega
    have hin : sp.any (inD (s.base + (j : Int))) = true := by
      rw [List.any_eq_true]
      exact ⟨s, hmem, by unfold inD; rw [c7]; simp; omega⟩
    simp only [go_sem, ↓reduceIte, Nat.reduceLT, Nat.reduceLeDiff, Nat.reduceEqDiff, Nat.reduceAdd, Nat.reduceMul, Nat.reduceSub, reduceCtorEq, Int.reduceLT, Int.reduceLE, Int.reduceEq, Int.reduceToNat, decide_true, decide_false, Int.reduceNeg, Int.cast_ofNat_Int, sg, AO.sg, Option.isNone_none, encP_len, Int.toNat_natCast, hgs, hi0, c6, c7, hwx, encI_len, e4]
    refine Cc_own rfl rfl ?_
    simp only [go_sem, ↓reduceIte, Nat.reduceLT, Nat.reduceLeDiff, Nat.reduceEqDiff, Nat.reduceAdd, Nat.reduceMul, Nat.reduceSub, reduceCtorEq, Int.reduceLT, Int.reduceLE, Int.reduceEq, Int.reduceToNat, decide_true, decide_false, Int.reduceNeg, Int.cast_ofNat_Int, sg, AO.sg, Option.isNone_none, callD_eq]
    refine Kc_of (has_own rb (s.base + (j : Int)) (by omega)) ?_
    rintro h' r ⟨rfl, rfl⟩
    simp only [go_sem, ↓reduceIte, Nat.reduceLT, Nat.reduceLeDiff, Nat.reduceEqDiff, Nat.reduceAdd, Nat.reduceMul, Nat.reduceSub, reduceCtorEq, Int.reduceLT, Int.reduceLE, Int.reduceEq, Int.reduceToNat, decide_true, decide_false, Int.reduceNeg, Int.cast_ofNat_Int, sg, AO.sg, Option.isNone_none]
    cases c8 : decide (s.base + (j : Int) ∈ rb)
    rotate_left
    · simp only [go_sem, ↓reduceIte, Nat.reduceLT, Nat.reduceLeDiff, Nat.reduceEqDiff, Nat.reduceAdd, Nat.reduceMul, Nat.reduceSub, reduceCtorEq, Int.reduceLT, Int.reduceLE, Int.reduceEq, Int.reduceToNat, decide_true, decide_false, Int.reduceNeg, Int.cast_ofNat_Int, sg, AO.sg, Option.isNone_none, c8, hwj]
      refine ih5 (j + 1, f2) _ ⟨by simp only; omega, by simp only; omega, by simp only; omega, hf2, hcov2, fun v hv => ?_⟩ (by simp only; omega) ?_
      · rcases Nat.lt_succ_iff_lt_or_eq.1 hv with h5 | rfl
        · exact hcj v h5
        · exact .inl (of_decide_eq_true c8)
      · (refine Wk.forget ?_; simp [Le, LeE, LeH, get, envIds, hpIds, KeepH, D.ids, idsL, AO.ids, setL, base]; done)
    · simp only [go_sem, ↓reduceIte, Nat.reduceLT, Nat.reduceLeDiff, Nat.reduceEqDiff, Nat.reduceAdd, Nat.reduceMul, Nat.reduceSub, reduceCtorEq, Int.reduceLT, Int.reduceLE, Int.reduceEq, Int.reduceToNat, decide_true, decide_false, Int.reduceNeg, Int.cast_ofNat_Int, sg, AO.sg, Option.isNone_none, c8, encI_len]
      refine ⟨⟨wid1 _ _ rfl, by omega⟩, ?_⟩
      simp only [go_sem, ↓reduceIte, Nat.reduceLT, Nat.reduceLeDiff, Nat.reduceEqDiff, Nat.reduceAdd, Nat.reduceMul, Nat.reduceSub, reduceCtorEq, Int.reduceLT, Int.reduceLE, Int.reduceEq, Int.reduceToNat, decide_true, decide_false, Int.reduceNeg, Int.cast_ofNat_Int, sg, AO.sg, Option.isNone_none, hwj]
      refine ih5 (j + 1, f2 ++ [s.base + (j : Int)]) _ ⟨by simp only; omega, by simp only; omega, by simp; omega, fun x hx => ?_, fun u hu v hd hv => ?_, fun v hv => ?_⟩ (by simp only; omega) ?_
      · rcases List.mem_append.1 hx with hx | hx
        · exact hf2 x hx
        · rw [List.mem_singleton] at hx; subst hx; exact ⟨hin, of_decide_eq_false c8⟩
      · rcases hcov2 u hu v hd hv with h5 | h5
        · exact .inl h5
        · exact .inr (List.mem_append_left _ h5)
      · rcases Nat.lt_succ_iff_lt_or_eq.1 hv with h5 | rfl
        · rcases hcj v h5 with h6 | h6
          · exact .inl h6
          · exact .inr (List.mem_append_left _ h6)
        · exact .inr (by simp)
      · (refine Wk.forget ?_; simp [Le, LeE, LeH, get, envIds, hpIds, KeepH, D.ids, idsL, AO.ids, setL, base, encI_snoc, encI_len]; done)
  have hie : i = sp.length := by have := of_decide_eq_false c5; omega
  subst hie
  obtain ⟨s, hs, j, hd, hj, hnot⟩ := free_slot hss _ (rb := rb) (by have := of_decide_eq_true c4; rw [hslv] at hcap; exact Int.lt_of_lt_of_le this hcap)
  obtain ⟨u, hu, rfl⟩ := List.mem_iff_getElem.1 hs
  have hfne : 0 < fr.length := by
    have h5 := hcov u hu j (by rw [getD_eq hu]; exact hd) (by rw [getD_eq hu]; exact hj)
    rw [getD_eq hu] at h5
    exact List.length_pos_of_mem (h5.resolve_left hnot)
  obtain ⟨v, hv, hvl⟩ := nextV_rng l b fr.length (by omega)
  have hkp : 1 ≤ k := by have := of_decide_eq_true c3; omega
  obtain ⟨k, rfl⟩ : ∃ j, k = j + 1 := ⟨k - 1, by omega⟩
  have hwk := wrap_pred k (by omega)
  have hgv := encI_get fr v (by omega)
  have hv0 : (0 : Int) ≤ (v : Int) ∧ (v : Int) < (fr.length : Int) := by omega
  have hx := hfr _ (getD_mem fr v 0 (by omega))
  simp only [go_sem, ↓reduceIte, Nat.reduceLT, Nat.reduceLeDiff, Nat.reduceEqDiff, Nat.reduceAdd, Nat.reduceMul, Nat.reduceSub, reduceCtorEq, Int.reduceLT, Int.reduceLE, Int.reduceEq, Int.reduceToNat, decide_true, decide_false, Int.reduceNeg, Int.cast_ofNat_Int, sg, AO.sg, Option.isNone_none, c5, encP_len]
  refine X_any [(5, .box [.ref 43 0 bl.length bl.length, .ref 48 0 bl.length bl.length, .ref 102 0 sp.length sp.length, .ref 188 0 rb.length rb.length, .p (.int .i64 (1 + q1)), .p (.int .i64 q2), .p (.int .i64 q3), .p (.int .i64 (1 + q4))]), (177, .arr 3 1 (encI fr))] mixed (p := [(0, 0), (1, 0), (2, 0), (3, 0), (4, 0), (5, 0), (6, 2), (7, 0), (8, 0), (9, 1), (10, 2), (11, 0), (12, 3)]) (by kernel_rfl) (by simp [LeH, get]) ?_
  simp only [go_sem, ↓reduceIte, Nat.reduceLT, Nat.reduceLeDiff, Nat.reduceEqDiff, Nat.reduceAdd, Nat.reduceMul, Nat.reduceSub, reduceCtorEq, Int.reduceLT, Int.reduceLE, Int.reduceEq, Int.reduceToNat, decide_true, decide_false, Int.reduceNeg, Int.cast_ofNat_Int, sg, AO.sg, Option.isNone_none, encI_len]
  refine Gh_of ((next_ok l b fr.length (by omega) (in64_small _ (by omega) (by omega)))) ?_
  rintro h' r ⟨rfl, rfl⟩
  simp only [go_sem, ↓reduceIte, Nat.reduceLT, Nat.reduceLeDiff, Nat.reduceEqDiff, Nat.reduceAdd, Nat.reduceMul, Nat.reduceSub, reduceCtorEq, Int.reduceLT, Int.reduceLE, Int.reduceEq, Int.reduceToNat, decide_true, decide_false, Int.reduceNeg, Int.cast_ofNat_Int, sg, AO.sg, Option.isNone_none, tapeC, hv, encI_len, Int.toNat_natCast, hgv, hv0]
  refine ⟨⟨wid1 _ _ rfl, by omega⟩, ?_⟩
  simp only [go_sem, ↓reduceIte, Nat.reduceLT, Nat.reduceLeDiff, Nat.reduceEqDiff, Nat.reduceAdd, Nat.reduceMul, Nat.reduceSub, reduceCtorEq, Int.reduceLT, Int.reduceLE, Int.reduceEq, Int.reduceToNat, decide_true, decide_false, Int.reduceNeg, Int.cast_ofNat_Int, sg, AO.sg, Option.isNone_none, hwk]
  refine ih (k, b + 1, rb ++ [fr.getD v 0]) _ ⟨by simp; omega, by simp only; omega, robotsP_snoc hrb hx.1 hx.2⟩ (by simp only; omega) ?_
  (refine Wk.forget ?_; simp [Le, LeE, LeH, get, envIds, hpIds, KeepH, D.ids, idsL, AO.ids, setL, base, encI_snoc, encI_len]; done)
end Go.Am
end
