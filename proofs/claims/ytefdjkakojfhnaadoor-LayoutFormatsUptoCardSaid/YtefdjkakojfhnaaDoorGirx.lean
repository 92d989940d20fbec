/- The reference's First, through and Girth. -/
import Derived.Test.YtefdjkakojfhnaaDoorGirw
namespace Go.Am
open Go Go.Proofs
set_option maxRecDepth 100000
set_option linter.unusedVariables false
set_option linter.unusedSimpArgs false
theorem wid_encI (l : List Int) : Wid 1 (encI l) := by
  intro e he
  unfold encI at he
  obtain ⟨x, _, rfl⟩ := List.mem_map.1 he
  rfl
theorem hop_next {g : List (List Int)} (hg : gphP g) (sh : List Bool) {goal cur : Nat} (hgoal : goal < g.length) (hc : cur < g.length) (hne : cur ≠ goal) (h0 : 0 ≤ (distV g sh goal).getD cur 0) :
    ∃ w : Nat, hopV g (distV g sh goal) cur = (w : Int) ∧ w < g.length ∧ (distV g sh goal).getD w 0 = (distV g sh goal).getD cur 0 - 1 ∧ 1 ≤ (distV g sh goal).getD cur 0 := by
  have hdp := (distV_DP hg sh goal hgoal).2 cur hc
  generalize distV g sh goal = ds at *
  rcases hdp with h | h | ⟨h1, h2, w, h3, h4⟩
  · omega
  · exact absurd h.2 hne
  · unfold hopV
    rw [if_pos (by omega)]
    have hs : ((g.getD cur []).find? (fun w => decide (ds.getD w.toNat 0 = ds.getD cur 0 - 1))).isSome := by
      rw [List.find?_isSome]
      exact ⟨w, h3, decide_eq_true h4⟩
    obtain ⟨u, hu⟩ := Option.isSome_iff_exists.1 hs
    have hm := List.mem_of_find?_eq_some hu
    have hp : ds.getD u.toNat 0 = ds.getD cur 0 - 1 := by have := List.find?_some hu; simpa using this
    obtain ⟨k, hk, hku⟩ := List.mem_iff_getElem.1 hm
    obtain ⟨x, hx1, hx2, _⟩ := row_in hg hc hk
    rw [getD_eq hk, hku] at hx1
    rw [hu]
    subst hx1
    exact ⟨x, rfl, hx2, by simpa using hp, h1⟩
theorem first_ok (g : List (List Int)) (sh : List Bool) (src goal : Nat) (hg : gphP g) (hsh : sh.length = g.length) (hgoal : goal < g.length) (hsrc : src < g.length) (h0 : 0 ≤ (distV g sh goal).getD src 0) :
    ACalls Tryd.prog 106 [.p (.sl (encG g)), .p (.sl (encT sh)), .p (.int .i64 (src : Nat)), .p (.int .i64 (goal : Nat))] [] fun h r => h = [] ∧ ∃ o : List Int, r = .p (.sl (encI o)) ∧ 1 ≤ o.length ∧ o.length ≤ 26 := by
  have hDl := distV_len g sh goal
  have hnext : ∀ cur, cur < g.length → cur ≠ goal → 0 ≤ (distV g sh goal).getD cur 0 → _ := fun cur hc hne h => hop_next hg sh hgoal hc hne h
  have hrng := (distV_rng hg sh hgoal hsrc).2
  have hd := dist_ok g sh goal hg hsh hgoal
  have hh := hops_ok g sh goal hg hsh hgoal
  refine ACalls_X Tryd.func106 rfl enters106 (by simp [Tryd.f106]) ?_
  simp only [go_sem, ↓reduceIte, Nat.reduceLT, Nat.reduceLeDiff, Nat.reduceEqDiff, Nat.reduceAdd, Nat.reduceMul, Nat.reduceSub, reduceCtorEq, Int.reduceLT, Int.reduceLE, Int.reduceEq, Int.reduceToNat, decide_true, decide_false, Int.reduceNeg, Int.cast_ofNat_Int, sg, AO.sg, Option.isNone_none]
  refine Cc_of ((hd)) ?_
  rintro h' r ⟨rfl, rfl⟩
  generalize distV g sh goal = ds at *
  clear hd
  have hDv := encI_get ds src (by omega)
  have hs0 : (0 : Int) ≤ (src : Int) ∧ (src : Int) < (g.length : Int) := by omega
  have hneg : ¬ ds.getD src 0 < 0 := by omega
  simp only [go_sem, ↓reduceIte, Nat.reduceLT, Nat.reduceLeDiff, Nat.reduceEqDiff, Nat.reduceAdd, Nat.reduceMul, Nat.reduceSub, reduceCtorEq, Int.reduceLT, Int.reduceLE, Int.reduceEq, Int.reduceToNat, decide_true, decide_false, Int.reduceNeg, Int.cast_ofNat_Int, sg, AO.sg, Option.isNone_none, encI_len, hDl, Int.toNat_natCast, hDv, hs0, hneg]
  refine Cc_of hh ?_
  rintro h' r ⟨rfl, hp, rfl, hpl, hpv⟩
  simp only [go_sem, ↓reduceIte, Nat.reduceLT, Nat.reduceLeDiff, Nat.reduceEqDiff, Nat.reduceAdd, Nat.reduceMul, Nat.reduceSub, reduceCtorEq, Int.reduceLT, Int.reduceLE, Int.reduceEq, Int.reduceToNat, decide_true, decide_false, Int.reduceNeg, Int.cast_ofNat_Int, sg, AO.sg, Option.isNone_none]
  refine X_loop_inv (fun q : Nat × List Int => ⟨[(2, .p (.int .i64 (q.1 : Nat))), (3, .p (.int .i64 (goal : Nat))), (9, .p (.sl (encI hp))), (10, .ref 24 0 q.2.length q.2.length)], [(24, .arr 3 1 (encI q.2))], 37⟩)
    (fun q => q.1 < g.length ∧ 0 ≤ ds.getD q.1 0 ∧ 1 ≤ q.2.length ∧ (q.2.length : Int) + ds.getD q.1 0 ≤ 25) (fun q => (ds.getD q.1 0).toNat) (src, [(src : Int)]) ⟨hsrc, h0, Nat.le_refl _, by show ((1 : Nat) : Int) + ds.getD src 0 ≤ 25; omega⟩ (Wk.forget (by simp [Le, LeE, LeH, get, envIds, hpIds, KeepH, D.ids, idsL, AO.ids, setL, base, encI])) ?_
  rintro ⟨cur, o⟩ m ⟨hc, hc0, ho1, ho2⟩ ih
  simp only at hc hc0 ho1 ho2
  simp only [go_sem, ↓reduceIte, Nat.reduceLT, Nat.reduceLeDiff, Nat.reduceEqDiff, Nat.reduceAdd, Nat.reduceMul, Nat.reduceSub, reduceCtorEq, Int.reduceLT, Int.reduceLE, Int.reduceEq, Int.reduceToNat, decide_true, decide_false, Int.reduceNeg, Int.cast_ofNat_Int, sg, AO.sg, Option.isNone_none]
  cases c1 : decide ((cur : Int) = (goal : Int))
  · have hne : cur ≠ goal := fun e => of_decide_eq_false c1 (by rw [e])
    obtain ⟨w, hw1, hw2, hw3, hw4⟩ := hnext cur hc hne hc0
    have hgc := encI_get hp cur (by omega)
    rw [hpv cur hc, hw1] at hgc
    have hc2 : (0 : Int) ≤ (cur : Int) ∧ (cur : Int) < (g.length : Int) := by omega
    simp only [go_sem, ↓reduceIte, Nat.reduceLT, Nat.reduceLeDiff, Nat.reduceEqDiff, Nat.reduceAdd, Nat.reduceMul, Nat.reduceSub, reduceCtorEq, Int.reduceLT, Int.reduceLE, Int.reduceEq, Int.reduceToNat, decide_true, decide_false, Int.reduceNeg, Int.cast_ofNat_Int, sg, AO.sg, Option.isNone_none, c1, encI_len, hpl, Int.toNat_natCast, hgc, hc2]
    refine ⟨⟨wid1 _ _ rfl, by omega⟩, ?_⟩
    refine ih (w, o ++ [(w : Int)]) _ ⟨hw2, by simp only; omega, by simp, by show (((o ++ [(w : Int)]).length : Nat) : Int) + ds.getD w 0 ≤ 25; rw [List.length_append, List.length_singleton]; omega⟩ (by simp only; omega) ?_
    (refine Wk.forget ?_; simp [Le, LeE, LeH, get, envIds, hpIds, KeepH, D.ids, idsL, AO.ids, setL, base, encI_snoc, encI_len]; done)
  · simp only [go_sem, ↓reduceIte, Nat.reduceLT, Nat.reduceLeDiff, Nat.reduceEqDiff, Nat.reduceAdd, Nat.reduceMul, Nat.reduceSub, reduceCtorEq, Int.reduceLT, Int.reduceLE, Int.reduceEq, Int.reduceToNat, decide_true, decide_false, Int.reduceNeg, Int.cast_ofNat_Int, sg, AO.sg, Option.isNone_none, c1]
    refine end_pure ?_
    simp only [go_sem, ↓reduceIte, Nat.reduceLT, Nat.reduceLeDiff, Nat.reduceEqDiff, Nat.reduceAdd, Nat.reduceMul, Nat.reduceSub, reduceCtorEq, Int.reduceLT, Int.reduceLE, Int.reduceEq, Int.reduceToNat, decide_true, decide_false, Int.reduceNeg, Int.cast_ofNat_Int, sg, AO.sg, Option.isNone_none]
    refine ⟨by rw [encI_len], o, ?_, ho1, by omega⟩
    rw [encI_take _ _ (Nat.le_refl _)]
set_option maxHeartbeats 800000 in
theorem through_ok (g : List (List Int)) (sh : List Bool) (v : Nat) (hg : gphP g) (hsh : sh.length = g.length) (hv : v < g.length) :
    ACalls Tryd.prog 92 [.p (.sl (encG g)), .p (.sl (encT sh)), .p (.int .i64 (v : Nat))] [] fun h r => h = [] ∧ ∃ o : List Int, r = .p (.sl (encI o)) ∧ o.length ≤ 30 := by
  have hDl := distV_len g sh v
  have hd := dist_ok g sh v hg hsh hv
  have hf := fun src hs h0 => first_ok g sh src v hg hsh hv hs h0
  have hgs := encT_get sh v (by omega)
  have hv0 : (0 : Int) ≤ (v : Int) ∧ (v : Int) < (g.length : Int) := by omega
  refine ACalls_X Tryd.func92 rfl enters92 (by simp [Tryd.f92]) ?_
  simp only [go_sem, ↓reduceIte, Nat.reduceLT, Nat.reduceLeDiff, Nat.reduceEqDiff, Nat.reduceAdd, Nat.reduceMul, Nat.reduceSub, reduceCtorEq, Int.reduceLT, Int.reduceLE, Int.reduceEq, Int.reduceToNat, decide_true, decide_false, Int.reduceNeg, Int.cast_ofNat_Int, sg, AO.sg, Option.isNone_none, encT_len, hsh, Int.toNat_natCast, hgs, hv0]
  cases hs : sh.getD v false
  rotate_left
  · simp only [go_sem, ↓reduceIte, Nat.reduceLT, Nat.reduceLeDiff, Nat.reduceEqDiff, Nat.reduceAdd, Nat.reduceMul, Nat.reduceSub, reduceCtorEq, Int.reduceLT, Int.reduceLE, Int.reduceEq, Int.reduceToNat, decide_true, decide_false, Int.reduceNeg, Int.cast_ofNat_Int, sg, AO.sg, Option.isNone_none, hs]
    refine end_pure ?_
    simp only [go_sem, ↓reduceIte, Nat.reduceLT, Nat.reduceLeDiff, Nat.reduceEqDiff, Nat.reduceAdd, Nat.reduceMul, Nat.reduceSub, reduceCtorEq, Int.reduceLT, Int.reduceLE, Int.reduceEq, Int.reduceToNat, decide_true, decide_false, Int.reduceNeg, Int.cast_ofNat_Int, sg, AO.sg, Option.isNone_none]
    exact ⟨[], rfl, by simp⟩
  simp only [go_sem, ↓reduceIte, Nat.reduceLT, Nat.reduceLeDiff, Nat.reduceEqDiff, Nat.reduceAdd, Nat.reduceMul, Nat.reduceSub, reduceCtorEq, Int.reduceLT, Int.reduceLE, Int.reduceEq, Int.reduceToNat, decide_true, decide_false, Int.reduceNeg, Int.cast_ofNat_Int, sg, AO.sg, Option.isNone_none, hs]
  refine Cc_of ((hd)) ?_
  rintro h' r ⟨rfl, rfl⟩
  generalize distV g sh v = ds at *
  clear hd hs hgs
  have hrow : ∀ k, k < (g.getD v []).length → ∃ w : Nat, (g.getD v []).getD k 0 = (w : Int) ∧ w < g.length ∧ w ≠ v := fun k hk => row_in hg hv hk
  have hrl := row_len hg hv
  have hgv := encG_get g v hv
  generalize g.getD v [] = row at *
  simp only [go_sem, ↓reduceIte, Nat.reduceLT, Nat.reduceLeDiff, Nat.reduceEqDiff, Nat.reduceAdd, Nat.reduceMul, Nat.reduceSub, reduceCtorEq, Int.reduceLT, Int.reduceLE, Int.reduceEq, Int.reduceToNat, decide_true, decide_false, Int.reduceNeg, Int.cast_ofNat_Int, sg, AO.sg, Option.isNone_none]
  refine X_loop_inv (fun q : Nat × Int => ⟨[(0, .p (.sl (encG g))), (1, .p (.sl (encT sh))), (2, .p (.int .i64 (v : Nat))), (7, .p (.sl (encI ds))), (8, .p (.int .i64 q.2)), (9, .p (.int .i64 (q.1 : Nat)))], [], 72⟩)
    (fun q => q.1 ≤ row.length ∧ (q.2 = -1 ∨ ∃ b : Nat, q.2 = (b : Int) ∧ b < g.length ∧ 0 ≤ ds.getD b 0)) (fun q => row.length - q.1) (0, -1) ⟨Nat.zero_le _, .inl rfl⟩ (Wk.forget (by simp [Le, LeE, LeH, get, envIds, hpIds, KeepH, D.ids, idsL, AO.ids, setL, base])) ?_
  rintro ⟨k, bst⟩ m ⟨hk, hb⟩ ih
  simp only at hk hb
  simp only [go_sem, ↓reduceIte, Nat.reduceLT, Nat.reduceLeDiff, Nat.reduceEqDiff, Nat.reduceAdd, Nat.reduceMul, Nat.reduceSub, reduceCtorEq, Int.reduceLT, Int.reduceLE, Int.reduceEq, Int.reduceToNat, decide_true, decide_false, Int.reduceNeg, Int.cast_ofNat_Int, sg, AO.sg, Option.isNone_none, encG_len, encI_len, Int.toNat_natCast, hgv, hv0]
  refine Cn_split (fun h3 => ?_) (fun h3 => ?_)
  · have hkt : k < row.length := by simp at h3; omega
    have hwk := wrap_succ k (by omega)
    obtain ⟨w, hw, hwl, _⟩ := hrow k hkt
    have hgk := encI_get row k hkt
    rw [hw] at hgk
    have hk0 : (0 : Int) ≤ (k : Int) ∧ (k : Int) < (row.length : Int) := by omega
    have hw0 : (0 : Int) ≤ (w : Int) ∧ (w : Int) < (g.length : Int) := by omega
    have hDw := encI_get ds w (by omega)
    simp only [go_sem, ↓reduceIte, Nat.reduceLT, Nat.reduceLeDiff, Nat.reduceEqDiff, Nat.reduceAdd, Nat.reduceMul, Nat.reduceSub, reduceCtorEq, Int.reduceLT, Int.reduceLE, Int.reduceEq, Int.reduceToNat, decide_true, decide_false, Int.reduceNeg, Int.cast_ofNat_Int, sg, AO.sg, Option.isNone_none, encG_len, encI_len, Int.toNat_natCast, hgv, hv0, hgk, hk0]
    refine X_any0 mixed (p := [(0, 0), (1, 0), (2, 0), (3, 0), (4, 0), (5, 0), (6, 0), (7, 0), (8, 0), (9, 0), (10, 0), (11, 0), (12, 0), (13, 0), (14, 0), (15, 0), (16, 0), (17, 0), (18, 0), (19, 0)]) (by kernel_rfl) (by simp [LeH, get]) ?_
    cases c1 : decide (0 ≤ ds.getD w 0)
    · simp only [go_sem, ↓reduceIte, Nat.reduceLT, Nat.reduceLeDiff, Nat.reduceEqDiff, Nat.reduceAdd, Nat.reduceMul, Nat.reduceSub, reduceCtorEq, Int.reduceLT, Int.reduceLE, Int.reduceEq, Int.reduceToNat, decide_true, decide_false, Int.reduceNeg, Int.cast_ofNat_Int, sg, AO.sg, Option.isNone_none, encI_len, hDl, Int.toNat_natCast, hDw, hw0, c1, hwk]
      refine ih (k + 1, bst) _ ⟨hkt, hb⟩ (by simp only; omega) ?_
      (refine Wk.forget ?_; simp [Le, LeE, LeH, get, envIds, hpIds, KeepH, D.ids, idsL, AO.ids, setL, base]; done)
    have hnw : ∃ b : Nat, (w : Int) = (b : Int) ∧ b < g.length ∧ 0 ≤ ds.getD b 0 := ⟨w, rfl, hwl, of_decide_eq_true c1⟩
    rcases hb with rfl | ⟨b, rfl, hbl, hb0⟩
    · simp only [go_sem, ↓reduceIte, Nat.reduceLT, Nat.reduceLeDiff, Nat.reduceEqDiff, Nat.reduceAdd, Nat.reduceMul, Nat.reduceSub, reduceCtorEq, Int.reduceLT, Int.reduceLE, Int.reduceEq, Int.reduceToNat, decide_true, decide_false, Int.reduceNeg, Int.cast_ofNat_Int, sg, AO.sg, Option.isNone_none, encI_len, hDl, Int.toNat_natCast, hDw, hw0, c1, hwk]
      refine ih (k + 1, (w : Int)) _ ⟨hkt, .inr hnw⟩ (by simp only; omega) ?_
      (refine Wk.forget ?_; simp [Le, LeE, LeH, get, envIds, hpIds, KeepH, D.ids, idsL, AO.ids, setL, base]; done)
    · have hDb := encI_get ds b (by omega)
      have hbi : (0 : Int) ≤ (b : Int) ∧ (b : Int) < (g.length : Int) := by omega
      have hbn : ¬ (b : Int) < 0 := by omega
      cases c2 : decide (ds.getD w 0 < ds.getD b 0)
      · simp only [go_sem, ↓reduceIte, Nat.reduceLT, Nat.reduceLeDiff, Nat.reduceEqDiff, Nat.reduceAdd, Nat.reduceMul, Nat.reduceSub, reduceCtorEq, Int.reduceLT, Int.reduceLE, Int.reduceEq, Int.reduceToNat, decide_true, decide_false, Int.reduceNeg, Int.cast_ofNat_Int, sg, AO.sg, Option.isNone_none, encI_len, hDl, Int.toNat_natCast, hDw, hw0, c1, hbn, hDb, hbi, c2, hwk]
        refine ih (k + 1, (b : Int)) _ ⟨hkt, .inr ⟨b, rfl, hbl, hb0⟩⟩ (by simp only; omega) ?_
        (refine Wk.forget ?_; simp [Le, LeE, LeH, get, envIds, hpIds, KeepH, D.ids, idsL, AO.ids, setL, base]; done)
      · simp only [go_sem, ↓reduceIte, Nat.reduceLT, Nat.reduceLeDiff, Nat.reduceEqDiff, Nat.reduceAdd, Nat.reduceMul, Nat.reduceSub, reduceCtorEq, Int.reduceLT, Int.reduceLE, Int.reduceEq, Int.reduceToNat, decide_true, decide_false, Int.reduceNeg, Int.cast_ofNat_Int, sg, AO.sg, Option.isNone_none, encI_len, hDl, Int.toNat_natCast, hDw, hw0, c1, hbn, hDb, hbi, c2, hwk]
        refine ih (k + 1, (w : Int)) _ ⟨hkt, .inr hnw⟩ (by simp only; omega) ?_
        (refine Wk.forget ?_; simp [Le, LeE, LeH, get, envIds, hpIds, KeepH, D.ids, idsL, AO.ids, setL, base]; done)
  · rcases hb with rfl | ⟨b, rfl, hbl, hb0⟩
    · simp only [go_sem, ↓reduceIte, Nat.reduceLT, Nat.reduceLeDiff, Nat.reduceEqDiff, Nat.reduceAdd, Nat.reduceMul, Nat.reduceSub, reduceCtorEq, Int.reduceLT, Int.reduceLE, Int.reduceEq, Int.reduceToNat, decide_true, decide_false, Int.reduceNeg, Int.cast_ofNat_Int, sg, AO.sg, Option.isNone_none]
      refine end_pure ?_
      simp only [go_sem, ↓reduceIte, Nat.reduceLT, Nat.reduceLeDiff, Nat.reduceEqDiff, Nat.reduceAdd, Nat.reduceMul, Nat.reduceSub, reduceCtorEq, Int.reduceLT, Int.reduceLE, Int.reduceEq, Int.reduceToNat, decide_true, decide_false, Int.reduceNeg, Int.cast_ofNat_Int, sg, AO.sg, Option.isNone_none]
      exact ⟨[], rfl, by simp⟩
    · have hbn : ¬ (b : Int) < 0 := by omega
      simp only [go_sem, ↓reduceIte, Nat.reduceLT, Nat.reduceLeDiff, Nat.reduceEqDiff, Nat.reduceAdd, Nat.reduceMul, Nat.reduceSub, reduceCtorEq, Int.reduceLT, Int.reduceLE, Int.reduceEq, Int.reduceToNat, decide_true, decide_false, Int.reduceNeg, Int.cast_ofNat_Int, sg, AO.sg, Option.isNone_none, hbn]
      refine Cc_of (hf b hbl hb0) ?_
      rintro h' r ⟨rfl, o, rfl, ho1, ho2⟩
      have hwo : IntKind.i64.wrap ((o.length : Int) - 1) = ((o.length - 1 : Nat) : Int) := by rw [wrap_i64_id] <;> omega
      simp only [go_sem, ↓reduceIte, Nat.reduceLT, Nat.reduceLeDiff, Nat.reduceEqDiff, Nat.reduceAdd, Nat.reduceMul, Nat.reduceSub, reduceCtorEq, Int.reduceLT, Int.reduceLE, Int.reduceEq, Int.reduceToNat, decide_true, decide_false, Int.reduceNeg, Int.cast_ofNat_Int, sg, AO.sg, Option.isNone_none, encI_len, hwo, Int.toNat_natCast, encI_take2]
      have htl : (o.take (o.length - 1)).length ≤ o.length := by simp
      refine ⟨⟨by omega, wid_encI _⟩, ?_⟩
      refine ⟨⟨wid_encI _, by omega⟩, ?_⟩
      refine end_pure ?_
      simp only [go_sem, ↓reduceIte, Nat.reduceLT, Nat.reduceLeDiff, Nat.reduceEqDiff, Nat.reduceAdd, Nat.reduceMul, Nat.reduceSub, reduceCtorEq, Int.reduceLT, Int.reduceLE, Int.reduceEq, Int.reduceToNat, decide_true, decide_false, Int.reduceNeg, Int.cast_ofNat_Int, sg, AO.sg, Option.isNone_none]
      refine ⟨?_, (v : Int) :: o.take (o.length - 1), ?_, by simp; omega⟩
      · simp [encI]
      · simp [encI, List.take_take]
theorem girth_ok (g : List (List Int)) (sh : List Bool) (hg : gphP g) (hsm : smallG g) (hsh : sh.length = g.length) :
    ACalls Tryd.prog 69 [.p (.sl (encG g)), .p (.sl (encT sh))] [] fun h r => h = [] ∧ ∃ o : List Int, r = .tup [.p (.int .i64 (o.length : Nat)), .p (.sl (encI o)), .p (.int .i64 0)] ∧ o.length ≤ 30 := by
  have ht := fun v hv => through_ok g sh v hg hsh hv
  have hl := hg.1
  refine ACalls_X Tryd.func69 rfl enters69 (by simp [Tryd.f69]) ?_
  simp only [go_sem, ↓reduceIte, Nat.reduceLT, Nat.reduceLeDiff, Nat.reduceEqDiff, Nat.reduceAdd, Nat.reduceMul, Nat.reduceSub, reduceCtorEq, Int.reduceLT, Int.reduceLE, Int.reduceEq, Int.reduceToNat, decide_true, decide_false, Int.reduceNeg, Int.cast_ofNat_Int, sg, AO.sg, Option.isNone_none]
  refine Cc_of ((check4_ok g sh hsm)) ?_
  rintro h' r ⟨rfl, rfl⟩
  rw [if_pos hg, if_pos hsh]
  simp only [go_sem, ↓reduceIte, Nat.reduceLT, Nat.reduceLeDiff, Nat.reduceEqDiff, Nat.reduceAdd, Nat.reduceMul, Nat.reduceSub, reduceCtorEq, Int.reduceLT, Int.reduceLE, Int.reduceEq, Int.reduceToNat, decide_true, decide_false, Int.reduceNeg, Int.cast_ofNat_Int, sg, AO.sg, Option.isNone_none]
  refine X_loop_inv (fun q : Nat × List Int => ⟨[(0, .p (.sl (encG g))), (1, .p (.sl (encT sh))), (8, .p (.sl (encI q.2))), (9, .p (.int .i64 (q.1 : Nat)))], [], 46⟩)
    (fun q => q.1 ≤ g.length ∧ q.2.length ≤ 30) (fun q => g.length - q.1) (0, []) ⟨Nat.zero_le _, by simp⟩ ((Wk.nil (t := 8) (q := 42) (sz := 1) 3 rfl rfl (by decide)).trans ((Wk.pure (t := 8) (id := 42) (sz := 1) (e := 3) (es := []) rfl rfl).trans (Wk.forget (by simp [Le, LeE, LeH, get, envIds, hpIds, KeepH, D.ids, idsL, AO.ids, setL, base, encI])))) ?_
  rintro ⟨v, bst⟩ m ⟨hv, hb⟩ ih
  simp only at hv hb
  simp only [go_sem, ↓reduceIte, Nat.reduceLT, Nat.reduceLeDiff, Nat.reduceEqDiff, Nat.reduceAdd, Nat.reduceMul, Nat.reduceSub, reduceCtorEq, Int.reduceLT, Int.reduceLE, Int.reduceEq, Int.reduceToNat, decide_true, decide_false, Int.reduceNeg, Int.cast_ofNat_Int, sg, AO.sg, Option.isNone_none, encG_len]
  refine Cn_split (fun h3 => ?_) (fun h3 => ?_)
  · have hvt : v < g.length := by simp at h3; omega
    have hwv := wrap_succ v (by omega)
    simp only [go_sem, ↓reduceIte, Nat.reduceLT, Nat.reduceLeDiff, Nat.reduceEqDiff, Nat.reduceAdd, Nat.reduceMul, Nat.reduceSub, reduceCtorEq, Int.reduceLT, Int.reduceLE, Int.reduceEq, Int.reduceToNat, decide_true, decide_false, Int.reduceNeg, Int.cast_ofNat_Int, sg, AO.sg, Option.isNone_none]
    refine Cc_of (ht v hvt) ?_
    rintro h' r ⟨rfl, o, rfl, ho⟩
    simp only [go_sem, ↓reduceIte, Nat.reduceLT, Nat.reduceLeDiff, Nat.reduceEqDiff, Nat.reduceAdd, Nat.reduceMul, Nat.reduceSub, reduceCtorEq, Int.reduceLT, Int.reduceLE, Int.reduceEq, Int.reduceToNat, decide_true, decide_false, Int.reduceNeg, Int.cast_ofNat_Int, sg, AO.sg, Option.isNone_none, encI_len]
    cases c1 : decide (0 < (o.length : Int))
    · simp only [go_sem, ↓reduceIte, Nat.reduceLT, Nat.reduceLeDiff, Nat.reduceEqDiff, Nat.reduceAdd, Nat.reduceMul, Nat.reduceSub, reduceCtorEq, Int.reduceLT, Int.reduceLE, Int.reduceEq, Int.reduceToNat, decide_true, decide_false, Int.reduceNeg, Int.cast_ofNat_Int, sg, AO.sg, Option.isNone_none, encI_len, c1, hwv]
      refine ih (v + 1, bst) _ ⟨hvt, hb⟩ (by simp only; omega) ?_
      (refine Wk.forget ?_; simp [Le, LeE, LeH, get, envIds, hpIds, KeepH, D.ids, idsL, AO.ids, setL, base]; done)
    cases c2 : decide ((bst.length : Int) = 0)
    rotate_left
    · simp only [go_sem, ↓reduceIte, Nat.reduceLT, Nat.reduceLeDiff, Nat.reduceEqDiff, Nat.reduceAdd, Nat.reduceMul, Nat.reduceSub, reduceCtorEq, Int.reduceLT, Int.reduceLE, Int.reduceEq, Int.reduceToNat, decide_true, decide_false, Int.reduceNeg, Int.cast_ofNat_Int, sg, AO.sg, Option.isNone_none, encI_len, c1, c2, hwv]
      refine ih (v + 1, o) _ ⟨hvt, ho⟩ (by simp only; omega) ?_
      (refine Wk.forget ?_; simp [Le, LeE, LeH, get, envIds, hpIds, KeepH, D.ids, idsL, AO.ids, setL, base]; done)
    cases c3 : decide ((o.length : Int) < (bst.length : Int))
    · simp only [go_sem, ↓reduceIte, Nat.reduceLT, Nat.reduceLeDiff, Nat.reduceEqDiff, Nat.reduceAdd, Nat.reduceMul, Nat.reduceSub, reduceCtorEq, Int.reduceLT, Int.reduceLE, Int.reduceEq, Int.reduceToNat, decide_true, decide_false, Int.reduceNeg, Int.cast_ofNat_Int, sg, AO.sg, Option.isNone_none, encI_len, c1, c2, c3, hwv]
      refine ih (v + 1, bst) _ ⟨hvt, hb⟩ (by simp only; omega) ?_
      (refine Wk.forget ?_; simp [Le, LeE, LeH, get, envIds, hpIds, KeepH, D.ids, idsL, AO.ids, setL, base]; done)
    · simp only [go_sem, ↓reduceIte, Nat.reduceLT, Nat.reduceLeDiff, Nat.reduceEqDiff, Nat.reduceAdd, Nat.reduceMul, Nat.reduceSub, reduceCtorEq, Int.reduceLT, Int.reduceLE, Int.reduceEq, Int.reduceToNat, decide_true, decide_false, Int.reduceNeg, Int.cast_ofNat_Int, sg, AO.sg, Option.isNone_none, encI_len, c1, c2, c3, hwv]
      refine ih (v + 1, o) _ ⟨hvt, ho⟩ (by simp only; omega) ?_
      (refine Wk.forget ?_; simp [Le, LeE, LeH, get, envIds, hpIds, KeepH, D.ids, idsL, AO.ids, setL, base]; done)
  · simp only [go_sem, ↓reduceIte, Nat.reduceLT, Nat.reduceLeDiff, Nat.reduceEqDiff, Nat.reduceAdd, Nat.reduceMul, Nat.reduceSub, reduceCtorEq, Int.reduceLT, Int.reduceLE, Int.reduceEq, Int.reduceToNat, decide_true, decide_false, Int.reduceNeg, Int.cast_ofNat_Int, sg, AO.sg, Option.isNone_none, encI_len]
    refine end_pure ?_
    simp only [go_sem, ↓reduceIte, Nat.reduceLT, Nat.reduceLeDiff, Nat.reduceEqDiff, Nat.reduceAdd, Nat.reduceMul, Nat.reduceSub, reduceCtorEq, Int.reduceLT, Int.reduceLE, Int.reduceEq, Int.reduceToNat, decide_true, decide_false, Int.reduceNeg, Int.cast_ofNat_Int, sg, AO.sg, Option.isNone_none]
    exact ⟨bst, rfl, hb⟩
end Go.Am
