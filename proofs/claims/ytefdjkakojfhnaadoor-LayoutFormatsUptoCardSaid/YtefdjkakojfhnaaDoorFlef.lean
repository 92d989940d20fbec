/- The reference's fleet: of its cap only that it is at most the slots. -/
import Derived.Test.YtefdjkakojfhnaaDoorFlee
namespace Go.Am
open Go Go.Proofs
set_option maxRecDepth 100000
set_option linter.unusedVariables false
set_option linter.unusedSimpArgs false
theorem encT_rep (n : Nat) (b : Bool) : encT (List.replicate n b) = List.replicate n [.bool b] := by simp [encT]
theorem take_rep (n : Nat) : List.take n (List.replicate n [Pd.bool false]) = encT (List.replicate n false) := by simp [encT]
theorem graph_of_valid {n : Nt} (hn : validN n) : gphP n.next ∧ smallG n.next ∧ n.next.length = n.blocks.length := by
  obtain ⟨⟨h1, h2, h3, h4⟩, _⟩ := hn
  refine ⟨⟨by omega, fun i hi => ?_⟩, ⟨by omega, fun r hr => ?_⟩, h3⟩
  · rw [h3]; exact (h4 i (by omega)).2.2
  · obtain ⟨i, hi, rfl⟩ := List.mem_iff_getElem.1 hr
    have := (h4 i (by omega)).2.1
    rw [getD_eq hi] at this
    omega
theorem small_of_valid {n : Nt} (hn : validN n) : smallN n := by
  have hg := graph_of_valid hn
  obtain ⟨⟨h1, h2, h3, h4⟩, h5, h6, h7, _⟩ := hn
  exact ⟨by omega, hg.2.1, by omega, by omega⟩
theorem fleet_ok (n : Nt) (hn : validN n) : ACalls Tryd.prog 44 [.agg n.cs] [] fun h r => h = [] ∧ ∃ (o : List Int) (sl cap : Int), r = .tup [.agg [.p (.int .i64 (o.length : Nat)), .p (.sl (encI o)), .p (.int .i64 sl), .p (.int .i64 cap)], .p (.int .i64 0)] ∧ cap ≤ sl ∧ sl = slotsV (List.replicate (cellsV n).toNat false) n.spurs := by
  have hV := validN_ok n (small_of_valid hn)
  rw [decide_eq_true hn] at hV
  obtain ⟨hg, hsm, hnl⟩ := graph_of_valid hn
  have hG := girth_ok n.next (List.replicate n.next.length false) hg hsm (by simp)
  have hC := cells_ok n hn
  have hS := fun (c : Nat) (hc : (c : Int) = cellsV n) => slots_ok n hn (List.replicate c false) (by simpa using hc)
  have hsp := hn.2.2.2.2.2.1
  have hb24 := hn.1.2.1
  have hs6 := hn.2.1
  have hall := sumS_all hsp
  obtain ⟨c, hc⟩ : ∃ c : Nat, cellsV n = (c : Int) := ⟨(cellsV n).toNat, by unfold cellsV; omega⟩
  have hc2 : c ≤ 48 := by unfold cellsV at hc; omega
  have hS := hS c hc.symm
  have hsr := slotsV_rng (List.replicate c false) hsp n.spurs.length (Nat.le_refl _)
  rw [List.take_length] at hsr
  rw [hc] at hC ⊢
  rw [Int.toNat_natCast]
  generalize slotsV (List.replicate c false) n.spurs = S at *
  rw [hnl] at hG
  refine ACalls_X Tryd.func44 rfl enters44 (by simp [Tryd.f44]) ?_
  simp only [go_sem, ↓reduceIte, Nat.reduceLT, Nat.reduceLeDiff, Nat.reduceEqDiff, Nat.reduceAdd, Nat.reduceMul, Nat.reduceSub, reduceCtorEq, Int.reduceLT, Int.reduceLE, Int.reduceEq, Int.reduceToNat, decide_true, decide_false, Int.reduceNeg, Int.cast_ofNat_Int, sg, AO.sg, Option.isNone_none, Nt.cs]
  refine Cc_of ((hV)) ?_
  rintro h' r ⟨rfl, rfl⟩
  simp only [go_sem, ↓reduceIte, Nat.reduceLT, Nat.reduceLeDiff, Nat.reduceEqDiff, Nat.reduceAdd, Nat.reduceMul, Nat.reduceSub, reduceCtorEq, Int.reduceLT, Int.reduceLE, Int.reduceEq, Int.reduceToNat, decide_true, decide_false, Int.reduceNeg, Int.cast_ofNat_Int, sg, AO.sg, Option.isNone_none, Nt.cs]
  refine X_any0 mixed (p := [(0, 0), (1, 0), (2, 0), (3, 0), (4, 0), (5, 1), (6, 2), (7, 0), (8, 0), (9, 0), (10, 0), (11, 0), (12, 0), (13, 0)]) (by kernel_rfl) (by simp [LeH, get]) ?_
  simp only [go_sem, ↓reduceIte, Nat.reduceLT, Nat.reduceLeDiff, Nat.reduceEqDiff, Nat.reduceAdd, Nat.reduceMul, Nat.reduceSub, reduceCtorEq, Int.reduceLT, Int.reduceLE, Int.reduceEq, Int.reduceToNat, decide_true, decide_false, Int.reduceNeg, Int.cast_ofNat_Int, sg, AO.sg, Option.isNone_none, Nt.cs, encK_len, Int.toNat_natCast, List.length_replicate, take_rep]
  refine ⟨by omega, ?_⟩
  refine Gh_of hG ?_
  rintro h' r ⟨rfl, o, rfl, ho⟩
  simp only [go_sem, ↓reduceIte, Nat.reduceLT, Nat.reduceLeDiff, Nat.reduceEqDiff, Nat.reduceAdd, Nat.reduceMul, Nat.reduceSub, reduceCtorEq, Int.reduceLT, Int.reduceLE, Int.reduceEq, Int.reduceToNat, decide_true, decide_false, Int.reduceNeg, Int.cast_ofNat_Int, sg, AO.sg, Option.isNone_none, Nt.cs]
  refine X_any0 mixed (p := [(0, 0), (1, 0), (2, 0), (3, 0), (8, 1), (4, 2), (5, 1), (6, 2), (7, 0), (9, 3)]) (by kernel_rfl) (by simp [LeH, get]) ?_
  simp only [go_sem, ↓reduceIte, Nat.reduceLT, Nat.reduceLeDiff, Nat.reduceEqDiff, Nat.reduceAdd, Nat.reduceMul, Nat.reduceSub, reduceCtorEq, Int.reduceLT, Int.reduceLE, Int.reduceEq, Int.reduceToNat, decide_true, decide_false, Int.reduceNeg, Int.cast_ofNat_Int, sg, AO.sg, Option.isNone_none, Nt.cs]
  refine Gh_of ((hC)) ?_
  rintro h' r ⟨rfl, rfl⟩
  simp only [go_sem, ↓reduceIte, Nat.reduceLT, Nat.reduceLeDiff, Nat.reduceEqDiff, Nat.reduceAdd, Nat.reduceMul, Nat.reduceSub, reduceCtorEq, Int.reduceLT, Int.reduceLE, Int.reduceEq, Int.reduceToNat, decide_true, decide_false, Int.reduceNeg, Int.cast_ofNat_Int, sg, AO.sg, Option.isNone_none, Nt.cs, Int.toNat_natCast, List.length_replicate, take_rep]
  refine ⟨by omega, ?_⟩
  refine Gh_of ((hS)) ?_
  rintro h' r ⟨rfl, rfl⟩
  simp only [go_sem, ↓reduceIte, Nat.reduceLT, Nat.reduceLeDiff, Nat.reduceEqDiff, Nat.reduceAdd, Nat.reduceMul, Nat.reduceSub, reduceCtorEq, Int.reduceLT, Int.reduceLE, Int.reduceEq, Int.reduceToNat, decide_true, decide_false, Int.reduceNeg, Int.cast_ofNat_Int, sg, AO.sg, Option.isNone_none, Nt.cs]
  cases c1 : decide (0 < (o.length : Int))
  · simp only [go_sem, ↓reduceIte, Nat.reduceLT, Nat.reduceLeDiff, Nat.reduceEqDiff, Nat.reduceAdd, Nat.reduceMul, Nat.reduceSub, reduceCtorEq, Int.reduceLT, Int.reduceLE, Int.reduceEq, Int.reduceToNat, decide_true, decide_false, Int.reduceNeg, Int.cast_ofNat_Int, sg, AO.sg, Option.isNone_none, c1]
    refine end_pure ?_
    simp only [go_sem, ↓reduceIte, Nat.reduceLT, Nat.reduceLeDiff, Nat.reduceEqDiff, Nat.reduceAdd, Nat.reduceMul, Nat.reduceSub, reduceCtorEq, Int.reduceLT, Int.reduceLE, Int.reduceEq, Int.reduceToNat, decide_true, decide_false, Int.reduceNeg, Int.cast_ofNat_Int, sg, AO.sg, Option.isNone_none]
    exact ⟨o, S, S, rfl, Int.le_refl _, rfl⟩
  · have hw1 : IntKind.i64.wrap ((o.length : Int) - 1) = (o.length : Int) - 1 := by rw [wrap_i64_id] <;> omega
    simp only [go_sem, ↓reduceIte, Nat.reduceLT, Nat.reduceLeDiff, Nat.reduceEqDiff, Nat.reduceAdd, Nat.reduceMul, Nat.reduceSub, reduceCtorEq, Int.reduceLT, Int.reduceLE, Int.reduceEq, Int.reduceToNat, decide_true, decide_false, Int.reduceNeg, Int.cast_ofNat_Int, sg, AO.sg, Option.isNone_none, c1, hw1]
    refine end_pure ?_
    simp only [go_sem, ↓reduceIte, Nat.reduceLT, Nat.reduceLeDiff, Nat.reduceEqDiff, Nat.reduceAdd, Nat.reduceMul, Nat.reduceSub, reduceCtorEq, Int.reduceLT, Int.reduceLE, Int.reduceEq, Int.reduceToNat, decide_true, decide_false, Int.reduceNeg, Int.cast_ofNat_Int, sg, AO.sg, Option.isNone_none]
    exact ⟨o, S, _, rfl, by omega, rfl⟩
end Go.Am
