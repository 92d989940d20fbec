/- LayoutFormats, as a contract. -/
import Derived.Test.YtefdjkakojfhnaaDoorSaml
namespace Go.Am
open Go Go.Proofs
set_option maxRecDepth 100000
set_option linter.unusedVariables false
set_option linter.unusedSimpArgs false
def smallD (d : List Dc) : Prop := d.length ≤ 2000000 ∧ ∀ x ∈ d, x.names.length ≤ 2000000 ∧ x.nums.length ≤ 2000000
theorem fmtV_small (k : Nat) : ∀ (d : List Dc) (acc : List Ln), (∀ x ∈ d, x.names.length ≤ k ∧ x.nums.length ≤ k) → (∀ x ∈ acc, x.fs.length ≤ 1 + 2 * k) → (fmtV d acc).1.length ≤ acc.length + d.length ∧ ∀ x ∈ (fmtV d acc).1, x.fs.length ≤ 1 + 2 * k
  | [], acc, _, h => by simpa [fmtV] using h
  | x :: r, acc, hd, h => by
    simp only [fmtV]
    split
    · have hx := hd x (by simp)
      have ih := fmtV_small k r (acc ++ [⟨x.line, formLine x⟩]) (fun y hy => hd y (by simp [hy])) (fun y hy => by
        rcases List.mem_append.1 hy with h1 | h1
        · exact h y h1
        · simp only [List.mem_singleton] at h1; subst h1; simp [formLine]; omega)
      simp only [List.length_append, List.length_cons, List.length_nil] at ih ⊢
      exact ⟨by omega, ih.2⟩
    · simp
theorem numD_mem : ∀ (i : Nat) (l : List Dc) (x : Dc), x ∈ numD i l → ∃ y ∈ l, x.names = y.names ∧ x.nums = y.nums
  | _, [], x, h => by simp [numD] at h
  | i, y :: r, x, h => by
    simp only [numD, List.mem_cons] at h
    rcases h with rfl | h
    · exact ⟨y, by simp, rfl, rfl⟩
    · obtain ⟨z, hz, h1⟩ := numD_mem (i + 1) r x h
      exact ⟨z, by simp [hz], h1⟩
theorem flatMap_len {α β : Type} (f : α → List β) (k : Nat) : ∀ l : List α, (∀ x ∈ l, (f x).length ≤ k) → (l.flatMap f).length ≤ l.length * k
  | [], _ => by simp
  | x :: r, h => by
    have h1 := h x (by simp)
    have h2 := flatMap_len f k r (fun y hy => h y (by simp [hy]))
    simp only [List.flatMap_cons, List.length_append, List.length_cons, Nat.add_mul, Nat.one_mul]; omega
theorem descV_small (n : Nt) (hn : validN n) : smallD (descV n) := by
  obtain ⟨⟨hb1, hb24, hnl, hrows⟩, hs6, hnm, hr8, hcf, hsp, hrb, hdp⟩ := hn
  have hl2 : (desc2 n n.blocks.length).length ≤ n.blocks.length * 4 := by
    have := flatMap_len (lanL n) 4 (List.range n.blocks.length) (fun i hi => by
      have := (hrows i (List.mem_range.1 hi)).2.1
      simp only [lanL, List.length_map]; omega)
    simpa [desc2] using this
  have hl4 : (desc4 n n.robots.length).length ≤ n.robots.length * 6 := by
    have := flatMap_len (fun r => robL n r n.spurs.length) 6 (n.robots.take n.robots.length) (fun r _ => by
      simp only [robL, List.length_map]
      exact Nat.le_trans (List.length_filter_le _ _) (by simp; omega))
    simpa [desc4] using this
  have hmem : ∀ x ∈ desc0 n, x.names.length ≤ 3 ∧ x.nums.length ≤ 4 := by
    intro x hx
    simp only [desc0, List.mem_append, List.mem_singleton] at hx
    rcases hx with (((hx | hx) | hx) | hx) | rfl
    · obtain ⟨b, _, rfl⟩ := List.mem_map.1 hx; simp [blkD]
    · obtain ⟨i, _, hx⟩ := List.mem_flatMap.1 hx
      obtain ⟨y, _, rfl⟩ := List.mem_map.1 hx; simp [lanD]
    · obtain ⟨b, _, rfl⟩ := List.mem_map.1 hx; simp [sprD]
    · obtain ⟨r, _, hx⟩ := List.mem_flatMap.1 hx
      obtain ⟨y, _, rfl⟩ := List.mem_map.1 hx; simp [robD]
    · simp
  refine ⟨?_, fun x hx => ?_⟩
  · have : (desc0 n).length ≤ 2000000 := by
      simp only [desc0, List.length_append, desc1, desc3, List.length_map, List.length_cons, List.length_nil]; omega
    simpa [descV, numD_len] using this
  · obtain ⟨y, hy, h1, h2⟩ := numD_mem 0 _ x hx
    have := hmem y hy
    rw [h1, h2]; omega
theorem layoutFormats_ok (raw : List Dc) (l : List Int) (hr : smallD raw) :
    ACalls Tryd.prog 7 [.p (.sl (encC raw)), .p (.sl (encI l))] [(1000000, (.glob 1 tabCs))] fun h r => h = [(1000000, (.glob 1 tabCs))] ∧ r = .p (.bool true) := by
  refine ACalls_X Tryd.func7 rfl enters7 (by simp [Tryd.f7]) ?_
  simp only [go_sem, ↓reduceIte, Nat.reduceLT, Nat.reduceLeDiff, Nat.reduceEqDiff, Nat.reduceAdd, Nat.reduceMul, Nat.reduceSub, reduceCtorEq, Int.reduceLT, Int.reduceLE, Int.reduceEq, Int.reduceToNat, decide_true, decide_false, Int.reduceNeg, Int.cast_ofNat_Int, sg, AO.sg, Option.isNone_none]
  refine Cc_of ((known_ok).glob (id := 1000000) (by decide) rfl (by simp [idsL, D.ids, hpIds]) (fun h1 r hr => by rw [hr.1]; rfl)) ?_
  rintro h' r ⟨_, ⟨rfl, rfl⟩, rfl⟩
  simp only [go_sem, ↓reduceIte, Nat.reduceLT, Nat.reduceLeDiff, Nat.reduceEqDiff, Nat.reduceAdd, Nat.reduceMul, Nat.reduceSub, reduceCtorEq, Int.reduceLT, Int.reduceLE, Int.reduceEq, Int.reduceToNat, decide_true, decide_false, Int.reduceNeg, Int.cast_ofNat_Int, sg, AO.sg, Option.isNone_none]
  refine Cc_of ((net_ok l 0 6 (by omega) (by omega) (by omega)).glob (id := 1000001) (by decide) rfl (by simp [idsL, D.ids, hpIds, tapeC, AO.ids, get]) (fun h1 r hr => by obtain ⟨_, _, _, _, rfl, rfl⟩ := hr; rfl)) ?_
  rintro h' r ⟨h1, ⟨at2, n, hat2, hn, rfl, rfl⟩, rfl⟩
  have hvn := hn.valid
  have hds := descV_small n hvn
  simp only [go_sem, ↓reduceIte, Nat.reduceLT, Nat.reduceLeDiff, Nat.reduceEqDiff, Nat.reduceAdd, Nat.reduceMul, Nat.reduceSub, reduceCtorEq, Int.reduceLT, Int.reduceLE, Int.reduceEq, Int.reduceToNat, decide_true, decide_false, Int.reduceNeg, Int.cast_ofNat_Int, sg, AO.sg, Option.isNone_none, tapeC, Nt.cs]
  refine Cc_of ((describe_ok n hvn).glob (id := 1000000) (by decide) rfl (by simp [idsL, D.ids, hpIds, Nt.cs]) (fun h1 r hr => by rw [hr.1]; rfl)) ?_
  rintro h' r ⟨_, ⟨rfl, rfl⟩, rfl⟩
  generalize descV n = d at *
  simp only [go_sem, ↓reduceIte, Nat.reduceLT, Nat.reduceLeDiff, Nat.reduceEqDiff, Nat.reduceAdd, Nat.reduceMul, Nat.reduceSub, reduceCtorEq, Int.reduceLT, Int.reduceLE, Int.reduceEq, Int.reduceToNat, decide_true, decide_false, Int.reduceNeg, Int.cast_ofNat_Int, sg, AO.sg, Option.isNone_none]
  have key : ∀ ds, ds = raw ∨ ds = d → smallD ds := by
    rintro ds (rfl | rfl)
    · exact hr
    · exact hds
  refine X_loop_inv (fun i => ⟨[(8, .ref 30 0 2 2), (9, .p (.int .i64 (i : Nat)))], [(30, .arr 43 1 [[.sl (encC raw)], [.sl (encC d)]]), (1000000, (.glob 1 tabCs))], 86⟩) (fun i => i ≤ 2) (fun i => 2 - i) 0 (by omega) (Wk.forget (by simp [Le, LeE, LeH, get, envIds, hpIds, KeepH, D.ids, idsL, AO.ids, setL, base])) ?_
  rintro i m hi ih
  simp only [go_sem, ↓reduceIte, Nat.reduceLT, Nat.reduceLeDiff, Nat.reduceEqDiff, Nat.reduceAdd, Nat.reduceMul, Nat.reduceSub, reduceCtorEq, Int.reduceLT, Int.reduceLE, Int.reduceEq, Int.reduceToNat, decide_true, decide_false, Int.reduceNeg, Int.cast_ofNat_Int, sg, AO.sg, Option.isNone_none]
  cases c1 : decide ((i : Int) < 2)
  · simp only [go_sem, ↓reduceIte, Nat.reduceLT, Nat.reduceLeDiff, Nat.reduceEqDiff, Nat.reduceAdd, Nat.reduceMul, Nat.reduceSub, reduceCtorEq, Int.reduceLT, Int.reduceLE, Int.reduceEq, Int.reduceToNat, decide_true, decide_false, Int.reduceNeg, Int.cast_ofNat_Int, sg, AO.sg, Option.isNone_none, c1]
  obtain ⟨ds, hds, hg⟩ : ∃ ds, (ds = raw ∨ ds = d) ∧ ([[Pd.sl (encC raw)], [Pd.sl (encC d)]] : List (List Pd)).getD i [] = [.sl (encC ds)] := by
    have : i = 0 ∨ i = 1 := by have := of_decide_eq_true c1; omega
    rcases this with rfl | rfl
    · exact ⟨raw, .inl rfl, rfl⟩
    · exact ⟨d, .inr rfl, rfl⟩
  have hi2 : (i : Int) < 2 := of_decide_eq_true c1
  have hi0 : (0 : Int) ≤ (i : Int) := by omega
  have hsm := key ds hds
  have hw := wrap_succ i (by omega)
  have hfs := fmtV_small 2000000 ds [] hsm.2 (by simp)
  have hlen : ds.length ≤ 10000000 := by have := hsm.1; omega
  have hfit : ∀ x ∈ ds, x.names.length ≤ 10000000 ∧ x.nums.length ≤ 10000000 := fun x hx => by have := hsm.2 x hx; omega
  have hsl : (fmtV ds []).1.length ≤ 10000000 ∧ ∀ x ∈ (fmtV ds []).1, x.fs.length ≤ 10000000 := ⟨by have := hfs.1; have := hsm.1; simp at *; omega, fun x hx => by have := hfs.2 x hx; omega⟩
  simp only [go_sem, ↓reduceIte, Nat.reduceLT, Nat.reduceLeDiff, Nat.reduceEqDiff, Nat.reduceAdd, Nat.reduceMul, Nat.reduceSub, reduceCtorEq, Int.reduceLT, Int.reduceLE, Int.reduceEq, Int.reduceToNat, decide_true, decide_false, Int.reduceNeg, Int.cast_ofNat_Int, sg, AO.sg, Option.isNone_none, c1, Int.toNat_natCast, hg, hi2, hi0]
  refine Cc_of ((fmtLx_ok ds hlen hfit)) ?_
  rintro h' r ⟨rfl, rfl⟩
  simp only [go_sem, ↓reduceIte, Nat.reduceLT, Nat.reduceLeDiff, Nat.reduceEqDiff, Nat.reduceAdd, Nat.reduceMul, Nat.reduceSub, reduceCtorEq, Int.reduceLT, Int.reduceLE, Int.reduceEq, Int.reduceToNat, decide_true, decide_false, Int.reduceNeg, Int.cast_ofNat_Int, sg, AO.sg, Option.isNone_none, Int.toNat_natCast, hg, hi2, hi0, fmtR]
  refine Cc_of ((fmtr_ok ds hlen hfit).glob (id := 1000000) (by decide) rfl (by simp [idsL, D.ids, hpIds]) (fun h1 r hr => by rw [hr.1]; rfl)) ?_
  rintro h' r ⟨_, ⟨rfl, rfl⟩, rfl⟩
  simp only [go_sem, ↓reduceIte, Nat.reduceLT, Nat.reduceLeDiff, Nat.reduceEqDiff, Nat.reduceAdd, Nat.reduceMul, Nat.reduceSub, reduceCtorEq, Int.reduceLT, Int.reduceLE, Int.reduceEq, Int.reduceToNat, decide_true, decide_false, Int.reduceNeg, Int.cast_ofNat_Int, sg, AO.sg, Option.isNone_none, fmtR]
  refine Cc_of ((sameLines_ok (fmtV ds []).1 (fmtV ds []).1 hsl).glob (id := 1000000) (by decide) rfl (by simp [idsL, D.ids, hpIds]) (fun h1 r hr => by rw [hr.1]; rfl)) ?_
  rintro h' r ⟨_, ⟨rfl, rfl⟩, rfl⟩
  simp only [go_sem, ↓reduceIte, Nat.reduceLT, Nat.reduceLeDiff, Nat.reduceEqDiff, Nat.reduceAdd, Nat.reduceMul, Nat.reduceSub, reduceCtorEq, Int.reduceLT, Int.reduceLE, Int.reduceEq, Int.reduceToNat, decide_true, decide_false, Int.reduceNeg, Int.cast_ofNat_Int, sg, AO.sg, Option.isNone_none]
  refine X_loop_inv (fun k : Nat => ⟨[(8, .ref 30 0 2 2), (9, .p (.int .i64 (i : Nat))), (14, .p (.int .i64 (k : Nat)))], [(30, .arr 43 1 [[.sl (encC raw)], [.sl (encC d)]]), (1000000, (.glob 1 tabCs))], 86⟩)
    (fun k => k ≤ ds.length) (fun k => ds.length - k) 0 (Nat.zero_le _) (Wk.forget (by simp [Le, LeE, LeH, get, envIds, hpIds, KeepH, D.ids, idsL, AO.ids, setL, base])) ?_
  rintro k m2 hk ih2
  cases c2 : decide ((k : Int) < (ds.length : Int))
  · simp only [go_sem, ↓reduceIte, Nat.reduceLT, Nat.reduceLeDiff, Nat.reduceEqDiff, Nat.reduceAdd, Nat.reduceMul, Nat.reduceSub, reduceCtorEq, Int.reduceLT, Int.reduceLE, Int.reduceEq, Int.reduceToNat, decide_true, decide_false, Int.reduceNeg, Int.cast_ofNat_Int, sg, AO.sg, Option.isNone_none, c2, Int.toNat_natCast, hg, hi2, hi0, encC_len, hw]
    refine ih (i + 1) _ (by omega) (by omega) (Wk.forget (by simp [Le, LeE, LeH, get, envIds, hpIds, KeepH, D.ids, idsL, AO.ids, setL, base]))
  have hkt : k < ds.length := by have := of_decide_eq_true c2; omega
  have hk0 : (0 : Int) ≤ (k : Int) ∧ (k : Int) < (ds.length : Int) := by omega
  have hgk := encC_get ds k hkt
  have hxs := hfit _ (getD_mem ds k dc0 hkt)
  have hwk := wrap_succ k (by omega)
  generalize ds.getD k dc0 = x at *
  simp only [go_sem, ↓reduceIte, Nat.reduceLT, Nat.reduceLeDiff, Nat.reduceEqDiff, Nat.reduceAdd, Nat.reduceMul, Nat.reduceSub, reduceCtorEq, Int.reduceLT, Int.reduceLE, Int.reduceEq, Int.reduceToNat, decide_true, decide_false, Int.reduceNeg, Int.cast_ofNat_Int, sg, AO.sg, Option.isNone_none, c2, Int.toNat_natCast, hg, hi2, hi0, encC_len]
  refine X_any0 mixed (p := [(0, 0), (1, 0), (2, 0), (3, 0), (4, 0), (5, 0), (6, 0), (8, 0), (9, 0), (10, 0), (11, 0), (12, 0), (13, 0), (14, 0), (7, 2), (15, 2), (16, 0)]) (by kernel_rfl) (by simp [LeH, get]) ?_
  simp only [go_sem, ↓reduceIte, Nat.reduceLT, Nat.reduceLeDiff, Nat.reduceEqDiff, Nat.reduceAdd, Nat.reduceMul, Nat.reduceSub, reduceCtorEq, Int.reduceLT, Int.reduceLE, Int.reduceEq, Int.reduceToNat, decide_true, decide_false, Int.reduceNeg, Int.cast_ofNat_Int, sg, AO.sg, Option.isNone_none, Int.toNat_natCast, hg, hi2, hi0, encC_len, hk0, hgk]
  refine Gh_of ((valid_ok x hxs).glob (id := 1000000) (by decide) rfl (by simp [idsL, D.ids, hpIds, Dc.d]) (fun h1 r hr => by rw [hr.1]; rfl)) ?_
  rintro h' r ⟨_, ⟨rfl, rfl⟩, rfl⟩
  simp only [go_sem, ↓reduceIte, Nat.reduceLT, Nat.reduceLeDiff, Nat.reduceEqDiff, Nat.reduceAdd, Nat.reduceMul, Nat.reduceSub, reduceCtorEq, Int.reduceLT, Int.reduceLE, Int.reduceEq, Int.reduceToNat, decide_true, decide_false, Int.reduceNeg, Int.cast_ofNat_Int, sg, AO.sg, Option.isNone_none, Int.toNat_natCast, hg, hi2, hi0, encC_len, hk0, hgk]
  refine Gh_of ((validr_ok x hxs).glob (id := 1000000) (by decide) rfl (by simp [idsL, D.ids, hpIds, Dc.d]) (fun h1 r hr => by rw [hr.1]; rfl)) ?_
  rintro h' r ⟨_, ⟨rfl, rfl⟩, rfl⟩
  simp only [go_sem, ↓reduceIte, Nat.reduceLT, Nat.reduceLeDiff, Nat.reduceEqDiff, Nat.reduceAdd, Nat.reduceMul, Nat.reduceSub, reduceCtorEq, Int.reduceLT, Int.reduceLE, Int.reduceEq, Int.reduceToNat, decide_true, decide_false, Int.reduceNeg, Int.cast_ofNat_Int, sg, AO.sg, Option.isNone_none, beq_self_eq_true, hwk]
  refine ih2 (k + 1) _ hkt (by omega) (Wk.forget (by simp [Le, LeE, LeH, get, envIds, hpIds, KeepH, D.ids, idsL, AO.ids, setL, base]))
end Go.Am
