/- Texts of this proof, merged: Ltxv, Ltxt. -/
import Derived.Test.YtfpgmanaikgemaaGreatDoorMi
section
/- The lines of a network's declarations are well formed and short (plain law). -/
namespace Go.Am
open Go Go.Proofs
set_option maxRecDepth 100000
set_option linter.unusedVariables false
set_option linter.unusedSimpArgs false
theorem chB_all (c : Int) (h : chB c = true) : allB c = true := by
  rw [chB_split] at h
  simp only [letterB, Bool.or_eq_true, Bool.and_eq_true, decide_eq_true_eq] at h
  simp only [allB, Bool.and_eq_true, decide_eq_true_eq, Bool.not_eq_true', decide_eq_false_iff_not]
  omega
theorem name_prop {s : List UInt8} (h : nameB s = true) : propB s = true ∧ s.length ≤ 12 := by
  cases s with
  | nil => simp [nameB] at h
  | cons b r =>
    simp only [nameB, Bool.and_eq_true, decide_eq_true_eq, List.all_eq_true] at h
    exact ⟨propB_iff.2 ⟨by simp, h.1.1, fun c hc => chB_all _ (h.2 c hc)⟩, h.1.1⟩
theorem digN_all : ∀ (n : Nat), ∀ b ∈ digN n, allB b.toNat = true := by
  intro n
  induction n using Nat.strongRecOn with
  | _ n ih =>
    intro b hb
    have key : ∀ d : Nat, d < 10 → allB ((UInt8.ofNat (48 + d)).toNat : Nat) = true := by
      intro d hd
      have : ((UInt8.ofNat (48 + d)).toNat : Int) = 48 + d := by simp; omega
      rw [this]
      simp only [allB, Bool.and_eq_true, decide_eq_true_eq, Bool.not_eq_true', decide_eq_false_iff_not]
      omega
    by_cases h : n < 10
    · rw [digN_small n h] at hb
      simp only [List.mem_singleton] at hb
      subst hb
      exact key n h
    · rw [digN_big n h] at hb
      rcases List.mem_append.1 hb with h1 | h1
      · exact ih (n / 10) (by omega) b h1
      · simp only [List.mem_singleton] at h1
        subst h1
        exact key (n % 10) (by omega)
theorem digN_ne (n : Nat) : digN n ≠ [] := by
  by_cases h : n < 10
  · rw [digN_small n h]; simp
  · rw [digN_big n h]; simp
theorem dig_prop {n : Int} (h0 : -9999 ≤ n) (h1 : n ≤ 9999) : propB (digV n) = true ∧ (digV n).length ≤ 5 := by
  unfold digV
  split
  · have hl := digN_len 3 (-n).toNat (by omega)
    refine ⟨propB_iff.2 ⟨by simp, by simp; omega, fun b hb => ?_⟩, by simp; omega⟩
    rcases List.mem_cons.1 hb with rfl | hb
    · decide
    · exact digN_all _ b hb
  · have hl := digN_len 3 n.toNat (by omega)
    exact ⟨propB_iff.2 ⟨digN_ne _, by omega, digN_all _⟩, by omega⟩
theorem form_prop (j : Nat) (h1 : 1 ≤ j) (h2 : j < 7) : propB (formJ j).word = true ∧ (formJ j).word.length ≤ 7 := by
  have hj : j = 1 ∨ j = 2 ∨ j = 3 ∨ j = 4 ∨ j = 5 ∨ j = 6 := by omega
  rcases hj with rfl | rfl | rfl | rfl | rfl | rfl <;> decide
def wD (x : Dc) : Nat := 8 + 13 * x.names.length + 6 * x.nums.length
def lnD (x : Dc) : Ln := ⟨x.line, formLine x⟩
theorem szF_app2 (a b : List (List UInt8)) : szF (a ++ b) = szF a + szF b := by
  induction a with
  | nil => simp [szF]
  | cons x r ih => simp only [List.cons_append, szF, ih]; omega
theorem szF_max (k : Nat) : ∀ l : List (List UInt8), (∀ s ∈ l, s.length ≤ k) → szF l ≤ (k + 1) * l.length
  | [], _ => by simp [szF]
  | x :: r, h => by
    have h1 := h x (by simp)
    have h2 := szF_max k r (fun s hs => h s (by simp [hs]))
    simp only [szF, List.length_cons, Nat.mul_add, Nat.mul_one]; omega
theorem decl_line (x : Dc) (h : validV x = true) : (lnD x).fs ≠ [] ∧ (∀ s ∈ (lnD x).fs, propB s = true) ∧ szF (lnD x).fs ≤ wD x := by
  obtain ⟨⟨hw1, hw2⟩, _, _, hn, hk⟩ := (valid_iff x).1 h
  have hf := form_prop x.word.toNat (by omega) (by omega)
  refine ⟨by simp [lnD, formLine], fun s hs => ?_, ?_⟩
  · simp only [lnD, formLine, List.cons_append, List.mem_cons, List.mem_append, List.mem_map] at hs
    rcases hs with rfl | hs | ⟨k, hk2, rfl⟩
    · exact hf.1
    · exact (name_prop (hn s hs)).1
    · exact (dig_prop (hk k hk2).1 (hk k hk2).2).1
  · have h1 := szF_max 12 x.names (fun s hs => (name_prop (hn s hs)).2)
    have h2 := szF_max 5 (x.nums.map digV) (fun s hs => by
      obtain ⟨k, hk2, rfl⟩ := List.mem_map.1 hs
      exact (dig_prop (hk k hk2).1 (hk k hk2).2).2)
    simp only [List.length_map] at h2
    simp only [lnD, formLine, List.cons_append, szF, szF_app2, wD]
    have := hf.2
    omega
def sumW (l : List Dc) : Nat := (l.map wD).sum
theorem sumW_app (a b : List Dc) : sumW (a ++ b) = sumW a + sumW b := by simp [sumW]
theorem sumW_le (k : Nat) : ∀ l : List Dc, (∀ x ∈ l, wD x ≤ k) → sumW l ≤ k * l.length
  | [], _ => by simp [sumW]
  | x :: r, h => by
    have h1 := h x (by simp)
    have h2 := sumW_le k r (fun y hy => h y (by simp [hy]))
    simp only [sumW, List.map_cons, List.sum_cons, List.length_cons, Nat.mul_add, Nat.mul_one] at h2 ⊢; omega
theorem numD_form : ∀ (i : Nat) (L : List Dc), (∀ x ∈ L, validV x = true) → formB i ((numD i L).map lnD) = true ∧ lastL i ((numD i L).map lnD) = (i : Int) + L.length ∧ szL ((numD i L).map lnD) ≤ sumW L
  | i, [], _ => by simp [numD, formB, lastL, szL, sumW]
  | i, x :: r, h => by
    have hx := h x (by simp)
    obtain ⟨h1, h2, h3⟩ := numD_form (i + 1) r (fun y hy => h y (by simp [hy]))
    have hd := decl_line ⟨x.word, (i : Int) + 1, x.names, x.nums⟩ hx
    simp only [numD, List.map_cons]
    have hnum : (lnD ⟨x.word, (i : Int) + 1, x.names, x.nums⟩).num = ((i + 1 : Nat) : Int) := by simp [lnD]
    refine ⟨formB_cons.2 ⟨by rw [hnum]; omega, hd.1, hd.2.1, by rw [hnum]; exact h1⟩, ?_, ?_⟩
    · simp only [lastL, hnum, h2, List.length_cons]; omega
    · have h4 : wD ⟨x.word, (i : Int) + 1, x.names, x.nums⟩ = wD x := rfl
      simp only [szL, sumW, List.map_cons, List.sum_cons]
      have := hd.2.2
      unfold sumW at h3
      omega
theorem numD_valid : ∀ (i : Nat) (L : List Dc), (∀ x ∈ L, validV x = true) → ∀ x ∈ numD i L, validV x = true
  | _, [], _ => by simp [numD]
  | i, x :: r, h => by
    intro y hy
    simp only [numD, List.mem_cons] at hy
    rcases hy with rfl | hy
    · exact h x (by simp)
    · exact numD_valid (i + 1) r (fun z hz => h z (by simp [hz])) y hy
theorem mem_getD {α : Type} {l : List α} {x : α} (d : α) (h : x ∈ l) : ∃ i, i < l.length ∧ l.getD i d = x := by
  obtain ⟨i, hi, rfl⟩ := List.mem_iff_getElem.1 h
  exact ⟨i, hi, by simp [List.getD, hi]⟩
theorem names_all (n : Nt) (h : namesP n) : (∀ b ∈ n.blocks, nameB b.name = true) ∧ ∀ s ∈ n.spurs, nameB s.name = true := by
  have key : ∀ x ∈ namesN n, nameB x = true := fun x hx => by
    obtain ⟨i, hi, rfl⟩ := mem_getD [] hx
    exact (h i hi).1
  exact ⟨fun b hb => key _ (by simp only [namesN, List.mem_append, List.mem_map]; exact .inl ⟨b, hb, rfl⟩), fun s hs => key _ (by simp only [namesN, List.mem_append, List.mem_map]; exact .inr ⟨s, hs, rfl⟩)⟩
theorem desc0_valid (n : Nt) (hn : validN n) : (∀ x ∈ desc0 n, validV x = true) ∧ sumW (desc0 n) ≤ 6000 ∧ (desc0 n).length ≤ 400 := by
  obtain ⟨⟨hb1, hb24, hnl, hrows⟩, hs6, hnm, hr8, hcf, hsp, hrb, hdp⟩ := hn
  obtain ⟨hnb, hns⟩ := names_all n hnm
  have hbn : ∀ x : Int, 0 ≤ x → x < n.blocks.length → nameB (bnm n x) = true := fun x h0 h1 => by
    unfold bnm
    exact hnb _ (getD_mem n.blocks x.toNat blk0 (by omega))
  have h1 : ∀ x ∈ desc1 n, validV x = true ∧ wD x ≤ 33 := by
    intro x hx
    obtain ⟨b, hb, rfl⟩ := List.mem_map.1 hx
    obtain ⟨i, hi, rfl⟩ := mem_getD blk0 hb
    have hxy := (hrows i hi).1
    unfold xyP at hxy
    refine ⟨(valid_iff _).2 ⟨by simp [blkD], by simp [blkD, shapeV], .inl (by simp [blkD, shapeV]), by simpa [blkD] using hnb _ hb, ?_⟩, by simp [wD, blkD]⟩
    simp only [blkD, List.mem_cons, List.not_mem_nil, or_false]
    rintro k (rfl | rfl) <;> omega
  have h2 : ∀ x ∈ desc2 n n.blocks.length, validV x = true ∧ wD x ≤ 34 := by
    intro x hx
    obtain ⟨i, hi, hx⟩ := List.mem_flatMap.1 hx
    obtain ⟨y, hy, rfl⟩ := List.mem_map.1 hx
    have hi' := List.mem_range.1 hi
    obtain ⟨k, hk, rfl⟩ := mem_getD 0 hy
    have hrow := (hrows i hi').2.2 k hk
    refine ⟨(valid_iff _).2 ⟨by simp [lanD], by simp [lanD, shapeV], .inl (by simp [lanD, shapeV]), ?_, by simp [lanD]⟩, by simp [wD, lanD]⟩
    simp only [lanD, List.mem_cons, List.not_mem_nil, or_false]
    rintro s (rfl | rfl)
    · exact hnb _ (getD_mem n.blocks i blk0 hi')
    · exact hbn _ hrow.1 hrow.2.1
  have h3 : ∀ x ∈ desc3 n, validV x = true ∧ wD x ≤ 53 := by
    intro x hx
    obtain ⟨s, hs, rfl⟩ := List.mem_map.1 hx
    have hnms := hns s hs
    obtain ⟨i, hi, rfl⟩ := mem_getD spr0 hs
    obtain ⟨g1, g2, g3, g4, g5, g6, _⟩ := hsp i hi
    generalize n.spurs.getD i spr0 = s at *
    have hw : (if s.depot then (4 : Int) else 3) = 3 ∨ (if s.depot then (4 : Int) else 3) = 4 := by cases s.depot <;> simp
    refine ⟨(valid_iff _).2 ⟨by simp only [sprD]; omega, ?_, .inl ?_, ?_, ?_⟩, by simp [wD, sprD]⟩
    · rcases hw with hw | hw <;> simp [sprD, shapeV, hw]
    · rcases hw with hw | hw <;> simp [sprD, shapeV, hw]
    · simp only [sprD, List.mem_cons, List.not_mem_nil, or_false]
      rintro t (rfl | rfl | rfl)
      · exact hnms
      · exact hbn _ (by omega) (by omega)
      · exact hbn _ (by omega) (by omega)
    · simp only [sprD, List.mem_cons, List.not_mem_nil, or_false]
      rintro k rfl
      omega
  have h4 : ∀ x ∈ desc4 n n.robots.length, validV x = true ∧ wD x ≤ 27 := by
    intro x hx
    obtain ⟨r, _, hx⟩ := List.mem_flatMap.1 hx
    obtain ⟨s, hs, rfl⟩ := List.mem_map.1 hx
    obtain ⟨hs1, hs2⟩ := List.mem_filter.1 hs
    have hs3 := List.mem_of_mem_take hs1
    have hnms := hns s hs3
    obtain ⟨i, hi, rfl⟩ := mem_getD spr0 hs3
    obtain ⟨g1, g2, g3, g4, g5, g6, _⟩ := hsp i hi
    generalize n.spurs.getD i spr0 = s at *
    simp only [inS, Bool.and_eq_true, decide_eq_true_eq] at hs2
    refine ⟨(valid_iff _).2 ⟨by simp [robD], by simp [robD, shapeV], .inl (by simp [robD, shapeV]), by simpa [robD] using hnms, ?_⟩, by simp [wD, robD]⟩
    simp only [robD, List.mem_cons, List.not_mem_nil, or_false]
    rintro k rfl
    omega
  have h5 : validV ⟨6, 0, [], [n.cq, n.ca, n.cd, n.cp]⟩ = true := by
    unfold cfgP at hcf
    refine (valid_iff _).2 ⟨by simp, by simp [shapeV], .inl (by simp [shapeV]), by simp, ?_⟩
    simp only [List.mem_cons, List.not_mem_nil, or_false]
    rintro k (rfl | rfl | rfl | rfl) <;> omega
  have hl2 : (desc2 n n.blocks.length).length ≤ n.blocks.length * 4 := by
    have := flatMap_len (lanL n) 4 (List.range n.blocks.length) (fun i hi => by
      have := (hrows i (List.mem_range.1 hi)).2.1
      simp only [lanL, List.length_map]; omega)
    simpa [desc2] using this
  have hl4 : (desc4 n n.robots.length).length ≤ n.robots.length * 6 := by
    have := flatMap_len (fun r => robL n r n.spurs.length) 6 (n.robots.take n.robots.length) (fun r _ => by
      simp only [robL, List.length_map]
      exact Nat.le_trans (List.length_filter_le _ _) (by simp; omega))
    simpa [desc4] using this
  refine ⟨fun x hx => ?_, ?_, ?_⟩
  · simp only [desc0, List.mem_append, List.mem_singleton] at hx
    rcases hx with (((hx | hx) | hx) | hx) | rfl
    · exact (h1 x hx).1
    · exact (h2 x hx).1
    · exact (h3 x hx).1
    · exact (h4 x hx).1
    · exact h5
  · have s1 := sumW_le 33 (desc1 n) (fun x hx => (h1 x hx).2)
    have s2 := sumW_le 34 (desc2 n n.blocks.length) (fun x hx => (h2 x hx).2)
    have s3 := sumW_le 53 (desc3 n) (fun x hx => (h3 x hx).2)
    have s4 := sumW_le 27 (desc4 n n.robots.length) (fun x hx => (h4 x hx).2)
    have s5 : sumW [(⟨6, 0, [], [n.cq, n.ca, n.cd, n.cp]⟩ : Dc)] = 32 := by simp [sumW, wD]
    have e1 : (desc1 n).length = n.blocks.length := by simp [desc1]
    have e3 : (desc3 n).length = n.spurs.length := by simp [desc3]
    simp only [desc0, sumW_app, s5]
    rw [e1] at s1; rw [e3] at s3
    omega
  · simp only [desc0, List.length_append, desc1, desc3, List.length_map, List.length_cons, List.length_nil]; omega
theorem lastL_le : ∀ (l : List Ln) (k : Int), formB k l = true → (∀ x ∈ l, x.num ≤ lastL k l) ∧ k ≤ lastL k l
  | [], k, _ => by simp [lastL]
  | x :: r, k, h => by
    obtain ⟨h1, _, _, h2⟩ := formB_cons.1 h
    obtain ⟨h3, h4⟩ := lastL_le r x.num h2
    refine ⟨fun y hy => ?_, by simp only [lastL]; omega⟩
    rcases List.mem_cons.1 hy with rfl | hy
    · exact h4
    · exact h3 y hy
theorem szF_ge : ∀ l : List (List UInt8), l.length ≤ szF l
  | [] => by simp [szF]
  | x :: r => by have := szF_ge r; simp only [szF, List.length_cons]; omega
theorem szL_mem : ∀ (l : List Ln) (x : Ln), x ∈ l → szF x.fs ≤ szL l
  | [], x, h => by simp at h
  | y :: r, x, h => by
    simp only [szL]
    rcases List.mem_cons.1 h with rfl | h
    · omega
    · have := szL_mem r x h; omega
theorem descV_text (n : Nt) (hn : validN n) : (∀ x ∈ descV n, validV x = true) ∧ formB 0 ((descV n).map lnD) = true ∧ (textL 1 ((descV n).map lnD)).length ≤ 6000 ∧ (descV n).length ≤ 400 ∧ ∀ x ∈ (descV n).map lnD, x.num ≤ 400 ∧ x.fs.length ≤ 6000 := by
  obtain ⟨h1, h2, h3⟩ := desc0_valid n hn
  obtain ⟨h4, h5, h6⟩ := numD_form 0 (desc0 n) h1
  have h7 := textL_len ((descV n).map lnD) 0 h4
  have h8 := lastL_le _ _ h4
  have h9 : ∀ x ∈ (descV n).map lnD, x.num ≤ 400 ∧ x.fs.length ≤ 6000 := fun x hx => by
    have h12 := szF_ge x.fs
    have h13 := szL_mem _ x hx
    have h14 : szL ((descV n).map lnD) ≤ sumW (desc0 n) := h6
    have h10 : x.num ≤ lastL ((0 : Nat) : Int) ((numD 0 (desc0 n)).map lnD) := h8.1 x hx
    rw [h5] at h10
    refine ⟨?_, by omega⟩
    omega
  refine ⟨numD_valid 0 _ h1, h4, ?_, by simpa [descV, numD_len] using h3, h9⟩
  have e1 : ((descV n).map lnD).length = (desc0 n).length := by simp [descV, numD_len]
  have e2 : lastL ((0 : Nat) : Int) ((descV n).map lnD) = ((0 : Nat) : Int) + (desc0 n).length := h5
  have e3 : szL ((descV n).map lnD) ≤ sumW (desc0 n) := h6
  have e4 : ((textL 1 ((descV n).map lnD)).length : Int) + ((0 : Nat) : Int) + ((descV n).map lnD).length = szL ((descV n).map lnD) + lastL ((0 : Nat) : Int) ((descV n).map lnD) := h7.1
  omega
end Go.Am
end

section
/- LayoutTexts, as a contract. -/
namespace Go.Am
open Go Go.Proofs
set_option maxRecDepth 100000
set_option linter.unusedVariables false
set_option linter.unusedSimpArgs false
theorem layoutTexts_ok (l : List Int) : ACalls Tryz.prog 3 [.p (.sl (encI l))] [(1000000, (.glob 0 tabCs))] fun h r => h = [(1000000, (.glob 0 tabCs))] ∧ r = .p (.bool true) := by
  refine ACalls_X Tryz.func3 rfl enters3 (by simp [Tryz.f3]) ?_
  simp only [go_sem, ↓reduceIte, Nat.reduceLT, Nat.reduceLeDiff, Nat.reduceEqDiff, Nat.reduceAdd, Nat.reduceMul, Nat.reduceSub, reduceCtorEq, Int.reduceLT, Int.reduceLE, Int.reduceEq, Int.reduceToNat, decide_true, decide_false, Int.reduceNeg, Int.cast_ofNat_Int, sg, AO.sg, Option.isNone_none]
  refine Cc_of ((known_ok).glob (id := 1000000) (by decide) rfl (by simp [idsL, D.ids, hpIds]) (fun h1 r hr => by rw [hr.1]; rfl)) ?_
  rintro h' r ⟨_, ⟨rfl, rfl⟩, rfl⟩
  simp only [go_sem, ↓reduceIte, Nat.reduceLT, Nat.reduceLeDiff, Nat.reduceEqDiff, Nat.reduceAdd, Nat.reduceMul, Nat.reduceSub, reduceCtorEq, Int.reduceLT, Int.reduceLE, Int.reduceEq, Int.reduceToNat, decide_true, decide_false, Int.reduceNeg, Int.cast_ofNat_Int, sg, AO.sg, Option.isNone_none]
  refine Cc_of ((net_ok l 0 6 (by omega) (by omega) (by omega)).glob (id := 1000001) (by decide) rfl (by simp [idsL, D.ids, hpIds, tapeC, AO.ids, get]) (fun h1 r hr => by obtain ⟨_, _, _, _, rfl, rfl⟩ := hr; rfl)) ?_
  rintro h' r ⟨h1, ⟨at2, n, hat2, hn, rfl, rfl⟩, rfl⟩
  have hvn := hn.valid
  have hds := descV_small n hvn
  obtain ⟨hval, hform, htl, hdl, hnum⟩ := descV_text n hvn
  simp only [go_sem, ↓reduceIte, Nat.reduceLT, Nat.reduceLeDiff, Nat.reduceEqDiff, Nat.reduceAdd, Nat.reduceMul, Nat.reduceSub, reduceCtorEq, Int.reduceLT, Int.reduceLE, Int.reduceEq, Int.reduceToNat, decide_true, decide_false, Int.reduceNeg, Int.cast_ofNat_Int, sg, AO.sg, Option.isNone_none, tapeC, Nt.cs]
  refine Cc_of ((describe_ok n hvn).glob (id := 1000000) (by decide) rfl (by simp [idsL, D.ids, hpIds, Nt.cs]) (fun h1 r hr => by rw [hr.1]; rfl)) ?_
  rintro h' r ⟨_, ⟨rfl, rfl⟩, rfl⟩
  generalize descV n = d at *
  have hf := fmtV_all d [] hval
  have hb := parseV_back d [] hval
  have hsz := fmtV_small 2000000 d [] hds.2 (by simp)
  rw [hf] at hsz
  rw [List.nil_append] at hf hb hsz
  simp only [go_sem, ↓reduceIte, Nat.reduceLT, Nat.reduceLeDiff, Nat.reduceEqDiff, Nat.reduceAdd, Nat.reduceMul, Nat.reduceSub, reduceCtorEq, Int.reduceLT, Int.reduceLE, Int.reduceEq, Int.reduceToNat, decide_true, decide_false, Int.reduceNeg, Int.cast_ofNat_Int, sg, AO.sg, Option.isNone_none]
  refine Cc_of ((fmtLx_ok d (by omega) (fun x hx => by have := hds.2 x hx; omega))) ?_
  rintro h' r ⟨rfl, rfl⟩
  rw [hf]
  have hlm : (d.map fun x => (⟨x.line, formLine x⟩ : Ln)) = d.map lnD := rfl
  rw [hlm] at hb hsz ⊢
  have hml : (d.map lnD).length = d.length := by simp
  generalize d.map lnD = ls at *
  simp only [go_sem, ↓reduceIte, Nat.reduceLT, Nat.reduceLeDiff, Nat.reduceEqDiff, Nat.reduceAdd, Nat.reduceMul, Nat.reduceSub, reduceCtorEq, Int.reduceLT, Int.reduceLE, Int.reduceEq, Int.reduceToNat, decide_true, decide_false, Int.reduceNeg, Int.cast_ofNat_Int, sg, AO.sg, Option.isNone_none, fmtR]
  refine Cc_of ((join1_ok ls ⟨by omega, fun x hx => ⟨by have := hnum x hx; omega, by have := hnum x hx; omega⟩⟩).glob (id := 1000000) (by decide) rfl (by simp [idsL, D.ids, hpIds]) (fun h1 r hr => by rw [hr.1]; rfl)) ?_
  rintro h' r ⟨_, ⟨rfl, rfl⟩, rfl⟩
  have hj : joinV ls = (textL 1 ls, 0) := by unfold joinV; rw [if_pos hform, if_neg (by omega)]
  have hfl := fLines_text ls hform htl
  simp only [go_sem, ↓reduceIte, Nat.reduceLT, Nat.reduceLeDiff, Nat.reduceEqDiff, Nat.reduceAdd, Nat.reduceMul, Nat.reduceSub, reduceCtorEq, Int.reduceLT, Int.reduceLE, Int.reduceEq, Int.reduceToNat, decide_true, decide_false, Int.reduceNeg, Int.cast_ofNat_Int, sg, AO.sg, Option.isNone_none, joinR, hj]
  refine Cc_of ((lines1_ok (textL 1 ls)).glob (id := 1000000) (by decide) rfl (by simp [idsL, D.ids, hpIds]) (fun h1 r hr => by rw [hr.1]; rfl)) ?_
  rintro h' r ⟨_, ⟨rfl, rfl⟩, rfl⟩
  rw [hfl]
  simp only [go_sem, ↓reduceIte, Nat.reduceLT, Nat.reduceLeDiff, Nat.reduceEqDiff, Nat.reduceAdd, Nat.reduceMul, Nat.reduceSub, reduceCtorEq, Int.reduceLT, Int.reduceLE, Int.reduceEq, Int.reduceToNat, decide_true, decide_false, Int.reduceNeg, Int.cast_ofNat_Int, sg, AO.sg, Option.isNone_none, linesR]
  refine Cc_of ((parsel_ok ls (by omega) (fun x hx => by have := hsz.2 x hx; omega)).glob (id := 1000000) (by decide) rfl (by simp [idsL, D.ids, hpIds]) (fun h1 r hr => by rw [hr.1]; rfl)) ?_
  rintro h' r ⟨_, ⟨rfl, rfl⟩, rfl⟩
  simp only [go_sem, ↓reduceIte, Nat.reduceLT, Nat.reduceLeDiff, Nat.reduceEqDiff, Nat.reduceAdd, Nat.reduceMul, Nat.reduceSub, reduceCtorEq, Int.reduceLT, Int.reduceLE, Int.reduceEq, Int.reduceToNat, decide_true, decide_false, Int.reduceNeg, Int.cast_ofNat_Int, sg, AO.sg, Option.isNone_none, hb, parseR]
  refine Cc_of ((sameDecls_ok d d ⟨by omega, fun x hx => by have := hds.2 x hx; omega⟩).glob (id := 1000000) (by decide) rfl (by simp [idsL, D.ids, hpIds]) (fun h1 r hr => by rw [hr.1]; rfl)) ?_
  rintro h' r ⟨_, ⟨rfl, rfl⟩, rfl⟩
  simp only [go_sem, ↓reduceIte, Nat.reduceLT, Nat.reduceLeDiff, Nat.reduceEqDiff, Nat.reduceAdd, Nat.reduceMul, Nat.reduceSub, reduceCtorEq, Int.reduceLT, Int.reduceLE, Int.reduceEq, Int.reduceToNat, decide_true, decide_false, Int.reduceNeg, Int.cast_ofNat_Int, sg, AO.sg, Option.isNone_none]
end Go.Am
end
