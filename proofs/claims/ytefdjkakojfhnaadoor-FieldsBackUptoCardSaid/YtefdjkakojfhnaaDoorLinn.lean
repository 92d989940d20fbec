/- lines of the law of layer 1, and what is true of them. -/
import Derived.Test.YtefdjkakojfhnaaDoorJoir
namespace Go.Am
open Go Go.Proofs
set_option maxRecDepth 100000
set_option linter.unusedVariables false
set_option linter.unusedSimpArgs false
def sgnL : List UInt8 := [97, 90, 48, 57, 45, 95, 33, 126]
def lnB (l : List Int) : Nat → Nat → List UInt8 → List UInt8 × Nat
  | 0, a, acc => (acc, a)
  | k + 1, a, acc => lnB l k (a + 1) (acc ++ [sgnL.getD (nextV l a 8).toNat 0])
def fB (l : List Int) (a : Nat) : List UInt8 × Nat := lnB l (1 + (nextV l a 12).toNat) (a + 1) []
def lnF (l : List Int) : Nat → Nat → List (List UInt8) → List (List UInt8) × Nat
  | 0, a, acc => (acc, a)
  | k + 1, a, acc => lnF l k (fB l a).2 (acc ++ [(fB l a).1])
def gB (l : List Int) (a : Nat) : List (List UInt8) × Nat := lnF l (1 + (nextV l (a + 1) 4).toNat) (a + 2) []
def lnG (l : List Int) : Nat → Nat → Nat → List Ln → List Ln
  | 0, _, _, acc => acc
  | k + 1, a, num, acc => lnG l k (gB l a).2 (num + (1 + (nextV l a 3).toNat)) (acc ++ [⟨((num + (1 + (nextV l a 3).toNat) : Nat) : Int), (gB l a).1⟩])
def linesW (l : List Int) : List Ln := lnG l (nextV l 0 6).toNat 1 0 []
theorem lnB_at (l : List Int) : ∀ (k a : Nat) (acc : List UInt8), (lnB l k a acc).2 = a + k ∧ (lnB l k a acc).1.length = acc.length + k
  | 0, a, acc => by simp [lnB]
  | k + 1, a, acc => by have := lnB_at l k (a + 1) (acc ++ [sgnL.getD (nextV l a 8).toNat 0]); simp only [lnB]; rw [List.length_append, List.length_singleton] at this; omega
theorem fB_at (l : List Int) (a : Nat) : (fB l a).2 ≤ a + 13 ∧ (fB l a).1.length ≤ 12 ∧ 1 ≤ (fB l a).1.length := by
  obtain ⟨k, h1, h2⟩ := nextV_rng l a 12 (by omega)
  have := lnB_at l (1 + (nextV l a 12).toNat) (a + 1) []
  unfold fB
  rw [h1, Int.toNat_natCast] at *
  simp at this; omega
theorem lnF_at (l : List Int) : ∀ (k a : Nat) (acc : List (List UInt8)), (lnF l k a acc).2 ≤ a + 13 * k ∧ (lnF l k a acc).1.length = acc.length + k
  | 0, a, acc => by simp [lnF]
  | k + 1, a, acc => by have := lnF_at l k (fB l a).2 (acc ++ [(fB l a).1]); have := fB_at l a; simp only [lnF]; simp at *; omega
theorem gB_at (l : List Int) (a : Nat) : (gB l a).2 ≤ a + 60 ∧ (gB l a).1.length ≤ 4 ∧ 1 ≤ (gB l a).1.length := by
  obtain ⟨k, h1, h2⟩ := nextV_rng l (a + 1) 4 (by omega)
  have := lnF_at l (1 + (nextV l (a + 1) 4).toNat) (a + 2) []
  unfold gB
  rw [h1, Int.toNat_natCast] at *
  simp at this; omega
theorem linesw_ok (l : List Int) : ACalls Tryd.prog 32 [.p (.sl (encI l))] [] fun h r => h = [] ∧ r = .p (.sl (encL (linesW l))) := by
  refine ACalls_X Tryd.func32 rfl enters32 (by simp [Tryd.f32]) ?_
  simp only [go_sem, ↓reduceIte, Nat.reduceLT, Nat.reduceLeDiff, Nat.reduceEqDiff, Nat.reduceAdd, Nat.reduceMul, Nat.reduceSub, reduceCtorEq, Int.reduceLT, Int.reduceLE, Int.reduceEq, Int.reduceToNat, decide_true, decide_false, Int.reduceNeg, Int.cast_ofNat_Int, sg, AO.sg, Option.isNone_none]
  refine Cc_of ((next_ok l 0 6 (by omega) (in64_small _ (by omega) (by omega)))) ?_
  rintro h' r ⟨rfl, rfl⟩
  obtain ⟨k0, hk0, hk6⟩ := nextV_rng l 0 6 (by omega)
  have hgoal : linesW l = lnG l k0 1 0 [] := by unfold linesW; rw [hk0]; rfl
  rw [hgoal]
  simp only [go_sem, ↓reduceIte, Nat.reduceLT, Nat.reduceLeDiff, Nat.reduceEqDiff, Nat.reduceAdd, Nat.reduceMul, Nat.reduceSub, reduceCtorEq, Int.reduceLT, Int.reduceLE, Int.reduceEq, Int.reduceToNat, decide_true, decide_false, Int.reduceNeg, Int.cast_ofNat_Int, sg, AO.sg, Option.isNone_none, tapeC, hk0]
  refine X_loop_inv (fun q : Nat × Nat × Nat × List Ln => ⟨[(3, .ptr 13 0), (4, .ref 57 0 q.2.2.2.length q.2.2.2.length), (5, .p (.int .i64 (q.2.2.1 : Nat))), (6, .p (.int .i64 (q.1 : Nat)))],
      [(13, .box [.p (.sl (encI l)), .p (.int .i64 (q.2.1 : Nat))]), (57, .arr 72 2 (encL q.2.2.2))], 59⟩)
    (fun q => q.1 ≤ 6 ∧ q.2.1 ≤ 1 + 60 * (6 - q.1) ∧ q.2.2.1 ≤ 3 * (6 - q.1) ∧ q.2.2.2.length ≤ 6 - q.1 ∧ lnG l q.1 q.2.1 q.2.2.1 q.2.2.2 = lnG l k0 1 0 []) (fun q => q.1) (k0, 1, 0, []) ⟨by simp only; omega, by simp only; omega, by simp only; omega, by simp, rfl⟩
    ((Wk.nil (t := 4) (q := 57) (sz := 2) 72 rfl rfl (by decide)).trans (Wk.forget (by simp [Le, LeE, LeH, get, envIds, hpIds, KeepH, D.ids, idsL, AO.ids, setL, base, encL]))) ?_
  rintro ⟨k, at_, num, acc⟩ n ⟨hk, hat, hnum, hacc, he⟩ ih
  simp only at hk hat hnum hacc he
  simp only [go_sem, ↓reduceIte, Nat.reduceLT, Nat.reduceLeDiff, Nat.reduceEqDiff, Nat.reduceAdd, Nat.reduceMul, Nat.reduceSub, reduceCtorEq, Int.reduceLT, Int.reduceLE, Int.reduceEq, Int.reduceToNat, decide_true, decide_false, Int.reduceNeg, Int.cast_ofNat_Int, sg, AO.sg, Option.isNone_none]
  refine Cn_split (fun h2 => ?_) (fun h2 => ?_)
  rotate_left
  · have hk1 : k = 0 := by simp at h2; omega
    subst hk1
    simp only [go_sem, ↓reduceIte, Nat.reduceLT, Nat.reduceLeDiff, Nat.reduceEqDiff, Nat.reduceAdd, Nat.reduceMul, Nat.reduceSub, reduceCtorEq, Int.reduceLT, Int.reduceLE, Int.reduceEq, Int.reduceToNat, decide_true, decide_false, Int.reduceNeg, Int.cast_ofNat_Int, sg, AO.sg, Option.isNone_none]
    refine end_pure ?_
    simp only [go_sem, ↓reduceIte, Nat.reduceLT, Nat.reduceLeDiff, Nat.reduceEqDiff, Nat.reduceAdd, Nat.reduceMul, Nat.reduceSub, reduceCtorEq, Int.reduceLT, Int.reduceLE, Int.reduceEq, Int.reduceToNat, decide_true, decide_false, Int.reduceNeg, Int.cast_ofNat_Int, sg, AO.sg, Option.isNone_none]
    rw [← he]
    simp [lnG, encL_len, encL_take]
  have hk1 : 1 ≤ k := by simp at h2; omega
  obtain ⟨k, rfl⟩ : ∃ j, k = j + 1 := ⟨k - 1, by omega⟩
  simp only [lnG] at he
  obtain ⟨d, hd, hd3⟩ := nextV_rng l at_ 3 (by omega)
  obtain ⟨j0, hj0, hj4⟩ := nextV_rng l (at_ + 1) 4 (by omega)
  rw [hd, Int.toNat_natCast] at he
  have hgb := gB_at l at_
  have hgd : gB l at_ = lnF l (1 + j0) (at_ + 1 + 1) [] := by unfold gB; rw [hj0, Int.toNat_natCast]
  have hw1 : IntKind.i64.wrap (1 + (d : Int)) = ((1 + d : Nat) : Int) := by rw [wrap_i64_id] <;> omega
  have hw2 : IntKind.i64.wrap ((num : Int) + ((1 + d : Nat) : Int)) = ((num + (1 + d) : Nat) : Int) := by rw [wrap_i64_id] <;> omega
  have hw3 : IntKind.i64.wrap (1 + (j0 : Int)) = ((1 + j0 : Nat) : Int) := by rw [wrap_i64_id] <;> omega
  have hwk : IntKind.i64.wrap (((k + 1 : Nat) : Int) - 1) = (k : Int) := by rw [wrap_i64_id] <;> omega
  simp only [go_sem, ↓reduceIte, Nat.reduceLT, Nat.reduceLeDiff, Nat.reduceEqDiff, Nat.reduceAdd, Nat.reduceMul, Nat.reduceSub, reduceCtorEq, Int.reduceLT, Int.reduceLE, Int.reduceEq, Int.reduceToNat, decide_true, decide_false, Int.reduceNeg, Int.cast_ofNat_Int, sg, AO.sg, Option.isNone_none]
  refine Cc_of ((next_ok l at_ 3 (by omega) (in64_small _ (by omega) (by omega)))) ?_
  rintro h' r ⟨rfl, rfl⟩
  simp only [go_sem, ↓reduceIte, Nat.reduceLT, Nat.reduceLeDiff, Nat.reduceEqDiff, Nat.reduceAdd, Nat.reduceMul, Nat.reduceSub, reduceCtorEq, Int.reduceLT, Int.reduceLE, Int.reduceEq, Int.reduceToNat, decide_true, decide_false, Int.reduceNeg, Int.cast_ofNat_Int, sg, AO.sg, Option.isNone_none, tapeC, hd, hw1, hw2]
  refine Cc_of ((next_ok l (at_ + 1) 4 (by omega) (in64_small _ (by omega) (by omega)))) ?_
  rintro h' r ⟨rfl, rfl⟩
  simp only [go_sem, ↓reduceIte, Nat.reduceLT, Nat.reduceLeDiff, Nat.reduceEqDiff, Nat.reduceAdd, Nat.reduceMul, Nat.reduceSub, reduceCtorEq, Int.reduceLT, Int.reduceLE, Int.reduceEq, Int.reduceToNat, decide_true, decide_false, Int.reduceNeg, Int.cast_ofNat_Int, sg, AO.sg, Option.isNone_none, tapeC, hj0, hw3]
  generalize hnn : num + (1 + d) = num2 at *
  refine X_loop_inv (fun q : Nat × Nat × List (List UInt8) => ⟨[(3, .ptr 13 0), (4, .ref 57 0 acc.length acc.length), (5, .p (.int .i64 (num2 : Nat))), (6, .p (.int .i64 (k + 1 : Nat))), (7, .ptr 7 0), (8, .p (.int .i64 (q.1 : Nat)))],
      [(7, .box [.p (.int .i64 (num2 : Nat)), .ref 52 0 q.2.2.length q.2.2.length]), (52, .arr 9 1 (encS q.2.2)), (13, .box [.p (.sl (encI l)), .p (.int .i64 (q.2.1 : Nat))]), (57, .arr 72 2 (encL acc))], 59⟩)
    (fun q => q.1 ≤ 5 ∧ q.2.1 ≤ at_ + 2 + 13 * (5 - q.1) ∧ q.2.2.length ≤ 5 - q.1 ∧ lnF l q.1 q.2.1 q.2.2 = gB l at_) (fun q => q.1) (1 + j0, at_ + 1 + 1, []) ⟨by simp only; omega, by simp only; omega, by simp, hgd.symm⟩
    ((Wk.nilBox (id := 7) (j := 1) (q := 52) (sz := 1) 9 rfl rfl rfl (by decide)).trans (Wk.forget (by simp [Le, LeE, LeH, get, envIds, hpIds, KeepH, D.ids, idsL, AO.ids, setL, base, encS]))) ?_
  rintro ⟨j, a, fs⟩ n2 ⟨hj, ha, hfs, hef⟩ ih2
  simp only at hj ha hfs hef
  simp only [go_sem, ↓reduceIte, Nat.reduceLT, Nat.reduceLeDiff, Nat.reduceEqDiff, Nat.reduceAdd, Nat.reduceMul, Nat.reduceSub, reduceCtorEq, Int.reduceLT, Int.reduceLE, Int.reduceEq, Int.reduceToNat, decide_true, decide_false, Int.reduceNeg, Int.cast_ofNat_Int, sg, AO.sg, Option.isNone_none]
  refine Cn_split (fun h3 => ?_) (fun h3 => ?_)
  rotate_left
  · have hj1 : j = 0 := by simp at h3; omega
    subst hj1
    simp only [lnF] at hef
    simp only [go_sem, ↓reduceIte, Nat.reduceLT, Nat.reduceLeDiff, Nat.reduceEqDiff, Nat.reduceAdd, Nat.reduceMul, Nat.reduceSub, reduceCtorEq, Int.reduceLT, Int.reduceLE, Int.reduceEq, Int.reduceToNat, decide_true, decide_false, Int.reduceNeg, Int.cast_ofNat_Int, sg, AO.sg, Option.isNone_none, encS_len, encL_len, encS_take fs fs.length (Nat.le_refl _), hwk]
    refine ⟨⟨wid1 _ _ rfl, by omega⟩, ?_⟩
    rw [← hef] at he hgb
    refine ih (k, a, num2, acc ++ [⟨(num2 : Nat), fs⟩]) _ ⟨by simp only; omega, by simp only at hgb; simp only; omega, by simp only; omega, by simp; omega, he⟩ (by simp only; omega) ?_
    (refine Wk.forget ?_; simp [Le, LeE, LeH, get, envIds, hpIds, KeepH, D.ids, idsL, AO.ids, setL, base, encL_snoc, encL_len]; done)
  have hj1 : 1 ≤ j := by simp at h3; omega
  obtain ⟨j, rfl⟩ : ∃ i, j = i + 1 := ⟨j - 1, by omega⟩
  simp only [lnF] at hef
  have hfb := fB_at l a
  obtain ⟨i0, hi0, hi12⟩ := nextV_rng l a 12 (by omega)
  have hfd : fB l a = lnB l (1 + i0) (a + 1) [] := by unfold fB; rw [hi0, Int.toNat_natCast]
  have hw4 : IntKind.i64.wrap (1 + (i0 : Int)) = ((1 + i0 : Nat) : Int) := by rw [wrap_i64_id] <;> omega
  have hwj : IntKind.i64.wrap (((j + 1 : Nat) : Int) - 1) = (j : Int) := by rw [wrap_i64_id] <;> omega
  simp only [go_sem, ↓reduceIte, Nat.reduceLT, Nat.reduceLeDiff, Nat.reduceEqDiff, Nat.reduceAdd, Nat.reduceMul, Nat.reduceSub, reduceCtorEq, Int.reduceLT, Int.reduceLE, Int.reduceEq, Int.reduceToNat, decide_true, decide_false, Int.reduceNeg, Int.cast_ofNat_Int, sg, AO.sg, Option.isNone_none]
  refine Cc_of ((next_ok l a 12 (by omega) (in64_small _ (by omega) (by omega)))) ?_
  rintro h' r ⟨rfl, rfl⟩
  simp only [go_sem, ↓reduceIte, Nat.reduceLT, Nat.reduceLeDiff, Nat.reduceEqDiff, Nat.reduceAdd, Nat.reduceMul, Nat.reduceSub, reduceCtorEq, Int.reduceLT, Int.reduceLE, Int.reduceEq, Int.reduceToNat, decide_true, decide_false, Int.reduceNeg, Int.cast_ofNat_Int, sg, AO.sg, Option.isNone_none, tapeC, hi0, hw4]
  refine X_loop_inv (fun q : Nat × Nat × List UInt8 => ⟨[(3, .ptr 13 0), (4, .ref 57 0 acc.length acc.length), (5, .p (.int .i64 (num2 : Nat))), (6, .p (.int .i64 (k + 1 : Nat))), (7, .ptr 7 0), (8, .p (.int .i64 (j + 1 : Nat))), (9, .ref 46 0 q.2.2.length q.2.2.length), (10, .p (.int .i64 (q.1 : Nat)))],
      [(7, .box [.p (.int .i64 (num2 : Nat)), .ref 52 0 fs.length fs.length]), (46, .arr 5 1 (encB q.2.2)), (52, .arr 9 1 (encS fs)), (13, .box [.p (.sl (encI l)), .p (.int .i64 (q.2.1 : Nat))]), (57, .arr 72 2 (encL acc))], 59⟩)
    (fun q => q.1 ≤ 12 ∧ q.2.1 ≤ a + 1 + (12 - q.1) ∧ q.2.2.length ≤ 12 - q.1 ∧ lnB l q.1 q.2.1 q.2.2 = fB l a) (fun q => q.1) (1 + i0, a + 1, []) ⟨by simp only; omega, by simp only; omega, by simp, hfd.symm⟩
    ((Wk.nil (t := 9) (q := 46) (sz := 1) 5 rfl rfl (by decide)).trans (Wk.forget (by simp [Le, LeE, LeH, get, envIds, hpIds, KeepH, D.ids, idsL, AO.ids, setL, base, encB, encS]))) ?_
  rintro ⟨i, b, bs⟩ n3 ⟨hi, hb, hbs, heb⟩ ih3
  simp only at hi hb hbs heb
  simp only [go_sem, ↓reduceIte, Nat.reduceLT, Nat.reduceLeDiff, Nat.reduceEqDiff, Nat.reduceAdd, Nat.reduceMul, Nat.reduceSub, reduceCtorEq, Int.reduceLT, Int.reduceLE, Int.reduceEq, Int.reduceToNat, decide_true, decide_false, Int.reduceNeg, Int.cast_ofNat_Int, sg, AO.sg, Option.isNone_none]
  refine Cn_split (fun h4 => ?_) (fun h4 => ?_)
  · have hi1 : 1 ≤ i := by simp at h4; omega
    obtain ⟨i, rfl⟩ : ∃ u, i = u + 1 := ⟨i - 1, by omega⟩
    simp only [lnB] at heb
    obtain ⟨u, hu, hu8⟩ := nextV_rng l b 8 (by omega)
    rw [hu, Int.toNat_natCast] at heb
    have hu0 : (0 : Int) ≤ (u : Int) ∧ (u : Int) < 8 := by omega
    have hwi : IntKind.i64.wrap (((i + 1 : Nat) : Int) - 1) = (i : Int) := by rw [wrap_i64_id] <;> omega
    simp only [go_sem, ↓reduceIte, Nat.reduceLT, Nat.reduceLeDiff, Nat.reduceEqDiff, Nat.reduceAdd, Nat.reduceMul, Nat.reduceSub, reduceCtorEq, Int.reduceLT, Int.reduceLE, Int.reduceEq, Int.reduceToNat, decide_true, decide_false, Int.reduceNeg, Int.cast_ofNat_Int, sg, AO.sg, Option.isNone_none]
    refine Cc_of ((next_ok l b 8 (by omega) (in64_small _ (by omega) (by omega)))) ?_
    rintro h' r ⟨rfl, rfl⟩
    have hsg : ([97, 90, 48, 57, 45, 95, 33, 126] : List UInt8).getD u 0 = sgnL.getD u 0 := rfl
    simp only [go_sem, ↓reduceIte, Nat.reduceLT, Nat.reduceLeDiff, Nat.reduceEqDiff, Nat.reduceAdd, Nat.reduceMul, Nat.reduceSub, reduceCtorEq, Int.reduceLT, Int.reduceLE, Int.reduceEq, Int.reduceToNat, decide_true, decide_false, Int.reduceNeg, Int.cast_ofNat_Int, sg, AO.sg, Option.isNone_none, tapeC, hu, hu0, Int.toNat_natCast, hsg, encB_len, hwi]
    refine ⟨⟨wid1 _ _ rfl, by omega⟩, ?_⟩
    refine ih3 (i, b + 1, bs ++ [sgnL.getD u 0]) _ ⟨by simp only; omega, by simp only; omega, by simp; omega, heb⟩ (by simp only; omega) ?_
    (refine Wk.forget ?_; simp [Le, LeE, LeH, get, envIds, hpIds, KeepH, D.ids, idsL, AO.ids, setL, base, encB_snoc, encB_len]; done)
  · have hi1 : i = 0 := by simp at h4; omega
    subst hi1
    simp only [lnB] at heb
    rw [← heb] at hef hfb
    simp only [go_sem, ↓reduceIte, Nat.reduceLT, Nat.reduceLeDiff, Nat.reduceEqDiff, Nat.reduceAdd, Nat.reduceMul, Nat.reduceSub, reduceCtorEq, Int.reduceLT, Int.reduceLE, Int.reduceEq, Int.reduceToNat, decide_true, decide_false, Int.reduceNeg, Int.cast_ofNat_Int, sg, AO.sg, Option.isNone_none]
    refine Af_str rfl ti35 ti9 ti5 rfl rfl ?_
    simp only [go_sem, ↓reduceIte, Nat.reduceLT, Nat.reduceLeDiff, Nat.reduceEqDiff, Nat.reduceAdd, Nat.reduceMul, Nat.reduceSub, reduceCtorEq, Int.reduceLT, Int.reduceLE, Int.reduceEq, Int.reduceToNat, decide_true, decide_false, Int.reduceNeg, Int.cast_ofNat_Int, sg, AO.sg, Option.isNone_none, encS_len, hwj]
    refine ⟨⟨wid1 _ _ rfl, by omega⟩, ?_⟩
    refine ih2 (j, b, fs ++ [bs]) _ ⟨by simp only; omega, by simp only at hfb; simp only; omega, by simp; omega, hef⟩ (by simp only; omega) ?_
    (refine Wk.forget ?_; simp [Le, LeE, LeH, get, envIds, hpIds, KeepH, D.ids, idsL, AO.ids, setL, base, encS_snoc, encS_len]; done)
/-- They are well formed. -/
theorem sgn_all (u : Nat) (h : u < 8) : allB (sgnL.getD u 0).toNat = true := by
  rcases u with _ | _ | _ | _ | _ | _ | _ | _ | u
  all_goals first | decide | omega
theorem lnB_all (l : List Int) : ∀ (k a : Nat) (acc : List UInt8), (∀ b ∈ acc, allB b.toNat = true) → ∀ b ∈ (lnB l k a acc).1, allB b.toNat = true
  | 0, a, acc, h => by simpa [lnB] using h
  | k + 1, a, acc, h => by
    simp only [lnB]
    refine lnB_all l k (a + 1) _ fun b hb => ?_
    simp only [List.mem_append, List.mem_singleton] at hb
    rcases hb with hb | rfl
    · exact h b hb
    · obtain ⟨u, hu, hu8⟩ := nextV_rng l a 8 (by omega)
      rw [hu, Int.toNat_natCast]
      exact sgn_all u (by omega)
theorem fB_prop (l : List Int) (a : Nat) : propB (fB l a).1 = true := by
  have h := fB_at l a
  refine propB_iff.2 ⟨fun e => ?_, h.2.1, lnB_all l _ _ _ (by simp)⟩
  rw [e] at h
  simp at h
theorem lnF_prop (l : List Int) : ∀ (k a : Nat) (acc : List (List UInt8)), (∀ s ∈ acc, propB s = true) → ∀ s ∈ (lnF l k a acc).1, propB s = true
  | 0, a, acc, h => by simpa [lnF] using h
  | k + 1, a, acc, h => by
    simp only [lnF]
    refine lnF_prop l k _ _ fun s hs => ?_
    simp only [List.mem_append, List.mem_singleton] at hs
    rcases hs with hs | rfl
    · exact h s hs
    · exact fB_prop l a
theorem gB_prop (l : List Int) (a : Nat) : (gB l a).1 ≠ [] ∧ ∀ s ∈ (gB l a).1, propB s = true := by
  have h := gB_at l a
  refine ⟨fun e => ?_, lnF_prop l _ _ _ (by simp)⟩
  rw [e] at h
  simp at h
theorem formB_snoc (x : Ln) : ∀ (acc : List Ln) (k : Int), formB k acc = true → lastL k acc < x.num → x.fs ≠ [] → (∀ s ∈ x.fs, propB s = true) → formB k (acc ++ [x]) = true
  | [], k, _, h1, h2, h3 => formB_cons.2 ⟨h1, h2, h3, rfl⟩
  | y :: r, k, h, h1, h2, h3 => by
    obtain ⟨a, b, c, d⟩ := formB_cons.1 h
    exact formB_cons.2 ⟨a, b, c, formB_snoc x r _ d h1 h2 h3⟩
theorem lastL_snoc (x : Ln) : ∀ (acc : List Ln) (k : Int), lastL k (acc ++ [x]) = x.num
  | [], k => rfl
  | y :: r, k => lastL_snoc x r _
theorem szF_le : ∀ (r : List (List UInt8)), (∀ s ∈ r, propB s = true) → szF r ≤ 13 * r.length
  | [], _ => by simp [szF]
  | s :: r, h => by
    have h1 := szF_le r (fun y hy => h y (by simp [hy]))
    have h2 := (propB_iff.1 (h s (by simp))).2.1
    simp only [szF, List.length_cons]; omega
theorem szL_app (a b : List Ln) : szL (a ++ b) = szL a + szL b := by
  induction a with
  | nil => simp [szL]
  | cons x r ih => simp only [List.cons_append, szL, ih]; omega
theorem lnG_form (l : List Int) : ∀ (k a num : Nat) (acc : List Ln), formB 0 acc = true → lastL 0 acc = (num : Int) → (∀ x ∈ acc, x.fs.length ≤ 4) →
    formB 0 (lnG l k a num acc) = true ∧ lastL 0 (lnG l k a num acc) ≤ num + 3 * k ∧ szL (lnG l k a num acc) ≤ szL acc + 52 * k ∧ (lnG l k a num acc).length = acc.length + k ∧ ∀ x ∈ lnG l k a num acc, x.fs.length ≤ 4
  | 0, a, num, acc, h, h1, h2 => ⟨h, by simp [lnG, h1], by simp [lnG], by simp [lnG], h2⟩
  | k + 1, a, num, acc, h, h1, h2 => by
    simp only [lnG]
    obtain ⟨d, hd, hd3⟩ := nextV_rng l a 3 (by omega)
    rw [hd, Int.toNat_natCast]
    have hg := gB_prop l a
    have hga := gB_at l a
    have hsz := szF_le _ hg.2
    have := lnG_form l k (gB l a).2 (num + (1 + d)) (acc ++ [⟨((num + (1 + d) : Nat) : Int), (gB l a).1⟩]) (formB_snoc _ acc 0 h (by rw [h1]; simp only; omega) hg.1 hg.2) (lastL_snoc _ _ _) (fun x hx => by
      simp only [List.mem_append, List.mem_singleton] at hx
      rcases hx with hx | rfl
      · exact h2 x hx
      · exact hga.2.1)
    obtain ⟨h3, h4, h5, h6, h7⟩ := this
    rw [szL_app] at h5
    simp only [szL] at h5
    refine ⟨h3, by omega, by omega, by rw [h6]; simp; omega, h7⟩
theorem linesW_form (l : List Int) : formB 0 (linesW l) = true ∧ (textL 1 (linesW l)).length ≤ 6000 ∧ (linesW l).length ≤ 6 ∧ ∀ x ∈ linesW l, x.fs.length ≤ 4 ∧ x.num ≤ 100 ∧ ∀ s ∈ x.fs, s.length ≤ 12 := by
  obtain ⟨k, h1, h2⟩ := nextV_rng l 0 6 (by omega)
  have h3 := lnG_form l k 1 0 [] rfl rfl (by simp)
  have hw : linesW l = lnG l k 1 0 [] := by unfold linesW; rw [h1]; rfl
  rw [← hw] at h3
  obtain ⟨h4, h5, h6, h7, h8⟩ := h3
  have h9 := textL_len (linesW l) 0 h4
  have h0 : ((0 : Nat) : Int) = 0 := rfl
  rw [h0] at h9
  simp only [szL, Nat.zero_add] at h6 h9
  have key : ∀ (r : List Ln) (j : Int), formB j r = true → ∀ x ∈ r, x.num ≤ lastL j r ∧ ∀ s ∈ x.fs, propB s = true := by
    intro r
    induction r with
    | nil => intro j _ x hx; cases hx
    | cons y r ih =>
      intro j hf x hx
      obtain ⟨a, b, c, d⟩ := formB_cons.1 hf
      have hle : ∀ (r : List Ln) (j : Int), formB j r = true → j ≤ lastL j r := by
        intro r
        induction r with
        | nil => intro j _; exact Int.le_refl _
        | cons y r ih2 => intro j hf; obtain ⟨a, b, c, d⟩ := formB_cons.1 hf; have := ih2 _ d; simp only [lastL]; omega
      rcases List.mem_cons.1 hx with rfl | hx
      · exact ⟨hle r _ d, c⟩
      · exact ih _ d x hx
  refine ⟨h4, by omega, by simp at h7; omega, fun x hx => ⟨h8 x hx, by have := (key _ _ h4 x hx).1; omega, fun s hs => (propB_iff.1 ((key _ _ h4 x hx).2 s hs)).2.1⟩⟩
end Go.Am
