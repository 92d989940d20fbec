/- layout.parse. -/
import Derived.Test.YtefdjkakojfhnaaDoorIndf
namespace Go.Am
open Go Go.Proofs
set_option maxRecDepth 100000
set_option linter.unusedVariables false
set_option linter.unusedSimpArgs false
/-- The fields behind the word: k names, then numbers. -/
def rd : Nat → List (List UInt8) → Dc → Dc × Int
  | _, [], d => (d, 0)
  | 0, s :: r, d => if (numV s).2 then rd 0 r { d with nums := d.nums ++ [(numV s).1] } else (dc0, 7)
  | k + 1, s :: r, d => if nameB s then rd k r { d with names := d.names ++ [s] } else (dc0, 6)
def formJ (j : Nat) : Fm := formL.getD j ⟨[], [], false⟩
def wordV (w : List UInt8) : Int := findI (fun f : Fm => decide (f.word = w)) 0 formL.tail + 1
def oneV (num : Int) (fs : List (List UInt8)) : Dc × Int :=
  match fs with
  | [] => (dc0, 20)
  | w :: rest =>
    if wordV w = 0 then (dc0, 4)
    else if (rest.length : Int) < (shapeV (wordV w)).1 + (shapeV (wordV w)).2 ∨ ((shapeV (wordV w)).1 + (shapeV (wordV w)).2 < (rest.length : Int) ∧ wordV w ≠ 2) then (dc0, 5)
    else rd (rest.length - (shapeV (wordV w)).2.toNat) rest ⟨wordV w, num, [], []⟩
theorem findI_rng {α : Type} (p : α → Bool) : ∀ (l : List α) (k : Nat), findI p k l = -1 ∨ ∃ i : Nat, i < l.length ∧ findI p k l = ((k + i : Nat) : Int)
  | [], k => .inl rfl
  | x :: r, k => by
    simp only [findI]
    split
    · exact .inr ⟨0, by simp, rfl⟩
    · rcases findI_rng p r (k + 1) with h | ⟨i, h1, h2⟩
      · exact .inl h
      · exact .inr ⟨i + 1, by simp; omega, by rw [h2]; omega⟩
theorem wordV_rng (w : List UInt8) : ∃ j : Nat, j < 7 ∧ wordV w = (j : Nat) := by
  rcases findI_rng (fun f : Fm => decide (f.word = w)) formL.tail 0 with h | ⟨i, h1, h2⟩
  · exact ⟨0, by omega, by rw [wordV, h]; rfl⟩
  · have : formL.tail.length = 6 := rfl
    exact ⟨i + 1, by omega, by rw [wordV, h2]; omega⟩
theorem form_cells (j : Nat) (h : j < 7) : ((formL.flatMap fmC).drop (j * 3)).take 3 = [.str (formJ j).word, .str (formJ j).fields, .bool (formJ j).more] := by
  rcases j with _ | _ | _ | _ | _ | _ | _ | j
  all_goals first | rfl | omega
theorem form_sig (j : Nat) (h : j < 7) (h0 : 1 ≤ j) : ((formJ j).fields.length : Int) = (shapeV j).1 + (shapeV j).2 ∧ (∀ i : Nat, i < (formJ j).fields.length → ((((formJ j).fields.getD i 0).toNat : Int) = 35 ↔ (shapeV j).1 ≤ (i : Int))) ∧ (formJ j).more = decide ((j : Int) = 2) ∧ 0 ≤ (shapeV j).1 ∧ 0 ≤ (shapeV j).2 := by
  rcases j with _ | _ | _ | _ | _ | _ | _ | j
  · omega
  all_goals first | omega | skip
  all_goals
    refine ⟨by decide, ?_, by decide, by decide, by decide⟩
    intro i hi
    rcases i with _ | _ | _ | _ | i
    all_goals first | decide | (exfalso; simp [formJ, formL] at hi; done) | (exfalso; simp [formJ, formL] at hi; omega)
theorem formC_len : (formL.flatMap fmC).length = 21 := by decide
theorem parse_ok (num : Int) (fs : List (List UInt8)) (hfs : fs.length ≤ 10000000) : ACalls Tryd.prog 55 [.agg [.p (.int .i64 num), .p (.sl (encS fs))]] [] fun h r => h = [] ∧ r = .tup [(oneV num fs).1.d, .p (.int .i64 (oneV num fs).2)] := by
  refine ACalls_X Tryd.func55 rfl enters55 (by simp [Tryd.f55]) ?_
  cases fs with
  | nil =>
    simp only [go_sem, ↓reduceIte, Nat.reduceLT, Nat.reduceLeDiff, Nat.reduceEqDiff, Nat.reduceAdd, Nat.reduceMul, Nat.reduceSub, reduceCtorEq, Int.reduceLT, Int.reduceLE, Int.reduceEq, Int.reduceToNat, decide_true, decide_false, Int.reduceNeg, Int.cast_ofNat_Int, sg, AO.sg, Option.isNone_none, encS_len]
    refine end_pure ?_
    simp only [go_sem, ↓reduceIte, Nat.reduceLT, Nat.reduceLeDiff, Nat.reduceEqDiff, Nat.reduceAdd, Nat.reduceMul, Nat.reduceSub, reduceCtorEq, Int.reduceLT, Int.reduceLE, Int.reduceEq, Int.reduceToNat, decide_true, decide_false, Int.reduceNeg, Int.cast_ofNat_Int, sg, AO.sg, Option.isNone_none]
    try simp [oneV, dc0, Dc.d, encS, encI]
  | cons w rest =>
    have hne : ¬ ((rest.length + 1 : Nat) : Int) = 0 := by omega
    simp only [go_sem, ↓reduceIte, Nat.reduceLT, Nat.reduceLeDiff, Nat.reduceEqDiff, Nat.reduceAdd, Nat.reduceMul, Nat.reduceSub, reduceCtorEq, Int.reduceLT, Int.reduceLE, Int.reduceEq, Int.reduceToNat, decide_true, decide_false, Int.reduceNeg, Int.cast_ofNat_Int, sg, AO.sg, Option.isNone_none, encS_len, hne]
    refine Cc_of forms_ok ?_
    rintro h' r ⟨rfl, rfl⟩
    simp only [go_sem, ↓reduceIte, Nat.reduceLT, Nat.reduceLeDiff, Nat.reduceEqDiff, Nat.reduceAdd, Nat.reduceMul, Nat.reduceSub, reduceCtorEq, Int.reduceLT, Int.reduceLE, Int.reduceEq, Int.reduceToNat, decide_true, decide_false, Int.reduceNeg, Int.cast_ofNat_Int, sg, AO.sg, Option.isNone_none, formC_len]
    refine Af_wk (Wk.seal (t := 4) (id := 4) (xs := formL.flatMap fmC) (env1 := [(3, .p (.int .i64 0)), (2, .ptr 2 0), (1, .ptr 1 0)]) (hp1 := [(2, .box [.p (.int .i64 0), .p (.int .i64 0), .cl [], .cl []]), (1, .box [.p (.int .i64 num), .p (.sl (encS (w :: rest)))])]) rfl rfl rfl
      (by simp [Le, LeE, LeH, get, envIds, hpIds, KeepH, D.ids, idsL, AO.ids, base])) ?_
    simp only [go_sem, ↓reduceIte, Nat.reduceLT, Nat.reduceLeDiff, Nat.reduceEqDiff, Nat.reduceAdd, Nat.reduceMul, Nat.reduceSub, reduceCtorEq, Int.reduceLT, Int.reduceLE, Int.reduceEq, Int.reduceToNat, decide_true, decide_false, Int.reduceNeg, Int.cast_ofNat_Int, sg, AO.sg, Option.isNone_none]
    refine Af_sliceArr (L := 1) rfl ti95 ti94 rfl rfl (by decide) formC_len (by decide) ?_
    simp only [go_sem, ↓reduceIte, Nat.reduceLT, Nat.reduceLeDiff, Nat.reduceEqDiff, Nat.reduceAdd, Nat.reduceMul, Nat.reduceSub, reduceCtorEq, Int.reduceLT, Int.reduceLE, Int.reduceEq, Int.reduceToNat, decide_true, decide_false, Int.reduceNeg, Int.cast_ofNat_Int, sg, AO.sg, Option.isNone_none]
    refine Cc_of (indexF_ok formL.tail (by decide) 79 (fun f => decide (f.word = w)) _ _ (fun x => parse1_ok x num w rest)) ?_
    rintro h' r ⟨rfl, rfl⟩
    obtain ⟨j, hj, hjw⟩ := wordV_rng w
    have hwv : IntKind.i64.wrap (findI (fun f : Fm => decide (f.word = w)) 0 formL.tail + 1) = (j : Int) := by
      have h1 : findI (fun f : Fm => decide (f.word = w)) 0 formL.tail + 1 = (j : Int) := hjw
      rw [h1, wrap_i64_id] <;> omega
    by_cases hj0 : (j : Int) = 0
    · simp only [go_sem, ↓reduceIte, Nat.reduceLT, Nat.reduceLeDiff, Nat.reduceEqDiff, Nat.reduceAdd, Nat.reduceMul, Nat.reduceSub, reduceCtorEq, Int.reduceLT, Int.reduceLE, Int.reduceEq, Int.reduceToNat, decide_true, decide_false, Int.reduceNeg, Int.cast_ofNat_Int, sg, AO.sg, Option.isNone_none, hwv, hj0]
      refine end_pure ?_
      simp only [go_sem, ↓reduceIte, Nat.reduceLT, Nat.reduceLeDiff, Nat.reduceEqDiff, Nat.reduceAdd, Nat.reduceMul, Nat.reduceSub, reduceCtorEq, Int.reduceLT, Int.reduceLE, Int.reduceEq, Int.reduceToNat, decide_true, decide_false, Int.reduceNeg, Int.cast_ofNat_Int, sg, AO.sg, Option.isNone_none]
      simp [oneV, hjw, hj0, dc0, Dc.d, encS, encI]
    have hjp : (0 : Int) ≤ j ∧ (j : Int) < 7 := by omega
    have hfc := form_cells j hj
    have hfl : 0 + 3 ≤ (List.drop (j * 3) (formL.flatMap fmC)).length := by rw [List.length_drop, formC_len]; omega
    have hdr : List.drop 1 (List.take (rest.length + 1) (encS (w :: rest))) = encS rest := by
      rw [List.take_of_length_le (by simp [encS])]; rfl
    have hwid : Wid 1 (encS (w :: rest)) := by simp [Wid, encS]
    have h1le : (1 : Int) ≤ ((rest.length + 1 : Nat) : Int) := by omega
    simp only [go_sem, ↓reduceIte, Nat.reduceLT, Nat.reduceLeDiff, Nat.reduceEqDiff, Nat.reduceAdd, Nat.reduceMul, Nat.reduceSub, reduceCtorEq, Int.reduceLT, Int.reduceLE, Int.reduceEq, Int.reduceToNat, decide_true, decide_false, Int.reduceNeg, Int.cast_ofNat_Int, sg, AO.sg, Option.isNone_none, hwv, hj0]
    refine X_any [(2, .box [.p (.int .i64 0), .p (.int .i64 0), .cl [], .cl []]), (1, .box [.p (.int .i64 num), .p (.sl (encS (w :: rest)))])] mixed (p := [(0, 0), (1, 0), (2, 0), (3, 0), (4, 0), (5, 0), (6, 1), (7, 2), (8, 0)]) (by kernel_rfl) (by simp [LeH, get]) ?_
    obtain ⟨hs1, hs2, hs3, hs4, hs5⟩ := form_sig j hj (by omega)
    have h2b : (j : Int) = 2 → (shapeV j).2 = 0 := by intro h; rw [h]; rfl
    have hone : oneV num (w :: rest) = if (rest.length : Int) < (shapeV j).1 + (shapeV j).2 ∨ ((shapeV j).1 + (shapeV j).2 < (rest.length : Int) ∧ (j : Int) ≠ 2) then (dc0, 5) else rd (rest.length - (shapeV j).2.toNat) rest ⟨j, num, [], []⟩ := by
      simp only [oneV, hjw, hj0, if_false]
    rw [hone]
    generalize hfe : (formJ j).fields = sig at *
    generalize hfo : (formJ j).more = more at *
    generalize hA : (shapeV j).1 = a at *
    generalize hB : (shapeV j).2 = b at *
    by_cases hl1 : (rest.length : Int) < (sig.length : Int)
    · simp only [go_sem, ↓reduceIte, Nat.reduceLT, Nat.reduceLeDiff, Nat.reduceEqDiff, Nat.reduceAdd, Nat.reduceMul, Nat.reduceSub, reduceCtorEq, Int.reduceLT, Int.reduceLE, Int.reduceEq, Int.reduceToNat, decide_true, decide_false, Int.reduceNeg, Int.cast_ofNat_Int, sg, AO.sg, Option.isNone_none, Int.toNat_natCast, hfc, hfl, encS_len, hdr, hwid, hjp, h1le, Int.le_refl, hl1]
      refine end_pure ?_
      simp only [go_sem, ↓reduceIte, Nat.reduceLT, Nat.reduceLeDiff, Nat.reduceEqDiff, Nat.reduceAdd, Nat.reduceMul, Nat.reduceSub, reduceCtorEq, Int.reduceLT, Int.reduceLE, Int.reduceEq, Int.reduceToNat, decide_true, decide_false, Int.reduceNeg, Int.cast_ofNat_Int, sg, AO.sg, Option.isNone_none]
      rw [if_pos (.inl (by omega))]
      simp [dc0, Dc.d, encS, encI]
    by_cases hl2 : (sig.length : Int) < (rest.length : Int) ∧ more = false
    · simp only [go_sem, ↓reduceIte, Nat.reduceLT, Nat.reduceLeDiff, Nat.reduceEqDiff, Nat.reduceAdd, Nat.reduceMul, Nat.reduceSub, reduceCtorEq, Int.reduceLT, Int.reduceLE, Int.reduceEq, Int.reduceToNat, decide_true, decide_false, Int.reduceNeg, Int.cast_ofNat_Int, sg, AO.sg, Option.isNone_none, Int.toNat_natCast, hfc, hfl, encS_len, hdr, hwid, hjp, h1le, Int.le_refl, hl1, hl2]
      refine end_pure ?_
      simp only [go_sem, ↓reduceIte, Nat.reduceLT, Nat.reduceLeDiff, Nat.reduceEqDiff, Nat.reduceAdd, Nat.reduceMul, Nat.reduceSub, reduceCtorEq, Int.reduceLT, Int.reduceLE, Int.reduceEq, Int.reduceToNat, decide_true, decide_false, Int.reduceNeg, Int.cast_ofNat_Int, sg, AO.sg, Option.isNone_none]
      rw [if_pos (.inr ⟨by omega, by have := hl2.2; rw [hs3] at this; simpa using this⟩)]
      simp [dc0, Dc.d, encS, encI]
    have hl3 : (sig.length : Int) < (rest.length : Int) → (j : Int) = 2 ∧ more = true := by
      intro h
      cases more
      · exact (hl2 ⟨h, rfl⟩).elim
      · exact ⟨by simpa using hs3.symm, rfl⟩
    have hgo : (if (rest.length : Int) < a + b ∨ (a + b < (rest.length : Int) ∧ (j : Int) ≠ 2) then (dc0, (5 : Int)) else rd (rest.length - b.toNat) rest ⟨j, num, [], []⟩) = rd (rest.length - b.toNat) rest ⟨j, num, [], []⟩ := by
      rw [if_neg]; omega
    rw [hgo]
    generalize hK : rest.length - b.toNat = K
    by_cases hl5 : (sig.length : Int) < (rest.length : Int)
    all_goals
      first
        | simp only [go_sem, ↓reduceIte, Nat.reduceLT, Nat.reduceLeDiff, Nat.reduceEqDiff, Nat.reduceAdd, Nat.reduceMul, Nat.reduceSub, reduceCtorEq, Int.reduceLT, Int.reduceLE, Int.reduceEq, Int.reduceToNat, decide_true, decide_false, Int.reduceNeg, Int.cast_ofNat_Int, sg, AO.sg, Option.isNone_none, Int.toNat_natCast, hfc, hfl, encS_len, hdr, hwid, hjp, h1le, Int.le_refl, hl1, hl5, (hl3 hl5).2]
        | simp only [go_sem, ↓reduceIte, Nat.reduceLT, Nat.reduceLeDiff, Nat.reduceEqDiff, Nat.reduceAdd, Nat.reduceMul, Nat.reduceSub, reduceCtorEq, Int.reduceLT, Int.reduceLE, Int.reduceEq, Int.reduceToNat, decide_true, decide_false, Int.reduceNeg, Int.cast_ofNat_Int, sg, AO.sg, Option.isNone_none, Int.toNat_natCast, hfc, hfl, encS_len, hdr, hwid, hjp, h1le, Int.le_refl, hl1, hl5]
      refine X_loop_inv (fun q : Nat × List (List UInt8) × List Int => ⟨[(2, .ptr 2 0), (6, .ptr 6 0), (8, .ptr 8 0), (56, .p (.sl (encS rest))), (57, .p (.int .i64 (rest.length : Nat))), (58, .p (.int .i64 (q.1 : Nat)))],
          [(2, .box [.p (.int .i64 0), .p (.int .i64 0), .cl [], .cl []]), (6, .box [.p (.str (formJ j).word), .p (.str sig), .p (.bool more)]),
           (8, .box [.p (.int .i64 j), .p (.int .i64 num), .ref 97 0 q.2.1.length q.2.1.length, .ref 87 0 q.2.2.length q.2.2.length]), (97, .arr 9 1 (encS q.2.1)), (87, .arr 3 1 (encI q.2.2))], 101⟩)
        (fun q => q.1 ≤ rest.length ∧ q.2.1.length ≤ q.1 ∧ q.2.2.length ≤ q.1 ∧ rd (K - q.1) (rest.drop q.1) ⟨j, num, q.2.1, q.2.2⟩ = rd K rest ⟨j, num, [], []⟩)
        (fun q => rest.length - q.1) (0, [], []) ⟨Nat.zero_le _, by simp, by simp, by simp⟩ ?_ ?_
      · refine (Wk.nilBox (id := 8) (j := 2) (q := 97) (sz := 1) 9 rfl rfl rfl (by decide)).trans ((Wk.nilBox (id := 8) (j := 3) (q := 87) (sz := 1) 3 rfl rfl rfl (by decide)).trans ?_)
        first
          | (refine Wk.forget ?_; simp [Le, LeE, LeH, get, envIds, hpIds, KeepH, D.ids, idsL, AO.ids, setL, base, encS, encI]; done)
          | (refine Wk.forget ?_; simp [Le, LeE, LeH, get, envIds, hpIds, KeepH, D.ids, idsL, AO.ids, setL, base, encS, encI, (hl3 hl5).2]; done)
      rintro ⟨i, ns, ks⟩ n ⟨hi, hn1, hn2, he⟩ ih
      simp only at hi hn1 hn2 he
      simp only [go_sem, ↓reduceIte, Nat.reduceLT, Nat.reduceLeDiff, Nat.reduceEqDiff, Nat.reduceAdd, Nat.reduceMul, Nat.reduceSub, reduceCtorEq, Int.reduceLT, Int.reduceLE, Int.reduceEq, Int.reduceToNat, decide_true, decide_false, Int.reduceNeg, Int.cast_ofNat_Int, sg, AO.sg, Option.isNone_none]
      refine Cn_split (fun h2 => ?_) (fun h2 => ?_)
      · have hlt : i < rest.length := by simp at h2; omega
        have hw := wrap_succ i (by simp at hfs; omega)
        have hdropi : rest.drop i = rest.getD i [] :: rest.drop (i + 1) := by rw [List.drop_eq_getElem_cons hlt]; simp [List.getD, hlt]
        rw [hdropi] at he
        simp only [List.length_cons] at hfs
        have hil : (i : Int) < (rest.length : Int) := by omega
        have hi0 : (0 : Int) ≤ (i : Int) := by omega
        generalize hs : rest.getD i [] = s at he
        have number : K - i = 0 → (numV s).2 = true → rd (K - (i + 1)) (rest.drop (i + 1)) ⟨j, num, ns, ks ++ [(numV s).1]⟩ = rd K rest ⟨j, num, [], []⟩ := by
          intro h0 h1
          rw [← he, h0]; simp only [rd, h1, if_true]; congr 1; omega
        have numberN : K - i = 0 → (numV s).2 = false → rd K rest ⟨j, num, [], []⟩ = (dc0, 7) := by
          intro h0 h1
          rw [← he, h0]; simp only [rd, h1]; rfl
        have name : i < K → nameB s = true → rd (K - (i + 1)) (rest.drop (i + 1)) ⟨j, num, ns ++ [s], ks⟩ = rd K rest ⟨j, num, [], []⟩ := by
          intro h0 h1
          rw [← he, show K - i = (K - (i + 1)) + 1 by omega]; simp only [rd, h1, if_true]
        have nameN : i < K → nameB s = false → rd K rest ⟨j, num, [], []⟩ = (dc0, 6) := by
          intro h0 h1
          rw [← he, show K - i = (K - (i + 1)) + 1 by omega]; simp only [rd, h1]; rfl
        by_cases hsi : (i : Int) < (sig.length : Int)
        · by_cases h35 : ((sig.getD i 0).toNat : Int) = 35
          · have hK0 : K - i = 0 := by have := (hs2 i (by omega)).1 h35; omega
            simp only [go_sem, ↓reduceIte, Nat.reduceLT, Nat.reduceLeDiff, Nat.reduceEqDiff, Nat.reduceAdd, Nat.reduceMul, Nat.reduceSub, reduceCtorEq, Int.reduceLT, Int.reduceLE, Int.reduceEq, Int.reduceToNat, decide_true, decide_false, Int.reduceNeg, Int.cast_ofNat_Int, sg, AO.sg, Option.isNone_none, Int.toNat_natCast, encS_len, encS_get rest i hlt, hs, hsi, h35, hil, hi0]
            refine Cc_of (number1_ok _) ?_
            rintro h' r ⟨rfl, rfl⟩
            cases hnv : (numV s).2
            · simp only [go_sem, ↓reduceIte, Nat.reduceLT, Nat.reduceLeDiff, Nat.reduceEqDiff, Nat.reduceAdd, Nat.reduceMul, Nat.reduceSub, reduceCtorEq, Int.reduceLT, Int.reduceLE, Int.reduceEq, Int.reduceToNat, decide_true, decide_false, Int.reduceNeg, Int.cast_ofNat_Int, sg, AO.sg, Option.isNone_none, hnv]
              refine end_pure ?_
              simp only [go_sem, ↓reduceIte, Nat.reduceLT, Nat.reduceLeDiff, Nat.reduceEqDiff, Nat.reduceAdd, Nat.reduceMul, Nat.reduceSub, reduceCtorEq, Int.reduceLT, Int.reduceLE, Int.reduceEq, Int.reduceToNat, decide_true, decide_false, Int.reduceNeg, Int.cast_ofNat_Int, sg, AO.sg, Option.isNone_none]
              rw [numberN hK0 hnv]
              simp [dc0, Dc.d, encS, encI]
            · simp only [go_sem, ↓reduceIte, Nat.reduceLT, Nat.reduceLeDiff, Nat.reduceEqDiff, Nat.reduceAdd, Nat.reduceMul, Nat.reduceSub, reduceCtorEq, Int.reduceLT, Int.reduceLE, Int.reduceEq, Int.reduceToNat, decide_true, decide_false, Int.reduceNeg, Int.cast_ofNat_Int, sg, AO.sg, Option.isNone_none, hnv, hw, encI_len]
              refine ⟨⟨wid1 _ _ rfl, by omega⟩, ?_⟩
              refine ih (i + 1, ns, ks ++ [(numV s).1]) _ ⟨hlt, by simp only; omega, by simp only [List.length_append, List.length_cons, List.length_nil]; omega, number hK0 hnv⟩ (by simp only; omega) ?_
              (refine Wk.forget ?_; simp [Le, LeE, LeH, get, envIds, hpIds, KeepH, D.ids, idsL, AO.ids, setL, base, encI_snoc, encI_len]; done)
          · have hK0 : i < K := by have := (hs2 i (by omega)).2; omega
            simp only [go_sem, ↓reduceIte, Nat.reduceLT, Nat.reduceLeDiff, Nat.reduceEqDiff, Nat.reduceAdd, Nat.reduceMul, Nat.reduceSub, reduceCtorEq, Int.reduceLT, Int.reduceLE, Int.reduceEq, Int.reduceToNat, decide_true, decide_false, Int.reduceNeg, Int.cast_ofNat_Int, sg, AO.sg, Option.isNone_none, Int.toNat_natCast, encS_len, encS_get rest i hlt, hs, hsi, h35, hil, hi0]
            refine Cc_of (name1_ok _) ?_
            rintro h' r ⟨rfl, rfl⟩
            cases hnv : nameB s
            · simp only [go_sem, ↓reduceIte, Nat.reduceLT, Nat.reduceLeDiff, Nat.reduceEqDiff, Nat.reduceAdd, Nat.reduceMul, Nat.reduceSub, reduceCtorEq, Int.reduceLT, Int.reduceLE, Int.reduceEq, Int.reduceToNat, decide_true, decide_false, Int.reduceNeg, Int.cast_ofNat_Int, sg, AO.sg, Option.isNone_none, hnv]
              refine end_pure ?_
              simp only [go_sem, ↓reduceIte, Nat.reduceLT, Nat.reduceLeDiff, Nat.reduceEqDiff, Nat.reduceAdd, Nat.reduceMul, Nat.reduceSub, reduceCtorEq, Int.reduceLT, Int.reduceLE, Int.reduceEq, Int.reduceToNat, decide_true, decide_false, Int.reduceNeg, Int.cast_ofNat_Int, sg, AO.sg, Option.isNone_none]
              rw [nameN hK0 hnv]
              simp [dc0, Dc.d, encS, encI]
            · simp only [go_sem, ↓reduceIte, Nat.reduceLT, Nat.reduceLeDiff, Nat.reduceEqDiff, Nat.reduceAdd, Nat.reduceMul, Nat.reduceSub, reduceCtorEq, Int.reduceLT, Int.reduceLE, Int.reduceEq, Int.reduceToNat, decide_true, decide_false, Int.reduceNeg, Int.cast_ofNat_Int, sg, AO.sg, Option.isNone_none, hnv, hw, encS_len]
              refine ⟨⟨wid1 _ _ rfl, by omega⟩, ?_⟩
              refine ih (i + 1, ns ++ [s], ks) _ ⟨hlt, by simp only [List.length_append, List.length_cons, List.length_nil]; omega, by simp only; omega, name hK0 hnv⟩ (by simp only; omega) ?_
              (refine Wk.forget ?_; simp [Le, LeE, LeH, get, envIds, hpIds, KeepH, D.ids, idsL, AO.ids, setL, base, encS_snoc, encS_len]; done)
        · have hK0 : i < K := by
            have hl6 : (sig.length : Int) < (rest.length : Int) := by omega
            have := h2b (hl3 hl6).1
            omega
          simp only [go_sem, ↓reduceIte, Nat.reduceLT, Nat.reduceLeDiff, Nat.reduceEqDiff, Nat.reduceAdd, Nat.reduceMul, Nat.reduceSub, reduceCtorEq, Int.reduceLT, Int.reduceLE, Int.reduceEq, Int.reduceToNat, decide_true, decide_false, Int.reduceNeg, Int.cast_ofNat_Int, sg, AO.sg, Option.isNone_none, Int.toNat_natCast, encS_len, encS_get rest i hlt, hs, hsi, hil, hi0]
          refine Cc_of (name1_ok _) ?_
          rintro h' r ⟨rfl, rfl⟩
          cases hnv : nameB s
          · simp only [go_sem, ↓reduceIte, Nat.reduceLT, Nat.reduceLeDiff, Nat.reduceEqDiff, Nat.reduceAdd, Nat.reduceMul, Nat.reduceSub, reduceCtorEq, Int.reduceLT, Int.reduceLE, Int.reduceEq, Int.reduceToNat, decide_true, decide_false, Int.reduceNeg, Int.cast_ofNat_Int, sg, AO.sg, Option.isNone_none, hnv]
            refine end_pure ?_
            simp only [go_sem, ↓reduceIte, Nat.reduceLT, Nat.reduceLeDiff, Nat.reduceEqDiff, Nat.reduceAdd, Nat.reduceMul, Nat.reduceSub, reduceCtorEq, Int.reduceLT, Int.reduceLE, Int.reduceEq, Int.reduceToNat, decide_true, decide_false, Int.reduceNeg, Int.cast_ofNat_Int, sg, AO.sg, Option.isNone_none]
            rw [nameN hK0 hnv]
            simp [dc0, Dc.d, encS, encI]
          · simp only [go_sem, ↓reduceIte, Nat.reduceLT, Nat.reduceLeDiff, Nat.reduceEqDiff, Nat.reduceAdd, Nat.reduceMul, Nat.reduceSub, reduceCtorEq, Int.reduceLT, Int.reduceLE, Int.reduceEq, Int.reduceToNat, decide_true, decide_false, Int.reduceNeg, Int.cast_ofNat_Int, sg, AO.sg, Option.isNone_none, hnv, hw, encS_len]
            refine ⟨⟨wid1 _ _ rfl, by omega⟩, ?_⟩
            refine ih (i + 1, ns ++ [s], ks) _ ⟨hlt, by simp only [List.length_append, List.length_cons, List.length_nil]; omega, by simp only; omega, name hK0 hnv⟩ (by simp only; omega) ?_
            (refine Wk.forget ?_; simp [Le, LeE, LeH, get, envIds, hpIds, KeepH, D.ids, idsL, AO.ids, setL, base, encS_snoc, encS_len]; done)
      · simp only [go_sem, ↓reduceIte, Nat.reduceLT, Nat.reduceLeDiff, Nat.reduceEqDiff, Nat.reduceAdd, Nat.reduceMul, Nat.reduceSub, reduceCtorEq, Int.reduceLT, Int.reduceLE, Int.reduceEq, Int.reduceToNat, decide_true, decide_false, Int.reduceNeg, Int.cast_ofNat_Int, sg, AO.sg, Option.isNone_none]
        have hieq : i = rest.length := by simp at h2; omega
        subst hieq
        refine end_pure ?_
        simp only [go_sem, ↓reduceIte, Nat.reduceLT, Nat.reduceLeDiff, Nat.reduceEqDiff, Nat.reduceAdd, Nat.reduceMul, Nat.reduceSub, reduceCtorEq, Int.reduceLT, Int.reduceLE, Int.reduceEq, Int.reduceToNat, decide_true, decide_false, Int.reduceNeg, Int.cast_ofNat_Int, sg, AO.sg, Option.isNone_none]
        rw [List.drop_length] at he
        simp only [rd] at he
        rw [← he, encS_take _ _ (Nat.le_refl _), encI_take _ _ (Nat.le_refl _)]
        simp [Dc.d, encS_len, encI_len]
end Go.Am
