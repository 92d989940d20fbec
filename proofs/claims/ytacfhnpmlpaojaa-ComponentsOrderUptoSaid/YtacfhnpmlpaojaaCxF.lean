/- Texts of this proof, what it rests on, merged: part F. -/
import Derived.Test.YtacfhnpmlpaojaaCxE
section
namespace Go.Am
open Go Go.Proofs
set_option maxRecDepth 100000
set_option maxHeartbeats 2000000
set_option linter.unusedSimpArgs false
set_option linter.unusedVariables false
theorem cOrd_vok (a0 : List (List Int)) (a1 : List Bool) (r : (List Int) × Int) (hr : cOrd_v a0 a1 = some r) :
    ACalls Try.prog 17 [.p (.sl (encG a0)), .p (.sl (encT a1))] [] fun h d => h = [] ∧ d = .tup [.p (.sl (encI r.1)), .p (.int .i64 r.2)] := by
  refine ACalls_X Try.func17 rfl enters17 (by simp [Try.f17]) ?_
  unfold cOrd_v at hr
  rcases g3 : cQuot_v a0 a1 with _ | ⟨x1, x2⟩
  · simp only [g3, Option.bind_none, reduceCtorEq] at hr
  simp only [g3, Option.bind_some] at hr
  try simp only [go_sem]
  refine Cc_of (cQuot_vok a0 a1 _ g3) ?_
  rintro h' r ⟨rfl, rfl⟩
  cases c4 : decide (x2 = 0)
  · simp only [c4, cond_false] at hr
    obtain rfl := Option.some.inj hr
    try simp only [go_sem, c4]
    all_goals (try refine end_pure ?_)
    all_goals (try simp only [go_sem, c4])
    all_goals (try (first | rfl | exact ⟨rfl, rfl⟩ | (simp; done)))
  simp only [c4, cond_true] at hr
  rcases g7 : cNames_v a0 a1 with _ | ⟨x5, x6⟩
  · simp only [g7, Option.bind_none, reduceCtorEq] at hr
  simp only [g7, Option.bind_some] at hr
  try simp only [go_sem, c4]
  refine Cc_of (cNames_vok a0 a1 _ g7) ?_
  rintro h' r ⟨rfl, rfl⟩
  cases c8 : decide (a0.length < 10000000)
  · simp only [c8, cond_false, Option.bind_none, reduceCtorEq] at hr
  simp only [c8, cond_true] at hr
  try simp only [go_sem, c4]
  refine ⟨by have := of_decide_eq_true c8; omega, ?_⟩
  rcases g17 : loopO (cOrd_L4 x1) ((List.replicate a0.length 0), 0) with _ | e16
  · simp only [g17, Option.bind_none, reduceCtorEq] at hr
  simp only [g17, Option.bind_some] at hr
  try simp only [go_sem, c4]
  refine X_loopO g17 (fun q : (List Int) × Int => ⟨[(6, .p (.sl (encG x1))), (8, .p (.sl (encI x5))), (10, .ptr 10 0), (37, .p (.sl (encG x1))), (38, .p (.int .i64 ((x1.length : Nat) : Int))), (39, .p (.int .i64 q.2))], [(10, .box [.ref 36 0 q.1.length q.1.length]), (36, .arr 3 1 (encI q.1))], 83⟩) ((Wk.forget (by simp [Le, LeE, LeH, get, envIds, hpIds, KeepH, D.ids, idsL, AO.ids, setL, base, encI_nil, encS_nil, encT_nil, encG_nil, encC_nil, encL_nil, encK_nil, encP_nil, mpS_nil, mpB_nil, encI_consE, encS_consE, encT_consE, encG_consE, encI_one, encS_one, encT_one, encI_snoc, encS_snoc, encT_snocE, encG_snocE, encC_snoc, encL_snoc, encK_snocE, encP_snocE, encI_set, encS_set, encT_setE, encG_setE, encC_setE, encK_setE, encP_setE, encI_len, encS_len, encT_len2, encG_len2, encC_len, encL_len, encK_len2, encP_len2, encW_len, dT_ids, dI_ids, dT_len, dI_len, List.length_set, encI_takeM, List.take_length]))) ?_
  rintro ⟨v11, v12⟩ m15 hh13 ih14
  rw [cOrd_L4_eq] at hh13
  cases c18 : decide (v12 < ((x1.length : Nat) : Int))
  · simp only [c18, cond_false] at hh13
    simp only [Option.bind_some, nextO_inr] at hh13
    obtain rfl := Option.some.inj hh13
    try dsimp only at hr
    rcases g27 : loopO (cOrd_L2 x1 x5) (v11, []) with _ | e26
    · simp only [g27, Option.bind_none, reduceCtorEq] at hr
    simp only [g27, Option.bind_some] at hr
    try simp only [go_sem, c4, c18]
    refine X_loopO g27 (fun q : (List Int) × (List Int) => ⟨[(6, .p (.sl (encG x1))), (8, .p (.sl (encI x5))), (10, .ptr 10 0), (15, .ptr 15 0)], [(10, .box [.ref 36 0 q.1.length q.1.length]), (15, .box [.ref 515000 0 q.2.length q.2.length]), (36, .arr 3 1 (encI q.1)), (515000, .arr 3 1 (encI q.2))], 83⟩) ((Wk.nilBox (id := 15) (j := 0) (q := 515000) (sz := 1) 3 rfl rfl rfl (by decide)).trans ((Wk.forget (by simp [Le, LeE, LeH, get, envIds, hpIds, KeepH, D.ids, idsL, AO.ids, setL, base, encI_nil, encS_nil, encT_nil, encG_nil, encC_nil, encL_nil, encK_nil, encP_nil, mpS_nil, mpB_nil, encI_consE, encS_consE, encT_consE, encG_consE, encI_one, encS_one, encT_one, encI_snoc, encS_snoc, encT_snocE, encG_snocE, encC_snoc, encL_snoc, encK_snocE, encP_snocE, encI_set, encS_set, encT_setE, encG_setE, encC_setE, encK_setE, encP_setE, encI_len, encS_len, encT_len2, encG_len2, encC_len, encL_len, encK_len2, encP_len2, encW_len, dT_ids, dI_ids, dT_len, dI_len, List.length_set, encI_takeM, List.take_length])))) ?_
    rintro ⟨v21, v22⟩ m25 hh23 ih24
    rw [cOrd_L2_eq] at hh23
    rcases g31 : g_slices_IndexFunc_v x5 v21 v22 with _ | ⟨x28, x29, x30⟩
    · simp only [g31, Option.bind_none, reduceCtorEq] at hh23
    simp only [g31, Option.bind_some] at hh23
    try simp only [go_sem, c4, c18]
    refine Cc_of (g_slices_IndexFunc_vok x5 v21 v22 _ g31) ?_
    rintro h' r ⟨rfl, rfl⟩
    cases c32 : decide (x28 < 0)
    · simp only [c32, cond_false] at hh23
      rcases g34 : idxO x1 x28 with _ | x33
      · simp only [g34, Option.bind_none, reduceCtorEq] at hh23
      simp only [g34, Option.bind_some] at hh23
      have f35 := idxO_rng g34
      have f36 : (encG x1).getD (Int.toNat x28) [] = [(.sl (encI x33))] := idxO_map _ g34
      rcases g45 : loopO (cOrd_L1 x33) (x29, 0) with _ | e44
      · simp only [g45, Option.bind_none, reduceCtorEq] at hh23
      simp only [g45, Option.bind_some] at hh23
      try simp only [go_sem, c4, c18, c32, f35, f36]
      refine X_loopO g45 (fun q : (List Int) × Int => ⟨[(6, .p (.sl (encG x1))), (8, .p (.sl (encI x5))), (10, .ptr 10 0), (15, .ptr 15 0), (16, .p (.int .i64 x28)), (66, .p (.sl (encI x33))), (67, .p (.int .i64 ((x33.length : Nat) : Int))), (68, .p (.int .i64 q.2))], [(10, .box [.ref 36 0 q.1.length q.1.length]), (15, .box [.ref 515000 0 x30.length x30.length]), (36, .arr 3 1 (encI q.1)), (515000, .arr 3 1 (encI x30))], 83⟩) ((Wk.forget (by simp [Le, LeE, LeH, get, envIds, hpIds, KeepH, D.ids, idsL, AO.ids, setL, base, encI_nil, encS_nil, encT_nil, encG_nil, encC_nil, encL_nil, encK_nil, encP_nil, mpS_nil, mpB_nil, encI_consE, encS_consE, encT_consE, encG_consE, encI_one, encS_one, encT_one, encI_snoc, encS_snoc, encT_snocE, encG_snocE, encC_snoc, encL_snoc, encK_snocE, encP_snocE, encI_set, encS_set, encT_setE, encG_setE, encC_setE, encK_setE, encP_setE, encI_len, encS_len, encT_len2, encG_len2, encC_len, encL_len, encK_len2, encP_len2, encW_len, dT_ids, dI_ids, dT_len, dI_len, List.length_set, encI_takeM, List.take_length]))) ?_
      rintro ⟨v39, v40⟩ m43 hh41 ih42
      rw [cOrd_L1_eq] at hh41
      cases c46 : decide (v40 < ((x33.length : Nat) : Int))
      · simp only [c46, cond_false] at hh41
        simp only [Option.bind_some, nextO_inr] at hh41
        obtain rfl := Option.some.inj hh41
        try dsimp only at hh23
        cases c47 : decide (x30.length + 1 < 10000000)
        · simp only [c47, cond_false, Option.bind_none, reduceCtorEq] at hh23
        simp only [c47, cond_true] at hh23
        try simp only [go_sem, c4, c18, c32, f35, f36, c46]
        refine ⟨by have := of_decide_eq_true c47; (try simp only [List.length_cons, List.length_nil, List.length_append] at *); (repeat' refine And.intro ?_ ?_) <;> first | exact wid1 _ _ rfl | exact encI_wid _ | omega | (simp [Wid]; done), ?_⟩
        simp only [Option.bind_some, nextO_inl] at hh23
        try simp only [go_sem, c4, c18, c32, f35, f36, c46]
        exact ih24 (v39, (x30 ++ [x28])) _ hh23 ((Wk.forget (by simp [Le, LeE, LeH, get, envIds, hpIds, KeepH, D.ids, idsL, AO.ids, setL, base, encI_nil, encS_nil, encT_nil, encG_nil, encC_nil, encL_nil, encK_nil, encP_nil, mpS_nil, mpB_nil, encI_consE, encS_consE, encT_consE, encG_consE, encI_one, encS_one, encT_one, encI_snoc, encS_snoc, encT_snocE, encG_snocE, encC_snoc, encL_snoc, encK_snocE, encP_snocE, encI_set, encS_set, encT_setE, encG_setE, encC_setE, encK_setE, encP_setE, encI_len, encS_len, encT_len2, encG_len2, encC_len, encL_len, encK_len2, encP_len2, encW_len, dT_ids, dI_ids, dT_len, dI_len, List.length_set, encI_takeM, List.take_length])))
      simp only [c46, cond_true] at hh41
      rcases g49 : idxO x33 v40 with _ | x48
      · simp only [g49, Option.bind_none, reduceCtorEq] at hh41
      simp only [g49, Option.bind_some] at hh41
      have f50 := idxO_rng g49
      have f51 : (encI x33).getD (Int.toNat v40) [] = [(.int .i64 x48)] := idxO_map _ g49
      rcases g53 : idxO v39 x48 with _ | x52
      · simp only [g53, Option.bind_none, reduceCtorEq] at hh41
      simp only [g53, Option.bind_some] at hh41
      have f54 := idxO_rng g53
      have f55 : (encI v39).getD (Int.toNat x48) [] = [(.int .i64 x52)] := idxO_map _ g53
      simp only [Option.bind_some, nextO_inl] at hh41
      try simp only [go_sem, c4, c18, c32, f35, f36, c46, f50, f51, f54, f55]
      exact ih42 ((v39.set (Int.toNat x48) (IntKind.i64.wrap (x52 - 1))), (IntKind.i64.wrap (v40 + 1))) _ hh41 ((Wk.forget (by simp [Le, LeE, LeH, get, envIds, hpIds, KeepH, D.ids, idsL, AO.ids, setL, base, encI_nil, encS_nil, encT_nil, encG_nil, encC_nil, encL_nil, encK_nil, encP_nil, mpS_nil, mpB_nil, encI_consE, encS_consE, encT_consE, encG_consE, encI_one, encS_one, encT_one, encI_snoc, encS_snoc, encT_snocE, encG_snocE, encC_snoc, encL_snoc, encK_snocE, encP_snocE, encI_set, encS_set, encT_setE, encG_setE, encC_setE, encK_setE, encP_setE, encI_len, encS_len, encT_len2, encG_len2, encC_len, encL_len, encK_len2, encP_len2, encW_len, dT_ids, dI_ids, dT_len, dI_len, List.length_set, encI_takeM, List.take_length])))
    simp only [c32, cond_true] at hh23
    simp only [Option.bind_some, nextO_inr] at hh23
    obtain rfl := Option.some.inj hh23
    try dsimp only at hr
    obtain rfl := Option.some.inj hr
    try simp only [go_sem, c4, c18, c32]
    all_goals (try refine end_pure ?_)
    all_goals (try simp only [go_sem, c4, c18, c32])
    all_goals (try (first | rfl | exact ⟨rfl, rfl⟩ | (simp; done)))
  simp only [c18, cond_true] at hh13
  rcases g61 : idxO x1 v12 with _ | x60
  · simp only [g61, Option.bind_none, reduceCtorEq] at hh13
  simp only [g61, Option.bind_some] at hh13
  have f62 := idxO_rng g61
  have f63 : (encG x1).getD (Int.toNat v12) [] = [(.sl (encI x60))] := idxO_map _ g61
  rcases g72 : loopO (cOrd_L3 x60) (v11, 0) with _ | e71
  · simp only [g72, Option.bind_none, reduceCtorEq] at hh13
  simp only [g72, Option.bind_some] at hh13
  try simp only [go_sem, c4, c18, f62, f63]
  refine X_loopO g72 (fun q : (List Int) × Int => ⟨[(6, .p (.sl (encG x1))), (8, .p (.sl (encI x5))), (10, .ptr 10 0), (37, .p (.sl (encG x1))), (38, .p (.int .i64 ((x1.length : Nat) : Int))), (39, .p (.int .i64 v12)), (43, .p (.sl (encI x60))), (44, .p (.int .i64 ((x60.length : Nat) : Int))), (45, .p (.int .i64 q.2))], [(10, .box [.ref 36 0 q.1.length q.1.length]), (36, .arr 3 1 (encI q.1))], 83⟩) ((Wk.forget (by simp [Le, LeE, LeH, get, envIds, hpIds, KeepH, D.ids, idsL, AO.ids, setL, base, encI_nil, encS_nil, encT_nil, encG_nil, encC_nil, encL_nil, encK_nil, encP_nil, mpS_nil, mpB_nil, encI_consE, encS_consE, encT_consE, encG_consE, encI_one, encS_one, encT_one, encI_snoc, encS_snoc, encT_snocE, encG_snocE, encC_snoc, encL_snoc, encK_snocE, encP_snocE, encI_set, encS_set, encT_setE, encG_setE, encC_setE, encK_setE, encP_setE, encI_len, encS_len, encT_len2, encG_len2, encC_len, encL_len, encK_len2, encP_len2, encW_len, dT_ids, dI_ids, dT_len, dI_len, List.length_set, encI_takeM, List.take_length]))) ?_
  rintro ⟨v66, v67⟩ m70 hh68 ih69
  rw [cOrd_L3_eq] at hh68
  cases c73 : decide (v67 < ((x60.length : Nat) : Int))
  · simp only [c73, cond_false] at hh68
    simp only [Option.bind_some, nextO_inr] at hh68
    obtain rfl := Option.some.inj hh68
    try dsimp only at hh13
    simp only [Option.bind_some, nextO_inl] at hh13
    try simp only [go_sem, c4, c18, f62, f63, c73]
    exact ih14 (v66, (IntKind.i64.wrap (v12 + 1))) _ hh13 ((Wk.forget (by simp [Le, LeE, LeH, get, envIds, hpIds, KeepH, D.ids, idsL, AO.ids, setL, base, encI_nil, encS_nil, encT_nil, encG_nil, encC_nil, encL_nil, encK_nil, encP_nil, mpS_nil, mpB_nil, encI_consE, encS_consE, encT_consE, encG_consE, encI_one, encS_one, encT_one, encI_snoc, encS_snoc, encT_snocE, encG_snocE, encC_snoc, encL_snoc, encK_snocE, encP_snocE, encI_set, encS_set, encT_setE, encG_setE, encC_setE, encK_setE, encP_setE, encI_len, encS_len, encT_len2, encG_len2, encC_len, encL_len, encK_len2, encP_len2, encW_len, dT_ids, dI_ids, dT_len, dI_len, List.length_set, encI_takeM, List.take_length])))
  simp only [c73, cond_true] at hh68
  rcases g75 : idxO x60 v67 with _ | x74
  · simp only [g75, Option.bind_none, reduceCtorEq] at hh68
  simp only [g75, Option.bind_some] at hh68
  have f76 := idxO_rng g75
  have f77 : (encI x60).getD (Int.toNat v67) [] = [(.int .i64 x74)] := idxO_map _ g75
  rcases g79 : idxO v66 x74 with _ | x78
  · simp only [g79, Option.bind_none, reduceCtorEq] at hh68
  simp only [g79, Option.bind_some] at hh68
  have f80 := idxO_rng g79
  have f81 : (encI v66).getD (Int.toNat x74) [] = [(.int .i64 x78)] := idxO_map _ g79
  simp only [Option.bind_some, nextO_inl] at hh68
  try simp only [go_sem, c4, c18, f62, f63, c73, f76, f77, f80, f81]
  exact ih69 ((v66.set (Int.toNat x74) (IntKind.i64.wrap (x78 + 1))), (IntKind.i64.wrap (v67 + 1))) _ hh68 ((Wk.forget (by simp [Le, LeE, LeH, get, envIds, hpIds, KeepH, D.ids, idsL, AO.ids, setL, base, encI_nil, encS_nil, encT_nil, encG_nil, encC_nil, encL_nil, encK_nil, encP_nil, mpS_nil, mpB_nil, encI_consE, encS_consE, encT_consE, encG_consE, encI_one, encS_one, encT_one, encI_snoc, encS_snoc, encT_snocE, encG_snocE, encC_snoc, encL_snoc, encK_snocE, encP_snocE, encI_set, encS_set, encT_setE, encG_setE, encC_setE, encK_setE, encP_setE, encI_len, encS_len, encT_len2, encG_len2, encC_len, encL_len, encK_len2, encP_len2, encW_len, dT_ids, dI_ids, dT_len, dI_len, List.length_set, encI_takeM, List.take_length])))
noncomputable def rRev_L1 (v10 : Int) (x18 : List Int) : (List (List Int)) × Int → Option (((List (List Int)) × Int) ⊕ (((List (List Int)) × Int)))
  | (v26, v27) => cond (decide (v27 < ((x18.length : Nat) : Int))) (Option.bind (idxO x18 v27) fun x35 => Option.bind (idxO v26 x35) fun x39 => cond (decide (x39.length + 1 < 10000000)) (some (Sum.inl ((v26.set (Int.toNat x35) (x39 ++ [v10])), (IntKind.i64.wrap (v27 + 1))))) none) (some (Sum.inr (v26, v27)))
theorem rRev_L1_eq (v10 : Int) (x18 : List Int) (v26 : List (List Int)) (v27 : Int) : rRev_L1 v10 x18 (v26, v27) = cond (decide (v27 < ((x18.length : Nat) : Int))) (Option.bind (idxO x18 v27) fun x35 => Option.bind (idxO v26 x35) fun x39 => cond (decide (x39.length + 1 < 10000000)) (some (Sum.inl ((v26.set (Int.toNat x35) (x39 ++ [v10])), (IntKind.i64.wrap (v27 + 1))))) none) (some (Sum.inr (v26, v27))) := rfl
noncomputable def rRev_L2 (a0 : List (List Int)) : (List (List Int)) × Int → Option (((List (List Int)) × Int) ⊕ (((List (List Int)) × Int)))
  | (v9, v10) => cond (decide (v10 < ((a0.length : Nat) : Int))) (Option.bind (idxO a0 v10) fun x18 => Option.bind (loopO (rRev_L1 v10 x18) (v9, 0)) (fun (v47, v48) => some (Sum.inl (v47, (IntKind.i64.wrap (v10 + 1)))))) (some (Sum.inr (v9, v10)))
theorem rRev_L2_eq (a0 : List (List Int)) (v9 : List (List Int)) (v10 : Int) : rRev_L2 a0 (v9, v10) = cond (decide (v10 < ((a0.length : Nat) : Int))) (Option.bind (idxO a0 v10) fun x18 => Option.bind (loopO (rRev_L1 v10 x18) (v9, 0)) (fun (v47, v48) => some (Sum.inl (v47, (IntKind.i64.wrap (v10 + 1)))))) (some (Sum.inr (v9, v10))) := rfl
noncomputable def rRev_v (a0 : List (List Int)) : Option ((List (List Int)) × Int) :=
  Option.bind (rVal_v a0) fun x1 => cond x1 (cond (decide (a0.length < 10000000)) (Option.bind (loopO (rRev_L2 a0) ((List.replicate a0.length []), 0)) (fun (v50, v51) => some (v50, 0))) none) (some ([], 20))
theorem rRev_vok (a0 : List (List Int)) (r : (List (List Int)) × Int) (hr : rRev_v a0 = some r) :
    ACalls Try.prog 57 [.p (.sl (encG a0))] [] fun h d => h = [] ∧ d = .tup [.p (.sl (encG r.1)), .p (.int .i64 r.2)] := by
  refine ACalls_X Try.func57 rfl enters57 (by simp [Try.f57]) ?_
  unfold rRev_v at hr
  rcases g2 : rVal_v a0 with _ | x1
  · simp only [g2, Option.bind_none, reduceCtorEq] at hr
  simp only [g2, Option.bind_some] at hr
  try simp only [go_sem]
  refine Cc_of (rVal_vok a0 _ g2) ?_
  rintro h' r ⟨rfl, rfl⟩
  cases c3 : x1
  · simp only [c3, cond_false] at hr
    obtain rfl := Option.some.inj hr
    try simp only [go_sem, c3]
    all_goals (try refine end_pure ?_)
    all_goals (try simp only [go_sem, c3])
    all_goals (try (first | rfl | exact ⟨rfl, rfl⟩ | (simp; done)))
  simp only [c3, cond_true] at hr
  cases c4 : decide (a0.length < 10000000)
  · simp only [c4, cond_false, Option.bind_none, reduceCtorEq] at hr
  simp only [c4, cond_true] at hr
  try simp only [go_sem, c3]
  refine Af_mknst (n := ((a0.length : Nat) : Int)) (sz := 1) rfl ti22 ti24 (by decide) rfl rfl rfl (by have := of_decide_eq_true c4; omega) (by have := of_decide_eq_true c4; omega) (by have := of_decide_eq_true c4; omega) ?_
  rcases g16 : loopO (rRev_L2 a0) ((List.replicate a0.length []), 0) with _ | e15
  · simp only [g16, Option.bind_none, reduceCtorEq] at hr
  simp only [g16, Option.bind_some] at hr
  try simp only [go_sem, c3]
  refine X_loopK g16 (fun (q : (List (List Int)) × Int) (c : Nat) => ⟨[(4, .nref 14 q.1.length), (15, .p (.sl (encG a0))), (16, .p (.int .i64 ((a0.length : Nat) : Int))), (17, .p (.int .i64 q.2))], [(14, .nst 24 3 1 c (encW q.1) none)], 41⟩) 0 ((Wk.forget (by simp [Le, LeE, LeH, get, envIds, hpIds, KeepH, D.ids, idsL, AO.ids, setL, base, encI_nil, encS_nil, encT_nil, encG_nil, encC_nil, encL_nil, encK_nil, encP_nil, mpS_nil, mpB_nil, encI_consE, encS_consE, encT_consE, encG_consE, encI_one, encS_one, encT_one, encI_snoc, encS_snoc, encT_snocE, encG_snocE, encC_snoc, encL_snoc, encK_snocE, encP_snocE, encI_set, encS_set, encT_setE, encG_setE, encC_setE, encK_setE, encP_setE, encI_len, encS_len, encT_len2, encG_len2, encC_len, encL_len, encK_len2, encP_len2, encW_len, dT_ids, dI_ids, dT_len, dI_len, List.length_set, encI_takeM, List.take_length, c3]))) ?_
  rintro ⟨v9, v10⟩ kk11 m14 hh12 ih13
  rw [rRev_L2_eq] at hh12
  cases c17 : decide (v10 < ((a0.length : Nat) : Int))
  · simp only [c17, cond_false] at hh12
    simp only [Option.bind_some, nextO_inr] at hh12
    obtain rfl := Option.some.inj hh12
    try dsimp only at hr
    obtain rfl := Option.some.inj hr
    try simp only [go_sem, c3, c17]
    all_goals (try refine end_pure ?_)
    all_goals (try simp only [go_sem, c3, c17])
    all_goals (try (first | rfl | exact ⟨rfl, rfl⟩ | (simp; done)))
  simp only [c17, cond_true] at hh12
  rcases g19 : idxO a0 v10 with _ | x18
  · simp only [g19, Option.bind_none, reduceCtorEq] at hh12
  simp only [g19, Option.bind_some] at hh12
  have f20 := idxO_rng g19
  have f21 : (encG a0).getD (Int.toNat v10) [] = [(.sl (encI x18))] := idxO_map _ g19
  rcases g33 : loopO (rRev_L1 v10 x18) (v9, 0) with _ | e32
  · simp only [g33, Option.bind_none, reduceCtorEq] at hh12
  simp only [g33, Option.bind_some] at hh12
  try simp only [go_sem, c3, c17, f20, f21]
  refine X_loopK g33 (fun (q : (List (List Int)) × Int) (c : Nat) => ⟨[(4, .nref 14 q.1.length), (5, .p (.int .i64 v10)), (15, .p (.sl (encG a0))), (16, .p (.int .i64 ((a0.length : Nat) : Int))), (17, .p (.int .i64 v10)), (22, .p (.sl (encI x18))), (23, .p (.int .i64 ((x18.length : Nat) : Int))), (24, .p (.int .i64 q.2))], [(14, .nst 24 3 1 c (encW q.1) none)], 41⟩) kk11 ((Wk.forget (by simp [Le, LeE, LeH, get, envIds, hpIds, KeepH, D.ids, idsL, AO.ids, setL, base, encI_nil, encS_nil, encT_nil, encG_nil, encC_nil, encL_nil, encK_nil, encP_nil, mpS_nil, mpB_nil, encI_consE, encS_consE, encT_consE, encG_consE, encI_one, encS_one, encT_one, encI_snoc, encS_snoc, encT_snocE, encG_snocE, encC_snoc, encL_snoc, encK_snocE, encP_snocE, encI_set, encS_set, encT_setE, encG_setE, encC_setE, encK_setE, encP_setE, encI_len, encS_len, encT_len2, encG_len2, encC_len, encL_len, encK_len2, encP_len2, encW_len, dT_ids, dI_ids, dT_len, dI_len, List.length_set, encI_takeM, List.take_length, c3]))) ?_
  rintro ⟨v26, v27⟩ kk28 m31 hh29 ih30
  rw [rRev_L1_eq] at hh29
  cases c34 : decide (v27 < ((x18.length : Nat) : Int))
  · simp only [c34, cond_false] at hh29
    simp only [Option.bind_some, nextO_inr] at hh29
    obtain rfl := Option.some.inj hh29
    try dsimp only at hh12
    simp only [Option.bind_some, nextO_inl] at hh12
    try simp only [go_sem, c3, c17, f20, f21, c34]
    exact ih13 (v26, (IntKind.i64.wrap (v10 + 1))) kk28 _ hh12 ((Wk.forget (by simp [Le, LeE, LeH, get, envIds, hpIds, KeepH, D.ids, idsL, AO.ids, setL, base, encI_nil, encS_nil, encT_nil, encG_nil, encC_nil, encL_nil, encK_nil, encP_nil, mpS_nil, mpB_nil, encI_consE, encS_consE, encT_consE, encG_consE, encI_one, encS_one, encT_one, encI_snoc, encS_snoc, encT_snocE, encG_snocE, encC_snoc, encL_snoc, encK_snocE, encP_snocE, encI_set, encS_set, encT_setE, encG_setE, encC_setE, encK_setE, encP_setE, encI_len, encS_len, encT_len2, encG_len2, encC_len, encL_len, encK_len2, encP_len2, encW_len, dT_ids, dI_ids, dT_len, dI_len, List.length_set, encI_takeM, List.take_length, c3])))
  simp only [c34, cond_true] at hh29
  rcases g36 : idxO x18 v27 with _ | x35
  · simp only [g36, Option.bind_none, reduceCtorEq] at hh29
  simp only [g36, Option.bind_some] at hh29
  have f37 := idxO_rng g36
  have f38 : (encI x18).getD (Int.toNat v27) [] = [(.int .i64 x35)] := idxO_map _ g36
  rcases g40 : idxO v26 x35 with _ | x39
  · simp only [g40, Option.bind_none, reduceCtorEq] at hh29
  simp only [g40, Option.bind_some] at hh29
  have f41 := idxO_rng g40
  have f42 : (encW v26).getD (Int.toNat x35) [] = encI x39 := idxO_row g40
  have f43 : (encW v26)[(Int.toNat x35)]?.getD [] = encI x39 := idxO_row2 g40
  have f44 : (Int.toNat x35) < v26.length := idxO_lt g40
  have f45 : ∀ hx, (encW v26)[(Int.toNat x35)]'hx = encI x39 := idxO_row3 g40
  cases c46 : decide (x39.length + 1 < 10000000)
  · simp only [c46, cond_false, Option.bind_none, reduceCtorEq] at hh29
  simp only [c46, cond_true] at hh29
  try simp only [go_sem, c3, c17, f20, f21, c34, f37, f38, f41, f42, f43, f44, f45]
  refine ⟨by have := of_decide_eq_true c46; (try simp only [List.length_cons, List.length_nil, List.length_append] at *); (repeat' refine And.intro ?_ ?_) <;> first | exact wid1 _ _ rfl | exact encI_wid _ | omega | (simp [Wid]; done), ?_⟩
  simp only [Option.bind_some, nextO_inl] at hh29
  try simp only [go_sem, c3, c17, f20, f21, c34, f37, f38, f41, f42, f43, f44, f45]
  exact ih30 ((v26.set (Int.toNat x35) (x39 ++ [v10])), (IntKind.i64.wrap (v27 + 1))) ((kk28 + 1) + 1) _ hh29 ((Wk.forget (by simp [Le, LeE, LeH, get, envIds, hpIds, KeepH, D.ids, idsL, AO.ids, setL, base, encI_nil, encS_nil, encT_nil, encG_nil, encC_nil, encL_nil, encK_nil, encP_nil, mpS_nil, mpB_nil, encI_consE, encS_consE, encT_consE, encG_consE, encI_one, encS_one, encT_one, encI_snoc, encS_snoc, encT_snocE, encG_snocE, encC_snoc, encL_snoc, encK_snocE, encP_snocE, encI_set, encS_set, encT_setE, encG_setE, encC_setE, encK_setE, encP_setE, encI_len, encS_len, encT_len2, encG_len2, encC_len, encL_len, encK_len2, encP_len2, encW_len, dT_ids, dI_ids, dT_len, dI_len, List.length_set, encI_takeM, List.take_length, c3])))
noncomputable def rFound_L1 (a1 : List Bool) (x34 : List Int) : (List Int) × (List Bool) × Int → Option (((List Int) × (List Bool) × Int) ⊕ (((List Int) × (List Bool) × Int)))
  | (v41, v42, v43) => cond (decide (v43 < ((x34.length : Nat) : Int))) (Option.bind (idxO x34 v43) fun x50 => Option.bind (idxO a1 x50) fun x54 => cond x54 (some (Sum.inl (v41, v42, (IntKind.i64.wrap (v43 + 1))))) (Option.bind (idxA 24 v42 x50) fun x59 => cond x59 (some (Sum.inl (v41, v42, (IntKind.i64.wrap (v43 + 1))))) (cond (decide (v41.length + 1 < 10000000)) (some (Sum.inl ((v41 ++ [x50]), (v42.set (Int.toNat x50) true), (IntKind.i64.wrap (v43 + 1))))) none))) (some (Sum.inr (v41, v42, v43)))
theorem rFound_L1_eq (a1 : List Bool) (x34 : List Int) (v41 : List Int) (v42 : List Bool) (v43 : Int) : rFound_L1 a1 x34 (v41, v42, v43) = cond (decide (v43 < ((x34.length : Nat) : Int))) (Option.bind (idxO x34 v43) fun x50 => Option.bind (idxO a1 x50) fun x54 => cond x54 (some (Sum.inl (v41, v42, (IntKind.i64.wrap (v43 + 1))))) (Option.bind (idxA 24 v42 x50) fun x59 => cond x59 (some (Sum.inl (v41, v42, (IntKind.i64.wrap (v43 + 1))))) (cond (decide (v41.length + 1 < 10000000)) (some (Sum.inl ((v41 ++ [x50]), (v42.set (Int.toNat x50) true), (IntKind.i64.wrap (v43 + 1))))) none))) (some (Sum.inr (v41, v42, v43))) := rfl
noncomputable def rFound_L2 (a0 : List (List Int)) (a1 : List Bool) : (List Int) × (List Bool) → Option (((List Int) × (List Bool)) ⊕ (((List Int) × (List Bool))))
  | (v15, v16) => cond (decide (0 < ((v15.length : Nat) : Int))) (Option.bind (idxO v15 (IntKind.i64.wrap (((v15.length : Nat) : Int) - 1))) fun x26 => cond (decide (0 ≤ (IntKind.i64.wrap (((v15.length : Nat) : Int) - 1)) ∧ (IntKind.i64.wrap (((v15.length : Nat) : Int) - 1)) ≤ ((v15.length : Nat) : Int))) (Option.bind (idxO a0 x26) fun x34 => Option.bind (loopO (rFound_L1 a1 x34) ((v15.take (Int.toNat (IntKind.i64.wrap (((v15.length : Nat) : Int) - 1)))), v16, 0)) (fun (v68, v69, v70) => some (Sum.inl (v68, v69)))) none) (some (Sum.inr (v15, v16)))
theorem rFound_L2_eq (a0 : List (List Int)) (a1 : List Bool) (v15 : List Int) (v16 : List Bool) : rFound_L2 a0 a1 (v15, v16) = cond (decide (0 < ((v15.length : Nat) : Int))) (Option.bind (idxO v15 (IntKind.i64.wrap (((v15.length : Nat) : Int) - 1))) fun x26 => cond (decide (0 ≤ (IntKind.i64.wrap (((v15.length : Nat) : Int) - 1)) ∧ (IntKind.i64.wrap (((v15.length : Nat) : Int) - 1)) ≤ ((v15.length : Nat) : Int))) (Option.bind (idxO a0 x26) fun x34 => Option.bind (loopO (rFound_L1 a1 x34) ((v15.take (Int.toNat (IntKind.i64.wrap (((v15.length : Nat) : Int) - 1)))), v16, 0)) (fun (v68, v69, v70) => some (Sum.inl (v68, v69)))) none) (some (Sum.inr (v15, v16))) := rfl
noncomputable def rFound_v (a0 : List (List Int)) (a1 : List Bool) (a2 : Int) : Option ((List Bool)) :=
  Option.bind (idxO a1 a2) fun x1 => cond x1 (some (List.replicate 24 false)) (Option.bind (idxA 24 (List.replicate 24 false) a2) fun x6 => Option.bind (loopO (rFound_L2 a0 a1) ([a2], ((List.replicate 24 false).set (Int.toNat a2) true))) (fun (v71, v72) => cond (decide (v72.length = 24)) (some v72) none))
theorem rFound_vok (a0 : List (List Int)) (a1 : List Bool) (a2 : Int) (r : (List Bool)) (hr : rFound_v a0 a1 a2 = some r) :
    ACalls Try.prog 56 [.p (.sl (encG a0)), .p (.sl (encT a1)), .p (.int .i64 a2)] [] fun h d => h = [] ∧ d = .agg (dT r) := by
  refine ACalls_X Try.func56 rfl enters56 (by simp [Try.f56]) ?_
  unfold rFound_v at hr
  rcases g2 : idxO a1 a2 with _ | x1
  · simp only [g2, Option.bind_none, reduceCtorEq] at hr
  simp only [g2, Option.bind_some] at hr
  have f3 := idxO_rng g2
  have f4 : (encT a1).getD (Int.toNat a2) [] = [(.bool x1)] := idxO_map _ g2
  cases c5 : x1
  · simp only [c5, cond_false] at hr
    rcases g7 : idxA 24 (List.replicate 24 false) a2 with _ | x6
    · simp only [g7, Option.bind_none, reduceCtorEq] at hr
    simp only [g7, Option.bind_some] at hr
    obtain ⟨f8, f9q, f10, f11⟩ := idxA_some g7
    have f9 : 0 ≤ a2 ∧ a2 < 24 := by omega
    have f12 : (Int.toNat a2) ≤ 23 := by omega
    rcases g21 : loopO (rFound_L2 a0 a1) ([a2], ((List.replicate 24 false).set (Int.toNat a2) true)) with _ | e20
    · simp only [g21, Option.bind_none, reduceCtorEq] at hr
    simp only [g21, Option.bind_some] at hr
    try simp only [go_sem, f3, f4, c5, f8, f9, f10, f11, f12]
    refine X_loopO g21 (fun q : (List Int) × (List Bool) => ⟨[(0, .p (.sl (encG a0))), (1, .p (.sl (encT a1))), (6, .ptr 6 0), (7, .ptr 7 0), (8, .ref 20 0 q.1.length q.1.length)], [(6, .box (dT (List.replicate 24 false))), (7, .box (dT q.2)), (20, .arr 3 1 (encI q.1))], 63⟩) ((Wk.forget (by simp [Le, LeE, LeH, get, envIds, hpIds, KeepH, D.ids, idsL, AO.ids, setL, base, encI_nil, encS_nil, encT_nil, encG_nil, encC_nil, encL_nil, encK_nil, encP_nil, mpS_nil, mpB_nil, encI_consE, encS_consE, encT_consE, encG_consE, encI_one, encS_one, encT_one, encI_snoc, encS_snoc, encT_snocE, encG_snocE, encC_snoc, encL_snoc, encK_snocE, encP_snocE, encI_set, encS_set, encT_setE, encG_setE, encC_setE, encK_setE, encP_setE, encI_len, encS_len, encT_len2, encG_len2, encC_len, encL_len, encK_len2, encP_len2, encW_len, dT_ids, dI_ids, dT_len, dI_len, List.length_set, encI_takeM, List.take_length, c5]))) ?_
    rintro ⟨v15, v16⟩ m19 hh17 ih18
    rw [rFound_L2_eq] at hh17
    cases c22 : decide (0 < ((v15.length : Nat) : Int))
    · simp only [c22, cond_false] at hh17
      simp only [Option.bind_some, nextO_inr] at hh17
      obtain rfl := Option.some.inj hh17
      try dsimp only at hr
      cases c23 : decide (v16.length = 24)
      · simp only [c23, cond_false, Option.bind_none, reduceCtorEq] at hr
      simp only [c23, cond_true] at hr
      have f24 := of_decide_eq_true c23
      have f25 := of_decide_eq_true c23
      obtain rfl := Option.some.inj hr
      try simp only [go_sem, f3, f4, c5, f8, f9, f10, f11, f12, c22, f24, f25]
      all_goals (try refine end_pure ?_)
      all_goals (try simp only [go_sem, f3, f4, c5, f8, f9, f10, f11, f12, c22, f24, f25])
      all_goals (try (first | rfl | exact ⟨rfl, rfl⟩ | (simp; done)))
    simp only [c22, cond_true] at hh17
    rcases g27 : idxO v15 (IntKind.i64.wrap (((v15.length : Nat) : Int) - 1)) with _ | x26
    · simp only [g27, Option.bind_none, reduceCtorEq] at hh17
    simp only [g27, Option.bind_some] at hh17
    have f28 := idxO_rng g27
    have f29 : (encI v15).getD (Int.toNat (IntKind.i64.wrap (((v15.length : Nat) : Int) - 1))) [] = [(.int .i64 x26)] := idxO_map _ g27
    cases c30 : decide (0 ≤ (IntKind.i64.wrap (((v15.length : Nat) : Int) - 1)) ∧ (IntKind.i64.wrap (((v15.length : Nat) : Int) - 1)) ≤ ((v15.length : Nat) : Int))
    · simp only [c30, cond_false, Option.bind_none, reduceCtorEq] at hh17
    simp only [c30, cond_true] at hh17
    have f31 := of_decide_eq_true c30
    have f32 : (Int.toNat (IntKind.i64.wrap (((v15.length : Nat) : Int) - 1))) ≤ v15.length := by omega
    have f33 : (((IntKind.i64.wrap (((v15.length : Nat) : Int) - 1))) - 0).toNat = (Int.toNat (IntKind.i64.wrap (((v15.length : Nat) : Int) - 1))) := by simp
    rcases g35 : idxO a0 x26 with _ | x34
    · simp only [g35, Option.bind_none, reduceCtorEq] at hh17
    simp only [g35, Option.bind_some] at hh17
    have f36 := idxO_rng g35
    have f37 : (encG a0).getD (Int.toNat x26) [] = [(.sl (encI x34))] := idxO_map _ g35
    rcases g48 : loopO (rFound_L1 a1 x34) ((v15.take (Int.toNat (IntKind.i64.wrap (((v15.length : Nat) : Int) - 1)))), v16, 0) with _ | e47
    · simp only [g48, Option.bind_none, reduceCtorEq] at hh17
    simp only [g48, Option.bind_some] at hh17
    try simp only [go_sem, f3, f4, c5, f8, f9, f10, f11, f12, c22, f28, f29, f31, f33, f36, f37]
    refine X_loopO g48 (fun q : (List Int) × (List Bool) × Int => ⟨[(0, .p (.sl (encG a0))), (1, .p (.sl (encT a1))), (6, .ptr 6 0), (7, .ptr 7 0), (8, .ref 300020 0 q.1.length q.1.length), (38, .p (.sl (encI x34))), (39, .p (.int .i64 ((x34.length : Nat) : Int))), (40, .p (.int .i64 q.2.2))], [(6, .box (dT (List.replicate 24 false))), (7, .box (dT q.2.1)), (300020, .arr 3 1 (encI q.1))], 63⟩) ((Wk.moveSlot (t := 8) (q := 20) (k := (Int.toNat (IntKind.i64.wrap (((v15.length : Nat) : Int) - 1)))) (sz := 1) (e := 3) (es := encI v15) 300020 (by simp [get, encI_nil, encS_nil, encT_nil, encG_nil, encC_nil, encL_nil, encK_nil, encP_nil, mpS_nil, mpB_nil, encI_consE, encS_consE, encT_consE, encG_consE, encI_one, encS_one, encT_one, encI_snoc, encS_snoc, encT_snocE, encG_snocE, encC_snoc, encL_snoc, encK_snocE, encP_snocE, encI_set, encS_set, encT_setE, encG_setE, encC_setE, encK_setE, encP_setE, encI_len, encS_len, encT_len2, encG_len2, encC_len, encL_len, encK_len2, encP_len2, f32]) (by simp [get, encI_nil, encS_nil, encT_nil, encG_nil, encC_nil, encL_nil, encK_nil, encP_nil, mpS_nil, mpB_nil, encI_consE, encS_consE, encT_consE, encG_consE, encI_one, encS_one, encT_one, encI_snoc, encS_snoc, encT_snocE, encG_snocE, encC_snoc, encL_snoc, encK_snocE, encP_snocE, encI_set, encS_set, encT_setE, encG_setE, encC_setE, encK_setE, encP_setE, encI_len, encS_len, encT_len2, encG_len2, encC_len, encL_len, encK_len2, encP_len2, f32]) (by simp [encI_nil, encS_nil, encT_nil, encG_nil, encC_nil, encL_nil, encK_nil, encP_nil, mpS_nil, mpB_nil, encI_consE, encS_consE, encT_consE, encG_consE, encI_one, encS_one, encT_one, encI_snoc, encS_snoc, encT_snocE, encG_snocE, encC_snoc, encL_snoc, encK_snocE, encP_snocE, encI_set, encS_set, encT_setE, encG_setE, encC_setE, encK_setE, encP_setE, encI_len, encS_len, encT_len2, encG_len2, encC_len, encL_len, encK_len2, encP_len2, f32]) rfl).trans ((Wk.forget (by simp [Le, LeE, LeH, get, envIds, hpIds, KeepH, D.ids, idsL, AO.ids, setL, base, encI_nil, encS_nil, encT_nil, encG_nil, encC_nil, encL_nil, encK_nil, encP_nil, mpS_nil, mpB_nil, encI_consE, encS_consE, encT_consE, encG_consE, encI_one, encS_one, encT_one, encI_snoc, encS_snoc, encT_snocE, encG_snocE, encC_snoc, encL_snoc, encK_snocE, encP_snocE, encI_set, encS_set, encT_setE, encG_setE, encC_setE, encK_setE, encP_setE, encI_len, encS_len, encT_len2, encG_len2, encC_len, encL_len, encK_len2, encP_len2, encW_len, dT_ids, dI_ids, dT_len, dI_len, List.length_set, encI_takeM, List.take_length, c5, f32, Nat.min_eq_left f32])))) ?_
    rintro ⟨v41, v42, v43⟩ m46 hh44 ih45
    rw [rFound_L1_eq] at hh44
    cases c49 : decide (v43 < ((x34.length : Nat) : Int))
    · simp only [c49, cond_false] at hh44
      simp only [Option.bind_some, nextO_inr] at hh44
      obtain rfl := Option.some.inj hh44
      try dsimp only at hh17
      simp only [Option.bind_some, nextO_inl] at hh17
      try simp only [go_sem, f3, f4, c5, f8, f9, f10, f11, f12, c22, f28, f29, f31, f33, f36, f37, c49]
      exact ih18 (v41, v42) _ hh17 ((Wk.moveSlot (t := 8) (q := 300020) (k := v41.length) (sz := 1) (e := 3) (es := encI v41) 20 (by simp [get, encI_nil, encS_nil, encT_nil, encG_nil, encC_nil, encL_nil, encK_nil, encP_nil, mpS_nil, mpB_nil, encI_consE, encS_consE, encT_consE, encG_consE, encI_one, encS_one, encT_one, encI_snoc, encS_snoc, encT_snocE, encG_snocE, encC_snoc, encL_snoc, encK_snocE, encP_snocE, encI_set, encS_set, encT_setE, encG_setE, encC_setE, encK_setE, encP_setE, encI_len, encS_len, encT_len2, encG_len2, encC_len, encL_len, encK_len2, encP_len2]) (by simp [get, encI_nil, encS_nil, encT_nil, encG_nil, encC_nil, encL_nil, encK_nil, encP_nil, mpS_nil, mpB_nil, encI_consE, encS_consE, encT_consE, encG_consE, encI_one, encS_one, encT_one, encI_snoc, encS_snoc, encT_snocE, encG_snocE, encC_snoc, encL_snoc, encK_snocE, encP_snocE, encI_set, encS_set, encT_setE, encG_setE, encC_setE, encK_setE, encP_setE, encI_len, encS_len, encT_len2, encG_len2, encC_len, encL_len, encK_len2, encP_len2]) (by simp [encI_nil, encS_nil, encT_nil, encG_nil, encC_nil, encL_nil, encK_nil, encP_nil, mpS_nil, mpB_nil, encI_consE, encS_consE, encT_consE, encG_consE, encI_one, encS_one, encT_one, encI_snoc, encS_snoc, encT_snocE, encG_snocE, encC_snoc, encL_snoc, encK_snocE, encP_snocE, encI_set, encS_set, encT_setE, encG_setE, encC_setE, encK_setE, encP_setE, encI_len, encS_len, encT_len2, encG_len2, encC_len, encL_len, encK_len2, encP_len2]) rfl).trans ((Wk.forget (by simp [Le, LeE, LeH, get, envIds, hpIds, KeepH, D.ids, idsL, AO.ids, setL, base, encI_nil, encS_nil, encT_nil, encG_nil, encC_nil, encL_nil, encK_nil, encP_nil, mpS_nil, mpB_nil, encI_consE, encS_consE, encT_consE, encG_consE, encI_one, encS_one, encT_one, encI_snoc, encS_snoc, encT_snocE, encG_snocE, encC_snoc, encL_snoc, encK_snocE, encP_snocE, encI_set, encS_set, encT_setE, encG_setE, encC_setE, encK_setE, encP_setE, encI_len, encS_len, encT_len2, encG_len2, encC_len, encL_len, encK_len2, encP_len2, encW_len, dT_ids, dI_ids, dT_len, dI_len, List.length_set, encI_takeM, List.take_length, c5, f32, Nat.min_eq_left f32]))))
    simp only [c49, cond_true] at hh44
    rcases g51 : idxO x34 v43 with _ | x50
    · simp only [g51, Option.bind_none, reduceCtorEq] at hh44
    simp only [g51, Option.bind_some] at hh44
    have f52 := idxO_rng g51
    have f53 : (encI x34).getD (Int.toNat v43) [] = [(.int .i64 x50)] := idxO_map _ g51
    rcases g55 : idxO a1 x50 with _ | x54
    · simp only [g55, Option.bind_none, reduceCtorEq] at hh44
    simp only [g55, Option.bind_some] at hh44
    have f56 := idxO_rng g55
    have f57 : (encT a1).getD (Int.toNat x50) [] = [(.bool x54)] := idxO_map _ g55
    cases c58 : x54
    · simp only [c58, cond_false] at hh44
      rcases g60 : idxA 24 v42 x50 with _ | x59
      · simp only [g60, Option.bind_none, reduceCtorEq] at hh44
      simp only [g60, Option.bind_some] at hh44
      obtain ⟨f61, f62q, f63, f64⟩ := idxA_some g60
      have f62 : 0 ≤ x50 ∧ x50 < 24 := by omega
      have f65 : (Int.toNat x50) ≤ 23 := by omega
      cases c66 : x59
      · simp only [c66, cond_false] at hh44
        cases c67 : decide (v41.length + 1 < 10000000)
        · simp only [c67, cond_false, Option.bind_none, reduceCtorEq] at hh44
        simp only [c67, cond_true] at hh44
        try simp only [go_sem, f3, f4, c5, f8, f9, f10, f11, f12, c22, f28, f29, f31, f33, f36, f37, c49, f52, f53, f56, f57, c58, f61, f62, f63, f64, f65, c66]
        refine ⟨by have := of_decide_eq_true c67; (try simp only [List.length_cons, List.length_nil, List.length_append] at *); (repeat' refine And.intro ?_ ?_) <;> first | exact wid1 _ _ rfl | exact encI_wid _ | omega | (simp [Wid]; done), ?_⟩
        simp only [Option.bind_some, nextO_inl] at hh44
        try simp only [go_sem, f3, f4, c5, f8, f9, f10, f11, f12, c22, f28, f29, f31, f33, f36, f37, c49, f52, f53, f56, f57, c58, f61, f62, f63, f64, f65, c66]
        exact ih45 ((v41 ++ [x50]), (v42.set (Int.toNat x50) true), (IntKind.i64.wrap (v43 + 1))) _ hh44 ((Wk.forget (by simp [Le, LeE, LeH, get, envIds, hpIds, KeepH, D.ids, idsL, AO.ids, setL, base, encI_nil, encS_nil, encT_nil, encG_nil, encC_nil, encL_nil, encK_nil, encP_nil, mpS_nil, mpB_nil, encI_consE, encS_consE, encT_consE, encG_consE, encI_one, encS_one, encT_one, encI_snoc, encS_snoc, encT_snocE, encG_snocE, encC_snoc, encL_snoc, encK_snocE, encP_snocE, encI_set, encS_set, encT_setE, encG_setE, encC_setE, encK_setE, encP_setE, encI_len, encS_len, encT_len2, encG_len2, encC_len, encL_len, encK_len2, encP_len2, encW_len, dT_ids, dI_ids, dT_len, dI_len, List.length_set, encI_takeM, List.take_length, c5, f32, Nat.min_eq_left f32, c58, c66])))
      simp only [c66, cond_true] at hh44
      simp only [Option.bind_some, nextO_inl] at hh44
      try simp only [go_sem, f3, f4, c5, f8, f9, f10, f11, f12, c22, f28, f29, f31, f33, f36, f37, c49, f52, f53, f56, f57, c58, f61, f62, f63, f64, f65, c66]
      exact ih45 (v41, v42, (IntKind.i64.wrap (v43 + 1))) _ hh44 ((Wk.forget (by simp [Le, LeE, LeH, get, envIds, hpIds, KeepH, D.ids, idsL, AO.ids, setL, base, encI_nil, encS_nil, encT_nil, encG_nil, encC_nil, encL_nil, encK_nil, encP_nil, mpS_nil, mpB_nil, encI_consE, encS_consE, encT_consE, encG_consE, encI_one, encS_one, encT_one, encI_snoc, encS_snoc, encT_snocE, encG_snocE, encC_snoc, encL_snoc, encK_snocE, encP_snocE, encI_set, encS_set, encT_setE, encG_setE, encC_setE, encK_setE, encP_setE, encI_len, encS_len, encT_len2, encG_len2, encC_len, encL_len, encK_len2, encP_len2, encW_len, dT_ids, dI_ids, dT_len, dI_len, List.length_set, encI_takeM, List.take_length, c5, f32, Nat.min_eq_left f32, c58, c66])))
    simp only [c58, cond_true] at hh44
    simp only [Option.bind_some, nextO_inl] at hh44
    try simp only [go_sem, f3, f4, c5, f8, f9, f10, f11, f12, c22, f28, f29, f31, f33, f36, f37, c49, f52, f53, f56, f57, c58]
    exact ih45 (v41, v42, (IntKind.i64.wrap (v43 + 1))) _ hh44 ((Wk.forget (by simp [Le, LeE, LeH, get, envIds, hpIds, KeepH, D.ids, idsL, AO.ids, setL, base, encI_nil, encS_nil, encT_nil, encG_nil, encC_nil, encL_nil, encK_nil, encP_nil, mpS_nil, mpB_nil, encI_consE, encS_consE, encT_consE, encG_consE, encI_one, encS_one, encT_one, encI_snoc, encS_snoc, encT_snocE, encG_snocE, encC_snoc, encL_snoc, encK_snocE, encP_snocE, encI_set, encS_set, encT_setE, encG_setE, encC_setE, encK_setE, encP_setE, encI_len, encS_len, encT_len2, encG_len2, encC_len, encL_len, encK_len2, encP_len2, encW_len, dT_ids, dI_ids, dT_len, dI_len, List.length_set, encI_takeM, List.take_length, c5, f32, Nat.min_eq_left f32, c58])))
  simp only [c5, cond_true] at hr
  obtain rfl := Option.some.inj hr
  try simp only [go_sem, f3, f4, c5]
  all_goals (try refine end_pure ?_)
  all_goals (try simp only [go_sem, f3, f4, c5])
  all_goals (try (first | rfl | exact ⟨rfl, rfl⟩ | (simp; done)))
noncomputable def rMut_L1 (a1 : List Bool) (x19 : List Bool) (x21 : List Bool) : Int → Option ((Int) ⊕ (Int ⊕ (Bool × Int)))
  | v28 => cond (decide (v28 < ((a1.length : Nat) : Int))) (Option.bind (idxO a1 v28) fun x35 => cond x35 (some (Sum.inl (IntKind.i64.wrap (v28 + 1)))) (Option.bind (idxA 24 x19 v28) fun x40 => cond x40 (Option.bind (idxA 24 x21 v28) fun x48 => cond x48 (some (Sum.inl (IntKind.i64.wrap (v28 + 1)))) (some (Sum.inr (.inr (((false, 0) : Bool × Int)))))) (some (Sum.inr (.inr (((false, 0) : Bool × Int))))))) (some (Sum.inr (.inl v28)))
theorem rMut_L1_eq (a1 : List Bool) (x19 : List Bool) (x21 : List Bool) (v28 : Int) : rMut_L1 a1 x19 x21 v28 = cond (decide (v28 < ((a1.length : Nat) : Int))) (Option.bind (idxO a1 v28) fun x35 => cond x35 (some (Sum.inl (IntKind.i64.wrap (v28 + 1)))) (Option.bind (idxA 24 x19 v28) fun x40 => cond x40 (Option.bind (idxA 24 x21 v28) fun x48 => cond x48 (some (Sum.inl (IntKind.i64.wrap (v28 + 1)))) (some (Sum.inr (.inr (((false, 0) : Bool × Int)))))) (some (Sum.inr (.inr (((false, 0) : Bool × Int))))))) (some (Sum.inr (.inl v28))) := rfl
noncomputable def rMut_L2 (a0 : List (List Int)) (a1 : List Bool) (x1 : List (List Int)) : Int → Option ((Int) ⊕ (Int ⊕ (Bool × Int)))
  | v7 => cond (decide (v7 < ((a1.length : Nat) : Int))) (Option.bind (idxO a1 v7) fun x14 => cond x14 (some (Sum.inl (IntKind.i64.wrap (v7 + 1)))) (Option.bind (rFound_v a0 a1 v7) fun x19 => Option.bind (rFound_v x1 a1 v7) fun x21 => cond (decide (x19.length = 24)) (cond (decide (x21.length = 24)) (Option.bind (loopO (rMut_L1 a1 x19 x21) 0) (fun | .inl v56 => some (Sum.inr (.inr (((true, 0) : Bool × Int)))) | .inr (r57) => some (Sum.inr (.inr (r57))))) none) none)) (some (Sum.inr (.inl v7)))
theorem rMut_L2_eq (a0 : List (List Int)) (a1 : List Bool) (x1 : List (List Int)) (v7 : Int) : rMut_L2 a0 a1 x1 v7 = cond (decide (v7 < ((a1.length : Nat) : Int))) (Option.bind (idxO a1 v7) fun x14 => cond x14 (some (Sum.inl (IntKind.i64.wrap (v7 + 1)))) (Option.bind (rFound_v a0 a1 v7) fun x19 => Option.bind (rFound_v x1 a1 v7) fun x21 => cond (decide (x19.length = 24)) (cond (decide (x21.length = 24)) (Option.bind (loopO (rMut_L1 a1 x19 x21) 0) (fun | .inl v56 => some (Sum.inr (.inr (((true, 0) : Bool × Int)))) | .inr (r57) => some (Sum.inr (.inr (r57))))) none) none)) (some (Sum.inr (.inl v7))) := rfl
noncomputable def rMut_v (a0 : List (List Int)) (a1 : List Bool) : Option (Bool × Int) :=
  Option.bind (rRev_v a0) fun (x1, x2) => cond (decide (x2 = 0)) (cond (decide (((a1.length : Nat) : Int) = ((a0.length : Nat) : Int))) (Option.bind (loopO (rMut_L2 a0 a1 x1) 0) (fun | .inl v58 => some (false, 0) | .inr (r59) => some r59)) (some (false, 19))) (some (false, x2))
theorem rMut_vok (a0 : List (List Int)) (a1 : List Bool) (r : Bool × Int) (hr : rMut_v a0 a1 = some r) :
    ACalls Try.prog 31 [.p (.sl (encG a0)), .p (.sl (encT a1))] [] fun h d => h = [] ∧ d = .tup [.p (.bool r.1), .p (.int .i64 r.2)] := by
  refine ACalls_X Try.func31 rfl enters31 (by simp [Try.f31]) ?_
  unfold rMut_v at hr
  rcases g3 : rRev_v a0 with _ | ⟨x1, x2⟩
  · simp only [g3, Option.bind_none, reduceCtorEq] at hr
  simp only [g3, Option.bind_some] at hr
  try simp only [go_sem]
  refine Cc_of (rRev_vok a0 _ g3) ?_
  rintro h' r ⟨rfl, rfl⟩
  cases c4 : decide (x2 = 0)
  · simp only [c4, cond_false] at hr
    obtain rfl := Option.some.inj hr
    try simp only [go_sem, c4]
    all_goals (try refine end_pure ?_)
    all_goals (try simp only [go_sem, c4])
    all_goals (try (first | rfl | exact ⟨rfl, rfl⟩ | (simp; done)))
  simp only [c4, cond_true] at hr
  cases c5 : decide (((a1.length : Nat) : Int) = ((a0.length : Nat) : Int))
  · simp only [c5, cond_false] at hr
    obtain rfl := Option.some.inj hr
    try simp only [go_sem, c4, c5]
    all_goals (try refine end_pure ?_)
    all_goals (try simp only [go_sem, c4, c5])
    all_goals (try (first | rfl | exact ⟨rfl, rfl⟩ | (simp; done)))
  simp only [c5, cond_true] at hr
  rcases g12 : loopO (rMut_L2 a0 a1 x1) 0 with _ | e11
  · simp only [g12, Option.bind_none, reduceCtorEq] at hr
  simp only [g12, Option.bind_some] at hr
  try simp only [go_sem, c4, c5]
  refine X_loopO g12 (fun q : Int => ⟨[(0, .p (.sl (encG a0))), (1, .p (.sl (encT a1))), (6, .p (.sl (encG x1))), (27, .p (.sl (encT a1))), (28, .p (.int .i64 ((a1.length : Nat) : Int))), (29, .p (.int .i64 q))], [], 66⟩) ((Wk.forget (by simp [Le, LeE, LeH, get, envIds, hpIds, KeepH, D.ids, idsL, AO.ids, setL, base, encI_nil, encS_nil, encT_nil, encG_nil, encC_nil, encL_nil, encK_nil, encP_nil, mpS_nil, mpB_nil, encI_consE, encS_consE, encT_consE, encG_consE, encI_one, encS_one, encT_one, encI_snoc, encS_snoc, encT_snocE, encG_snocE, encC_snoc, encL_snoc, encK_snocE, encP_snocE, encI_set, encS_set, encT_setE, encG_setE, encC_setE, encK_setE, encP_setE, encI_len, encS_len, encT_len2, encG_len2, encC_len, encL_len, encK_len2, encP_len2, encW_len, dT_ids, dI_ids, dT_len, dI_len, List.length_set, encI_takeM, List.take_length]))) ?_
  rintro v7 m10 hh8 ih9
  rw [rMut_L2_eq] at hh8
  cases c13 : decide (v7 < ((a1.length : Nat) : Int))
  · simp only [c13, cond_false] at hh8
    simp only [Option.bind_some, nextO_inr] at hh8
    obtain rfl := Option.some.inj hh8
    try dsimp only at hr
    obtain rfl := Option.some.inj hr
    try simp only [go_sem, c4, c5, c13]
    all_goals (try refine end_pure ?_)
    all_goals (try simp only [go_sem, c4, c5, c13])
    all_goals (try (first | rfl | exact ⟨rfl, rfl⟩ | (simp; done)))
  simp only [c13, cond_true] at hh8
  rcases g15 : idxO a1 v7 with _ | x14
  · simp only [g15, Option.bind_none, reduceCtorEq] at hh8
  simp only [g15, Option.bind_some] at hh8
  have f16 := idxO_rng g15
  have f17 : (encT a1).getD (Int.toNat v7) [] = [(.bool x14)] := idxO_map _ g15
  cases c18 : x14
  · simp only [c18, cond_false] at hh8
    rcases g20 : rFound_v a0 a1 v7 with _ | x19
    · simp only [g20, Option.bind_none, reduceCtorEq] at hh8
    simp only [g20, Option.bind_some] at hh8
    try simp only [go_sem, c4, c5, c13, f16, f17, c18]
    refine Cc_of (rFound_vok a0 a1 v7 _ g20) ?_
    rintro h' r ⟨rfl, rfl⟩
    rcases g22 : rFound_v x1 a1 v7 with _ | x21
    · simp only [g22, Option.bind_none, reduceCtorEq] at hh8
    simp only [g22, Option.bind_some] at hh8
    try simp only [go_sem, c4, c5, c13, f16, f17, c18]
    refine Cc_of (rFound_vok x1 a1 v7 _ g22) ?_
    rintro h' r ⟨rfl, rfl⟩
    cases c23 : decide (x19.length = 24)
    · simp only [c23, cond_false, Option.bind_none, reduceCtorEq] at hh8
    simp only [c23, cond_true] at hh8
    have f24 := of_decide_eq_true c23
    cases c25 : decide (x21.length = 24)
    · simp only [c25, cond_false, Option.bind_none, reduceCtorEq] at hh8
    simp only [c25, cond_true] at hh8
    have f26 := of_decide_eq_true c25
    rcases g33 : loopO (rMut_L1 a1 x19 x21) 0 with _ | e32
    · simp only [g33, Option.bind_none, reduceCtorEq] at hh8
    simp only [g33, Option.bind_some] at hh8
    try simp only [go_sem, c4, c5, c13, f16, f17, c18, f24, f26]
    refine X_loopO g33 (fun q : Int => ⟨[(10, .ptr 10 0), (11, .ptr 11 0), (43, .p (.sl (encT a1))), (44, .p (.int .i64 ((a1.length : Nat) : Int))), (45, .p (.int .i64 q))], [(10, .box (dT x19)), (11, .box (dT x21))], 66⟩) ((Wk.forget (by simp [Le, LeE, LeH, get, envIds, hpIds, KeepH, D.ids, idsL, AO.ids, setL, base, encI_nil, encS_nil, encT_nil, encG_nil, encC_nil, encL_nil, encK_nil, encP_nil, mpS_nil, mpB_nil, encI_consE, encS_consE, encT_consE, encG_consE, encI_one, encS_one, encT_one, encI_snoc, encS_snoc, encT_snocE, encG_snocE, encC_snoc, encL_snoc, encK_snocE, encP_snocE, encI_set, encS_set, encT_setE, encG_setE, encC_setE, encK_setE, encP_setE, encI_len, encS_len, encT_len2, encG_len2, encC_len, encL_len, encK_len2, encP_len2, encW_len, dT_ids, dI_ids, dT_len, dI_len, List.length_set, encI_takeM, List.take_length, c18]))) ?_
    rintro v28 m31 hh29 ih30
    rw [rMut_L1_eq] at hh29
    cases c34 : decide (v28 < ((a1.length : Nat) : Int))
    · simp only [c34, cond_false] at hh29
      simp only [Option.bind_some, nextO_inr] at hh29
      obtain rfl := Option.some.inj hh29
      try dsimp only at hh8
      simp only [Option.bind_some, nextO_inr] at hh8
      obtain rfl := Option.some.inj hh8
      try dsimp only at hr
      obtain rfl := Option.some.inj hr
      try simp only [go_sem, c4, c5, c13, f16, f17, c18, f24, f26, c34]
      all_goals (try refine end_pure ?_)
      all_goals (try simp only [go_sem, c4, c5, c13, f16, f17, c18, f24, f26, c34])
      all_goals (try (first | rfl | exact ⟨rfl, rfl⟩ | (simp; done)))
    simp only [c34, cond_true] at hh29
    rcases g36 : idxO a1 v28 with _ | x35
    · simp only [g36, Option.bind_none, reduceCtorEq] at hh29
    simp only [g36, Option.bind_some] at hh29
    have f37 := idxO_rng g36
    have f38 : (encT a1).getD (Int.toNat v28) [] = [(.bool x35)] := idxO_map _ g36
    cases c39 : x35
    · simp only [c39, cond_false] at hh29
      rcases g41 : idxA 24 x19 v28 with _ | x40
      · simp only [g41, Option.bind_none, reduceCtorEq] at hh29
      simp only [g41, Option.bind_some] at hh29
      obtain ⟨f42, f43q, f44, f45⟩ := idxA_some g41
      have f43 : 0 ≤ v28 ∧ v28 < 24 := by omega
      have f46 : (Int.toNat v28) ≤ 23 := by omega
      cases c47 : x40
      · simp only [c47, cond_false] at hh29
        simp only [Option.bind_some, nextO_inr] at hh29
        obtain rfl := Option.some.inj hh29
        try dsimp only at hh8
        simp only [Option.bind_some, nextO_inr] at hh8
        obtain rfl := Option.some.inj hh8
        try dsimp only at hr
        obtain rfl := Option.some.inj hr
        try simp only [go_sem, c4, c5, c13, f16, f17, c18, f24, f26, c34, f37, f38, c39, f42, f43, f44, f45, f46, c47]
        all_goals (try refine end_pure ?_)
        all_goals (try simp only [go_sem, c4, c5, c13, f16, f17, c18, f24, f26, c34, f37, f38, c39, f42, f43, f44, f45, f46, c47])
        all_goals (try (first | rfl | exact ⟨rfl, rfl⟩ | (simp; done)))
      simp only [c47, cond_true] at hh29
      rcases g49 : idxA 24 x21 v28 with _ | x48
      · simp only [g49, Option.bind_none, reduceCtorEq] at hh29
      simp only [g49, Option.bind_some] at hh29
      obtain ⟨f50, f51q, f52, f53⟩ := idxA_some g49
      have f51 : 0 ≤ v28 ∧ v28 < 24 := by omega
      have f54 : (Int.toNat v28) ≤ 23 := by omega
      cases c55 : x48
      · simp only [c55, cond_false] at hh29
        simp only [Option.bind_some, nextO_inr] at hh29
        obtain rfl := Option.some.inj hh29
        try dsimp only at hh8
        simp only [Option.bind_some, nextO_inr] at hh8
        obtain rfl := Option.some.inj hh8
        try dsimp only at hr
        obtain rfl := Option.some.inj hr
        try simp only [go_sem, c4, c5, c13, f16, f17, c18, f24, f26, c34, f37, f38, c39, f42, f43, f44, f45, f46, c47, f50, f51, f52, f53, f54, c55]
        all_goals (try refine end_pure ?_)
        all_goals (try simp only [go_sem, c4, c5, c13, f16, f17, c18, f24, f26, c34, f37, f38, c39, f42, f43, f44, f45, f46, c47, f50, f51, f52, f53, f54, c55])
        all_goals (try (first | rfl | exact ⟨rfl, rfl⟩ | (simp; done)))
      simp only [c55, cond_true] at hh29
      simp only [Option.bind_some, nextO_inl] at hh29
      try simp only [go_sem, c4, c5, c13, f16, f17, c18, f24, f26, c34, f37, f38, c39, f42, f43, f44, f45, f46, c47, f50, f51, f52, f53, f54, c55]
      exact ih30 (IntKind.i64.wrap (v28 + 1)) _ hh29 ((Wk.forget (by simp [Le, LeE, LeH, get, envIds, hpIds, KeepH, D.ids, idsL, AO.ids, setL, base, encI_nil, encS_nil, encT_nil, encG_nil, encC_nil, encL_nil, encK_nil, encP_nil, mpS_nil, mpB_nil, encI_consE, encS_consE, encT_consE, encG_consE, encI_one, encS_one, encT_one, encI_snoc, encS_snoc, encT_snocE, encG_snocE, encC_snoc, encL_snoc, encK_snocE, encP_snocE, encI_set, encS_set, encT_setE, encG_setE, encC_setE, encK_setE, encP_setE, encI_len, encS_len, encT_len2, encG_len2, encC_len, encL_len, encK_len2, encP_len2, encW_len, dT_ids, dI_ids, dT_len, dI_len, List.length_set, encI_takeM, List.take_length, c18, c39, c47, c55])))
    simp only [c39, cond_true] at hh29
    simp only [Option.bind_some, nextO_inl] at hh29
    try simp only [go_sem, c4, c5, c13, f16, f17, c18, f24, f26, c34, f37, f38, c39]
    exact ih30 (IntKind.i64.wrap (v28 + 1)) _ hh29 ((Wk.forget (by simp [Le, LeE, LeH, get, envIds, hpIds, KeepH, D.ids, idsL, AO.ids, setL, base, encI_nil, encS_nil, encT_nil, encG_nil, encC_nil, encL_nil, encK_nil, encP_nil, mpS_nil, mpB_nil, encI_consE, encS_consE, encT_consE, encG_consE, encI_one, encS_one, encT_one, encI_snoc, encS_snoc, encT_snocE, encG_snocE, encC_snoc, encL_snoc, encK_snocE, encP_snocE, encI_set, encS_set, encT_setE, encG_setE, encC_setE, encK_setE, encP_setE, encI_len, encS_len, encT_len2, encG_len2, encC_len, encL_len, encK_len2, encP_len2, encW_len, dT_ids, dI_ids, dT_len, dI_len, List.length_set, encI_takeM, List.take_length, c18, c39])))
  simp only [c18, cond_true] at hh8
  simp only [Option.bind_some, nextO_inl] at hh8
  try simp only [go_sem, c4, c5, c13, f16, f17, c18]
  exact ih9 (IntKind.i64.wrap (v7 + 1)) _ hh8 ((Wk.forget (by simp [Le, LeE, LeH, get, envIds, hpIds, KeepH, D.ids, idsL, AO.ids, setL, base, encI_nil, encS_nil, encT_nil, encG_nil, encC_nil, encL_nil, encK_nil, encP_nil, mpS_nil, mpB_nil, encI_consE, encS_consE, encT_consE, encG_consE, encI_one, encS_one, encT_one, encI_snoc, encS_snoc, encT_snocE, encG_snocE, encC_snoc, encL_snoc, encK_snocE, encP_snocE, encI_set, encS_set, encT_setE, encG_setE, encC_setE, encK_setE, encP_setE, encI_len, encS_len, encT_len2, encG_len2, encC_len, encL_len, encK_len2, encP_len2, encW_len, dT_ids, dI_ids, dT_len, dI_len, List.length_set, encI_takeM, List.take_length, c18])))
end Go.Am
end
section
namespace Go.Am
open Go Go.Proofs
set_option maxRecDepth 100000
set_option maxHeartbeats 2000000
set_option linter.unusedSimpArgs false
set_option linter.unusedVariables false
end Go.Am
end
section
namespace Go.Am
open Go Go.Proofs
set_option maxRecDepth 100000
set_option maxHeartbeats 2000000
set_option linter.unusedSimpArgs false
set_option linter.unusedVariables false
noncomputable def sameI_L1 (a0 : List Int) (a1 : List Int) : Int → Option ((Int) ⊕ (Int ⊕ Bool))
  | v3 => cond (decide (v3 < ((a0.length : Nat) : Int))) (Option.bind (idxO a0 v3) fun x10 => Option.bind (idxO a1 v3) fun x14 => cond (decide (x10 = x14)) (some (Sum.inl (IntKind.i64.wrap (v3 + 1)))) (some (Sum.inr (.inr (false))))) (some (Sum.inr (.inl v3)))
theorem sameI_L1_eq (a0 : List Int) (a1 : List Int) (v3 : Int) : sameI_L1 a0 a1 v3 = cond (decide (v3 < ((a0.length : Nat) : Int))) (Option.bind (idxO a0 v3) fun x10 => Option.bind (idxO a1 v3) fun x14 => cond (decide (x10 = x14)) (some (Sum.inl (IntKind.i64.wrap (v3 + 1)))) (some (Sum.inr (.inr (false))))) (some (Sum.inr (.inl v3))) := rfl
noncomputable def sameI_v (a0 : List Int) (a1 : List Int) : Option (Bool) :=
  cond (decide (((a0.length : Nat) : Int) = ((a1.length : Nat) : Int))) (Option.bind (loopO (sameI_L1 a0 a1) 0) (fun | .inl v19 => some true | .inr (r20) => some r20)) (some false)
theorem sameI_vok (a0 : List Int) (a1 : List Int) (r : Bool) (hr : sameI_v a0 a1 = some r) :
    ACalls Try.prog 21 [.p (.sl (encI a0)), .p (.sl (encI a1))] [] fun h d => h = [] ∧ d = .p (.bool r) := by
  refine ACalls_X Try.func21 rfl enters21 (by simp [Try.f21]) ?_
  unfold sameI_v at hr
  cases c1 : decide (((a0.length : Nat) : Int) = ((a1.length : Nat) : Int))
  · simp only [c1, cond_false] at hr
    obtain rfl := Option.some.inj hr
    try simp only [go_sem, c1]
    all_goals (try refine end_pure ?_)
    all_goals (try simp only [go_sem, c1])
    all_goals (try (first | rfl | exact ⟨rfl, rfl⟩ | (simp; done)))
  simp only [c1, cond_true] at hr
  rcases g8 : loopO (sameI_L1 a0 a1) 0 with _ | e7
  · simp only [g8, Option.bind_none, reduceCtorEq] at hr
  simp only [g8, Option.bind_some] at hr
  try simp only [go_sem, c1]
  refine X_loopO g8 (fun q : Int => ⟨[(0, .p (.sl (encI a0))), (1, .p (.sl (encI a1))), (5, .p (.int .i64 q))], [], 26⟩) ((Wk.forget (by simp [Le, LeE, LeH, get, envIds, hpIds, KeepH, D.ids, idsL, AO.ids, setL, base, encI_nil, encS_nil, encT_nil, encG_nil, encC_nil, encL_nil, encK_nil, encP_nil, mpS_nil, mpB_nil, encI_consE, encS_consE, encT_consE, encG_consE, encI_one, encS_one, encT_one, encI_snoc, encS_snoc, encT_snocE, encG_snocE, encC_snoc, encL_snoc, encK_snocE, encP_snocE, encI_set, encS_set, encT_setE, encG_setE, encC_setE, encK_setE, encP_setE, encI_len, encS_len, encT_len2, encG_len2, encC_len, encL_len, encK_len2, encP_len2]))) ?_
  rintro v3 m6 hh4 ih5
  rw [sameI_L1_eq] at hh4
  cases c9 : decide (v3 < ((a0.length : Nat) : Int))
  · simp only [c9, cond_false] at hh4
    simp only [Option.bind_some, nextO_inr] at hh4
    obtain rfl := Option.some.inj hh4
    try dsimp only at hr
    obtain rfl := Option.some.inj hr
    try simp only [go_sem, c1, c9]
    all_goals (try refine end_pure ?_)
    all_goals (try simp only [go_sem, c1, c9])
    all_goals (try (first | rfl | exact ⟨rfl, rfl⟩ | (simp; done)))
  simp only [c9, cond_true] at hh4
  try simp only [go_sem, c1, c9]
  refine X_any0 mixed (p := [(0, 0), (1, 0), (2, 0), (3, 0), (4, 0), (5, 0), (6, 0), (7, 0), (8, 0)]) (by kernel_rfl) (by simp [LeH, get]) ?_
  rcases g11 : idxO a0 v3 with _ | x10
  · simp only [g11, Option.bind_none, reduceCtorEq] at hh4
  simp only [g11, Option.bind_some] at hh4
  have f12 := idxO_rng g11
  have f13 : (encI a0).getD (Int.toNat v3) [] = [(.int .i64 x10)] := idxO_map _ g11
  rcases g15 : idxO a1 v3 with _ | x14
  · simp only [g15, Option.bind_none, reduceCtorEq] at hh4
  simp only [g15, Option.bind_some] at hh4
  have f16 := idxO_rng g15
  have f17 : (encI a1).getD (Int.toNat v3) [] = [(.int .i64 x14)] := idxO_map _ g15
  cases c18 : decide (x10 = x14)
  · simp only [c18, cond_false] at hh4
    simp only [Option.bind_some, nextO_inr] at hh4
    obtain rfl := Option.some.inj hh4
    try dsimp only at hr
    obtain rfl := Option.some.inj hr
    try simp only [go_sem, c1, c9, f12, f13, f16, f17, c18]
    all_goals (try refine end_pure ?_)
    all_goals (try simp only [go_sem, c1, c9, f12, f13, f16, f17, c18])
    all_goals (try (first | rfl | exact ⟨rfl, rfl⟩ | (simp; done)))
  simp only [c18, cond_true] at hh4
  simp only [Option.bind_some, nextO_inl] at hh4
  try simp only [go_sem, c1, c9, f12, f13, f16, f17, c18]
  exact ih5 (IntKind.i64.wrap (v3 + 1)) _ hh4 ((Wk.forget (by simp [Le, LeE, LeH, get, envIds, hpIds, KeepH, D.ids, idsL, AO.ids, setL, base, encI_nil, encS_nil, encT_nil, encG_nil, encC_nil, encL_nil, encK_nil, encP_nil, mpS_nil, mpB_nil, encI_consE, encS_consE, encT_consE, encG_consE, encI_one, encS_one, encT_one, encI_snoc, encS_snoc, encT_snocE, encG_snocE, encC_snoc, encL_snoc, encK_snocE, encP_snocE, encI_set, encS_set, encT_setE, encG_setE, encC_setE, encK_setE, encP_setE, encI_len, encS_len, encT_len2, encG_len2, encC_len, encL_len, encK_len2, encP_len2])))
end Go.Am
end
section
namespace Go.Am
open Go Go.Proofs
set_option maxRecDepth 100000
set_option maxHeartbeats 2000000
set_option linter.unusedSimpArgs false
set_option linter.unusedVariables false
noncomputable def rChk_v (a0 : List (List Int)) (a1 : List Bool) (a2 : Int) : Option (Int) :=
  Option.bind (rVal_v a0) fun x1 => cond x1 (cond (decide (((a1.length : Nat) : Int) = ((a0.length : Nat) : Int))) (cond (decide (a2 < 0)) (some 19) (cond (decide (((a0.length : Nat) : Int) ≤ a2)) (some 19) (some 0))) (some 19)) (some 20)
theorem rChk_vok (a0 : List (List Int)) (a1 : List Bool) (a2 : Int) (r : Int) (hr : rChk_v a0 a1 a2 = some r) :
    ACalls Try.prog 55 [.p (.sl (encG a0)), .p (.sl (encT a1)), .p (.int .i64 a2)] [] fun h d => h = [] ∧ d = .p (.int .i64 r) := by
  refine ACalls_X Try.func55 rfl enters55 (by simp [Try.f55]) ?_
  unfold rChk_v at hr
  rcases g2 : rVal_v a0 with _ | x1
  · simp only [g2, Option.bind_none, reduceCtorEq] at hr
  simp only [g2, Option.bind_some] at hr
  try simp only [go_sem]
  refine Cc_of (rVal_vok a0 _ g2) ?_
  rintro h' r ⟨rfl, rfl⟩
  cases c3 : x1
  · simp only [c3, cond_false] at hr
    obtain rfl := Option.some.inj hr
    try simp only [go_sem, c3]
    all_goals (try refine end_pure ?_)
    all_goals (try simp only [go_sem, c3])
    all_goals (try (first | rfl | exact ⟨rfl, rfl⟩ | (simp; done)))
  simp only [c3, cond_true] at hr
  cases c4 : decide (((a1.length : Nat) : Int) = ((a0.length : Nat) : Int))
  · simp only [c4, cond_false] at hr
    obtain rfl := Option.some.inj hr
    try simp only [go_sem, c3, c4]
    all_goals (try refine end_pure ?_)
    all_goals (try simp only [go_sem, c3, c4])
    all_goals (try (first | rfl | exact ⟨rfl, rfl⟩ | (simp; done)))
  simp only [c4, cond_true] at hr
  cases c5 : decide (a2 < 0)
  · simp only [c5, cond_false] at hr
    cases c6 : decide (((a0.length : Nat) : Int) ≤ a2)
    · simp only [c6, cond_false] at hr
      obtain rfl := Option.some.inj hr
      try simp only [go_sem, c3, c4, c5, c6]
      all_goals (try refine end_pure ?_)
      all_goals (try simp only [go_sem, c3, c4, c5, c6])
      all_goals (try (first | rfl | exact ⟨rfl, rfl⟩ | (simp; done)))
    simp only [c6, cond_true] at hr
    obtain rfl := Option.some.inj hr
    try simp only [go_sem, c3, c4, c5, c6]
    all_goals (try refine end_pure ?_)
    all_goals (try simp only [go_sem, c3, c4, c5, c6])
    all_goals (try (first | rfl | exact ⟨rfl, rfl⟩ | (simp; done)))
  simp only [c5, cond_true] at hr
  obtain rfl := Option.some.inj hr
  try simp only [go_sem, c3, c4, c5]
  all_goals (try refine end_pure ?_)
  all_goals (try simp only [go_sem, c3, c4, c5])
  all_goals (try (first | rfl | exact ⟨rfl, rfl⟩ | (simp; done)))
noncomputable def sameLs_L1 (a0 : List (List Int)) (a1 : List (List Int)) : Int → Option ((Int) ⊕ (Int ⊕ Bool))
  | v3 => cond (decide (v3 < ((a0.length : Nat) : Int))) (Option.bind (idxO a0 v3) fun x10 => Option.bind (idxO a1 v3) fun x14 => Option.bind (sameI_v x10 x14) fun x18 => cond x18 (some (Sum.inl (IntKind.i64.wrap (v3 + 1)))) (some (Sum.inr (.inr ((false : Bool)))))) (some (Sum.inr (.inl v3)))
theorem sameLs_L1_eq (a0 : List (List Int)) (a1 : List (List Int)) (v3 : Int) : sameLs_L1 a0 a1 v3 = cond (decide (v3 < ((a0.length : Nat) : Int))) (Option.bind (idxO a0 v3) fun x10 => Option.bind (idxO a1 v3) fun x14 => Option.bind (sameI_v x10 x14) fun x18 => cond x18 (some (Sum.inl (IntKind.i64.wrap (v3 + 1)))) (some (Sum.inr (.inr ((false : Bool)))))) (some (Sum.inr (.inl v3))) := rfl
noncomputable def sameLs_v (a0 : List (List Int)) (a1 : List (List Int)) : Option (Bool) :=
  cond (decide (((a0.length : Nat) : Int) = ((a1.length : Nat) : Int))) (Option.bind (loopO (sameLs_L1 a0 a1) 0) (fun | .inl v21 => some true | .inr (r22) => some r22)) (some false)
theorem sameLs_vok (a0 : List (List Int)) (a1 : List (List Int)) (r : Bool) (hr : sameLs_v a0 a1 = some r) :
    ACalls Try.prog 22 [.p (.sl (encG a0)), .p (.sl (encG a1))] [] fun h d => h = [] ∧ d = .p (.bool r) := by
  refine ACalls_X Try.func22 rfl enters22 (by simp [Try.f22]) ?_
  unfold sameLs_v at hr
  cases c1 : decide (((a0.length : Nat) : Int) = ((a1.length : Nat) : Int))
  · simp only [c1, cond_false] at hr
    obtain rfl := Option.some.inj hr
    try simp only [go_sem, c1]
    all_goals (try refine end_pure ?_)
    all_goals (try simp only [go_sem, c1])
    all_goals (try (first | rfl | exact ⟨rfl, rfl⟩ | (simp; done)))
  simp only [c1, cond_true] at hr
  rcases g8 : loopO (sameLs_L1 a0 a1) 0 with _ | e7
  · simp only [g8, Option.bind_none, reduceCtorEq] at hr
  simp only [g8, Option.bind_some] at hr
  try simp only [go_sem, c1]
  refine X_loopO g8 (fun q : Int => ⟨[(0, .p (.sl (encG a0))), (1, .p (.sl (encG a1))), (5, .p (.int .i64 q))], [], 27⟩) ((Wk.forget (by simp [Le, LeE, LeH, get, envIds, hpIds, KeepH, D.ids, idsL, AO.ids, setL, base, encI_nil, encS_nil, encT_nil, encG_nil, encC_nil, encL_nil, encK_nil, encP_nil, mpS_nil, mpB_nil, encI_consE, encS_consE, encT_consE, encG_consE, encI_one, encS_one, encT_one, encI_snoc, encS_snoc, encT_snocE, encG_snocE, encC_snoc, encL_snoc, encK_snocE, encP_snocE, encI_set, encS_set, encT_setE, encG_setE, encC_setE, encK_setE, encP_setE, encI_len, encS_len, encT_len2, encG_len2, encC_len, encL_len, encK_len2, encP_len2, encW_len, dT_ids, dI_ids, dT_len, dI_len, List.length_set, encI_takeM, List.take_length, encSlT_nil, encSlT_consE, encSlT_len2, encSlT_snocE]))) ?_
  rintro v3 m6 hh4 ih5
  rw [sameLs_L1_eq] at hh4
  cases c9 : decide (v3 < ((a0.length : Nat) : Int))
  · simp only [c9, cond_false] at hh4
    simp only [Option.bind_some, nextO_inr] at hh4
    obtain rfl := Option.some.inj hh4
    try dsimp only at hr
    obtain rfl := Option.some.inj hr
    try simp only [go_sem, c1, c9]
    all_goals (try refine end_pure ?_)
    all_goals (try simp only [go_sem, c1, c9])
    all_goals (try (first | rfl | exact ⟨rfl, rfl⟩ | (simp; done)))
  simp only [c9, cond_true] at hh4
  try simp only [go_sem, c1, c9]
  refine X_any0 mixed (p := [(0, 0), (1, 0), (2, 0), (3, 0), (4, 0), (5, 0), (6, 0), (7, 0), (8, 2), (9, 0)]) (by kernel_rfl) (by simp [LeH, get]) ?_
  rcases g11 : idxO a0 v3 with _ | x10
  · simp only [g11, Option.bind_none, reduceCtorEq] at hh4
  simp only [g11, Option.bind_some] at hh4
  have f12 := idxO_rng g11
  have f13 : (encG a0).getD (Int.toNat v3) [] = [(.sl (encI x10))] := idxO_map _ g11
  rcases g15 : idxO a1 v3 with _ | x14
  · simp only [g15, Option.bind_none, reduceCtorEq] at hh4
  simp only [g15, Option.bind_some] at hh4
  have f16 := idxO_rng g15
  have f17 : (encG a1).getD (Int.toNat v3) [] = [(.sl (encI x14))] := idxO_map _ g15
  rcases g19 : sameI_v x10 x14 with _ | x18
  · simp only [g19, Option.bind_none, reduceCtorEq] at hh4
  simp only [g19, Option.bind_some] at hh4
  try simp only [go_sem, c1, c9, f12, f13, f16, f17]
  refine Gh_of (sameI_vok x10 x14 _ g19) ?_
  rintro h' r ⟨rfl, rfl⟩
  cases c20 : x18
  · simp only [c20, cond_false] at hh4
    simp only [Option.bind_some, nextO_inr] at hh4
    obtain rfl := Option.some.inj hh4
    try dsimp only at hr
    obtain rfl := Option.some.inj hr
    try simp only [go_sem, c1, c9, f12, f13, f16, f17, c20]
    all_goals (try refine end_pure ?_)
    all_goals (try simp only [go_sem, c1, c9, f12, f13, f16, f17, c20])
    all_goals (try (first | rfl | exact ⟨rfl, rfl⟩ | (simp; done)))
  simp only [c20, cond_true] at hh4
  simp only [Option.bind_some, nextO_inl] at hh4
  try simp only [go_sem, c1, c9, f12, f13, f16, f17, c20]
  exact ih5 (IntKind.i64.wrap (v3 + 1)) _ hh4 ((Wk.forget (by simp [Le, LeE, LeH, get, envIds, hpIds, KeepH, D.ids, idsL, AO.ids, setL, base, encI_nil, encS_nil, encT_nil, encG_nil, encC_nil, encL_nil, encK_nil, encP_nil, mpS_nil, mpB_nil, encI_consE, encS_consE, encT_consE, encG_consE, encI_one, encS_one, encT_one, encI_snoc, encS_snoc, encT_snocE, encG_snocE, encC_snoc, encL_snoc, encK_snocE, encP_snocE, encI_set, encS_set, encT_setE, encG_setE, encC_setE, encK_setE, encP_setE, encI_len, encS_len, encT_len2, encG_len2, encC_len, encL_len, encK_len2, encP_len2, encW_len, dT_ids, dI_ids, dT_len, dI_len, List.length_set, encI_takeM, List.take_length, encSlT_nil, encSlT_consE, encSlT_len2, encSlT_snocE, c20])))
end Go.Am
end
section
namespace Go.Am
open Go Go.Proofs
set_option maxRecDepth 100000
set_option linter.unusedVariables false
set_option linter.unusedSimpArgs false
theorem chunk_one : ∀ (l : List Pd) (n : Nat), l.length = n → chunk 1 n l = l.map fun x => [x]
  | [], 0, _ => rfl
  | x :: r, n + 1, h => by simp [chunk, chunk_one r n (by simpa using h)]
noncomputable def rFrom_v (a0 : List (List Int)) (a1 : List Bool) (a2 : Int) : Option (List Bool × Int) :=
  Option.bind (rChk_v a0 a1 a2) fun e => cond (decide (e = 0)) (Option.bind (rFound_v a0 a1 a2) fun m => cond (decide (m.length = 24 ∧ a0.length ≤ 24)) (some (m.take a0.length, 0)) none) (some ([], e))
theorem rFrom_vok (a0 : List (List Int)) (a1 : List Bool) (a2 : Int) (r : List Bool × Int) (hr : rFrom_v a0 a1 a2 = some r) :
    ACalls Try.prog 30 [.p (.sl (encG a0)), .p (.sl (encT a1)), .p (.int .i64 a2)] [] fun h d => h = [] ∧ d = .tup [.p (.sl (encT r.1)), .p (.int .i64 r.2)] := by
  unfold rFrom_v at hr
  refine ACalls_X Try.func30 rfl enters30 (by simp [Try.f30]) ?_
  rcases g1 : rChk_v a0 a1 a2 with _ | e
  · simp only [g1, Option.bind_none, reduceCtorEq] at hr
  simp only [g1, Option.bind_some] at hr
  simp only [go_sem]
  refine Cc_of ((rChk_vok a0 a1 a2 e g1)) ?_
  rintro h' r ⟨rfl, rfl⟩
  cases c1 : decide (e = 0)
  · simp only [c1, cond_false] at hr
    obtain rfl := Option.some.inj hr
    simp only [go_sem, c1]
    all_goals (try refine end_pure ?_)
    all_goals (try simp only [go_sem, c1])
    all_goals (try (first | rfl | exact ⟨rfl, rfl⟩ | (simp; done)))
  simp only [c1, cond_true] at hr
  rcases g2 : rFound_v a0 a1 a2 with _ | m
  · simp only [g2, Option.bind_none, reduceCtorEq] at hr
  simp only [g2, Option.bind_some] at hr
  cases c2 : decide (m.length = 24 ∧ a0.length ≤ 24)
  · simp only [c2, cond_false, reduceCtorEq] at hr
  simp only [c2, cond_true] at hr
  obtain rfl := Option.some.inj hr
  obtain ⟨hm, hn⟩ := of_decide_eq_true c2
  simp only [go_sem, c1]
  refine Cc_of ((rFound_vok a0 a1 a2 m g2)) ?_
  rintro h' r ⟨rfl, rfl⟩
  simp only [go_sem, c1, hm]
  have hd : dT m = (m.map Pd.bool).map D.p := by simp [dT]
  refine Af_wk (Wk.seal (t := 9) (id := 9) (xs := m.map Pd.bool) (env1 := [(22, .p (.int .i64 (a0.length : Nat)))]) (hp1 := []) rfl (by rw [← hd]; rfl) rfl (by simp [Le, LeE, LeH, get, envIds, hpIds, KeepH, D.ids, idsL, AO.ids, base])) ?_
  simp only [go_sem]
  refine Af_sliceHi (n := 24) (L := a0.length) rfl ti103 ti4 rfl rfl hn (by decide) (by simp [hm]) (by decide) ?_
  have hc : (chunk 1 24 (m.map Pd.bool)).take a0.length = encT (m.take a0.length) := by
    rw [chunk_one _ _ (by simp [hm]), List.map_map]
    unfold encT
    rw [List.map_take]; rfl
  have hl : (m.take a0.length).length = a0.length := by simp; omega
  show O _ _ _ _ _ (St.put _ _ (D.p (Pd.sl ((chunk 1 24 (m.map Pd.bool)).take a0.length))))
  rw [hc]
  simp only [go_sem, hl]
  refine ⟨⟨encT_wid _, by simp [Wid], by omega⟩, ?_⟩
  refine end_pure ?_
  have ht : (encT (m.take a0.length)).take a0.length = encT (m.take a0.length) := by rw [List.take_of_length_le]; simp [encT]; omega
  simp only [go_sem, hl, ht]
end Go.Am
end
section
namespace Go.Am
open Go Go.Proofs
set_option maxRecDepth 100000
set_option linter.unusedVariables false
set_option linter.unusedSimpArgs false
end Go.Am
end
section
namespace Go.Am
open Go Go.Proofs
set_option maxRecDepth 100000
set_option linter.unusedVariables false
set_option linter.unusedSimpArgs false
end Go.Am
end
section
namespace Go.Am
open Go Go.Proofs
set_option maxRecDepth 100000
set_option linter.unusedVariables false
set_option linter.unusedSimpArgs false
theorem has_ok (l : List Int) (x : Int) (hl : l.length ≤ 10000000) :
    ACalls Try.prog 39 [.p (.sl (encI l)), .p (.int .i64 x)] [] fun h r => h = [] ∧ r = .p (.bool (decide (x ∈ l))) := by
  refine ACalls_X Try.func39 rfl enters39 (by simp [Try.f39]) ?_
  simp only [go_sem, encI_len]
  refine X_loop_inv (fun i => ⟨[(0, .p (.sl (encI l))), (1, .p (.int .i64 x)), (5, .p (.int .i64 (i : Nat)))], [], 18⟩) (fun i => i ≤ l.length ∧ x ∉ l.take i) (fun i => l.length - i) 0 ⟨Nat.zero_le _, by simp⟩ (Wk.forget (by simp [Le, LeE, LeH, get, envIds, hpIds, KeepH, D.ids, idsL, AO.ids, setL, base, encI])) ?_
  rintro i n ⟨hi, he⟩ ih
  simp only [go_sem, encI_len]
  refine Cn_split (fun h2 => ?_) (fun h2 => ?_)
  · have hlt : i < l.length := by simp at h2; omega
    have hw := wrap_succ i (by omega)
    have hg := encI_get l i hlt
    have hx : l[i]? = some (l.getD i 0) := by simp [List.getD, hlt]
    have hi0 : (0 : Int) ≤ (i : Int) ∧ (i : Int) < (l.length : Int) := by omega
    have hmem := getD_mem l i 0 hlt
    generalize l.getD i 0 = y at *
    simp only [go_sem, encI_len, Int.toNat_natCast, hg, hi0]
    cases hv : decide (y = x)
    · simp only [go_sem, hv, hw]
      refine ih (i + 1) _ ⟨hlt, ?_⟩ (by omega) ?_
      · rw [List.take_add_one, hx]
        have : ¬ x = y := fun e => of_decide_eq_false hv e.symm
        simp [he, this]
      · (refine Wk.forget ?_; simp [Le, LeE, LeH, get, envIds, hpIds, KeepH, D.ids, idsL, AO.ids, setL, base, encI]; done)
    · simp only [go_sem, hv]
      have hm : x ∈ l := by rw [← of_decide_eq_true hv]; exact hmem
      simp [hm]
  · simp only [go_sem]
    have : i = l.length := by simp at h2; omega
    subst this
    rw [List.take_length] at he
    simp [he]
theorem insert_ok (l : List Int) (x : Int) (hl : l.length ≤ 10000000) :
    ACalls Try.prog 40 [.p (.sl (encI l)), .p (.int .i64 x)] [] fun h r => h = [] ∧ r = .p (.sl (encI (insV l x))) := by
  refine ACalls_X Try.func40 rfl enters40 (by simp [Try.f40]) ?_
  simp only [go_sem, encI_len]
  refine X_loop_inv (fun q : Nat × Bool × List Int => ⟨[(0, .p (.sl (encI l))), (1, .p (.int .i64 x)), (5, .ref 27 0 q.2.2.length q.2.2.length), (6, .p (.bool q.2.1)), (7, .p (.int .i64 (q.1 : Nat)))], [(27, .arr 3 1 (encI q.2.2))], 42⟩)
    (fun q => q.1 ≤ l.length ∧ q.2.2.length ≤ q.1 + q.2.1.toNat ∧ q.2.2 ++ (if q.2.1 then l.drop q.1 else insV (l.drop q.1) x) = insV l x) (fun q => l.length - q.1) (0, false, []) ⟨Nat.zero_le _, by simp, by simp⟩ ((Wk.nil (t := 5) (q := 27) (sz := 1) 3 rfl rfl (by decide)).trans (Wk.forget (by simp [Le, LeE, LeH, get, envIds, hpIds, KeepH, D.ids, idsL, AO.ids, setL, base, encI]))) ?_
  rintro ⟨i, dn, acc⟩ n ⟨hi, ha, he⟩ ih
  simp only at hi ha he
  simp only [go_sem, encI_len]
  refine Cn_split (fun h2 => ?_) (fun h2 => ?_)
  · have hlt : i < l.length := by simp at h2; omega
    have hw := wrap_succ i (by omega)
    have hg := encI_get l i hlt
    have hi0 : (0 : Int) ≤ (i : Int) ∧ (i : Int) < (l.length : Int) := by omega
    rw [drop_getD l i 0 hlt] at he
    generalize l.getD i 0 = y at *
    cases dn
    · cases hv : decide (x < y)
      · have hv' : ¬ x < y := of_decide_eq_false hv
        simp only [go_sem, encI_len, Int.toNat_natCast, hg, hi0, hv, hv']
        refine ⟨⟨wid1 _ _ rfl, by simp at ha; omega⟩, ?_⟩
        simp only [go_sem, hw]
        refine ih (i + 1, false, acc ++ [y]) _ ⟨hlt, by simp at ha ⊢; omega, ?_⟩ (by simp only; omega) ?_
        · rw [← he]; simp [insV, hv']
        · (refine Wk.forget ?_; simp [Le, LeE, LeH, get, envIds, hpIds, KeepH, D.ids, idsL, AO.ids, setL, base, encI_snoc, encI_len]; done)
      · have hv' : x < y := of_decide_eq_true hv
        simp only [go_sem, encI_len, Int.toNat_natCast, hg, hi0, hv, hv']
        refine ⟨⟨wid1 _ _ rfl, by simp at ha; omega⟩, ⟨wid1 _ _ rfl, by simp at ha; simp [encI_len]; omega⟩, ?_⟩
        simp only [go_sem, hw]
        refine ih (i + 1, true, acc ++ [x] ++ [y]) _ ⟨hlt, by simp at ha ⊢; omega, ?_⟩ (by simp only; omega) ?_
        · rw [← he]; simp [insV, hv']
        · (refine Wk.forget ?_; simp [Le, LeE, LeH, get, envIds, hpIds, KeepH, D.ids, idsL, AO.ids, setL, base, encI]; done)
    · simp only [go_sem, encI_len, Int.toNat_natCast, hg, hi0]
      refine ⟨⟨wid1 _ _ rfl, by simp at ha; omega⟩, ?_⟩
      simp only [go_sem, hw]
      refine ih (i + 1, true, acc ++ [y]) _ ⟨hlt, by simp at ha ⊢; omega, ?_⟩ (by simp only; omega) ?_
      · rw [← he]; simp
      · (refine Wk.forget ?_; simp [Le, LeE, LeH, get, envIds, hpIds, KeepH, D.ids, idsL, AO.ids, setL, base, encI_snoc, encI_len]; done)
  · have : i = l.length := by simp at h2; omega
    subst this
    rw [List.drop_length] at he
    cases dn
    · simp only [go_sem, encI_len]
      refine ⟨⟨wid1 _ _ rfl, by simp at ha; omega⟩, ?_⟩
      refine end_pure ?_
      simp only [go_sem]
      rw [← he]
      try rw [List.take_of_length_le (by simp [encI_len])]
      simp [insV, encI]
    · simp only [go_sem]
      refine end_pure ?_
      simp only [go_sem]
      rw [← he]
      simp [encI_take, encI_len]
end Go.Am
end
section
namespace Go.Am
open Go Go.Proofs
set_option maxRecDepth 100000
set_option maxHeartbeats 2000000
set_option linter.unusedSimpArgs false
set_option linter.unusedVariables false
def GR (n v : Nat) (r : List Int) : Prop := r.Pairwise (· < ·) ∧ ∀ y ∈ r, 0 ≤ y ∧ y < (n : Int) ∧ y ≠ (v : Int)
theorem GR.ins {n v : Nat} {r : List Int} {x : Int} (h : GR n v r) (h0 : 0 ≤ x) (hb : x < (n : Int)) (hi : x ≠ (v : Int)) (hn : x ∉ r) : GR n v (insV r x) := by
  refine ⟨insV_asc r x h.1 hn, fun y hy => ?_⟩
  rcases (insV_mem r x y).1 hy with rfl | hy
  · exact ⟨h0, hb, hi⟩
  · exact h.2 y hy
theorem encG_setS (g : List (List Int)) (i : Nat) (r : List Int) : (encG g).set i [.sl (encI r)] = encG (g.set i r) := by simp [encG, List.map_set]
theorem encG_getS (g : List (List Int)) (i : Nat) (h : i < g.length) : (encG g).getD i [] = [.sl (encI (g.getD i []))] := by simp [encG, List.getD, h]
theorem graph_own (l : List Int) (at_ most : Nat) (hat : at_ < 100000) (hm : most ≤ 8) :
    ACalls Try.prog 13 [.ptr 1000000 0, .p (.int .i64 (most : Nat))] [(1000000, .box (tapeC l at_))]
      fun h r => ∃ at2 g, at2 ≤ at_ + 60 ∧ g.length ≤ most ∧ (∀ v, v < g.length → GR g.length v (g.getD v [])) ∧ h = [(1000000, .box (tapeC l at2)), (0, .arr 24 1 (encG g))] ∧ r = .ref 0 0 g.length g.length := by
  have hw1 : IntKind.i64.wrap ((most : Int) + 1) = ((most + 1 : Nat) : Int) := wrap_succ most (by omega)
  refine ACalls_X Try.func13 rfl enters13 (by simp [Try.f13]) ?_
  simp only [go_sem, hw1, tapeC]
  refine Cc_of ((next_ok l at_ ((most + 1 : Nat) : Int) (by omega) (in64_small _ (by omega) (by omega)))) ?_
  rintro h' r ⟨rfl, rfl⟩
  obtain ⟨n, hn, hnl⟩ := nextV_rng l at_ ((most + 1 : Nat) : Int) (by omega)
  have h0 : (0 : Int) ≤ ((n : Nat) : Int) := by omega
  have hle : ((n : Nat) : Int) ≤ ((n : Nat) : Int) := Int.le_refl _
  have hl8 : ((n : Nat) : Int) * 8 ≤ 140737488355328 := by omega
  have hl1 : ((n : Nat) : Int) ≤ 140737488355328 := by omega
  have hw2 : IntKind.i64.wrap (3 * (n : Int)) = ((3 * n : Nat) : Int) := by
    simp [IntKind.wrap, IntKind.bits, IntKind.signed]; omega
  have hw3 : IntKind.i64.wrap (((3 * n : Nat) : Int) + 1) = ((3 * n + 1 : Nat) : Int) := wrap_succ _ (by omega)
  simp only [go_sem, tapeC, hn, h0, hle, hl8, hl1, hw2, hw3]
  refine Af_mkarr (n := (n : Nat)) rfl ti22 ti24 rfl rfl rfl h0 (by omega) (by omega) ?_
  simp only [go_sem, tapeC, hn, h0, hle, hl8, hl1, hw2, hw3, Int.toNat_natCast]
  refine Cc_of ((next_ok l (at_ + 1) ((3 * n + 1 : Nat) : Int) (by omega) (in64_small _ (by omega) (by omega)))) ?_
  rintro h' r ⟨rfl, rfl⟩
  obtain ⟨k0, hk0, hkl⟩ := nextV_rng l (at_ + 1) ((3 * n + 1 : Nat) : Int) (by omega)
  simp only [go_sem, tapeC, hk0]
  refine X_loop_inv (fun b : Nat × Nat × List (List Int) => ⟨[(0, .ptr 1000000 0), (5, .p (.int .i64 (n : Nat))), (6, .ref 15 0 n n), (7, .p (.int .i64 (b.1 : Nat)))], [(15, .arr 24 1 (encG b.2.2)), (1000000, .box (tapeC l b.2.1))], 53⟩)
    (fun b => b.1 ≤ 3 * n ∧ b.2.1 + 2 * b.1 ≤ at_ + 52 ∧ b.2.2.length = n ∧ ∀ v, v < n → GR n v (b.2.2.getD v []) ∧ (b.2.2.getD v []).length + b.1 ≤ 24) (fun b => b.1) (k0, at_ + 1 + 1, List.replicate n []) ⟨by simp only; omega, by simp only; omega, by simp, fun v hv => ?_⟩ (Wk.forget (by simp [Le, LeE, LeH, get, envIds, hpIds, KeepH, D.ids, idsL, AO.ids, setL, base, tapeC, encG, encI])) ?_
  · have e : (List.replicate n ([] : List Int)).getD v [] = [] := by simp [List.getD, List.getElem?_replicate, hv]
    simp only [e]
    exact ⟨⟨List.Pairwise.nil, fun y hy => by cases hy⟩, by simp; omega⟩
  rintro ⟨i, a, g⟩ m ⟨hi, ha, hl, hg⟩ ih
  simp only at hi ha hl hg
  have hlG : (encG g).length = n := by simp [encG, hl]
  cases c1 : decide ((0 : Int) < (i : Nat))
  · simp only [go_sem, c1]
    refine end_own ?_
    simp only [go_sem, c1, tapeC, hlG]
    exact ⟨a, g, by omega, by omega, by rw [hl]; exact fun v hv => (hg v hv).1, rfl, by rw [hl]⟩
  · have hi0 : 0 < i := by have := of_decide_eq_true c1; omega
    have hn0 : 0 < n := by omega
    simp only [go_sem, c1, tapeC]
    refine Cc_of ((next_ok l a n (by omega) (in64_small _ (by omega) (by omega)))) ?_
    rintro h' r ⟨rfl, rfl⟩
    obtain ⟨x, hx, hxl⟩ := nextV_rng l a n (by omega)
    simp only [go_sem, tapeC, hx]
    refine Cc_of ((next_ok l (a + 1) n (by omega) (in64_small _ (by omega) (by omega)))) ?_
    rintro h' r ⟨rfl, rfl⟩
    obtain ⟨y, hy, hyl⟩ := nextV_rng l (a + 1) n (by omega)
    have hx0 : (0 : Int) ≤ (x : Int) ∧ (x : Int) < ((n : Nat) : Int) := by omega
    have hwk : IntKind.i64.wrap ((i : Int) - 1) = ((i - 1 : Nat) : Int) := by
      simp [IntKind.wrap, IntKind.bits, IntKind.signed]; omega
    have hf := encG_getS g x (by omega)
    have hgx := hg x (by omega)
    cases c2 : decide ((x : Int) = (y : Int))
    · simp only [go_sem, tapeC, hx, hy, c2, hx0, hf, hlG, Int.toNat_natCast]
      refine Cc_of ((has_ok (g.getD x []) (y : Nat) (by omega))) ?_
      rintro h' r ⟨rfl, rfl⟩
      cases c3 : decide ((y : Int) ∈ g.getD x [])
      · simp only [go_sem, c3, hx0, hf, hlG, Int.toNat_natCast]
        refine Cc_of ((insert_ok (g.getD x []) (y : Nat) (by omega))) ?_
        rintro h' r ⟨rfl, rfl⟩
        simp only [go_sem, c3, hx0, hf, hlG, hwk, Int.toNat_natCast, encG_setS]
        have hny : (y : Int) ∉ g.getD x [] := of_decide_eq_false c3
        have hxy : (y : Int) ≠ (x : Int) := fun h => of_decide_eq_false c2 h.symm
        have hf2 : (encG g)[x]?.getD [] = [.sl (encI (g.getD x []))] := hf
        refine ih (i - 1, a + 1 + 1, g.set x (insV (g.getD x []) (y : Nat))) _ ⟨by simp only; omega, by simp only; omega, by simp [hl], fun v hv => ?_⟩ (by simp only; omega) ?_
        · simp only
          by_cases e : v = x
          · subst e
            have e1 : (g.set v (insV (g.getD v []) (y : Nat))).getD v [] = insV (g.getD v []) (y : Nat) := by simp [List.getD, List.getElem?_set, hl, hv]
            rw [e1, insV_len]
            exact ⟨hgx.1.ins (by omega) (by omega) hxy hny, by omega⟩
          · have e1 : (g.set x (insV (g.getD x []) (y : Nat))).getD v [] = g.getD v [] := by simp [List.getD, List.getElem?_set, Ne.symm e]
            rw [e1]
            exact ⟨(hg v hv).1, by have := (hg v hv).2; omega⟩
        · exact (Wk.forget (by simp [Le, LeE, LeH, get, envIds, hpIds, KeepH, D.ids, idsL, AO.ids, setL, base, tapeC, hf2, encG_setS]))
      · simp only [go_sem, c3, hwk]
        refine ih (i - 1, a + 1 + 1, g) _ ⟨by simp only; omega, by simp only; omega, hl, fun v hv => ⟨(hg v hv).1, by have := (hg v hv).2; simp only; omega⟩⟩ (by simp only; omega) (Wk.forget (by simp [Le, LeE, LeH, get, envIds, hpIds, KeepH, D.ids, idsL, AO.ids, setL, base, tapeC]))
    · simp only [go_sem, tapeC, hx, hy, c2, hwk]
      refine ih (i - 1, a + 1 + 1, g) _ ⟨by simp only; omega, by simp only; omega, hl, fun v hv => ⟨(hg v hv).1, by have := (hg v hv).2; simp only; omega⟩⟩ (by simp only; omega) (Wk.forget (by simp [Le, LeE, LeH, get, envIds, hpIds, KeepH, D.ids, idsL, AO.ids, setL, base, tapeC]))
theorem graph_ok (l : List Int) (at_ most : Nat) (hat : at_ < 100000) (hm : most ≤ 8) :
    ACalls Try.prog 13 [.ptr 1000000 0, .p (.int .i64 (most : Nat))] [(1000000, .box (tapeC l at_))]
      fun h r => ∃ at2 g, at2 ≤ at_ + 60 ∧ g.length ≤ most ∧ (∀ v, v < g.length → GR g.length v (g.getD v [])) ∧ h = [(1000000, .box (tapeC l at2))] ∧ r = .p (.sl (encG g)) := by
  refine (graph_own l at_ most hat hm).seal ?_
  rintro h' r ⟨at2, g, h1, h2, hg, rfl, rfl⟩
  refine borDR_all ?_
  have h3 : (encG g).length = g.length := by simp [encG]
  have h4 : (encG g).take g.length = encG g := by rw [← h3]; exact List.take_length
  unfold tapeC
  simp only [go_sem, h3, h4, Rs.all, retD, List.map_cons, List.map_nil]
  exact ⟨at2, g, h1, h2, hg, rfl, rfl⟩
end Go.Am
end
section
namespace Go.Am
open Go Go.Proofs
set_option maxRecDepth 100000
set_option linter.unusedVariables false
theorem GR.okR {n v : Nat} {r : List Int} (h : GR n v r) : okR n v r := by
  intro i hi
  have e : ∀ j (hj : j < r.length), r.getD j 0 = r[j] := fun j hj => by simp [List.getD, hj]
  obtain ⟨h0, h1, h2⟩ := h.2 _ (List.getElem_mem hi)
  rw [← e i hi] at h0 h1 h2
  have h3 : i = 0 ∨ ¬ r.getD i 0 ≤ r.getD (i - 1) 0 := by
    rcases i with _ | i
    · exact .inl rfl
    · refine .inr ?_
      have := List.pairwise_iff_getElem.1 h.1 i (i + 1) (by omega) hi (by omega)
      rw [e (i + 1) hi, e (i + 1 - 1) (by omega)]
      simp only [Nat.add_sub_cancel]
      omega
  unfold okE
  rw [decide_eq_false (by omega), decide_eq_false (by omega), decide_eq_false h2]
  rcases h3 with h3 | h3
  · rw [decide_eq_true h3]; rfl
  · rw [decide_eq_false h3]; simp
theorem GR.check {g : List (List Int)} {sh : List Bool} (hn : g.length ≤ 24) (hl : sh.length = g.length) (hr : ∀ v, v < g.length → (g.getD v []).length ≤ 1000000) (h : ∀ v, v < g.length → GR g.length v (g.getD v [])) : cCheck_v g sh = some 0 := by
  rw [cCheck_eq g sh hr, if_neg (by omega), if_pos (fun v hv => decide_eq_true (h v hv).okR), if_pos hl]
end Go.Am
end
section
namespace Go.Am
open Go Go.Proofs
set_option maxRecDepth 100000
set_option linter.unusedVariables false
set_option linter.unusedSimpArgs false
structure Gok (g : List (List Int)) (sh : List Bool) : Prop where
  n24 : g.length ≤ 24
  shl : sh.length = g.length
  rng : ∀ v k, k < (g.getD v []).length → ∃ w : Nat, (g.getD v []).getD k 0 = (w : Int) ∧ w < g.length
  rl : ∀ v, (g.getD v []).length ≤ 100000
theorem Gok.mem {g : List (List Int)} {sh : List Bool} (h : Gok g sh) {v : Nat} {y : Int} (hy : y ∈ g.getD v []) : ∃ w : Nat, y = (w : Int) ∧ w < g.length := by
  obtain ⟨k, hk, rfl⟩ := List.mem_iff_getElem.1 hy
  have := h.rng v k hk
  rwa [getD_eq hk] at this
def scF (sh : List Bool) (s : List Int × List Bool) (y : Int) : List Int × List Bool :=
  if sh.getD y.toNat false = false ∧ s.2.getD y.toNat false = false then (s.1 ++ [y], s.2.set y.toNat true) else s
structure ScanR (sh : List Bool) (row : List Int) (s s' : List Int × List Bool) : Prop where
  len : s'.2.length = s.2.length
  mono : ∀ w, s.2.getD w false = true → s'.2.getD w false = true
  new : ∀ w : Nat, s'.2.getD w false = true → s.2.getD w false = true ∨ ((w : Int) ∈ row ∧ sh.getD w false = false ∧ (w : Int) ∈ s'.1)
  sub : ∀ x ∈ s.1, x ∈ s'.1
  add : ∀ x ∈ s'.1, x ∈ s.1 ∨ ∃ w : Nat, x = (w : Int) ∧ s'.2.getD w false = true
  all : ∀ w : Nat, (w : Int) ∈ row → sh.getD w false = false → s'.2.getD w false = true
  cnt : s'.1.length + s'.2.count false = s.1.length + s.2.count false
  tl : s'.1.length ≤ s.1.length + row.length
theorem scan_ok (sh : List Bool) : ∀ (row : List Int) (s : List Int × List Bool), (∀ y ∈ row, ∃ w : Nat, y = (w : Int) ∧ w < s.2.length) → ScanR sh row s (row.foldl (scF sh) s)
  | [], s, _ => ⟨rfl, fun _ h => h, fun _ h => .inl h, fun _ h => h, fun _ h => .inl h, (fun w h => by cases h), rfl, Nat.le_refl _⟩
  | y :: row, s, hr => by
    obtain ⟨w0, rfl, hw0⟩ := hr y (List.mem_cons_self)
    have hlen1 : (scF sh s (w0 : Int)).2.length = s.2.length := by unfold scF; split <;> simp
    have ih := scan_ok sh row (scF sh s (w0 : Int)) (fun y hy => by rw [hlen1]; exact hr y (List.mem_cons_of_mem _ hy))
    rw [List.foldl_cons]
    by_cases hc : sh.getD w0 false = false ∧ s.2.getD w0 false = false
    · have e : scF sh s (w0 : Int) = (s.1 ++ [(w0 : Int)], s.2.set w0 true) := by unfold scF; rw [Int.toNat_natCast, if_pos hc]
      have g0 : ∀ w, (s.2.set w0 true).getD w false = if w = w0 then true else s.2.getD w false := fun w => getD_setx _ _ _ _ _ hw0
      rw [e] at ih ⊢
      refine ⟨by rw [ih.len]; simp, fun w h => ih.mono w (by rw [g0]; split; rfl; exact h), fun w h => ?_, fun x hx => ih.sub x (by simp [hx]), fun x hx => ?_, fun w hw ho => ?_, ?_, ?_⟩
      · rcases ih.new w h with h1 | ⟨h1, h2, h3⟩
        · simp only at h1
          rw [g0] at h1
          by_cases e1 : w = w0
          · subst e1; exact .inr ⟨List.mem_cons_self, hc.1, ih.sub _ (by simp)⟩
          · rw [if_neg e1] at h1; exact .inl h1
        · exact .inr ⟨List.mem_cons_of_mem _ h1, h2, h3⟩
      · rcases ih.add x hx with h1 | h1
        · simp only [List.mem_append, List.mem_singleton] at h1
          rcases h1 with h1 | rfl
          · exact .inl h1
          · exact .inr ⟨w0, rfl, ih.mono w0 (by simp only; rw [g0, if_pos rfl])⟩
        · exact .inr h1
      · rcases List.mem_cons.1 hw with h1 | h1
        · have : w = w0 := by omega
          subst this
          exact ih.mono w (by simp only; rw [g0, if_pos rfl])
        · exact ih.all w h1 ho
      · rw [ih.cnt]
        simp only [List.length_append, List.length_cons, List.length_nil]
        rw [List.count_set hw0]
        have e2 : s.2[w0] = false := by have := hc.2; rwa [getD_eq hw0] at this
        rw [e2]
        have : 0 < s.2.count false := List.count_pos_iff.2 (by rw [← e2]; exact List.getElem_mem hw0)
        simp
        omega
      · have := ih.tl
        simp only [List.length_append, List.length_cons, List.length_nil] at this ⊢
        omega
    · have e : scF sh s (w0 : Int) = s := by unfold scF; rw [Int.toNat_natCast, if_neg hc]
      rw [e] at ih ⊢
      refine ⟨ih.len, ih.mono, fun w h => ?_, ih.sub, ih.add, fun w hw ho => ?_, ih.cnt, ?_⟩
      · rcases ih.new w h with h1 | ⟨h1, h2, h3⟩
        · exact .inl h1
        · exact .inr ⟨List.mem_cons_of_mem _ h1, h2, h3⟩
      · rcases List.mem_cons.1 hw with h1 | h1
        · have : w = w0 := by omega
          subst this
          refine ih.mono w ?_
          cases h9 : s.2.getD w false with
          | true => rfl
          | false => exact absurd ⟨ho, h9⟩ hc
        · exact ih.all w h1 ho
      · have := ih.tl
        simp only [List.length_cons]
        omega
structure SI (g : List (List Int)) (sh : List Bool) (v : Nat) (t : List Int) (m : List Bool) : Prop where
  mn : ∀ w, m.getD w false = true → w < g.length ∧ sh.getD w false = false ∧ Rch g sh v w
  tm : ∀ x ∈ t, ∃ w : Nat, x = (w : Int) ∧ m.getD w false = true
  mv : m.getD v false = true
  cl : ∀ u, m.getD u false = true → (u : Int) ∉ t → ∀ w, Ed g sh u w → m.getD w false = true
  ml : g.length ≤ m.length
theorem SI.step {g : List (List Int)} {sh : List Bool} {v u : Nat} {t t1 : List Int} {m : List Bool} (hg : Gok g sh) (h : SI g sh v t m) (hu : (u : Int) ∈ t) (h1 : ∀ x ∈ t, x = (u : Int) ∨ x ∈ t1) (h2 : ∀ x ∈ t1, x ∈ t) :
    ScanR sh (g.getD u []) (t1, m) ((g.getD u []).foldl (scF sh) (t1, m)) ∧ SI g sh v ((g.getD u []).foldl (scF sh) (t1, m)).1 ((g.getD u []).foldl (scF sh) (t1, m)).2 := by
  have hsc := scan_ok sh (g.getD u []) (t1, m) (fun y hy => by
    obtain ⟨w, e, hw⟩ := hg.mem hy
    exact ⟨w, e, Nat.lt_of_lt_of_le hw h.ml⟩)
  generalize (g.getD u []).foldl (scF sh) (t1, m) = s' at hsc ⊢
  obtain ⟨w0, hw0, hmu⟩ := h.tm _ hu
  have hw0' : w0 = u := by omega
  subst hw0'
  refine ⟨hsc, fun w hw => ?_, fun x hx => ?_, hsc.mono v h.mv, fun u2 hu2 hn w hw => ?_, by rw [hsc.len]; exact h.ml⟩
  · rcases hsc.new w hw with h3 | ⟨h3, h4, _⟩
    · exact h.mn w h3
    · obtain ⟨w2, e, hlt⟩ := hg.mem h3
      have : w2 = w := by omega
      subst this
      exact ⟨hlt, h4, (h.mn _ hmu).2.2.tail ⟨h3, h4⟩⟩
  · rcases hsc.add x hx with h3 | h3
    · obtain ⟨w, e, hw⟩ := h.tm x (h2 x h3)
      exact ⟨w, e, hsc.mono w hw⟩
    · exact h3
  · rcases hsc.new u2 hu2 with h3 | ⟨_, _, h5⟩
    · by_cases hin : (u2 : Int) ∈ t
      · rcases h1 _ hin with h4 | h4
        · have : u2 = w0 := by omega
          subst this
          exact hsc.all w hw.1 hw.2
        · exact absurd (hsc.sub _ h4) hn
      · exact hsc.mono w (h.cl u2 h3 hin w hw)
    · exact absurd h5 hn
theorem SI.done {g : List (List Int)} {sh : List Bool} {v : Nat} {m : List Bool} (h : SI g sh v [] m) (w : Nat) : m.getD w false = true ↔ Rch g sh v w := by
  constructor
  · exact fun hw => (h.mn w hw).2.2
  · intro hr
    induction hr with
    | refl => exact h.mv
    | tail _ e ih => exact h.cl _ ih (by simp) _ e
theorem SI.init {g : List (List Int)} {sh : List Bool} {v n : Nat} (hv : v < g.length) (hn : g.length ≤ n) (ho : sh.getD v false = false) : SI g sh v [(v : Int)] ((List.replicate n false).set v true) := by
  have g0 : ∀ w, ((List.replicate n false).set v true).getD w false = if w = v then true else false := fun w => by
    rw [getD_setx _ _ _ _ _ (by simp; omega)]
    split
    · rfl
    · simp only [List.getD, List.getElem?_replicate]; split <;> rfl
  refine ⟨fun w hw => ?_, fun x hx => ?_, by rw [g0, if_pos rfl], fun u hu hn2 => ?_, by simp; omega⟩
  · rw [g0] at hw
    split at hw
    · rename_i e; subst e; exact ⟨hv, ho, .refl _⟩
    · cases hw
  · simp at hx; exact ⟨v, hx, by rw [g0, if_pos rfl]⟩
  · rw [g0] at hu
    split at hu
    · rename_i e; subst e; exact absurd (by simp) hn2
    · cases hu
theorem scan_len (sh : List Bool) (row : List Int) (s : List Int × List Bool) (h : ∀ y ∈ row, ∃ w : Nat, y = (w : Int) ∧ w < s.2.length) (i : Nat) :
    ((row.take i).foldl (scF sh) s).2.length = s.2.length ∧ ((row.take i).foldl (scF sh) s).1.length ≤ s.1.length + row.length := by
  have := scan_ok sh (row.take i) s (fun y hy => h y (List.mem_of_mem_take hy))
  refine ⟨this.len, ?_⟩
  have h1 := this.tl
  rw [List.length_take] at h1
  omega
theorem foldl_take {α β : Type} (f : β → α → β) (l : List α) (i : Nat) (s : β) (d : α) (h : i < l.length) : (l.take (i + 1)).foldl f s = f ((l.take i).foldl f s) (l.getD i d) := by
  rw [take_snoc l i d h, List.foldl_append]; rfl
theorem found_L1 (sh : List Bool) (row : List Int) (t : List Int) (m : List Bool) (hm : m.length = 24) (hsh : sh.length ≤ 24) (hr : ∀ y ∈ row, ∃ w : Nat, y = (w : Int) ∧ w < sh.length) (hb : t.length + row.length < 1000000) :
    loopO (rFound_L1 sh row) (t, m, 0) = some ((row.foldl (scF sh) (t, m)).1, (row.foldl (scF sh) (t, m)).2, ((row.length : Nat) : Int)) := by
  have hr' : ∀ y ∈ row, ∃ w : Nat, y = (w : Int) ∧ w < (t, m).2.length := fun y hy => by
    obtain ⟨w, e, hw⟩ := hr y hy; exact ⟨w, e, by simp only; omega⟩
  have h := loopO_thru (step := rFound_L1 sh row) row.length (fun i => (((row.take i).foldl (scF sh) (t, m)).1, ((row.take i).foldl (scF sh) (t, m)).2, ((i : Nat) : Int)))
    ((row.foldl (scF sh) (t, m)).1, (row.foldl (scF sh) (t, m)).2, ((row.length : Nat) : Int)) ?_ ?_
  · simpa using h
  · intro i hi
    obtain ⟨l1, l2⟩ := scan_len sh row (t, m) hr' i
    have e1 := foldl_take (scF sh) row i (t, m) 0 hi
    rw [e1]
    generalize (row.take i).foldl (scF sh) (t, m) = s at l1 l2 ⊢
    obtain ⟨w, ew, hw⟩ := hr (row.getD i 0) (by rw [getD_eq hi]; exact List.getElem_mem hi)
    rw [rFound_L1_eq, lt_c hi, cond_true, idxO_at row i 0 hi, Option.bind_some, ew, idxO_at sh w false hw, Option.bind_some]
    have ei : idxA 24 s.2 (w : Int) = some (s.2.getD w false) := by
      unfold idxA
      rw [if_pos (by rw [l1]; exact hm), idxO_at s.2 w false (by simp only at l1; omega)]
    unfold scF
    rw [Int.toNat_natCast]
    cases c1 : sh.getD w false
    · rw [cond_false, ei, Option.bind_some]
      cases c2 : s.2.getD w false
      · rw [cond_false, decide_eq_true (by simp only at l2; omega), cond_true, wrap_sm (by omega)]; simp
      · rw [cond_true, wrap_sm (by omega)]; simp
    · rw [cond_true, wrap_sm (by omega)]; simp
  · simp only [List.take_length]
    rw [rFound_L1_eq, lt_n, cond_false]
theorem found_L2 {g : List (List Int)} {sh : List Bool} (hg : Gok g sh) {v : Nat} (t : List Int) (m : List Bool) (hm : m.length = 24) (h : SI g sh v t m) (hb : t.length + m.count false ≤ 30) :
    ∃ m', loopO (rFound_L2 g sh) (t, m) = some ([], m') ∧ m'.length = 24 ∧ SI g sh v [] m' := by
  suffices key : ∃ e, loopO (rFound_L2 g sh) (t, m) = some e ∧ ∃ m', e = ([], m') ∧ m'.length = 24 ∧ SI g sh v [] m' by
    obtain ⟨e, he, m', rfl, h1, h2⟩ := key
    exact ⟨m', he, h1, h2⟩
  refine loopO_inv (step := rFound_L2 g sh) (fun s => s.2.length = 24 ∧ SI g sh v s.1 s.2 ∧ s.1.length + s.2.count false ≤ 30) (fun s => s.1.length + s.2.count false) _ ?_ (t, m) ⟨hm, h, hb⟩
  clear h hb hm t m
  rintro ⟨t, m⟩ ⟨hm, h, hb⟩
  simp only at hm h hb
  rw [rFound_L2_eq]
  rcases t.eq_nil_or_concat with rfl | ⟨t1, x, rfl⟩
  · exact ⟨_, rfl, m, rfl, hm, h⟩
  rw [List.concat_eq_append] at *
  obtain ⟨u, rfl, hmu⟩ := h.tm x (by simp)
  have hl : (t1 ++ [(u : Int)]).length = t1.length + 1 := by simp
  have hu := (h.mn u hmu).1
  obtain ⟨hsc, hsi⟩ := h.step hg (t1 := t1) (u := u) (by simp) (fun x hx => by simp at hx; exact hx.symm) (fun x hx => by simp [hx])
  have ew : IntKind.i64.wrap (((t1.length + 1 : Nat) : Int) - 1) = ((t1.length : Nat) : Int) := by
    rw [wrap_i64_id] <;> omega
  have hg1 : (t1 ++ [(u : Int)]).getD t1.length 0 = (u : Int) := by simp [List.getD]
  have ht : (t1 ++ [(u : Int)]).take t1.length = t1 := by simp
  have hrow := hg.rl u
  simp only [hl] at hb
  rw [hl, decide_eq_true (by omega), cond_true, ew, idxO_at _ t1.length 0 (by rw [hl]; omega), Option.bind_some, hg1, decide_eq_true (by omega), cond_true, idxO_at g u [] hu, Option.bind_some, Int.toNat_natCast, ht,
    found_L1 sh (g.getD u []) t1 m hm (by rw [hg.shl]; exact hg.n24) (fun y hy => by rw [hg.shl]; exact hg.mem hy) (by omega), Option.bind_some]
  refine ⟨_, rfl, ⟨by simp only; rw [hsc.len]; exact hm, hsi, ?_⟩, ?_⟩
  · have := hsc.cnt; simp only at this ⊢; omega
  · have := hsc.cnt; simp only [hl] at this ⊢; omega
theorem found_at {g : List (List Int)} {sh : List Bool} (hg : Gok g sh) (v : Nat) (hv : v < g.length) : ∃ m, rFound_v g sh (v : Int) = some m ∧ m.length = 24 ∧ ∀ w, m.getD w false = true ↔ sh.getD v false = false ∧ Rch g sh v w := by
  unfold rFound_v
  rw [idxO_at sh v false (by rw [hg.shl]; exact hv), Option.bind_some]
  have h24 := hg.n24
  have r0 : ∀ w, (List.replicate 24 false).getD w false = false := fun w => by simp only [List.getD, List.getElem?_replicate]; split <;> rfl
  cases c : sh.getD v false
  · have ei : idxA 24 (List.replicate 24 false) (v : Int) = some false := by
      unfold idxA
      rw [if_pos (by simp), idxO_at _ v false (by simp; omega), r0]
    rw [cond_false, ei, Option.bind_some, Int.toNat_natCast]
    obtain ⟨m', h1, h2, h3⟩ := found_L2 hg [(v : Int)] ((List.replicate 24 false).set v true) (by simp) (SI.init hv h24 c) (by
      have := List.count_le_length (a := false) (l := (List.replicate 24 false).set v true)
      simp only [List.length_set, List.length_replicate] at this
      simp only [List.length_cons, List.length_nil]; omega)
    rw [h1, Option.bind_some]
    simp only
    rw [h2, decide_eq_true rfl, cond_true]
    exact ⟨m', rfl, h2, fun w => by rw [h3.done w]; simp⟩
  · exact ⟨_, rfl, by simp, fun w => by rw [r0]; simp⟩
end Go.Am
end
section
namespace Go.Am
open Go Go.Proofs
set_option maxRecDepth 100000
set_option maxHeartbeats 2000000
set_option linter.unusedSimpArgs false
set_option linter.unusedVariables false
noncomputable def known05_v  : Option (Bool) :=
  Option.bind (cNames_v [[1], [0, 2], []] [false, false, false]) fun (x1, x2) => Option.bind (cOrd_v [[1], [0, 2], []] [false, false, false]) fun (x4, x5) => Option.bind (cQuot_v [[1], [0, 2], []] [false, false, false]) fun (x7, x8) => cond (decide (x2 = 0)) (cond (decide (x5 = 0)) (cond (decide (x8 = 0)) (Option.bind (sameI_v x1 [0, 0, 2]) fun x13 => cond x13 (Option.bind (sameI_v x4 [0, 2]) fun x16 => cond x16 (Option.bind (sameLs_v x7 [[2], [], []]) fun x19 => some x19) (some false)) (some false)) (some false)) (some false)) (some false)
theorem known05_vok  (r : Bool) (hr : known05_v  = some r) :
    ACalls Try.prog 12 [] [] fun h d => h = [] ∧ d = .p (.bool r) := by
  refine ACalls_X Try.func12 rfl enters12 (by simp [Try.f12]) ?_
  unfold known05_v at hr
  rcases g3 : cNames_v [[1], [0, 2], []] [false, false, false] with _ | ⟨x1, x2⟩
  · simp only [g3, Option.bind_none, reduceCtorEq] at hr
  simp only [g3, Option.bind_some] at hr
  try simp only [go_sem]
  refine Cc_of (cNames_vok [[1], [0, 2], []] [false, false, false] _ g3) ?_
  rintro h' r ⟨rfl, rfl⟩
  rcases g6 : cOrd_v [[1], [0, 2], []] [false, false, false] with _ | ⟨x4, x5⟩
  · simp only [g6, Option.bind_none, reduceCtorEq] at hr
  simp only [g6, Option.bind_some] at hr
  try simp only [go_sem]
  refine Cc_of (cOrd_vok [[1], [0, 2], []] [false, false, false] _ g6) ?_
  rintro h' r ⟨rfl, rfl⟩
  rcases g9 : cQuot_v [[1], [0, 2], []] [false, false, false] with _ | ⟨x7, x8⟩
  · simp only [g9, Option.bind_none, reduceCtorEq] at hr
  simp only [g9, Option.bind_some] at hr
  try simp only [go_sem]
  refine Cc_of (cQuot_vok [[1], [0, 2], []] [false, false, false] _ g9) ?_
  rintro h' r ⟨rfl, rfl⟩
  cases c10 : decide (x2 = 0)
  · simp only [c10, cond_false] at hr
    obtain rfl := Option.some.inj hr
    try simp only [go_sem, c10]
    all_goals (try refine end_pure ?_)
    all_goals (try simp only [go_sem, c10])
    all_goals (try (first | rfl | exact ⟨rfl, rfl⟩ | (simp; done)))
  simp only [c10, cond_true] at hr
  cases c11 : decide (x5 = 0)
  · simp only [c11, cond_false] at hr
    obtain rfl := Option.some.inj hr
    try simp only [go_sem, c10, c11]
    all_goals (try refine end_pure ?_)
    all_goals (try simp only [go_sem, c10, c11])
    all_goals (try (first | rfl | exact ⟨rfl, rfl⟩ | (simp; done)))
  simp only [c11, cond_true] at hr
  cases c12 : decide (x8 = 0)
  · simp only [c12, cond_false] at hr
    obtain rfl := Option.some.inj hr
    try simp only [go_sem, c10, c11, c12]
    all_goals (try refine end_pure ?_)
    all_goals (try simp only [go_sem, c10, c11, c12])
    all_goals (try (first | rfl | exact ⟨rfl, rfl⟩ | (simp; done)))
  simp only [c12, cond_true] at hr
  rcases g14 : sameI_v x1 [0, 0, 2] with _ | x13
  · simp only [g14, Option.bind_none, reduceCtorEq] at hr
  simp only [g14, Option.bind_some] at hr
  try simp only [go_sem, c10, c11, c12]
  refine Cc_bor rfl rfl (sameI_vok x1 [0, 0, 2] _ g14) (by simp [BorL, Bor, ev, get, List.take_of_length_le, encI_takeF, encS_takeF, encT_takeF, encG_takeF, encC_takeF, encL_takeF, encK_takeF, encP_takeF, encI_len, encS_len, encT_len2, encG_len2, encC_len, encL_len, encK_len2, encP_len2, encI_nil, encS_nil, encT_nil, encG_nil, encC_nil, encL_nil, encK_nil, encP_nil] <;> rfl) ?_
  rintro h' r ⟨rfl, rfl⟩
  refine ⟨rfl, rfl, ?_⟩
  cases c15 : x13
  · simp only [c15, cond_false] at hr
    obtain rfl := Option.some.inj hr
    try simp only [go_sem, c10, c11, c12, c15]
    all_goals (try refine end_pure ?_)
    all_goals (try simp only [go_sem, c10, c11, c12, c15])
    all_goals (try (first | rfl | exact ⟨rfl, rfl⟩ | (simp; done)))
  simp only [c15, cond_true] at hr
  rcases g17 : sameI_v x4 [0, 2] with _ | x16
  · simp only [g17, Option.bind_none, reduceCtorEq] at hr
  simp only [g17, Option.bind_some] at hr
  try simp only [go_sem, c10, c11, c12, c15]
  refine Cc_bor rfl rfl (sameI_vok x4 [0, 2] _ g17) (by simp [BorL, Bor, ev, get, List.take_of_length_le, encI_takeF, encS_takeF, encT_takeF, encG_takeF, encC_takeF, encL_takeF, encK_takeF, encP_takeF, encI_len, encS_len, encT_len2, encG_len2, encC_len, encL_len, encK_len2, encP_len2, encI_nil, encS_nil, encT_nil, encG_nil, encC_nil, encL_nil, encK_nil, encP_nil] <;> rfl) ?_
  rintro h' r ⟨rfl, rfl⟩
  refine ⟨rfl, rfl, ?_⟩
  cases c18 : x16
  · simp only [c18, cond_false] at hr
    obtain rfl := Option.some.inj hr
    try simp only [go_sem, c10, c11, c12, c15, c18]
    all_goals (try refine end_pure ?_)
    all_goals (try simp only [go_sem, c10, c11, c12, c15, c18])
    all_goals (try (first | rfl | exact ⟨rfl, rfl⟩ | (simp; done)))
  simp only [c18, cond_true] at hr
  rcases g20 : sameLs_v x7 [[2], [], []] with _ | x19
  · simp only [g20, Option.bind_none, reduceCtorEq] at hr
  simp only [g20, Option.bind_some] at hr
  try simp only [go_sem, c10, c11, c12, c15, c18]
  refine Cc_bor rfl rfl (sameLs_vok x7 [[2], [], []] _ g20) (by simp [BorL, Bor, ev, get, List.take_of_length_le, encI_takeF, encS_takeF, encT_takeF, encG_takeF, encC_takeF, encL_takeF, encK_takeF, encP_takeF, encI_len, encS_len, encT_len2, encG_len2, encC_len, encL_len, encK_len2, encP_len2, encI_nil, encS_nil, encT_nil, encG_nil, encC_nil, encL_nil, encK_nil, encP_nil] <;> rfl) ?_
  rintro h' r ⟨rfl, rfl⟩
  refine ⟨rfl, rfl, ?_⟩
  obtain rfl := Option.some.inj hr
  try simp only [go_sem, c10, c11, c12, c15, c18]
  all_goals (try refine end_pure ?_)
  all_goals (try simp only [go_sem, c10, c11, c12, c15, c18])
  all_goals (try (first | rfl | exact ⟨rfl, rfl⟩ | (simp; done)))
end Go.Am
end
section
namespace Go.Am
open Go Go.Proofs
set_option maxRecDepth 100000
set_option maxHeartbeats 2000000
set_option linter.unusedSimpArgs false
set_option linter.unusedVariables false
theorem encT_setS (l : List Bool) (i : Nat) (x : Bool) : (encT l).set i [.bool x] = encT (l.set i x) := by simp [encT, List.map_set]
theorem encT_lenS (l : List Bool) : (encT l).length = l.length := by simp [encT]
theorem shut_own (l : List Int) (at_ n : Nat) (hat : at_ < 100000) (hn : n ≤ 1000) :
    ACalls Try.prog 14 [.ptr 1000000 0, .p (.int .i64 (n : Nat))] [(1000000, .box (tapeC l at_))]
      fun h r => ∃ at2 sh, at2 ≤ at_ + 10 ∧ sh.length = n ∧ h = [(1000000, .box (tapeC l at2)), (0, .arr 4 1 (encT sh))] ∧ r = .ref 0 0 n n := by
  have h0 : (0 : Int) ≤ ((n : Nat) : Int) := by omega
  have hle : ((n : Nat) : Int) ≤ ((n : Nat) : Int) := Int.le_refl _
  have hl8 : ((n : Nat) : Int) * 1 ≤ 140737488355328 := by omega
  have hl1 : ((n : Nat) : Int) ≤ 140737488355328 := by omega
  refine ACalls_X Try.func14 rfl enters14 (by simp [Try.f14]) ?_
  simp only [go_sem, h0, hle, hl8, hl1, tapeC]
  refine Cc_of ((next_ok l at_ 3 (by omega) (in64_small _ (by omega) (by omega)))) ?_
  rintro h' r ⟨rfl, rfl⟩
  obtain ⟨i0, hi0, hil⟩ := nextV_rng l at_ 3 (by omega)
  simp only [go_sem, tapeC, hi0]
  refine X_loop_inv (fun b : Nat × Nat × List Bool => ⟨[(0, .ptr 1000000 0), (1, .p (.int .i64 (n : Nat))), (5, .ref 8 0 n n), (6, .p (.int .i64 (b.1 : Nat)))], [(8, .arr 4 1 (encT b.2.2)), (1000000, .box (tapeC l b.2.1))], 25⟩)
    (fun b => b.1 ≤ 3 ∧ b.2.1 + b.1 ≤ at_ + 5 ∧ b.2.2.length = n) (fun b => b.1) (i0, at_ + 1, List.replicate n false) ⟨by simp only; omega, by simp only; omega, by simp⟩ (Wk.forget (by simp [Le, LeE, LeH, get, envIds, hpIds, KeepH, D.ids, idsL, AO.ids, setL, base, tapeC])) ?_
  rintro ⟨i, a, sh⟩ m ⟨hi, ha, hl⟩ ih
  simp only at hi ha hl
  cases c1 : decide ((0 : Int) < (i : Nat))
  · simp only [go_sem, c1]
    refine end_own ?_
    simp only [go_sem, c1, tapeC, hl, encT_lenS]
    exact ⟨a, sh, by omega, hl, rfl⟩
  · cases c2 : decide ((0 : Int) < (n : Nat))
    · simp only [go_sem, c1, c2]
      refine end_own ?_
      simp only [go_sem, c1, c2, tapeC, hl, encT_lenS]
      exact ⟨a, sh, by omega, hl, rfl⟩
    · have hn0 : 0 < n := by have := of_decide_eq_true c2; omega
      have hi0 : 0 < i := by have := of_decide_eq_true c1; omega
      simp only [go_sem, c1, c2, tapeC]
      refine Cc_of ((next_ok l a n (by omega) (in64_small _ (by omega) (by omega)))) ?_
      rintro h' r ⟨rfl, rfl⟩
      obtain ⟨v, hv, hvl⟩ := nextV_rng l a n (by omega)
      have hv0 : (0 : Int) ≤ (v : Int) ∧ (v : Int) < ((n : Nat) : Int) := by omega
      have hwk : IntKind.i64.wrap ((i : Int) - 1) = ((i - 1 : Nat) : Int) := by
        simp [IntKind.wrap, IntKind.bits, IntKind.signed]; omega
      have hf := encT_get sh v (by omega)
      have hf2 : (encT sh)[v]?.getD [] = [.bool (sh.getD v false)] := hf
      simp only [go_sem, tapeC, hv, hv0, hl, encT_lenS, hwk, encT_setS, Int.toNat_natCast, hf]
      refine ih (i - 1, a + 1, sh.set v true) _ ⟨by simp only; omega, by simp only; omega, by simp [hl]⟩ (by simp only; omega) (Wk.forget (by simp [Le, LeE, LeH, get, envIds, hpIds, KeepH, D.ids, idsL, AO.ids, setL, base, tapeC, hf2, encT_setS]))
theorem shut_ok (l : List Int) (at_ n : Nat) (hat : at_ < 100000) (hn : n ≤ 1000) :
    ACalls Try.prog 14 [.ptr 1000000 0, .p (.int .i64 (n : Nat))] [(1000000, .box (tapeC l at_))]
      fun h r => ∃ at2 sh, at2 ≤ at_ + 10 ∧ sh.length = n ∧ h = [(1000000, .box (tapeC l at2))] ∧ r = .p (.sl (encT sh)) := by
  refine (shut_own l at_ n hat hn).seal ?_
  rintro h' r ⟨at2, sh, h1, h2, rfl, rfl⟩
  refine borDR_all ?_
  have h3 : (encT sh).length = n := by rw [encT_lenS, h2]
  have h4 : (encT sh).take n = encT sh := by rw [← h3]; exact List.take_length
  unfold tapeC
  simp only [go_sem, h3, h4, Rs.all, retD, List.map_cons, List.map_nil]
  exact ⟨at2, sh, h1, h2, rfl, rfl⟩
end Go.Am
end
section
namespace Go.Am
open Go Go.Proofs
set_option maxRecDepth 100000
set_option linter.unusedVariables false
set_option linter.unusedSimpArgs false
def GraphQ (l0 : List Int) (g : List (List Int)) (l : List Int) (a : Int) : Prop := (∃ k : Nat, a = (k : Int) ∧ k ≤ 1000) ∧ g.length ≤ 8 ∧ ∀ v, v < g.length → GR g.length v (g.getD v [])
def ShutQ (l0 : List Int) (a0 : Int) (n : Int) (sh : List Bool) (l : List Int) (a : Int) : Prop := (sh.length : Int) = n
theorem graph8 (l : List Int) : ACalls Try.prog 13 [.ptr 1000000 0, .p (.int .i64 8)] [(1000000, .box [.p (.sl (encI l)), .p (.int .i64 0)])]
    fun h r => ∃ (g : List (List Int)) (l' : List Int) (a : Int), GraphQ l g l' a ∧ h = [(1000000, .box [.p (.sl (encI l')), .p (.int .i64 a)])] ∧ r = .p (.sl (encG g)) := by
  refine (graph_ok l 0 8 (by omega) (by omega)).mono ?_
  rintro h r ⟨a2, g, h1, h2, h3, rfl, rfl⟩
  exact ⟨g, l, (a2 : Int), ⟨⟨a2, rfl, by omega⟩, h2, h3⟩, rfl, rfl⟩
theorem shut8 (l : List Int) (a n : Int) {l0 : List Int} {g : List (List Int)} (hq : GraphQ l0 g l a) (hn : n = ((g.length : Nat) : Int) := by rfl) : ACalls Try.prog 14 [.ptr 1000000 0, .p (.int .i64 n)] [(1000000, .box [.p (.sl (encI l)), .p (.int .i64 a)])]
    fun h r => ∃ (sh : List Bool) (l' : List Int) (a' : Int), ShutQ l a n sh l' a' ∧ h = [(1000000, .box [.p (.sl (encI l')), .p (.int .i64 a')])] ∧ r = .p (.sl (encT sh)) := by
  obtain ⟨⟨k, rfl, hk⟩, hg, _⟩ := hq
  subst hn
  refine (shut_ok l k g.length (by omega) (by omega)).mono ?_
  rintro h r ⟨a2, sh, h1, h2, rfl, rfl⟩
  exact ⟨sh, l, (a2 : Int), by unfold ShutQ; omega, rfl, rfl⟩
end Go.Am
end
section
namespace Go.Am
open Go Go.Proofs
set_option maxRecDepth 100000
set_option linter.unusedVariables false
set_option linter.unusedSimpArgs false
def Gval (g : List (List Int)) : Prop := g.length ≤ 24 ∧ ∀ v, v < g.length → okR g.length v (g.getD v [])
theorem okR_at {n v : Nat} {r : List Int} (h : okR n v r) {i : Nat} (hi : i < r.length) : 0 ≤ r.getD i 0 ∧ r.getD i 0 < (n : Int) ∧ r.getD i 0 ≠ (v : Int) ∧ (0 < i → r.getD (i - 1) 0 < r.getD i 0) := by
  have := h i hi
  unfold okE at this
  simp only [Bool.and_eq_true, Bool.or_eq_true, Bool.not_eq_true', decide_eq_false_iff_not, decide_eq_true_eq] at this
  obtain ⟨⟨⟨h1, h2⟩, h3⟩, h4⟩ := this
  exact ⟨by omega, by omega, h3, fun h => by omega⟩
theorem okR_ge {n v : Nat} {r : List Int} (h : okR n v r) : ∀ i, i < r.length → (i : Int) ≤ r.getD i 0
  | 0, hi => by have := (okR_at h hi).1; omega
  | i + 1, hi => by
    have h1 := okR_ge h i (by omega)
    have h2 := (okR_at h hi).2.2.2 (by omega)
    have e : i + 1 - 1 = i := rfl
    rw [e] at h2
    omega
theorem okR_len {n v : Nat} {r : List Int} (h : okR n v r) : r.length ≤ n := by
  rcases Nat.eq_zero_or_pos r.length with h0 | h0
  · omega
  · have h1 := okR_ge h (r.length - 1) (by omega)
    have h2 := (okR_at h (i := r.length - 1) (by omega)).2.1
    omega
theorem Gval.ok {g : List (List Int)} {sh : List Bool} (h : Gval g) (hs : sh.length = g.length) : Gok g sh := by
  refine ⟨h.1, hs, fun v k hk => ?_, fun v => ?_⟩
  · by_cases hv : v < g.length
    · have := okR_at (h.2 v hv) hk
      exact ⟨((g.getD v []).getD k 0).toNat, by omega, by omega⟩
    · rw [List.getD, List.getElem?_eq_none (by omega)] at hk; exact absurd hk (Nat.not_lt_zero _)
  · by_cases hv : v < g.length
    · have := okR_len (h.2 v hv); have := h.1; omega
    · rw [List.getD, List.getElem?_eq_none (by omega)]; simp
theorem GR.val {g : List (List Int)} (hn : g.length ≤ 24) (h : ∀ v, v < g.length → GR g.length v (g.getD v [])) : Gval g := ⟨hn, fun v hv => (h v hv).okR⟩
theorem row_mem {g : List (List Int)} {r : List Int} (h : r ∈ g) : ∃ v, v < g.length ∧ g.getD v [] = r := by
  obtain ⟨v, hv, rfl⟩ := List.mem_iff_getElem.1 h
  exact ⟨v, hv, getD_eq hv⟩
theorem Gval.check {g : List (List Int)} {sh : List Bool} (h : Gval g) (hs : sh.length = g.length) : cCheck_v g sh = some 0 := by
  rw [cCheck_eq g sh (fun v hv => by have := okR_len (h.2 v hv); have := h.1; omega), if_neg (by have := h.1; omega), if_pos (fun v hv => decide_eq_true (h.2 v hv)), if_pos hs]
theorem Gval.names {g : List (List Int)} {sh : List Bool} (h : Gval g) (hs : sh.length = g.length) : cNames_v g sh = some (namesV g sh, 0) := by
  unfold cNames_v
  rw [if_pos (fun r hr => by
    obtain ⟨v, hv, rfl⟩ := row_mem hr
    have := okR_len (h.2 v hv); have := h.1; omega), h.check hs]
  rfl
theorem rVal_row (g : List (List Int)) (v : Nat) (r : List Int) (hr : r.length ≤ 1000000) : loopO (rVal_L1 g (v : Int) r) (0, -1) = some (if okR g.length v r then .inl (((r.length : Nat) : Int), if r.length = 0 then -1 else r.getD (r.length - 1) 0) else .inr false) := by
  have h := loopO_all (step := rVal_L1 g (v : Int) r) r.length (fun i => (((i : Nat) : Int), if i = 0 then -1 else r.getD (i - 1) 0)) (.inl (((r.length : Nat) : Int), if r.length = 0 then -1 else r.getD (r.length - 1) 0)) (.inr false) (okE g.length v r) ?_ ?_
  · simpa [okR] using h
  · intro i hi hp
    rw [rVal_L1_eq, lt_c hi, cond_true, idxO_at r i 0 hi, Option.bind_some]
    have hlast : (if i = 0 then -1 else r.getD (i - 1) 0 : Int) < r.getD i 0 ↔ (0 ≤ r.getD i 0 ∧ (i = 0 ∨ r.getD (i - 1) 0 < r.getD i 0)) := by
      rcases i with _ | i
      · simp; omega
      · have h0 := hp i (by omega)
        unfold okE at h0
        simp only [Bool.and_eq_true, Bool.not_eq_true', decide_eq_false_iff_not] at h0
        have := h0.1.1.1
        rw [if_neg (by omega), show i + 1 - 1 = i from rfl]
        omega
    by_cases c1 : r.getD i 0 ≤ (if i = 0 then -1 else r.getD (i - 1) 0 : Int)
    · rw [decide_eq_true c1, cond_true]
      have : okE g.length v r i = false := by
        unfold okE
        have h2 : ¬ (0 ≤ r.getD i 0 ∧ (i = 0 ∨ r.getD (i - 1) 0 < r.getD i 0)) := fun h => by have := hlast.2 h; omega
        by_cases h3 : r.getD i 0 < 0
        · rw [decide_eq_true h3]; simp
        · have h4 : ¬ (i = 0 ∨ r.getD (i - 1) 0 < r.getD i 0) := fun h => h2 ⟨by omega, h⟩
          rw [decide_eq_false (show ¬ i = 0 from fun h => h4 (.inl h)), decide_eq_true (show r.getD i 0 ≤ r.getD (i - 1) 0 by rcases Int.lt_or_le (r.getD (i - 1) 0) (r.getD i 0) with h5 | h5; exact absurd (.inr h5) h4; exact h5)]
          simp
      rw [this]; rfl
    · rw [decide_eq_false c1, cond_false]
      have h2 := hlast.1 (by omega)
      have h5 : (decide (i = 0) || !decide (r.getD i 0 ≤ r.getD (i - 1) 0)) = true := by
        simp only [Bool.or_eq_true, decide_eq_true_eq, Bool.not_eq_true', decide_eq_false_iff_not]; omega
      have h6 : decide (r.getD i 0 < 0) = false := decide_eq_false (by omega)
      unfold okE
      rw [h5, h6]
      cases c2 : decide ((g.length : Int) ≤ r.getD i 0)
      · cases c3 : decide (r.getD i 0 = (v : Int))
        · rw [cond_false, cond_false, wrap_sm (by omega)]; simp
        · simp
      · simp
  · intro _
    rw [rVal_L1_eq, lt_n, cond_false]
theorem rVal_at (g : List (List Int)) (hr : ∀ v, v < g.length → (g.getD v []).length ≤ 1000000) : rVal_v g = some (decide (g.length ≤ 24 ∧ ∀ v, v < g.length → okR g.length v (g.getD v []))) := by
  unfold rVal_v
  by_cases h1 : 24 < ((g.length : Nat) : Int)
  · rw [decide_eq_true h1, cond_true, decide_eq_false (by omega)]
  · rw [decide_eq_false h1, cond_false]
    have h := loopO_all (step := rVal_L2 g) g.length (fun i => ((i : Nat) : Int)) (.inl ((g.length : Nat) : Int)) (.inr false) (fun v => decide (okR g.length v (g.getD v []))) ?_ ?_
    · rw [show (0 : Int) = ((0 : Nat) : Int) from rfl, h, Option.bind_some]
      by_cases h2 : ∀ v, v < g.length → decide (okR g.length v (g.getD v [])) = true
      · rw [if_pos h2, decide_eq_true ⟨by omega, fun v hv => of_decide_eq_true (h2 v hv)⟩]
      · rw [if_neg h2, decide_eq_false (fun h3 => h2 fun v hv => decide_eq_true (h3.2 v hv))]
    · intro v hv _
      rw [rVal_L2_eq, lt_c hv, cond_true, idxO_at g v [] hv, Option.bind_some, rVal_row g v _ (hr v hv), Option.bind_some]
      by_cases h2 : okR g.length v (g.getD v [])
      · rw [if_pos h2, if_pos (decide_eq_true h2)]; simp only; rw [wrap_sm (by omega)]
      · rw [if_neg h2, if_neg (by rw [decide_eq_false h2]; simp)]
    · intro _
      rw [rVal_L2_eq, lt_n, cond_false]
theorem Gval.rval {g : List (List Int)} (h : Gval g) : rVal_v g = some true := by
  rw [rVal_at g (fun v hv => by have := okR_len (h.2 v hv); have := h.1; omega), decide_eq_true (show g.length ≤ 24 ∧ ∀ v, v < g.length → okR g.length v (g.getD v []) from h)]
theorem from_at {g : List (List Int)} {sh : List Bool} (h : Gval g) (hs : sh.length = g.length) (v : Nat) (hv : v < g.length) : ∃ x, rFrom_v g sh (v : Int) = some (x, 0) ∧ x.length = g.length ∧ ∀ w, w < g.length → (x.getD w false = true ↔ sh.getD v false = false ∧ Rch g sh v w) := by
  obtain ⟨m, h1, h2, h3⟩ := found_at (h.ok hs) v hv
  unfold rFrom_v rChk_v
  have h24 := h.1
  rw [h.rval, Option.bind_some, cond_true, hs, decide_eq_true rfl, cond_true, decide_eq_false (by omega), cond_false, decide_eq_false (by omega), cond_false, Option.bind_some, decide_eq_true rfl, cond_true, h1, Option.bind_some, decide_eq_true ⟨h2, h24⟩, cond_true]
  refine ⟨_, rfl, by simp; omega, fun w hw => ?_⟩
  rw [← h3 w]
  simp only [List.getD, List.getElem?_take]
  rw [if_pos hw]
end Go.Am
end
section
namespace Go.Am
open Go Go.Proofs
set_option maxRecDepth 100000
set_option linter.unusedVariables false
set_option linter.unusedSimpArgs false
theorem loopO_cnt {α σ ε : Type} {step : σ → Option (σ ⊕ ε)} (n : Nat) (S : α → Nat → σ) (out : α → ε) (I : Nat → α → Prop)
    (h : ∀ i a, i < n → I i a → ∃ a', step (S a i) = some (.inl (S a' (i + 1))) ∧ I (i + 1) a') (he : ∀ a, I n a → step (S a n) = some (.inr (out a))) (a0 : α) (h0 : I 0 a0) : ∃ a', loopO step (S a0 0) = some (out a') ∧ I n a' := by
  have key : ∀ m i a, i + m = n → I i a → ∃ a', loopO step (S a i) = some (out a') ∧ I n a' := by
    intro m
    induction m with
    | zero =>
      intro i a hi hI
      obtain rfl : i = n := by omega
      exact ⟨a, by rw [loopO_step, he a hI]; rfl, hI⟩
    | succ m ih =>
      intro i a hi hI
      obtain ⟨a', h1, h2⟩ := h i a (by omega) hI
      obtain ⟨a'', h3, h4⟩ := ih (i + 1) a' (by omega) h2
      exact ⟨a'', by rw [loopO_step, h1]; exact h3, h4⟩
  exact key n 0 a0 (by omega) h0
theorem insS_perm : ∀ (l : List Int) (x : Int), (insS l x).Perm (x :: l)
  | [], x => .refl _
  | y :: r, x => by
    unfold insS
    split
    · exact .refl _
    · exact ((insS_perm r x).cons y).trans (List.Perm.swap x y r)
theorem foldl_insS_perm : ∀ (l p : List Int), (l.foldl insS p).Perm (p ++ l)
  | [], p => by simp
  | x :: r, p => by
    rw [List.foldl_cons]
    refine (foldl_insS_perm r (insS p x)).trans ?_
    have h1 : (insS p x ++ r).Perm (x :: p ++ r) := (insS_perm p x).append_right r
    exact h1.trans (List.perm_middle (a := x) (l₁ := p) (l₂ := r)).symm
theorem sortV_perm (l : List Int) : (sortV l).Perm l := by simpa [sortV] using foldl_insS_perm l []
theorem foldl_insS_sorted : ∀ (l p : List Int), p.Pairwise (· ≤ ·) → (l.foldl insS p).Pairwise (· ≤ ·)
  | [], _, h => h
  | x :: r, p, h => foldl_insS_sorted r (insS p x) (insS_sorted p x h)
theorem sortV_asc (l : List Int) (h : l.Nodup) : (sortV l).Pairwise (· < ·) := by
  have h1 := foldl_insS_sorted l [] List.Pairwise.nil
  have h2 : (sortV l).Nodup := (sortV_perm l).nodup_iff.2 h
  exact (h1.and h2).imp fun h => by obtain ⟨h3, h4⟩ := h; omega
theorem sIndex_in (l : List Int) (x : Int) (hl : l.length ≤ 1000000) : ∃ j, sIndex_v l x = some j ∧ (0 ≤ j ↔ x ∈ l) := by
  unfold sIndex_v
  have h := loopO_for (step := sIndex_L1 l x) l.length (fun i => ((i : Nat) : Int)) (.inl ((l.length : Nat) : Int)) (fun i => if x = l.getD i 0 then some (.inr ((i : Nat) : Int)) else none) ?_ ?_
  · rw [show (0 : Int) = ((0 : Nat) : Int) from rfl, h, Option.bind_some]
    cases hf : (List.range l.length).findSome? (fun i => if x = l.getD i 0 then some (Sum.inr ((i : Nat) : Int)) else (none : Option (Int ⊕ Int))) with
    | none =>
      refine ⟨-1, rfl, by omega, fun hm => ?_⟩
      obtain ⟨i, hi, rfl⟩ := List.mem_iff_getElem.1 hm
      have := List.findSome?_eq_none_iff.1 hf i (by simpa using hi)
      rw [getD_eq hi, if_pos rfl] at this
      cases this
    | some e =>
      obtain ⟨i, hi, he⟩ := List.exists_of_findSome?_eq_some hf
      have hi : i < l.length := by simpa using hi
      split at he
      · rename_i hx
        cases he
        exact ⟨(i : Int), rfl, fun _ => by rw [hx, getD_eq hi]; exact List.getElem_mem hi, fun _ => by omega⟩
      · cases he
  · intro i hi _
    rw [sIndex_L1_eq, lt_c hi, cond_true, idxO_at l i 0 hi, Option.bind_some]
    by_cases hx : x = l.getD i 0
    · rw [decide_eq_true hx, cond_true, if_pos hx]
    · rw [decide_eq_false hx, cond_false, if_neg hx]; simp only; rw [wrap_sm (by omega)]
  · intro _
    rw [sIndex_L1_eq, lt_n, cond_false]
theorem sCont_at (l : List Int) (x : Int) (hl : l.length ≤ 1000000) : sCont_v l x = some (decide (x ∈ l)) := by
  obtain ⟨j, h1, h2⟩ := sIndex_in l x hl
  unfold sCont_v
  rw [h1, Option.bind_some]
  congr 1
  exact decide_eq_decide.2 h2
theorem Rch.lt {g : List (List Int)} {sh : List Bool} (hg : Gok g sh) {v w : Nat} (h : Rch g sh v w) (hv : v < g.length) : w < g.length := by
  cases h with
  | refl => exact hv
  | tail _ e =>
    obtain ⟨w2, e2, hw2⟩ := hg.mem e.1
    omega
theorem NmsOk.lt {g : List (List Int)} {sh : List Bool} (hg : Gok g sh) {l : List Int} (h : NmsOk g sh l) {v : Nat} (hv : v < g.length) : l.getD v (-1) < (g.length : Int) := by
  cases c : sh.getD v false with
  | true => rw [(h.2 v hv).2 c]; omega
  | false =>
    obtain ⟨_, y, e, h1, _⟩ := (h.2 v hv).1 c
    rw [e]
    have := h1.lt hg hv
    omega
def QE (g : List (List Int)) (nm : List Int) (a b : Int) : Prop := ∃ v k, v < g.length ∧ k < (g.getD v []).length ∧ nm.getD v (-1) = a ∧ nm.getD ((g.getD v []).getD k 0).toNat (-1) = b ∧ 0 ≤ a ∧ 0 ≤ b ∧ a ≠ b
def QEp (g : List (List Int)) (nm : List Int) (V K : Nat) (a b : Int) : Prop := ∃ v k, (v < V ∨ v = V ∧ k < K) ∧ v < g.length ∧ k < (g.getD v []).length ∧ nm.getD v (-1) = a ∧ nm.getD ((g.getD v []).getD k 0).toNat (-1) = b ∧ 0 ≤ a ∧ 0 ≤ b ∧ a ≠ b
def QIn (g : List (List Int)) (nm : List Int) (V K : Nat) (q : List (List Int)) : Prop := q.length = g.length ∧ ∀ a, a < g.length → (q.getD a []).Nodup ∧ ∀ b, b ∈ q.getD a [] ↔ QEp g nm V K (a : Int) b
theorem nodup_bound : ∀ (n : Nat) (l : List Int), l.Nodup → (∀ x ∈ l, 0 ≤ x ∧ x < (n : Int)) → l.length ≤ n
  | 0, l, _, h => by
    cases l with
    | nil => simp
    | cons x r => have := h x (by simp); omega
  | n + 1, l, hn, h => by
    have h1 := nodup_bound n (l.erase (n : Int)) (hn.erase _) (fun x hx => by
      have h2 := h x (List.mem_of_mem_erase hx)
      have h3 : x ≠ (n : Int) := ((List.Nodup.mem_erase_iff hn).1 hx).1
      omega)
    have h4 := List.length_erase (a := (n : Int)) (l := l)
    split at h4 <;> omega
theorem QIn.row {g : List (List Int)} {sh : List Bool} (hg : Gok g sh) {nm : List Int} (hn : NmsOk g sh nm) {V K : Nat} {q : List (List Int)} (h : QIn g nm V K q) {a : Nat} (ha : a < g.length) : (q.getD a []).length ≤ g.length - 1 := by
  obtain ⟨h1, h2⟩ := h.2 a ha
  have hb : ∀ x ∈ q.getD a [], (0 ≤ x ∧ x < (g.length : Int)) ∧ x ≠ (a : Int) := by
    intro x hx
    obtain ⟨v, k, _, hv, hk, _, h3, _, h4, h5⟩ := (h2 x).1 hx
    obtain ⟨w, e, hw⟩ := hg.rng v k hk
    rw [e, Int.toNat_natCast] at h3
    have := hn.lt hg hw
    exact ⟨⟨h4, by omega⟩, fun h => h5 h.symm⟩
  have h6 : ((a : Int) :: q.getD a []).length ≤ g.length := nodup_bound g.length _ (List.nodup_cons.2 ⟨fun hm => (hb _ hm).2 rfl, h1⟩) (fun x hx => by
    rcases List.mem_cons.1 hx with rfl | hx
    · omega
    · exact (hb x hx).1)
  simp only [List.length_cons] at h6
  omega
theorem QEp.succ {g : List (List Int)} {nm : List Int} {V K : Nat} (hV : V < g.length) (hK : K < (g.getD V []).length) (a b : Int) :
    QEp g nm V (K + 1) a b ↔ QEp g nm V K a b ∨ (nm.getD V (-1) = a ∧ nm.getD ((g.getD V []).getD K 0).toNat (-1) = b ∧ 0 ≤ a ∧ 0 ≤ b ∧ a ≠ b) := by
  constructor
  · rintro ⟨v, k, h1, h2⟩
    by_cases h3 : v = V ∧ k = K
    · obtain ⟨rfl, rfl⟩ := h3; exact .inr h2.2.2
    · exact .inl ⟨v, k, by omega, h2⟩
  · rintro (⟨v, k, h1, h2⟩ | h2)
    · exact ⟨v, k, by omega, h2⟩
    · exact ⟨V, K, by omega, hV, hK, h2⟩
theorem QEp.next {g : List (List Int)} {nm : List Int} {V : Nat} (a b : Int) : QEp g nm (V + 1) 0 a b ↔ QEp g nm V (g.getD V []).length a b := by
  constructor
  · rintro ⟨v, k, h1, h2⟩
    by_cases e : v = V
    · subst e; exact ⟨v, k, .inr ⟨rfl, h2.2.1⟩, h2⟩
    · exact ⟨v, k, by omega, h2⟩
  · rintro ⟨v, k, h1, h2⟩
    exact ⟨v, k, by omega, h2⟩
theorem quot_L2 {g : List (List Int)} {sh : List Bool} (hg : Gok g sh) {nm : List Int} (hn : NmsOk g sh nm) (V : Nat) (hV : V < g.length) (q : List (List Int)) (hq : QIn g nm V 0 q) :
    ∃ q', loopO (cQuot_L2 nm (V : Int) (g.getD V [])) (q, 0) = some (q', (((g.getD V []).length : Nat) : Int)) ∧ QIn g nm V (g.getD V []).length q' := by
  refine loopO_cnt (step := cQuot_L2 nm (V : Int) (g.getD V [])) (g.getD V []).length (fun q i => (q, ((i : Nat) : Int))) (fun q => (q, (((g.getD V []).length : Nat) : Int))) (fun K q => QIn g nm V K q) ?_ ?_ q hq
  · intro K q hK hI
    have hrl := hg.rl V
    have h24 := hg.n24
    obtain ⟨w, ew, hw⟩ := hg.rng V K hK
    have hwa := hn.lt hg hV
    have e3 : idxO nm (w : Int) = some (nm.getD w (-1)) := idxO_at nm w (-1) (by rw [hn.1]; exact hw)
    have step := QEp.succ (nm := nm) hV hK
    rw [ew, Int.toNat_natCast] at step
    try dsimp only
    rw [cQuot_L2_eq, lt_c hK, cond_true, idxO_at _ K 0 hK, Option.bind_some, idxO_at nm V (-1) (by rw [hn.1]; exact hV), Option.bind_some, ew, e3, Option.bind_some]
    have same : ¬ (0 ≤ nm.getD V (-1) ∧ 0 ≤ nm.getD w (-1) ∧ nm.getD V (-1) ≠ nm.getD w (-1)) → QIn g nm V (K + 1) q := fun hc => ⟨hI.1, fun a ha => ⟨(hI.2 a ha).1, fun b => by
      rw [(hI.2 a ha).2 b, step]
      constructor
      · exact .inl
      · rintro (h | ⟨h1, h2, h3⟩)
        · exact h
        · exact absurd (by rw [h1, h2]; exact h3) hc⟩⟩
    by_cases c1 : 0 ≤ nm.getD V (-1)
    rotate_left
    · rw [decide_eq_false c1, cond_false, wrap_sm (by omega)]
      exact ⟨q, rfl, same fun h => c1 h.1⟩
    rw [decide_eq_true c1, cond_true]
    by_cases c2 : 0 ≤ nm.getD w (-1)
    rotate_left
    · rw [decide_eq_false c2, cond_false, wrap_sm (by omega)]
      exact ⟨q, rfl, same fun h => c2 h.2.1⟩
    rw [decide_eq_true c2, cond_true]
    by_cases c3 : nm.getD V (-1) = nm.getD w (-1)
    · rw [decide_eq_true c3, cond_true, wrap_sm (by omega)]
      exact ⟨q, rfl, same fun h => h.2.2 c3⟩
    rw [decide_eq_false c3, cond_false]
    obtain ⟨a0, ha0⟩ : ∃ a0 : Nat, nm.getD V (-1) = (a0 : Int) := ⟨(nm.getD V (-1)).toNat, by omega⟩
    generalize hb0 : nm.getD w (-1) = b0 at *
    rw [ha0] at c1 c3 hwa step ⊢
    have ha1 : a0 < g.length := by omega
    have hrow := hI.row hg hn ha1
    rw [idxO_at q a0 [] (by rw [hI.1]; exact ha1), Option.bind_some, sCont_at _ _ (by omega), Option.bind_some]
    by_cases c4 : b0 ∈ q.getD a0 []
    · rw [decide_eq_true c4, cond_true, wrap_sm (by omega)]
      refine ⟨q, rfl, hI.1, fun a ha => ⟨(hI.2 a ha).1, fun b => ?_⟩⟩
      rw [(hI.2 a ha).2 b, step]
      constructor
      · exact .inl
      · rintro (h | ⟨h1, h2, h3⟩)
        · exact h
        · have : a = a0 := by omega
          subst this; subst h2
          exact ((hI.2 a ha).2 _).1 c4
    · rw [decide_eq_false c4, cond_false, decide_eq_true (by omega), cond_true, wrap_sm (by omega), Int.toNat_natCast]
      have gs : ∀ a, (q.set a0 (q.getD a0 [] ++ [b0])).getD a [] = if a = a0 then q.getD a0 [] ++ [b0] else q.getD a [] := fun a => getD_setx _ _ _ _ _ (by rw [hI.1]; exact ha1)
      refine ⟨_, rfl, by simp [hI.1], fun a ha => ?_⟩
      rw [gs]
      by_cases e : a = a0
      · subst e
        rw [if_pos rfl]
        refine ⟨?_, fun b => ?_⟩
        · rw [List.nodup_append]
          exact ⟨(hI.2 a ha).1, by simp, fun x hx y hy => by simp at hy; subst hy; rintro rfl; exact c4 hx⟩
        · rw [List.mem_append, (hI.2 a ha).2 b, step, List.mem_singleton]
          constructor
          · rintro (h | rfl)
            · exact .inl h
            · exact .inr ⟨rfl, rfl, c1, c2, c3⟩
          · rintro (h | ⟨_, h2, _⟩)
            · exact .inl h
            · exact .inr h2.symm
      · rw [if_neg e]
        refine ⟨(hI.2 a ha).1, fun b => ?_⟩
        rw [(hI.2 a ha).2 b, step]
        constructor
        · exact .inl
        · rintro (h | ⟨h1, _⟩)
          · exact h
          · omega
  · intro q _
    try dsimp only
    rw [cQuot_L2_eq, lt_n, cond_false]
theorem quot_L3 {g : List (List Int)} {sh : List Bool} (hg : Gok g sh) {nm : List Int} (hn : NmsOk g sh nm) : ∃ q, loopO (cQuot_L3 g nm) (List.replicate g.length [], 0) = some (q, ((g.length : Nat) : Int)) ∧ QIn g nm g.length 0 q := by
  refine loopO_cnt (step := cQuot_L3 g nm) g.length (fun q i => (q, ((i : Nat) : Int))) (fun q => (q, ((g.length : Nat) : Int))) (fun V q => QIn g nm V 0 q) ?_ ?_ (List.replicate g.length []) ?_
  · intro V q hV hI
    obtain ⟨q', h1, h2⟩ := quot_L2 hg hn V hV q hI
    have h24 := hg.n24
    try dsimp only
    rw [cQuot_L3_eq, lt_c hV, cond_true, idxO_at g V [] hV, Option.bind_some, h1, Option.bind_some]
    try dsimp only
    rw [wrap_sm (by omega)]
    exact ⟨q', rfl, h2.1, fun a ha => ⟨(h2.2 a ha).1, fun b => by rw [(h2.2 a ha).2 b, QEp.next]⟩⟩
  · intro q _
    try dsimp only
    rw [cQuot_L3_eq, lt_n, cond_false]
  · refine ⟨by simp, fun a ha => ?_⟩
    have e : (List.replicate g.length ([] : List Int)).getD a [] = [] := by simp [List.getD, List.getElem?_replicate, ha]
    rw [e]
    refine ⟨List.nodup_nil, fun b => ⟨fun h => (by cases h), ?_⟩⟩
    rintro ⟨v, k, h, _⟩
    omega
def QuoOk (g : List (List Int)) (nm : List Int) (q : List (List Int)) : Prop := q.length = g.length ∧ ∀ a, a < g.length → (q.getD a []).Pairwise (· < ·) ∧ ∀ b, b ∈ q.getD a [] ↔ QE g nm (a : Int) b
theorem quot_at {g : List (List Int)} {sh : List Bool} (hv : Gval g) (hs : sh.length = g.length) (h13 : g.length ≤ 13) : ∃ q, cQuot_v g sh = some (q, 0) ∧ QuoOk g (namesV g sh) q := by
  have hg := hv.ok hs
  have hn := namesV_ok g sh
  have h24 := hg.n24
  obtain ⟨q, h1, h2⟩ := quot_L3 hg hn
  have h3 : ∃ q', loopO (cQuot_L1 q) (q, 0) = some (q', ((q.length : Nat) : Int)) ∧ (q'.length = q.length ∧ ∀ a, a < q.length → q'.getD a [] = if a < q.length then sortV (q.getD a []) else q.getD a []) := by
    refine loopO_cnt (step := cQuot_L1 q) q.length (fun x i => (x, ((i : Nat) : Int))) (fun x => (x, ((q.length : Nat) : Int))) (fun i x => x.length = q.length ∧ ∀ a, a < q.length → x.getD a [] = if a < i then sortV (q.getD a []) else q.getD a []) ?_ ?_ q ⟨rfl, fun a _ => by rw [if_neg (by omega)]⟩
    · rintro i x hi ⟨hl, hx⟩
      have hxi := hx i hi
      rw [if_neg (by omega)] at hxi
      have hrow := h2.row hg hn (a := i) (by rw [h2.1] at hi; exact hi)
      have hql := h2.1
      try dsimp only
      rw [cQuot_L1_eq, lt_c hi, cond_true, idxO_at x i [] (by rw [hl]; exact hi), Option.bind_some, hxi, decide_eq_true (by omega), cond_true, wrap_sm (by omega), Int.toNat_natCast]
      refine ⟨_, rfl, by simp [hl], fun a ha => ?_⟩
      rw [getD_setx _ _ _ _ _ (by rw [hl]; exact hi)]
      by_cases e : a = i
      · subst e; rw [if_pos rfl, if_pos (by omega)]
      · rw [if_neg e, hx a ha]
        by_cases e2 : a < i
        · rw [if_pos e2, if_pos (by omega)]
        · rw [if_neg e2, if_neg (by omega)]
    · intro x _
      try dsimp only
      rw [cQuot_L1_eq, lt_n, cond_false]
  obtain ⟨q', h4, h5, h6⟩ := h3
  unfold cQuot_v
  rw [hv.names hs, Option.bind_some]
  try dsimp only
  rw [decide_eq_true rfl, cond_true, decide_eq_true (by omega), cond_true, h1, Option.bind_some]
  try dsimp only
  rw [h4, Option.bind_some]
  refine ⟨q', rfl, by rw [h5, h2.1], fun a ha => ?_⟩
  have e1 := h6 a (by rw [h2.1]; exact ha)
  rw [if_pos (by rw [h2.1]; exact ha)] at e1
  rw [e1]
  refine ⟨sortV_asc _ (h2.2 a ha).1, fun b => ?_⟩
  rw [(sortV_perm _).mem_iff, (h2.2 a ha).2 b]
  constructor
  · rintro ⟨v, k, _, h⟩; exact ⟨v, k, h⟩
  · rintro ⟨v, k, h⟩; exact ⟨v, k, .inl h.1, h⟩
end Go.Am
end
section
namespace Go.Am
open Go Go.Proofs
set_option maxRecDepth 100000
set_option linter.unusedVariables false
set_option linter.unusedSimpArgs false
theorem countP_one : ∀ (n v : Nat) (p p' : Nat → Bool), v < n → (∀ a, a ≠ v → p' a = p a) → p' v = false → (List.range n).countP p = (List.range n).countP p' + (if p v = true then 1 else 0)
  | 0, v, _, _, h, _, _ => by omega
  | n + 1, v, p, p', h, h1, h2 => by
    rw [List.range_succ, List.countP_append, List.countP_append]
    by_cases e : v = n
    · subst e
      have : (List.range v).countP p = (List.range v).countP p' := List.countP_congr fun a ha => by rw [h1 a (by have := List.mem_range.1 ha; omega)]
      rw [this]
      simp only [List.countP_cons, List.countP_nil, h2]
      cases p v <;> simp
    · rw [countP_one n v p p' (by omega) h1 h2]
      have : [n].countP p = [n].countP p' := by simp only [List.countP_cons, List.countP_nil]; rw [h1 n (fun h => e h.symm)]
      omega
theorem countP_lt {α : Type} {p q : α → Bool} : ∀ (l : List α), (∀ x ∈ l, p x = true → q x = true) → (∃ x ∈ l, q x = true ∧ p x = false) → l.countP p < l.countP q
  | [], _, ⟨x, h, _⟩ => by cases h
  | y :: r, h, ⟨x, hx, h1, h2⟩ => by
    have hm : r.countP p ≤ r.countP q := List.countP_mono_left fun x hx => h x (List.mem_cons_of_mem _ hx)
    simp only [List.countP_cons]
    rcases List.mem_cons.1 hx with rfl | hx
    · rw [h1, h2]; simp; omega
    · have ih := countP_lt r (fun x hx => h x (List.mem_cons_of_mem _ hx)) ⟨x, hx, h1, h2⟩
      cases c : p y with
      | false => simp; omega
      | true => rw [h y (List.mem_cons_self) c]; simp; omega
theorem NmsOk.name {g : List (List Int)} {sh : List Bool} (hg : Gok g sh) {nm : List Int} (hn : NmsOk g sh nm) {v : Nat} (hv : v < g.length) (h0 : 0 ≤ nm.getD v (-1)) :
    ∃ y : Nat, nm.getD v (-1) = (y : Int) ∧ y < g.length ∧ sh.getD v false = false ∧ sh.getD y false = false ∧ nm.getD y (-1) = (y : Int) ∧ y ≤ v ∧ Rch g sh v y ∧ Rch g sh y v := by
  have hvo : sh.getD v false = false := by
    cases c : sh.getD v false with
    | true => have := (hn.2 v hv).2 c; omega
    | false => rfl
  obtain ⟨_, y, e, h1, h2, h3⟩ := (hn.2 v hv).1 hvo
  have hy := h1.lt hg hv
  have hyo : sh.getD y false = false := by
    cases h1 with
    | refl => exact hvo
    | tail _ e => exact e.2
  refine ⟨y, e, hy, hvo, hyo, ?_, h3 v (.refl v) (.refl v), h1, h2⟩
  obtain ⟨_, h4⟩ := (hn.2 y hy).1 hyo
  have h5 : IsNm g sh y (y : Int) := ⟨y, rfl, .refl y, .refl y, fun z hz hz2 => h3 z (h1.trans hz) (hz2.trans h2)⟩
  exact h4.uniq h5
theorem NmsOk.same {g : List (List Int)} {sh : List Bool} {nm : List Int} (hn : NmsOk g sh nm) {v w : Nat} (hv : v < g.length) (hw : w < g.length) (hvo : sh.getD v false = false) (hwo : sh.getD w false = false) (h1 : Rch g sh v w) (h2 : Rch g sh w v) : nm.getD v (-1) = nm.getD w (-1) := by
  obtain ⟨_, y, e, a1, a2, a3⟩ := (hn.2 v hv).1 hvo
  have : IsNm g sh w (y : Int) := ⟨y, rfl, h2.trans a1, a2.trans h1, fun z b1 b2 => a3 z (h1.trans b1) (b2.trans h2)⟩
  rw [e]
  exact this.uniq ((hn.2 w hw).1 hwo).2
theorem QE.rch {g : List (List Int)} {sh : List Bool} (hg : Gok g sh) {nm : List Int} (hn : NmsOk g sh nm) {a b : Int} (h : QE g nm a b) :
    ∃ x y : Nat, a = (x : Int) ∧ b = (y : Int) ∧ x < g.length ∧ y < g.length ∧ nm.getD x (-1) = (x : Int) ∧ nm.getD y (-1) = (y : Int) ∧ sh.getD x false = false ∧ sh.getD y false = false ∧ Rch g sh x y ∧ ¬ Rch g sh y x := by
  obtain ⟨v, k, hv, hk, h1, h2, h3, h4, h5⟩ := h
  obtain ⟨w, ew, hw⟩ := hg.rng v k hk
  rw [ew, Int.toNat_natCast] at h2
  obtain ⟨x, ex, hx, hvo, hxo, hxx, _, vx, xv⟩ := hn.name hg hv (by rw [h1]; exact h3)
  obtain ⟨y, ey, hy, hwo, hyo, hyy, _, wy, yw⟩ := hn.name hg hw (by rw [h2]; exact h4)
  have he : Ed g sh v w := ⟨by rw [← ew, getD_eq hk]; exact List.getElem_mem hk, hwo⟩
  have hxy : Rch g sh x y := (xv.tail he).trans wy
  refine ⟨x, y, by rw [← h1, ex], by rw [← h2, ey], hx, hy, hxx, hyy, hxo, hyo, hxy, fun hyx => h5 ?_⟩
  have := hn.same hx hy hxo hyo hxy hyx
  rw [hxx, hyy] at this
  rw [← h1, ← h2, ex, ey, this]
def Avail (g : List (List Int)) (nm : List Int) (o : List Int) (y : Nat) : Prop := y < g.length ∧ nm.getD y (-1) = (y : Int) ∧ (y : Int) ∉ o ∧ ∀ a, QE g nm a (y : Int) → a ∈ o
def Greedy (g : List (List Int)) (nm : List Int) (o : List Int) : Prop := ∀ pre x suf, o = pre ++ x :: suf → ∃ y : Nat, x = (y : Int) ∧ Avail g nm pre y ∧ ∀ z, z < y → ¬ Avail g nm pre z
def OrdOk (g : List (List Int)) (nm : List Int) (o : List Int) : Prop := Greedy g nm o ∧ ∀ a, a < g.length → nm.getD a (-1) = (a : Int) → (a : Int) ∈ o
theorem Greedy.snoc {g : List (List Int)} {nm o : List Int} (h : Greedy g nm o) {y : Nat} (ha : Avail g nm o y) (hl : ∀ z, z < y → ¬ Avail g nm o z) : Greedy g nm (o ++ [(y : Int)]) := by
  intro pre x suf e
  rcases suf.eq_nil_or_concat with rfl | ⟨s, z, rfl⟩
  · have h1 := List.append_inj' e rfl
    obtain ⟨rfl, h2⟩ := h1
    have : x = (y : Int) := by simpa using h2.symm
    subst this
    exact ⟨y, rfl, ha, hl⟩
  · rw [List.concat_eq_append] at e
    have e2 : o ++ [(y : Int)] = (pre ++ x :: s) ++ [z] := by rw [e]; simp
    have h1 := List.append_inj' e2 rfl
    exact h pre x s h1.1
theorem Greedy.nodup {g : List (List Int)} {nm o : List Int} (h : Greedy g nm o) : o.Nodup := by
  suffices key : ∀ n, n ≤ o.length → (o.take n).Nodup by
    have := key o.length (Nat.le_refl _)
    rwa [List.take_length] at this
  intro n
  induction n with
  | zero => intro _; simp
  | succ n ih =>
    intro hn
    have e : o = o.take n ++ o[n] :: o.drop (n + 1) := by rw [List.getElem_cons_drop, List.take_append_drop]
    obtain ⟨y, e1, ⟨_, _, h2, _⟩, _⟩ := h _ _ _ e
    rw [List.take_succ_eq_append_getElem (by omega), List.nodup_append]
    exact ⟨ih (by omega), by simp, fun a ha b hb => by simp at hb; subst hb; rintro rfl; exact h2 (e1 ▸ ha)⟩
theorem Greedy.mem {g : List (List Int)} {nm o : List Int} (h : Greedy g nm o) {x : Int} (hx : x ∈ o) : ∃ y : Nat, x = (y : Int) ∧ y < g.length ∧ nm.getD y (-1) = (y : Int) := by
  obtain ⟨s, t, rfl⟩ := List.append_of_mem hx
  obtain ⟨y, e, h1, _⟩ := h s x t rfl
  exact ⟨y, e, h1.1, h1.2.1⟩
theorem Greedy.len {g : List (List Int)} {nm o : List Int} (h : Greedy g nm o) : o.length ≤ g.length := nodup_bound _ _ h.nodup fun x hx => by
  obtain ⟨y, e, h1, _⟩ := h.mem hx
  omega
noncomputable def inP (g : List (List Int)) (nm : List Int) (o : List Int) (w a : Nat) : Bool := open Classical in decide ((a : Int) ∉ o ∧ QE g nm (a : Int) (w : Int))
theorem inP_iff {g : List (List Int)} {nm o : List Int} {w a : Nat} : inP g nm o w a = true ↔ (a : Int) ∉ o ∧ QE g nm (a : Int) (w : Int) := by
  unfold inP; simp only [decide_eq_true_eq]
noncomputable def inC (g : List (List Int)) (nm : List Int) (o : List Int) (w : Nat) : Nat := (List.range g.length).countP (inP g nm o w)
theorem inC_le (g : List (List Int)) (nm o : List Int) (w : Nat) : inC g nm o w ≤ g.length := by
  unfold inC
  have := List.countP_le_length (p := inP g nm o w) (l := List.range g.length)
  rwa [List.length_range] at this
theorem inC_zero {g : List (List Int)} {sh : List Bool} (hg : Gok g sh) {nm : List Int} (hn : NmsOk g sh nm) {o : List Int} {w : Nat} : inC g nm o w = 0 ↔ ∀ a, QE g nm a (w : Int) → a ∈ o := by
  unfold inC
  rw [List.countP_eq_zero]
  constructor
  · intro h a ha
    obtain ⟨x, y, rfl, _, hx, _⟩ := ha.rch hg hn
    have := h x (by simpa using hx)
    rw [inP_iff] at this
    by_cases h2 : (x : Int) ∈ o
    · exact h2
    · exact absurd ⟨h2, ha⟩ this
  · intro h a _
    rw [inP_iff]
    rintro ⟨h1, h2⟩
    exact h1 (h _ h2)
open Classical in
theorem inC_snoc {g : List (List Int)} {nm o : List Int} {v w : Nat} (hv : v < g.length) (ho : (v : Int) ∉ o) : inC g nm o w = inC g nm (o ++ [(v : Int)]) w + (if QE g nm (v : Int) (w : Int) then 1 else 0) := by
  unfold inC
  rw [countP_one g.length v (inP g nm o w) (inP g nm (o ++ [(v : Int)]) w) hv ?_ ?_]
  · congr 1
    by_cases h : QE g nm (v : Int) (w : Int)
    · rw [if_pos h, if_pos (inP_iff.2 ⟨ho, h⟩)]
    · rw [if_neg h, if_neg (fun h2 => h (inP_iff.1 h2).2)]
  · intro a ha
    rw [Bool.eq_iff_iff, inP_iff, inP_iff]
    simp only [List.mem_append, List.mem_singleton, not_or]
    constructor
    · rintro ⟨⟨h1, _⟩, h2⟩; exact ⟨h1, h2⟩
    · rintro ⟨h1, h2⟩; exact ⟨⟨h1, by omega⟩, h2⟩
  · cases h : inP g nm (o ++ [(v : Int)]) w v with
    | false => rfl
    | true => exact absurd (by simp) (inP_iff.1 h).1
theorem ord_step (c : Int) (hc : c = 1 ∨ c = -1) {L : List Int → (List Int) × Int → Option (((List Int) × Int) ⊕ ((List Int) × Int))} (row bf : List Int) (n : Nat) (hb : bf.length = n) (hn : n ≤ 24) (hrow : row.Pairwise (· < ·)) (hrl : row.length ≤ 1000) (hr : ∀ y ∈ row, ∃ w : Nat, y = (w : Int) ∧ w < n) (hs : ∀ w, w < n → -1000 ≤ bf.getD w 0 ∧ bf.getD w 0 ≤ 1000)
    (h1 : ∀ (i w : Nat) x, i < row.length → row.getD i 0 = (w : Int) → w < x.length → L row (x, (i : Int)) = some (.inl (x.set w (IntKind.i64.wrap (x.getD w 0 + c)), IntKind.i64.wrap ((i : Int) + 1)))) (h2 : ∀ x, L row (x, (row.length : Int)) = some (.inr (x, (row.length : Int)))) :
    ∃ x, loopO (L row) (bf, 0) = some (x, ((row.length : Nat) : Int)) ∧ x.length = n ∧ ∀ w, w < n → x.getD w 0 = bf.getD w 0 + (if (w : Int) ∈ row then c else 0) := by
  have key : ∃ x, loopO (L row) (bf, 0) = some (x, ((row.length : Nat) : Int)) ∧ (x.length = n ∧ ∀ w, w < n → x.getD w 0 = bf.getD w 0 + (if (w : Int) ∈ row.take row.length then c else 0)) := by
    refine loopO_cnt (step := L row) row.length (fun x i => (x, ((i : Nat) : Int))) (fun x => (x, ((row.length : Nat) : Int))) (fun i x => x.length = n ∧ ∀ w, w < n → x.getD w 0 = bf.getD w 0 + (if (w : Int) ∈ row.take i then c else 0)) ?_ (fun x _ => h2 x) bf ⟨hb, fun w _ => by simp⟩
    rintro i x hi ⟨hl, hx⟩
    obtain ⟨w0, e0, hw0⟩ := hr (row.getD i 0) (by rw [getD_eq hi]; exact List.getElem_mem hi)
    have hnot : (w0 : Int) ∉ row.take i := by
      intro hm
      obtain ⟨j, hj, e⟩ := List.mem_iff_getElem.1 hm
      rw [List.length_take] at hj
      rw [List.getElem_take] at e
      have := List.pairwise_iff_getElem.1 hrow j i (by omega) hi (by omega)
      rw [getD_eq hi] at e0
      omega
    have hx0 := hx w0 hw0
    rw [if_neg hnot] at hx0
    have hs0 := hs w0 hw0
    rw [h1 i w0 x hi e0 (by omega), wrap_sm (by omega), wrap_i64_id (by rcases hc with rfl | rfl <;> omega) (by rcases hc with rfl | rfl <;> omega)]
    refine ⟨_, rfl, by simp [hl], fun w hw => ?_⟩
    rw [getD_setx _ _ _ _ _ (by omega), take_snoc row i 0 hi, e0]
    by_cases e : w = w0
    · subst e; rw [if_pos rfl, if_pos (by simp)]; omega
    · rw [if_neg e, hx w hw]
      have : (w : Int) ∈ row.take i ++ [(w0 : Int)] ↔ (w : Int) ∈ row.take i := by
        simp only [List.mem_append, List.mem_singleton]
        constructor
        · rintro (h | h)
          · exact h
          · omega
        · exact .inl
      simp only [this]
  rw [List.take_length] at key
  obtain ⟨x, k1, k2, k3⟩ := key
  exact ⟨x, k1, k2, k3⟩
def OP (nm bf o : List Int) (v : Nat) : Prop := 0 ≤ nm.getD v (-1) ∧ bf.getD (nm.getD v (-1)).toNat 0 = 0 ∧ nm.getD v (-1) ∉ o
instance (nm bf o : List Int) (v : Nat) : Decidable (OP nm bf o v) := inferInstanceAs (Decidable (_ ∧ _))
theorem findSome_range {β : Type} (f : Nat → Option β) (e : β) : ∀ (n v : Nat), v < n → (∀ u, u < v → f u = none) → f v = some e → (List.range n).findSome? f = some e
  | 0, v, h, _, _ => by omega
  | n + 1, v, h, h1, h2 => by
    rw [List.range_succ, List.findSome?_append]
    by_cases e1 : v = n
    · subst e1
      have : (List.range v).findSome? f = none := by rw [List.findSome?_eq_none_iff]; intro x hx; exact h1 x (by simpa using hx)
      rw [this]; simp [h2]
    · rw [findSome_range f e n v (by omega) h1 h2]; rfl
theorem ord_idx (nm bf o : List Int) (hl : nm.length ≤ 24) (ho : o.length ≤ 1000) (hb : ∀ v, v < nm.length → nm.getD v (-1) < (bf.length : Int)) :
    (g_slices_IndexFunc_v nm bf o = some (-1, bf, o) ∧ ∀ v, v < nm.length → ¬ OP nm bf o v) ∨ ∃ v, v < nm.length ∧ g_slices_IndexFunc_v nm bf o = some ((v : Int), bf, o) ∧ OP nm bf o v ∧ ∀ u, u < v → ¬ OP nm bf o u := by
  have hstep : ∀ v, v < nm.length → g_components_Order_1_v (nm.getD v (-1)) bf o = some (decide (OP nm bf o v), bf, o) := by
    intro v hv
    unfold g_components_Order_1_v
    by_cases c1 : 0 ≤ nm.getD v (-1)
    rotate_left
    · rw [decide_eq_false c1, cond_false, decide_eq_false (show ¬ OP nm bf o v from fun h => c1 h.1)]
    rw [decide_eq_true c1, cond_true]
    have hbv := hb v hv
    obtain ⟨a, ea⟩ : ∃ a : Nat, nm.getD v (-1) = (a : Int) := ⟨(nm.getD v (-1)).toNat, by omega⟩
    have hO : OP nm bf o v ↔ bf.getD a 0 = 0 ∧ (a : Int) ∉ o := by
      unfold OP
      rw [ea, Int.toNat_natCast]
      exact ⟨fun h => h.2, fun h => ⟨by omega, h⟩⟩
    rw [ea, idxO_at bf a 0 (by omega), Option.bind_some]
    by_cases c2 : bf.getD a 0 = 0
    · rw [decide_eq_true c2, cond_true, sCont_at _ _ (by omega), Option.bind_some]
      congr 2
      by_cases c3 : (a : Int) ∈ o
      · rw [decide_eq_true c3, decide_eq_false (fun h => (hO.1 h).2 c3)]; rfl
      · rw [decide_eq_false c3, decide_eq_true (hO.2 ⟨c2, c3⟩)]; rfl
    · rw [decide_eq_false c2, cond_false, decide_eq_false (fun h => c2 (hO.1 h).1)]
  have h := loopO_for (step := g_slices_IndexFunc_L1 nm) nm.length (fun i => (bf, o, ((i : Nat) : Int))) (.inl (bf, o, ((nm.length : Nat) : Int))) (fun i => if OP nm bf o i then some (.inr (((i : Nat) : Int), bf, o)) else none) ?_ ?_
  · unfold g_slices_IndexFunc_v
    rw [show (0 : Int) = ((0 : Nat) : Int) from rfl, h, Option.bind_some]
    by_cases hall : ∀ v, v < nm.length → ¬ OP nm bf o v
    · left
      have : (List.range nm.length).findSome? (fun i => if OP nm bf o i then some (Sum.inr (((i : Nat) : Int), bf, o)) else (none : Option ((List Int × List Int × Int) ⊕ (Int × List Int × List Int)))) = none := by
        rw [List.findSome?_eq_none_iff]
        intro x hx
        rw [if_neg (hall x (by simpa using hx))]
      rw [this]
      exact ⟨rfl, hall⟩
    · right
      have hex : ∃ v, v < nm.length ∧ OP nm bf o v := by
        rcases Classical.not_forall.1 hall with ⟨v, hv⟩
        exact ⟨v, by by_cases h1 : v < nm.length; exact h1; exact absurd (fun h => absurd h h1) hv, by by_cases h2 : OP nm bf o v; exact h2; exact absurd (fun _ => h2) hv⟩
      have hmin : ∀ n, (∃ v, v < n ∧ v < nm.length ∧ OP nm bf o v) → ∃ v, v < nm.length ∧ OP nm bf o v ∧ ∀ u, u < v → ¬ OP nm bf o u := by
        intro n
        induction n with
        | zero => rintro ⟨v, hv, _⟩; omega
        | succ n ih =>
          rintro ⟨v, hv, hvl, hP⟩
          by_cases hx : ∃ u, u < n ∧ u < nm.length ∧ OP nm bf o u
          · exact ih hx
          · refine ⟨v, hvl, hP, fun u hu h9 => hx ⟨u, by omega, by omega, h9⟩⟩
      obtain ⟨v0, hv0, hP0⟩ := hex
      obtain ⟨v, hv, hP, hm⟩ := hmin (v0 + 1) ⟨v0, by omega, hv0, hP0⟩
      refine ⟨v, hv, ?_, hP, hm⟩
      have : (List.range nm.length).findSome? (fun i => if OP nm bf o i then some (Sum.inr (((i : Nat) : Int), bf, o)) else (none : Option ((List Int × List Int × Int) ⊕ (Int × List Int × List Int)))) = some (Sum.inr (((v : Nat) : Int), bf, o)) := by
        exact findSome_range _ _ nm.length v hv (fun u hu => by rw [if_neg (hm u hu)]) (by rw [if_pos hP])
      rw [this]
      rfl
  · intro i hi _
    rw [g_slices_IndexFunc_L1_eq, lt_c hi, cond_true, idxO_at nm i (-1) hi, Option.bind_some, hstep i hi, Option.bind_some]
    dsimp only
    by_cases hP : OP nm bf o i
    · rw [decide_eq_true hP, cond_true, if_pos hP]
    · rw [decide_eq_false hP, cond_false, if_neg hP]; dsimp only; rw [wrap_sm (by omega)]
  · intro _
    rw [g_slices_IndexFunc_L1_eq, lt_n, cond_false]
end Go.Am
end
section
namespace Go.Am
open Go Go.Proofs
set_option maxRecDepth 100000
set_option linter.unusedVariables false
set_option linter.unusedSimpArgs false
theorem ord_L3 (row bf : List Int) (n : Nat) (hb : bf.length = n) (hn : n ≤ 24) (hrow : row.Pairwise (· < ·)) (hrl : row.length ≤ 1000) (hr : ∀ y ∈ row, ∃ w : Nat, y = (w : Int) ∧ w < n) (hs : ∀ w, w < n → -1000 ≤ bf.getD w 0 ∧ bf.getD w 0 ≤ 1000) :
    ∃ x, loopO (cOrd_L3 row) (bf, 0) = some (x, ((row.length : Nat) : Int)) ∧ x.length = n ∧ ∀ w, w < n → x.getD w 0 = bf.getD w 0 + (if (w : Int) ∈ row then 1 else 0) := by
  refine ord_step 1 (.inl rfl) (L := cOrd_L3) row bf n hb hn hrow hrl hr hs ?_ ?_
  · intro i w x hi e hw
    rw [cOrd_L3_eq, lt_c hi, cond_true, idxO_at row i 0 hi, Option.bind_some, e, idxO_at x w 0 hw, Option.bind_some, Int.toNat_natCast]
  · intro x
    rw [cOrd_L3_eq, lt_n, cond_false]
theorem ord_L1 (row bf : List Int) (n : Nat) (hb : bf.length = n) (hn : n ≤ 24) (hrow : row.Pairwise (· < ·)) (hrl : row.length ≤ 1000) (hr : ∀ y ∈ row, ∃ w : Nat, y = (w : Int) ∧ w < n) (hs : ∀ w, w < n → -1000 ≤ bf.getD w 0 ∧ bf.getD w 0 ≤ 1000) :
    ∃ x, loopO (cOrd_L1 row) (bf, 0) = some (x, ((row.length : Nat) : Int)) ∧ x.length = n ∧ ∀ w, w < n → x.getD w 0 = bf.getD w 0 + (if (w : Int) ∈ row then -1 else 0) := by
  refine ord_step (-1) (.inr rfl) (L := cOrd_L1) row bf n hb hn hrow hrl hr hs ?_ ?_
  · intro i w x hi e hw
    rw [cOrd_L1_eq, lt_c hi, cond_true, idxO_at row i 0 hi, Option.bind_some, e, idxO_at x w 0 hw, Option.bind_some, Int.toNat_natCast]
    rfl
  · intro x
    rw [cOrd_L1_eq, lt_n, cond_false]
theorem QuoOk.row {g : List (List Int)} {sh : List Bool} (hg : Gok g sh) {nm : List Int} (hn : NmsOk g sh nm) {q : List (List Int)} (h : QuoOk g nm q) {a : Nat} (ha : a < g.length) : (∀ y ∈ q.getD a [], ∃ w : Nat, y = (w : Int) ∧ w < g.length) ∧ (q.getD a []).length ≤ 24 := by
  have h1 : ∀ y ∈ q.getD a [], ∃ w : Nat, y = (w : Int) ∧ w < g.length := fun y hy => by
    obtain ⟨x, w, _, e, _, hw, _⟩ := (((h.2 a ha).2 y).1 hy).rch hg hn
    exact ⟨w, e, hw⟩
  refine ⟨h1, ?_⟩
  have := nodup_bound g.length (q.getD a []) ((h.2 a ha).1.imp (fun h => by omega)) (fun x hx => by obtain ⟨w, e, hw⟩ := h1 x hx; omega)
  have := hg.n24
  omega
theorem ord_L4 {g : List (List Int)} {sh : List Bool} (hg : Gok g sh) {nm : List Int} (hn : NmsOk g sh nm) {q : List (List Int)} (h : QuoOk g nm q) :
    ∃ x, loopO (cOrd_L4 q) (List.replicate g.length 0, 0) = some (x, ((q.length : Nat) : Int)) ∧ x.length = g.length ∧ ∀ w, w < g.length → x.getD w 0 = (inC g nm [] w : Int) := by
  have h24 := hg.n24
  have key : ∃ x, loopO (cOrd_L4 q) (List.replicate g.length 0, 0) = some (x, ((q.length : Nat) : Int)) ∧ (x.length = g.length ∧ ∀ w, w < g.length → x.getD w 0 = (((List.range q.length).countP (inP g nm [] w) : Nat) : Int)) := by
    refine loopO_cnt (step := cOrd_L4 q) q.length (fun x i => (x, ((i : Nat) : Int))) (fun x => (x, ((q.length : Nat) : Int))) (fun V x => x.length = g.length ∧ ∀ w, w < g.length → x.getD w 0 = (((List.range V).countP (inP g nm [] w) : Nat) : Int)) ?_ ?_ _ ?_
    · rintro V x hV ⟨hl, hx⟩
      have hV2 : V < g.length := by rw [h.1] at hV; exact hV
      obtain ⟨hr1, hr2⟩ := h.row hg hn hV2
      obtain ⟨x', e1, e2, e3⟩ := ord_L3 (q.getD V []) x g.length hl h24 (h.2 V hV2).1 (by omega) hr1 (fun w hw => by
        rw [hx w hw]
        have := List.countP_le_length (p := inP g nm [] w) (l := List.range V)
        rw [List.length_range] at this
        omega)
      try dsimp only
      rw [cOrd_L4_eq, lt_c hV, cond_true, idxO_at q V [] hV, Option.bind_some, e1, Option.bind_some]
      try dsimp only
      rw [wrap_sm (by omega)]
      refine ⟨x', rfl, e2, fun w hw => ?_⟩
      rw [e3 w hw, hx w hw, List.range_succ, List.countP_append]
      have hm : (w : Int) ∈ q.getD V [] ↔ inP g nm [] w V = true := by
        rw [(h.2 V hV2).2, inP_iff]; simp
      simp only [List.countP_cons, List.countP_nil, hm]
      split <;> simp
    · intro x _
      try dsimp only
      rw [cOrd_L4_eq, lt_n, cond_false]
    · refine ⟨by simp, fun w hw => ?_⟩
      simp [List.getD, List.getElem?_replicate, hw]
  obtain ⟨x, k1, k2, k3⟩ := key
  exact ⟨x, k1, k2, fun w hw => by rw [k3 w hw, h.1]; rfl⟩
noncomputable def rchB (g : List (List Int)) (sh : List Bool) (a w : Nat) : Bool := open Classical in decide (Rch g sh w a)
theorem rchB_iff {g : List (List Int)} {sh : List Bool} {a w : Nat} : rchB g sh a w = true ↔ Rch g sh w a := by unfold rchB; simp only [decide_eq_true_eq]
theorem QE.rank {g : List (List Int)} {sh : List Bool} (hg : Gok g sh) {nm : List Int} (hn : NmsOk g sh nm) {x y : Nat} (h : QE g nm (x : Int) (y : Int)) : (List.range g.length).countP (rchB g sh x) < (List.range g.length).countP (rchB g sh y) := by
  obtain ⟨x', y', e1, e2, hx, hy, _, _, _, _, h1, h2⟩ := h.rch hg hn
  obtain rfl : x = x' := by omega
  obtain rfl : y = y' := by omega
  refine countP_lt _ (fun w _ hw => rchB_iff.2 ((rchB_iff.1 hw).trans h1)) ⟨y, by simpa using hy, rchB_iff.2 (.refl y), ?_⟩
  cases c : rchB g sh x y with
  | false => rfl
  | true => exact absurd (rchB_iff.1 c) h2
theorem ord_L2 {g : List (List Int)} {sh : List Bool} (hg : Gok g sh) {nm : List Int} (hn : NmsOk g sh nm) {q : List (List Int)} (h : QuoOk g nm q) (bf : List Int) (hb : bf.length = g.length) (hbf : ∀ w, w < g.length → bf.getD w 0 = (inC g nm [] w : Int)) :
    ∃ o, loopO (cOrd_L2 q nm) (bf, []) = some (o, 0) ∧ OrdOk g nm o := by
  have h24 := hg.n24
  suffices key : ∃ e, loopO (cOrd_L2 q nm) (bf, []) = some e ∧ (e.2 = 0 ∧ OrdOk g nm e.1) by
    obtain ⟨⟨o, z⟩, k1, rfl, k2⟩ := key
    exact ⟨o, k1, k2⟩
  refine loopO_inv (step := cOrd_L2 q nm) (fun s => Greedy g nm s.2 ∧ s.1.length = g.length ∧ ∀ w, w < g.length → s.1.getD w 0 = (inC g nm s.2 w : Int)) (fun s => g.length + 1 - s.2.length) _ ?_ (bf, []) ⟨fun pre x suf e => by simp at e, hb, hbf⟩
  rintro ⟨bf, o⟩ ⟨hG, hb, hbf⟩
  dsimp only at hG hb hbf
  have hlo := hG.len
  have hOP : ∀ v, v < g.length → nm.getD v (-1) = (v : Int) → (OP nm bf o v ↔ Avail g nm o v) := by
    intro v hv e
    unfold OP Avail
    rw [e, Int.toNat_natCast, hbf v hv, ← inC_zero hg hn]
    constructor
    · rintro ⟨_, h2, h3⟩; exact ⟨hv, rfl, h3, by omega⟩
    · rintro ⟨_, _, h3, h4⟩; exact ⟨by omega, by omega, h3⟩
  rw [cOrd_L2_eq]
  rcases ord_idx nm bf o (by rw [hn.1]; exact h24) (by omega) (fun v hv => by rw [hb]; rw [hn.1] at hv; exact hn.lt hg hv) with ⟨e1, hnone⟩ | ⟨v, hv, e1, hP, hmin⟩
  · rw [e1, Option.bind_some]
    try dsimp only
    rw [decide_eq_true (by omega), cond_true]
    refine ⟨_, rfl, rfl, hG, ?_⟩
    have key : ∀ r a, a < g.length → nm.getD a (-1) = (a : Int) → (List.range g.length).countP (rchB g sh a) ≤ r → (a : Int) ∈ o := by
      intro r
      induction r with
      | zero =>
        intro a ha e hr
        have : 0 < (List.range g.length).countP (rchB g sh a) := List.countP_pos_iff.2 ⟨a, by simpa using ha, rchB_iff.2 (.refl a)⟩
        omega
      | succ r ih =>
        intro a ha e hr
        by_cases hm : (a : Int) ∈ o
        · exact hm
        · refine absurd ((hOP a ha e).2 ⟨ha, e, hm, fun p hp => ?_⟩) (hnone a (by rw [hn.1]; exact ha))
          obtain ⟨x, y, rfl, e2, hx, hy, hxx, _, _⟩ := hp.rch hg hn
          have := hp.rank hg hn
          exact ih x hx hxx (by omega)
    exact fun a ha e => key _ a ha e (Nat.le_refl _)
  · have hv2 : v < g.length := by rw [hn.1] at hv; exact hv
    obtain ⟨y, ey, hy, _, _, hyy, hyv, _, _⟩ := hn.name hg hv2 hP.1
    have hvy : y = v := by
      rcases Nat.lt_or_ge y v with h9 | h9
      · refine absurd ?_ (hmin y h9)
        unfold OP at hP ⊢
        rw [ey] at hP
        rw [hyy]
        exact hP
      · omega
    subst hvy
    have hA := (hOP y hv2 hyy).1 hP
    have hG2 := hG.snoc hA (fun z hz hAz => hmin z hz ((hOP z hAz.1 hAz.2.1).2 hAz))
    have hlo2 := hG2.len
    simp only [List.length_append, List.length_cons, List.length_nil] at hlo2
    obtain ⟨hr1, hr2⟩ := h.row hg hn hv2
    obtain ⟨x', e3, e4, e5⟩ := ord_L1 (q.getD y []) bf g.length hb h24 (h.2 y hv2).1 (by omega) hr1 (fun w hw => by rw [hbf w hw]; have := inC_le g nm o w; omega)
    rw [e1, Option.bind_some]
    try dsimp only
    rw [decide_eq_false (by omega), cond_false, idxO_at q y [] (by rw [h.1]; exact hv2), Option.bind_some, e3, Option.bind_some]
    try dsimp only
    rw [decide_eq_true (by omega), cond_true]
    refine ⟨_, rfl, ⟨hG2, e4, fun w hw => ?_⟩, ?_⟩
    · dsimp only
      rw [e5 w hw, hbf w hw, inC_snoc hv2 hA.2.2.1]
      have hm := (h.2 y hv2).2 (w : Int)
      by_cases c : QE g nm (y : Int) (w : Int)
      · rw [if_pos (hm.2 c), if_pos c]; omega
      · rw [if_neg (fun h9 => c (hm.1 h9)), if_neg c]; omega
    · dsimp only
      simp only [List.length_append, List.length_cons, List.length_nil]
      omega
theorem order_at {g : List (List Int)} {sh : List Bool} (hv : Gval g) (hs : sh.length = g.length) (h13 : g.length ≤ 13) : ∃ o, cOrd_v g sh = some (o, 0) ∧ OrdOk g (namesV g sh) o := by
  have hg := hv.ok hs
  have hn := namesV_ok g sh
  have h24 := hg.n24
  obtain ⟨q, h1, h2⟩ := quot_at hv hs h13
  obtain ⟨x, h3, h4, h5⟩ := ord_L4 hg hn h2
  obtain ⟨o, h6, h7⟩ := ord_L2 hg hn h2 x h4 h5
  unfold cOrd_v
  rw [h1, Option.bind_some]
  try dsimp only
  rw [show decide ((0 : Int) = 0) = true from rfl, cond_true, hv.names hs, Option.bind_some]
  try dsimp only
  rw [decide_eq_true (by omega), cond_true, h3, Option.bind_some]
  try dsimp only
  rw [h6, Option.bind_some]
  exact ⟨o, rfl, h7⟩
end Go.Am
end
section
namespace Go.Am
open Go Go.Proofs
set_option maxRecDepth 100000
set_option linter.unusedVariables false
set_option linter.unusedSimpArgs false
theorem ext_getD {α : Type} {a b : List α} (d : α) (hl : a.length = b.length) : a = b ↔ ∀ i, i < a.length → a.getD i d = b.getD i d := by
  constructor
  · rintro rfl _ _; rfl
  · intro h
    apply List.ext_getElem hl
    intro i h1 h2
    have := h i h1
    rwa [getD_eq h1, getD_eq h2] at this
theorem sameI_at (a b : List Int) (ha : a.length ≤ 1000000) : sameI_v a b = some (decide (a = b)) := by
  unfold sameI_v
  by_cases hl : a.length = b.length
  · rw [decide_eq_true (by omega), cond_true]
    have h := loopO_all (step := sameI_L1 a b) a.length (fun i => ((i : Nat) : Int)) (.inl ((a.length : Nat) : Int)) (.inr false) (fun i => decide (a.getD i 0 = b.getD i 0)) ?_ ?_
    · rw [show (0 : Int) = ((0 : Nat) : Int) from rfl, h, Option.bind_some]
      by_cases h2 : ∀ j, j < a.length → decide (a.getD j 0 = b.getD j 0) = true
      · rw [if_pos h2]; dsimp only; rw [decide_eq_true ((ext_getD 0 hl).2 fun i hi => of_decide_eq_true (h2 i hi))]
      · rw [if_neg h2]; dsimp only; rw [decide_eq_false (fun h3 => h2 fun i hi => decide_eq_true ((ext_getD 0 hl).1 h3 i hi))]
    · intro i hi _
      rw [sameI_L1_eq, lt_c hi, cond_true, idxO_at a i 0 hi, Option.bind_some, idxO_at b i 0 (by omega), Option.bind_some]
      by_cases c : a.getD i 0 = b.getD i 0
      · rw [decide_eq_true c, cond_true, wrap_sm (by omega)]; rfl
      · rw [decide_eq_false c, cond_false]; rfl
    · intro _
      rw [sameI_L1_eq, lt_n, cond_false]
  · rw [decide_eq_false (by omega), cond_false, decide_eq_false (fun h => hl (by rw [h]))]
theorem sameLs_at (a b : List (List Int)) (ha : a.length ≤ 1000000) (hr : ∀ i, i < a.length → (a.getD i []).length ≤ 1000000) : sameLs_v a b = some (decide (a = b)) := by
  unfold sameLs_v
  by_cases hl : a.length = b.length
  · rw [decide_eq_true (by omega), cond_true]
    have h := loopO_all (step := sameLs_L1 a b) a.length (fun i => ((i : Nat) : Int)) (.inl ((a.length : Nat) : Int)) (.inr false) (fun i => decide (a.getD i [] = b.getD i [])) ?_ ?_
    · rw [show (0 : Int) = ((0 : Nat) : Int) from rfl, h, Option.bind_some]
      by_cases h2 : ∀ j, j < a.length → decide (a.getD j [] = b.getD j []) = true
      · rw [if_pos h2]; dsimp only; rw [decide_eq_true ((ext_getD [] hl).2 fun i hi => of_decide_eq_true (h2 i hi))]
      · rw [if_neg h2]; dsimp only; rw [decide_eq_false (fun h3 => h2 fun i hi => decide_eq_true ((ext_getD [] hl).1 h3 i hi))]
    · intro i hi _
      rw [sameLs_L1_eq, lt_c hi, cond_true, idxO_at a i [] hi, Option.bind_some, idxO_at b i [] (by omega), Option.bind_some, sameI_at _ _ (hr i hi), Option.bind_some]
      by_cases c : a.getD i [] = b.getD i []
      · rw [decide_eq_true c, cond_true, wrap_sm (by omega)]; rfl
      · rw [decide_eq_false c, cond_false]; rfl
    · intro _
      rw [sameLs_L1_eq, lt_n, cond_false]
  · rw [decide_eq_false (by omega), cond_false, decide_eq_false (fun h => hl (by rw [h]))]
def gK : List (List Int) := [[1], [0, 2], []]
def sK : List Bool := [false, false, false]
theorem gK_val : Gval gK := ⟨by decide, by decide⟩
theorem rchK2 {z : Nat} (h : Rch gK sK 2 z) : z = 2 := by
  generalize h2 : 2 = u at h
  induction h with
  | refl => rfl
  | tail _ e ih =>
    subst h2
    rw [ih] at e
    have h1 := e.1
    simp [gK, List.getD] at h1
theorem nmK : namesV gK sK = [0, 0, 2] := by
  refine namesV_eq ⟨rfl, ?_⟩
  have e01 : Rch gK sK 0 1 := (Rch.refl 0).tail ⟨by decide, by decide⟩
  have e10 : Rch gK sK 1 0 := (Rch.refl 1).tail ⟨by decide, by decide⟩
  intro v hv
  have hv3 : v < 3 := hv
  match v, hv3 with
  | 0, _ => exact ⟨fun _ => ⟨by decide, 0, rfl, .refl 0, .refl 0, fun z _ _ => Nat.zero_le z⟩, fun h => by cases h⟩
  | 1, _ => exact ⟨fun _ => ⟨by decide, 0, rfl, e10, e01, fun z _ _ => Nat.zero_le z⟩, fun h => by cases h⟩
  | 2, _ => exact ⟨fun _ => ⟨by decide, 2, rfl, .refl 2, .refl 2, fun z h _ => by rw [rchK2 h]; exact Nat.le_refl _⟩, fun h => by cases h⟩
theorem qeK (a b : Int) : QE gK [0, 0, 2] a b ↔ a = 0 ∧ b = 2 := by
  constructor
  · rintro ⟨v, k, hv, hk, h1, h2, h3, h4, h5⟩
    have hv3 : v < 3 := hv
    match v, hv3 with
    | 0, _ =>
      have hk1 : k < 1 := hk
      obtain rfl : k = 0 := by omega
      simp [gK, List.getD] at h1 h2
      omega
    | 1, _ =>
      have hk1 : k < 2 := hk
      match k, hk1 with
      | 0, _ => simp [gK, List.getD] at h1 h2; omega
      | 1, _ => simp [gK, List.getD] at h1 h2; omega
    | 2, _ => have hk1 : k < 0 := hk; omega
  · rintro ⟨rfl, rfl⟩
    exact ⟨1, 1, by decide, by decide, by decide, by decide, by decide, by decide, by decide⟩
theorem quoK {q : List (List Int)} (h : QuoOk gK [0, 0, 2] q) : q = [[2], [], []] := by
  obtain ⟨h1, h2⟩ := h
  match q, h1 with
  | [a, b, c], _ =>
    have ha := h2 0 (by decide)
    have hb := h2 1 (by decide)
    have hc := h2 2 (by decide)
    simp only [qeK] at ha hb hc
    have eb : b = [] := List.eq_nil_iff_forall_not_mem.2 fun x hx => by have := (hb.2 x).1 hx; omega
    have ec : c = [] := List.eq_nil_iff_forall_not_mem.2 fun x hx => by have := (hc.2 x).1 hx; omega
    have ea : a = [2] := by
      have hm : ∀ x, x ∈ a ↔ x = 2 := fun x => by have := ha.2 x; simp only [List.getD_cons_zero] at this; rw [this]; simp
      have hp := ha.1
      simp only [List.getD_cons_zero] at hp
      match a with
      | [] => exact absurd ((hm 2).2 rfl) (by simp)
      | [x] => rw [(hm x).1 (by simp)]
      | x :: y :: r =>
        have e1 := (hm x).1 (by simp)
        have e2 := (hm y).1 (by simp)
        have := (List.pairwise_cons.1 hp).1 y (by simp)
        omega
    rw [ea, eb, ec]
theorem ordK {o : List Int} (h : OrdOk gK [0, 0, 2] o) : o = [0, 2] := by
  obtain ⟨hG, hA⟩ := h
  have h0 := hA 0 (by decide) (by decide)
  have h2 := hA 2 (by decide) (by decide)
  have hnd := hG.nodup
  have hel : ∀ x ∈ o, x = 0 ∨ x = 2 := fun x hx => by
    obtain ⟨y, rfl, hy, e⟩ := hG.mem hx
    have hy3 : y < 3 := hy
    match y, hy3 with
    | 0, _ => exact .inl rfl
    | 1, _ => simp [List.getD] at e
    | 2, _ => exact .inr rfl
  match o with
  | [] => simp at h0
  | [x] => simp at h0 h2; omega
  | [x, y] =>
    obtain ⟨z, rfl, hz, _⟩ := hG [] x [y] rfl
    have hx := hel (z : Int) (by simp)
    have hy := hel y (by simp)
    have hz2 : (z : Int) ≠ 2 := fun e => by
      have := hz.2.2.2 0 ((qeK 0 z).2 ⟨rfl, e⟩)
      simp at this
    have hne : (z : Int) ≠ y := fun e => by subst e; simp at hnd
    have e1 : (z : Int) = 0 := by omega
    have e2 : y = 2 := by omega
    rw [e1, e2]
  | x :: y :: w :: r =>
    have hx := hel x (by simp)
    have hy := hel y (by simp)
    have hw := hel w (by simp)
    simp only [List.nodup_cons, List.mem_cons, not_or] at hnd
    omega
theorem known05_at : known05_v = some true := by
  obtain ⟨q, h1, h2⟩ := quot_at gK_val (sh := sK) rfl (by decide)
  obtain ⟨o, h3, h4⟩ := order_at gK_val (sh := sK) rfl (by decide)
  have h5 := gK_val.names (sh := sK) rfl
  rw [nmK] at h2 h4 h5
  rw [quoK h2] at h1
  rw [ordK h4] at h3
  unfold known05_v
  have h1' : cQuot_v [[1], [0, 2], []] [false, false, false] = some ([[2], [], []], 0) := h1
  have h3' : cOrd_v [[1], [0, 2], []] [false, false, false] = some ([0, 2], 0) := h3
  have h5' : cNames_v [[1], [0, 2], []] [false, false, false] = some ([0, 0, 2], 0) := h5
  rw [h5', Option.bind_some]
  dsimp only
  rw [h3', Option.bind_some]
  dsimp only
  rw [h1', Option.bind_some]
  dsimp only
  rw [sameI_at _ _ (by decide), sameI_at _ _ (by decide), sameLs_at _ _ (by decide) (by decide)]
  rfl
theorem known05_ok : ACalls Try.prog 12 [] [] fun h d => h = [] ∧ d = .p (.bool true) := known05_vok true known05_at
end Go.Am
end
section
namespace Go.Am
open Go Go.Proofs
set_option maxRecDepth 100000
set_option maxHeartbeats 2000000
set_option linter.unusedSimpArgs false
set_option linter.unusedVariables false
noncomputable def lawMutual_L1 (y1 : List (List Int)) (y5 : List Bool) (x9 : List Int) (v15 : Int) (x26 : Int) (x32 : List Bool) : Int → Option ((Int) ⊕ (Int ⊕ Bool))
  | v38 => cond (decide (v38 < ((y1.length : Nat) : Int))) (Option.bind (rFrom_v y1 y5 v38) fun (x45, x46) => cond (decide (x46 = 0)) (cond (decide (((x45.length : Nat) : Int) = ((y1.length : Nat) : Int))) (Option.bind (idxO x32 v38) fun x50 => cond x50 (Option.bind (idxO x45 v15) fun x61 => cond (decide (0 ≤ x26)) (Option.bind (idxO x9 v38) fun x67 => cond (x61 == decide (x26 = x67)) (some (Sum.inl (IntKind.i64.wrap (v38 + 1)))) (some (Sum.inr (.inr ((false : Bool)))))) (cond (x61 == false) (some (Sum.inl (IntKind.i64.wrap (v38 + 1)))) (some (Sum.inr (.inr ((false : Bool))))))) (cond (decide (0 ≤ x26)) (Option.bind (idxO x9 v38) fun x56 => cond (false == decide (x26 = x56)) (some (Sum.inl (IntKind.i64.wrap (v38 + 1)))) (some (Sum.inr (.inr ((false : Bool)))))) (some (Sum.inl (IntKind.i64.wrap (v38 + 1)))))) (some (Sum.inr (.inr ((false : Bool)))))) (some (Sum.inr (.inr ((false : Bool)))))) (some (Sum.inr (.inl v38)))
theorem lawMutual_L1_eq (y1 : List (List Int)) (y5 : List Bool) (x9 : List Int) (v15 : Int) (x26 : Int) (x32 : List Bool) (v38 : Int) : lawMutual_L1 y1 y5 x9 v15 x26 x32 v38 = cond (decide (v38 < ((y1.length : Nat) : Int))) (Option.bind (rFrom_v y1 y5 v38) fun (x45, x46) => cond (decide (x46 = 0)) (cond (decide (((x45.length : Nat) : Int) = ((y1.length : Nat) : Int))) (Option.bind (idxO x32 v38) fun x50 => cond x50 (Option.bind (idxO x45 v15) fun x61 => cond (decide (0 ≤ x26)) (Option.bind (idxO x9 v38) fun x67 => cond (x61 == decide (x26 = x67)) (some (Sum.inl (IntKind.i64.wrap (v38 + 1)))) (some (Sum.inr (.inr ((false : Bool)))))) (cond (x61 == false) (some (Sum.inl (IntKind.i64.wrap (v38 + 1)))) (some (Sum.inr (.inr ((false : Bool))))))) (cond (decide (0 ≤ x26)) (Option.bind (idxO x9 v38) fun x56 => cond (false == decide (x26 = x56)) (some (Sum.inl (IntKind.i64.wrap (v38 + 1)))) (some (Sum.inr (.inr ((false : Bool)))))) (some (Sum.inl (IntKind.i64.wrap (v38 + 1)))))) (some (Sum.inr (.inr ((false : Bool)))))) (some (Sum.inr (.inr ((false : Bool)))))) (some (Sum.inr (.inl v38))) := rfl
noncomputable def lawMutual_L2 (y1 : List (List Int)) (y5 : List Bool) (x9 : List Int) : Int → Option ((Int) ⊕ (Int ⊕ Bool))
  | v15 => cond (decide (v15 < ((y1.length : Nat) : Int))) (Option.bind (idxO y5 v15) fun x22 => Option.bind (idxO x9 v15) fun x26 => cond (x22 == decide (x26 < 0)) (cond (decide (v15 < x26)) (some (Sum.inr (.inr ((false : Bool))))) (Option.bind (rFrom_v y1 y5 v15) fun (x32, x33) => cond (decide (x33 = 0)) (cond (decide (((x32.length : Nat) : Int) = ((y1.length : Nat) : Int))) (Option.bind (loopO (lawMutual_L1 y1 y5 x9 v15 x26 x32) 0) (fun | .inl v72 => some (Sum.inl (IntKind.i64.wrap (v15 + 1))) | .inr (r73) => some (Sum.inr (.inr (r73))))) (some (Sum.inr (.inr ((false : Bool)))))) (some (Sum.inr (.inr ((false : Bool))))))) (some (Sum.inr (.inr ((false : Bool)))))) (some (Sum.inr (.inl v15)))
theorem lawMutual_L2_eq (y1 : List (List Int)) (y5 : List Bool) (x9 : List Int) (v15 : Int) : lawMutual_L2 y1 y5 x9 v15 = cond (decide (v15 < ((y1.length : Nat) : Int))) (Option.bind (idxO y5 v15) fun x22 => Option.bind (idxO x9 v15) fun x26 => cond (x22 == decide (x26 < 0)) (cond (decide (v15 < x26)) (some (Sum.inr (.inr ((false : Bool))))) (Option.bind (rFrom_v y1 y5 v15) fun (x32, x33) => cond (decide (x33 = 0)) (cond (decide (((x32.length : Nat) : Int) = ((y1.length : Nat) : Int))) (Option.bind (loopO (lawMutual_L1 y1 y5 x9 v15 x26 x32) 0) (fun | .inl v72 => some (Sum.inl (IntKind.i64.wrap (v15 + 1))) | .inr (r73) => some (Sum.inr (.inr (r73))))) (some (Sum.inr (.inr ((false : Bool)))))) (some (Sum.inr (.inr ((false : Bool))))))) (some (Sum.inr (.inr ((false : Bool)))))) (some (Sum.inr (.inl v15))) := rfl
noncomputable def lawMutual_v (a0 : List Int) (y1 : List (List Int)) (y2 : List Int) (y3 : Int) (y5 : List Bool) (y6 : List Int) (y7 : Int) : Option (Bool) :=
  Option.bind (cNames_v y1 y5) fun (x9, x10) => cond (decide (x10 = 0)) (cond (decide (((x9.length : Nat) : Int) = ((y1.length : Nat) : Int))) (Option.bind (loopO (lawMutual_L2 y1 y5 x9) 0) (fun | .inl v74 => some true | .inr (r75) => some r75)) (some false)) (some false)
theorem lawMutual_vok (a0 : List Int) (r : Bool) (hr : ∀ (y1 : List (List Int)) (y2 : List Int) (y3 : Int), GraphQ a0 y1 y2 y3 → ∀ (y5 : List Bool) (y6 : List Int) (y7 : Int), ShutQ y2 y3 ((y1.length : Nat) : Int) y5 y6 y7 → lawMutual_v a0 y1 y2 y3 y5 y6 y7 = some r) :
    ACalls Try.prog 7 [.p (.sl (encI a0))] [] fun h d => h = [] ∧ d = .p (.bool r) := by
  refine ACalls_X Try.func7 rfl enters7 (by simp [Try.f7]) ?_
  unfold lawMutual_v at hr
  try simp only [go_sem]
  refine Cc_of known05_ok ?_
  rintro h' r ⟨rfl, rfl⟩
  try simp only [go_sem]
  refine Cc_of (graph8 a0) ?_
  rintro h' r ⟨y1, y2, y3, q4, rfl, rfl⟩
  replace hr := hr y1 y2 y3 q4
  try simp only [go_sem]
  refine Cc_of (shut8 y2 y3 ((y1.length : Nat) : Int) q4) ?_
  rintro h' r ⟨y5, y6, y7, q8, rfl, rfl⟩
  replace hr := hr y5 y6 y7 q8
  rcases g11 : cNames_v y1 y5 with _ | ⟨x9, x10⟩
  · simp only [g11, Option.bind_none, reduceCtorEq] at hr
  simp only [g11, Option.bind_some] at hr
  try simp only [go_sem]
  refine Cc_of (cNames_vok y1 y5 _ g11) ?_
  rintro h' r ⟨rfl, rfl⟩
  cases c12 : decide (x10 = 0)
  · simp only [c12, cond_false] at hr
    obtain rfl := Option.some.inj hr
    try simp only [go_sem, c12]
    all_goals (try refine end_pure ?_)
    all_goals (try simp only [go_sem, c12])
    all_goals (try (first | rfl | exact ⟨rfl, rfl⟩ | (simp; done)))
  simp only [c12, cond_true] at hr
  cases c13 : decide (((x9.length : Nat) : Int) = ((y1.length : Nat) : Int))
  · simp only [c13, cond_false] at hr
    obtain rfl := Option.some.inj hr
    try simp only [go_sem, c12, c13]
    all_goals (try refine end_pure ?_)
    all_goals (try simp only [go_sem, c12, c13])
    all_goals (try (first | rfl | exact ⟨rfl, rfl⟩ | (simp; done)))
  simp only [c13, cond_true] at hr
  rcases g20 : loopO (lawMutual_L2 y1 y5 x9) 0 with _ | e19
  · simp only [g20, Option.bind_none, reduceCtorEq] at hr
  simp only [g20, Option.bind_some] at hr
  try simp only [go_sem, c12, c13]
  refine X_loopO g20 (fun q : Int => ⟨[(4, .p (.sl (encG y1))), (5, .p (.sl (encT y5))), (6, .p (.sl (encI x9))), (8, .p (.int .i64 q))], [], 131⟩) ((Wk.forget (by simp [Le, LeE, LeH, get, envIds, hpIds, KeepH, D.ids, idsL, AO.ids, setL, base, encI_nil, encS_nil, encT_nil, encG_nil, encC_nil, encL_nil, encK_nil, encP_nil, mpS_nil, mpB_nil, encI_consE, encS_consE, encT_consE, encG_consE, encI_one, encS_one, encT_one, encI_snoc, encS_snoc, encT_snocE, encG_snocE, encC_snoc, encL_snoc, encK_snocE, encP_snocE, encI_set, encS_set, encT_setE, encG_setE, encC_setE, encK_setE, encP_setE, encI_len, encS_len, encT_len2, encG_len2, encC_len, encL_len, encK_len2, encP_len2, encW_len, dT_ids, dI_ids, dT_len, dI_len, List.length_set, encI_takeM, List.take_length]))) ?_
  rintro v15 m18 hh16 ih17
  rw [lawMutual_L2_eq] at hh16
  cases c21 : decide (v15 < ((y1.length : Nat) : Int))
  · simp only [c21, cond_false] at hh16
    simp only [Option.bind_some, nextO_inr] at hh16
    obtain rfl := Option.some.inj hh16
    try dsimp only at hr
    obtain rfl := Option.some.inj hr
    try simp only [go_sem, c12, c13, c21]
    all_goals (try refine end_pure ?_)
    all_goals (try simp only [go_sem, c12, c13, c21])
    all_goals (try (first | rfl | exact ⟨rfl, rfl⟩ | (simp; done)))
  simp only [c21, cond_true] at hh16
  try simp only [go_sem, c12, c13, c21]
  refine X_any0 mixed (p := [(0, 0), (1, 0), (2, 0), (3, 0), (4, 0), (5, 0), (6, 0), (7, 0), (8, 0), (9, 0), (10, 0), (11, 0), (12, 0), (13, 0), (14, 0), (15, 0), (16, 0), (17, 0)]) (by kernel_rfl) (by simp [LeH, get]) ?_
  rcases g23 : idxO y5 v15 with _ | x22
  · simp only [g23, Option.bind_none, reduceCtorEq] at hh16
  simp only [g23, Option.bind_some] at hh16
  have f24 := idxO_rng g23
  have f25 : (encT y5).getD (Int.toNat v15) [] = [(.bool x22)] := idxO_map _ g23
  rcases g27 : idxO x9 v15 with _ | x26
  · simp only [g27, Option.bind_none, reduceCtorEq] at hh16
  simp only [g27, Option.bind_some] at hh16
  have f28 := idxO_rng g27
  have f29 : (encI x9).getD (Int.toNat v15) [] = [(.int .i64 x26)] := idxO_map _ g27
  cases c30 : x22 == decide (x26 < 0)
  · simp only [c30, cond_false] at hh16
    simp only [Option.bind_some, nextO_inr] at hh16
    obtain rfl := Option.some.inj hh16
    try dsimp only at hr
    obtain rfl := Option.some.inj hr
    try simp only [go_sem, c12, c13, c21, f24, f25, f28, f29, c30]
    all_goals (try refine end_pure ?_)
    all_goals (try simp only [go_sem, c12, c13, c21, f24, f25, f28, f29, c30])
    all_goals (try (first | rfl | exact ⟨rfl, rfl⟩ | (simp; done)))
  simp only [c30, cond_true] at hh16
  cases c31 : decide (v15 < x26)
  · simp only [c31, cond_false] at hh16
    rcases g34 : rFrom_v y1 y5 v15 with _ | ⟨x32, x33⟩
    · simp only [g34, Option.bind_none, reduceCtorEq] at hh16
    simp only [g34, Option.bind_some] at hh16
    try simp only [go_sem, c12, c13, c21, f24, f25, f28, f29, c30, c31]
    refine Cc_of (rFrom_vok y1 y5 v15 _ g34) ?_
    rintro h' r ⟨rfl, rfl⟩
    cases c35 : decide (x33 = 0)
    · simp only [c35, cond_false] at hh16
      simp only [Option.bind_some, nextO_inr] at hh16
      obtain rfl := Option.some.inj hh16
      try dsimp only at hr
      obtain rfl := Option.some.inj hr
      try simp only [go_sem, c12, c13, c21, f24, f25, f28, f29, c30, c31, c35]
      all_goals (try refine end_pure ?_)
      all_goals (try simp only [go_sem, c12, c13, c21, f24, f25, f28, f29, c30, c31, c35])
      all_goals (try (first | rfl | exact ⟨rfl, rfl⟩ | (simp; done)))
    simp only [c35, cond_true] at hh16
    cases c36 : decide (((x32.length : Nat) : Int) = ((y1.length : Nat) : Int))
    · simp only [c36, cond_false] at hh16
      simp only [Option.bind_some, nextO_inr] at hh16
      obtain rfl := Option.some.inj hh16
      try dsimp only at hr
      obtain rfl := Option.some.inj hr
      try simp only [go_sem, c12, c13, c21, f24, f25, f28, f29, c30, c31, c35, c36]
      all_goals (try refine end_pure ?_)
      all_goals (try simp only [go_sem, c12, c13, c21, f24, f25, f28, f29, c30, c31, c35, c36])
      all_goals (try (first | rfl | exact ⟨rfl, rfl⟩ | (simp; done)))
    simp only [c36, cond_true] at hh16
    rcases g43 : loopO (lawMutual_L1 y1 y5 x9 v15 x26 x32) 0 with _ | e42
    · simp only [g43, Option.bind_none, reduceCtorEq] at hh16
    simp only [g43, Option.bind_some] at hh16
    try simp only [go_sem, c12, c13, c21, f24, f25, f28, f29, c30, c31, c35, c36]
    refine X_loopO g43 (fun q : Int => ⟨[(4, .p (.sl (encG y1))), (5, .p (.sl (encT y5))), (6, .p (.sl (encI x9))), (8, .p (.int .i64 v15)), (9, .p (.sl (encT x32))), (11, .p (.int .i64 q))], [], 131⟩) ((Wk.forget (by simp [Le, LeE, LeH, get, envIds, hpIds, KeepH, D.ids, idsL, AO.ids, setL, base, encI_nil, encS_nil, encT_nil, encG_nil, encC_nil, encL_nil, encK_nil, encP_nil, mpS_nil, mpB_nil, encI_consE, encS_consE, encT_consE, encG_consE, encI_one, encS_one, encT_one, encI_snoc, encS_snoc, encT_snocE, encG_snocE, encC_snoc, encL_snoc, encK_snocE, encP_snocE, encI_set, encS_set, encT_setE, encG_setE, encC_setE, encK_setE, encP_setE, encI_len, encS_len, encT_len2, encG_len2, encC_len, encL_len, encK_len2, encP_len2, encW_len, dT_ids, dI_ids, dT_len, dI_len, List.length_set, encI_takeM, List.take_length, c30]))) ?_
    rintro v38 m41 hh39 ih40
    rw [lawMutual_L1_eq] at hh39
    cases c44 : decide (v38 < ((y1.length : Nat) : Int))
    · simp only [c44, cond_false] at hh39
      simp only [Option.bind_some, nextO_inr] at hh39
      obtain rfl := Option.some.inj hh39
      try dsimp only at hh16
      simp only [Option.bind_some, nextO_inl] at hh16
      try simp only [go_sem, c12, c13, c21, f24, f25, f28, f29, c30, c31, c35, c36, c44]
      exact ih17 (IntKind.i64.wrap (v15 + 1)) _ hh16 ((Wk.forget (by simp [Le, LeE, LeH, get, envIds, hpIds, KeepH, D.ids, idsL, AO.ids, setL, base, encI_nil, encS_nil, encT_nil, encG_nil, encC_nil, encL_nil, encK_nil, encP_nil, mpS_nil, mpB_nil, encI_consE, encS_consE, encT_consE, encG_consE, encI_one, encS_one, encT_one, encI_snoc, encS_snoc, encT_snocE, encG_snocE, encC_snoc, encL_snoc, encK_snocE, encP_snocE, encI_set, encS_set, encT_setE, encG_setE, encC_setE, encK_setE, encP_setE, encI_len, encS_len, encT_len2, encG_len2, encC_len, encL_len, encK_len2, encP_len2, encW_len, dT_ids, dI_ids, dT_len, dI_len, List.length_set, encI_takeM, List.take_length, c30])))
    simp only [c44, cond_true] at hh39
    rcases g47 : rFrom_v y1 y5 v38 with _ | ⟨x45, x46⟩
    · simp only [g47, Option.bind_none, reduceCtorEq] at hh39
    simp only [g47, Option.bind_some] at hh39
    try simp only [go_sem, c12, c13, c21, f24, f25, f28, f29, c30, c31, c35, c36, c44]
    refine Cc_of (rFrom_vok y1 y5 v38 _ g47) ?_
    rintro h' r ⟨rfl, rfl⟩
    try simp only [go_sem, c12, c13, c21, f24, f25, f28, f29, c30, c31, c35, c36, c44]
    refine X_any0 mixed (p := [(0, 0), (1, 0), (2, 0), (3, 0), (4, 0), (5, 0), (6, 0), (7, 0), (8, 0), (9, 0), (10, 0), (11, 0), (12, 0), (13, 0), (14, 0), (15, 0), (16, 0), (17, 0), (18, 0), (19, 0), (20, 0), (21, 0), (22, 0), (23, 0), (24, 0), (25, 0), (26, 0), (27, 0), (28, 0), (29, 0), (30, 0), (31, 0), (32, 0), (33, 0), (34, 0), (35, 0), (36, 0), (37, 0)]) (by kernel_rfl) (by simp [LeH, get]) ?_
    cases c48 : decide (x46 = 0)
    · simp only [c48, cond_false] at hh39
      simp only [Option.bind_some, nextO_inr] at hh39
      obtain rfl := Option.some.inj hh39
      try dsimp only at hh16
      simp only [Option.bind_some, nextO_inr] at hh16
      obtain rfl := Option.some.inj hh16
      try dsimp only at hr
      obtain rfl := Option.some.inj hr
      try simp only [go_sem, c12, c13, c21, f24, f25, f28, f29, c30, c31, c35, c36, c44, c48]
      all_goals (try refine end_pure ?_)
      all_goals (try simp only [go_sem, c12, c13, c21, f24, f25, f28, f29, c30, c31, c35, c36, c44, c48])
      all_goals (try (first | rfl | exact ⟨rfl, rfl⟩ | (simp; done)))
    simp only [c48, cond_true] at hh39
    cases c49 : decide (((x45.length : Nat) : Int) = ((y1.length : Nat) : Int))
    · simp only [c49, cond_false] at hh39
      simp only [Option.bind_some, nextO_inr] at hh39
      obtain rfl := Option.some.inj hh39
      try dsimp only at hh16
      simp only [Option.bind_some, nextO_inr] at hh16
      obtain rfl := Option.some.inj hh16
      try dsimp only at hr
      obtain rfl := Option.some.inj hr
      try simp only [go_sem, c12, c13, c21, f24, f25, f28, f29, c30, c31, c35, c36, c44, c48, c49]
      all_goals (try refine end_pure ?_)
      all_goals (try simp only [go_sem, c12, c13, c21, f24, f25, f28, f29, c30, c31, c35, c36, c44, c48, c49])
      all_goals (try (first | rfl | exact ⟨rfl, rfl⟩ | (simp; done)))
    simp only [c49, cond_true] at hh39
    rcases g51 : idxO x32 v38 with _ | x50
    · simp only [g51, Option.bind_none, reduceCtorEq] at hh39
    simp only [g51, Option.bind_some] at hh39
    have f52 := idxO_rng g51
    have f53 : (encT x32).getD (Int.toNat v38) [] = [(.bool x50)] := idxO_map _ g51
    cases c54 : x50
    · simp only [c54, cond_false] at hh39
      cases c55 : decide (0 ≤ x26)
      · simp only [c55, cond_false] at hh39
        simp only [Option.bind_some, nextO_inl] at hh39
        try simp only [go_sem, c12, c13, c21, f24, f25, f28, f29, c30, c31, c35, c36, c44, c48, c49, f52, f53, c54, c55]
        exact ih40 (IntKind.i64.wrap (v38 + 1)) _ hh39 ((Wk.forget (by simp [Le, LeE, LeH, get, envIds, hpIds, KeepH, D.ids, idsL, AO.ids, setL, base, encI_nil, encS_nil, encT_nil, encG_nil, encC_nil, encL_nil, encK_nil, encP_nil, mpS_nil, mpB_nil, encI_consE, encS_consE, encT_consE, encG_consE, encI_one, encS_one, encT_one, encI_snoc, encS_snoc, encT_snocE, encG_snocE, encC_snoc, encL_snoc, encK_snocE, encP_snocE, encI_set, encS_set, encT_setE, encG_setE, encC_setE, encK_setE, encP_setE, encI_len, encS_len, encT_len2, encG_len2, encC_len, encL_len, encK_len2, encP_len2, encW_len, dT_ids, dI_ids, dT_len, dI_len, List.length_set, encI_takeM, List.take_length, c30, c54])))
      simp only [c55, cond_true] at hh39
      rcases g57 : idxO x9 v38 with _ | x56
      · simp only [g57, Option.bind_none, reduceCtorEq] at hh39
      simp only [g57, Option.bind_some] at hh39
      have f58 := idxO_rng g57
      have f59 : (encI x9).getD (Int.toNat v38) [] = [(.int .i64 x56)] := idxO_map _ g57
      cases c60 : false == decide (x26 = x56)
      · simp only [c60, cond_false] at hh39
        simp only [Option.bind_some, nextO_inr] at hh39
        obtain rfl := Option.some.inj hh39
        try dsimp only at hh16
        simp only [Option.bind_some, nextO_inr] at hh16
        obtain rfl := Option.some.inj hh16
        try dsimp only at hr
        obtain rfl := Option.some.inj hr
        try simp only [go_sem, c12, c13, c21, f24, f25, f28, f29, c30, c31, c35, c36, c44, c48, c49, f52, f53, c54, c55, f58, f59, c60]
        all_goals (try refine end_pure ?_)
        all_goals (try simp only [go_sem, c12, c13, c21, f24, f25, f28, f29, c30, c31, c35, c36, c44, c48, c49, f52, f53, c54, c55, f58, f59, c60])
        all_goals (try (first | rfl | exact ⟨rfl, rfl⟩ | (simp; done)))
      simp only [c60, cond_true] at hh39
      simp only [Option.bind_some, nextO_inl] at hh39
      try simp only [go_sem, c12, c13, c21, f24, f25, f28, f29, c30, c31, c35, c36, c44, c48, c49, f52, f53, c54, c55, f58, f59, c60]
      exact ih40 (IntKind.i64.wrap (v38 + 1)) _ hh39 ((Wk.forget (by simp [Le, LeE, LeH, get, envIds, hpIds, KeepH, D.ids, idsL, AO.ids, setL, base, encI_nil, encS_nil, encT_nil, encG_nil, encC_nil, encL_nil, encK_nil, encP_nil, mpS_nil, mpB_nil, encI_consE, encS_consE, encT_consE, encG_consE, encI_one, encS_one, encT_one, encI_snoc, encS_snoc, encT_snocE, encG_snocE, encC_snoc, encL_snoc, encK_snocE, encP_snocE, encI_set, encS_set, encT_setE, encG_setE, encC_setE, encK_setE, encP_setE, encI_len, encS_len, encT_len2, encG_len2, encC_len, encL_len, encK_len2, encP_len2, encW_len, dT_ids, dI_ids, dT_len, dI_len, List.length_set, encI_takeM, List.take_length, c30, c54, c60])))
    simp only [c54, cond_true] at hh39
    rcases g62 : idxO x45 v15 with _ | x61
    · simp only [g62, Option.bind_none, reduceCtorEq] at hh39
    simp only [g62, Option.bind_some] at hh39
    have f63 := idxO_rng g62
    have f64 : (encT x45).getD (Int.toNat v15) [] = [(.bool x61)] := idxO_map _ g62
    cases c65 : decide (0 ≤ x26)
    · simp only [c65, cond_false] at hh39
      cases c66 : x61 == false
      · simp only [c66, cond_false] at hh39
        simp only [Option.bind_some, nextO_inr] at hh39
        obtain rfl := Option.some.inj hh39
        try dsimp only at hh16
        simp only [Option.bind_some, nextO_inr] at hh16
        obtain rfl := Option.some.inj hh16
        try dsimp only at hr
        obtain rfl := Option.some.inj hr
        try simp only [go_sem, c12, c13, c21, f24, f25, f28, f29, c30, c31, c35, c36, c44, c48, c49, f52, f53, c54, f63, f64, c65, c66]
        all_goals (try refine end_pure ?_)
        all_goals (try simp only [go_sem, c12, c13, c21, f24, f25, f28, f29, c30, c31, c35, c36, c44, c48, c49, f52, f53, c54, f63, f64, c65, c66])
        all_goals (try (first | rfl | exact ⟨rfl, rfl⟩ | (simp; done)))
      simp only [c66, cond_true] at hh39
      simp only [Option.bind_some, nextO_inl] at hh39
      try simp only [go_sem, c12, c13, c21, f24, f25, f28, f29, c30, c31, c35, c36, c44, c48, c49, f52, f53, c54, f63, f64, c65, c66]
      exact ih40 (IntKind.i64.wrap (v38 + 1)) _ hh39 ((Wk.forget (by simp [Le, LeE, LeH, get, envIds, hpIds, KeepH, D.ids, idsL, AO.ids, setL, base, encI_nil, encS_nil, encT_nil, encG_nil, encC_nil, encL_nil, encK_nil, encP_nil, mpS_nil, mpB_nil, encI_consE, encS_consE, encT_consE, encG_consE, encI_one, encS_one, encT_one, encI_snoc, encS_snoc, encT_snocE, encG_snocE, encC_snoc, encL_snoc, encK_snocE, encP_snocE, encI_set, encS_set, encT_setE, encG_setE, encC_setE, encK_setE, encP_setE, encI_len, encS_len, encT_len2, encG_len2, encC_len, encL_len, encK_len2, encP_len2, encW_len, dT_ids, dI_ids, dT_len, dI_len, List.length_set, encI_takeM, List.take_length, c30, c54, c66])))
    simp only [c65, cond_true] at hh39
    rcases g68 : idxO x9 v38 with _ | x67
    · simp only [g68, Option.bind_none, reduceCtorEq] at hh39
    simp only [g68, Option.bind_some] at hh39
    have f69 := idxO_rng g68
    have f70 : (encI x9).getD (Int.toNat v38) [] = [(.int .i64 x67)] := idxO_map _ g68
    cases c71 : x61 == decide (x26 = x67)
    · simp only [c71, cond_false] at hh39
      simp only [Option.bind_some, nextO_inr] at hh39
      obtain rfl := Option.some.inj hh39
      try dsimp only at hh16
      simp only [Option.bind_some, nextO_inr] at hh16
      obtain rfl := Option.some.inj hh16
      try dsimp only at hr
      obtain rfl := Option.some.inj hr
      try simp only [go_sem, c12, c13, c21, f24, f25, f28, f29, c30, c31, c35, c36, c44, c48, c49, f52, f53, c54, f63, f64, c65, f69, f70, c71]
      all_goals (try refine end_pure ?_)
      all_goals (try simp only [go_sem, c12, c13, c21, f24, f25, f28, f29, c30, c31, c35, c36, c44, c48, c49, f52, f53, c54, f63, f64, c65, f69, f70, c71])
      all_goals (try (first | rfl | exact ⟨rfl, rfl⟩ | (simp; done)))
    simp only [c71, cond_true] at hh39
    simp only [Option.bind_some, nextO_inl] at hh39
    try simp only [go_sem, c12, c13, c21, f24, f25, f28, f29, c30, c31, c35, c36, c44, c48, c49, f52, f53, c54, f63, f64, c65, f69, f70, c71]
    exact ih40 (IntKind.i64.wrap (v38 + 1)) _ hh39 ((Wk.forget (by simp [Le, LeE, LeH, get, envIds, hpIds, KeepH, D.ids, idsL, AO.ids, setL, base, encI_nil, encS_nil, encT_nil, encG_nil, encC_nil, encL_nil, encK_nil, encP_nil, mpS_nil, mpB_nil, encI_consE, encS_consE, encT_consE, encG_consE, encI_one, encS_one, encT_one, encI_snoc, encS_snoc, encT_snocE, encG_snocE, encC_snoc, encL_snoc, encK_snocE, encP_snocE, encI_set, encS_set, encT_setE, encG_setE, encC_setE, encK_setE, encP_setE, encI_len, encS_len, encT_len2, encG_len2, encC_len, encL_len, encK_len2, encP_len2, encW_len, dT_ids, dI_ids, dT_len, dI_len, List.length_set, encI_takeM, List.take_length, c30, c54, c71])))
  simp only [c31, cond_true] at hh16
  simp only [Option.bind_some, nextO_inr] at hh16
  obtain rfl := Option.some.inj hh16
  try dsimp only at hr
  obtain rfl := Option.some.inj hr
  try simp only [go_sem, c12, c13, c21, f24, f25, f28, f29, c30, c31]
  all_goals (try refine end_pure ?_)
  all_goals (try simp only [go_sem, c12, c13, c21, f24, f25, f28, f29, c30, c31])
  all_goals (try (first | rfl | exact ⟨rfl, rfl⟩ | (simp; done)))
noncomputable def lawOne_v (a0 : List Int) (y1 : List (List Int)) (y2 : List Int) (y3 : Int) (y5 : List Bool) (y6 : List Int) (y7 : Int) : Option (Bool) :=
  Option.bind (rMut_v y1 y5) fun (x9, x10) => Option.bind (cOrd_v y1 y5) fun (x12, x13) => cond (decide (x10 = 0)) (cond (decide (x13 = 0)) (some (x9 == decide (((x12.length : Nat) : Int) = 1))) (some false)) (some false)
theorem lawOne_vok (a0 : List Int) (r : Bool) (hr : ∀ (y1 : List (List Int)) (y2 : List Int) (y3 : Int), GraphQ a0 y1 y2 y3 → ∀ (y5 : List Bool) (y6 : List Int) (y7 : Int), ShutQ y2 y3 ((y1.length : Nat) : Int) y5 y6 y7 → lawOne_v a0 y1 y2 y3 y5 y6 y7 = some r) :
    ACalls Try.prog 8 [.p (.sl (encI a0))] [] fun h d => h = [] ∧ d = .p (.bool r) := by
  refine ACalls_X Try.func8 rfl enters8 (by simp [Try.f8]) ?_
  unfold lawOne_v at hr
  try simp only [go_sem]
  refine Cc_of known05_ok ?_
  rintro h' r ⟨rfl, rfl⟩
  try simp only [go_sem]
  refine Cc_of (graph8 a0) ?_
  rintro h' r ⟨y1, y2, y3, q4, rfl, rfl⟩
  replace hr := hr y1 y2 y3 q4
  try simp only [go_sem]
  refine Cc_of (shut8 y2 y3 ((y1.length : Nat) : Int) q4) ?_
  rintro h' r ⟨y5, y6, y7, q8, rfl, rfl⟩
  replace hr := hr y5 y6 y7 q8
  rcases g11 : rMut_v y1 y5 with _ | ⟨x9, x10⟩
  · simp only [g11, Option.bind_none, reduceCtorEq] at hr
  simp only [g11, Option.bind_some] at hr
  try simp only [go_sem]
  refine Cc_of (rMut_vok y1 y5 _ g11) ?_
  rintro h' r ⟨rfl, rfl⟩
  rcases g14 : cOrd_v y1 y5 with _ | ⟨x12, x13⟩
  · simp only [g14, Option.bind_none, reduceCtorEq] at hr
  simp only [g14, Option.bind_some] at hr
  try simp only [go_sem]
  refine Cc_of (cOrd_vok y1 y5 _ g14) ?_
  rintro h' r ⟨rfl, rfl⟩
  cases c15 : decide (x10 = 0)
  · simp only [c15, cond_false] at hr
    obtain rfl := Option.some.inj hr
    try simp only [go_sem, c15]
    all_goals (try refine end_pure ?_)
    all_goals (try simp only [go_sem, c15])
    all_goals (try (first | rfl | exact ⟨rfl, rfl⟩ | (simp; done)))
  simp only [c15, cond_true] at hr
  cases c16 : decide (x13 = 0)
  · simp only [c16, cond_false] at hr
    obtain rfl := Option.some.inj hr
    try simp only [go_sem, c15, c16]
    all_goals (try refine end_pure ?_)
    all_goals (try simp only [go_sem, c15, c16])
    all_goals (try (first | rfl | exact ⟨rfl, rfl⟩ | (simp; done)))
  simp only [c16, cond_true] at hr
  obtain rfl := Option.some.inj hr
  try simp only [go_sem, c15, c16]
  all_goals (try refine end_pure ?_)
  all_goals (try simp only [go_sem, c15, c16])
  all_goals (try (first | rfl | exact ⟨rfl, rfl⟩ | (simp; done)))
noncomputable def lawOrder_L1 (y1 : List (List Int)) (x15 : List (List Int)) (v36 : List Int) (v45 : Int) : Int → Option ((Int) ⊕ (Int ⊕ Bool))
  | v58 => Option.bind (idxO x15 v45) fun x64 => cond (decide (v58 < ((x64.length : Nat) : Int))) (Option.bind (idxO x64 v58) fun x69 => cond (decide (x69 < 0)) (some (Sum.inr (.inr ((false : Bool))))) (cond (decide (((y1.length : Nat) : Int) ≤ x69)) (some (Sum.inr (.inr ((false : Bool))))) (Option.bind (idxO v36 v45) fun x75 => cond (decide (x75 < 0)) (some (Sum.inr (.inr ((false : Bool))))) (Option.bind (idxO v36 x69) fun x80 => cond (decide (x80 ≤ x75)) (some (Sum.inr (.inr ((false : Bool))))) (some (Sum.inl (IntKind.i64.wrap (v58 + 1)))))))) (some (Sum.inr (.inl v58)))
theorem lawOrder_L1_eq (y1 : List (List Int)) (x15 : List (List Int)) (v36 : List Int) (v45 : Int) (v58 : Int) : lawOrder_L1 y1 x15 v36 v45 v58 = Option.bind (idxO x15 v45) fun x64 => cond (decide (v58 < ((x64.length : Nat) : Int))) (Option.bind (idxO x64 v58) fun x69 => cond (decide (x69 < 0)) (some (Sum.inr (.inr ((false : Bool))))) (cond (decide (((y1.length : Nat) : Int) ≤ x69)) (some (Sum.inr (.inr ((false : Bool))))) (Option.bind (idxO v36 v45) fun x75 => cond (decide (x75 < 0)) (some (Sum.inr (.inr ((false : Bool))))) (Option.bind (idxO v36 x69) fun x80 => cond (decide (x80 ≤ x75)) (some (Sum.inr (.inr ((false : Bool))))) (some (Sum.inl (IntKind.i64.wrap (v58 + 1)))))))) (some (Sum.inr (.inl v58))) := rfl
noncomputable def lawOrder_L2 (y1 : List (List Int)) (x15 : List (List Int)) (v36 : List Int) (v45 : Int) (x87 : Int) : Int → Option ((Int) ⊕ (Int ⊕ Bool))
  | v93 => Option.bind (idxO x15 v45) fun x99 => cond (decide (v93 < ((x99.length : Nat) : Int))) (Option.bind (idxO x99 v93) fun x104 => cond (decide (x104 < 0)) (some (Sum.inr (.inr ((false : Bool))))) (cond (decide (((y1.length : Nat) : Int) ≤ x104)) (some (Sum.inr (.inr ((false : Bool))))) (Option.bind (idxO v36 x104) fun x110 => cond (decide (x110 ≤ x87)) (some (Sum.inr (.inr ((false : Bool))))) (some (Sum.inl (IntKind.i64.wrap (v93 + 1))))))) (some (Sum.inr (.inl v93)))
theorem lawOrder_L2_eq (y1 : List (List Int)) (x15 : List (List Int)) (v36 : List Int) (v45 : Int) (x87 : Int) (v93 : Int) : lawOrder_L2 y1 x15 v36 v45 x87 v93 = Option.bind (idxO x15 v45) fun x99 => cond (decide (v93 < ((x99.length : Nat) : Int))) (Option.bind (idxO x99 v93) fun x104 => cond (decide (x104 < 0)) (some (Sum.inr (.inr ((false : Bool))))) (cond (decide (((y1.length : Nat) : Int) ≤ x104)) (some (Sum.inr (.inr ((false : Bool))))) (Option.bind (idxO v36 x104) fun x110 => cond (decide (x110 ≤ x87)) (some (Sum.inr (.inr ((false : Bool))))) (some (Sum.inl (IntKind.i64.wrap (v93 + 1))))))) (some (Sum.inr (.inl v93))) := rfl
noncomputable def lawOrder_L3 (y1 : List (List Int)) (x9 : List Int) (x15 : List (List Int)) (v36 : List Int) : Int → Option ((Int) ⊕ (Int ⊕ Bool))
  | v45 => cond (decide (v45 < ((y1.length : Nat) : Int))) (Option.bind (idxO x9 v45) fun x52 => cond (decide (x52 = v45)) (Option.bind (idxO v36 v45) fun x87 => cond (decide (x87 < 0)) (some (Sum.inr (.inr ((false : Bool))))) (Option.bind (loopO (lawOrder_L2 y1 x15 v36 v45 x87) 0) (fun | .inl v115 => some (Sum.inl (IntKind.i64.wrap (v45 + 1))) | .inr (r116) => some (Sum.inr (.inr (r116)))))) (Option.bind (loopO (lawOrder_L1 y1 x15 v36 v45) 0) (fun | .inl v85 => some (Sum.inl (IntKind.i64.wrap (v45 + 1))) | .inr (r86) => some (Sum.inr (.inr (r86)))))) (some (Sum.inr (.inl v45)))
theorem lawOrder_L3_eq (y1 : List (List Int)) (x9 : List Int) (x15 : List (List Int)) (v36 : List Int) (v45 : Int) : lawOrder_L3 y1 x9 x15 v36 v45 = cond (decide (v45 < ((y1.length : Nat) : Int))) (Option.bind (idxO x9 v45) fun x52 => cond (decide (x52 = v45)) (Option.bind (idxO v36 v45) fun x87 => cond (decide (x87 < 0)) (some (Sum.inr (.inr ((false : Bool))))) (Option.bind (loopO (lawOrder_L2 y1 x15 v36 v45 x87) 0) (fun | .inl v115 => some (Sum.inl (IntKind.i64.wrap (v45 + 1))) | .inr (r116) => some (Sum.inr (.inr (r116)))))) (Option.bind (loopO (lawOrder_L1 y1 x15 v36 v45) 0) (fun | .inl v85 => some (Sum.inl (IntKind.i64.wrap (v45 + 1))) | .inr (r86) => some (Sum.inr (.inr (r86)))))) (some (Sum.inr (.inl v45))) := rfl
noncomputable def lawOrder_L4 (y1 : List (List Int)) (x9 : List Int) (x12 : List Int) : (List Int) × Int → Option (((List Int) × Int) ⊕ (((List Int) × Int) ⊕ Bool))
  | (v36, v37) => cond (decide (v37 < ((x12.length : Nat) : Int))) (Option.bind (idxO x12 v37) fun x119 => cond (decide (x119 < 0)) (some (Sum.inr (.inr ((false : Bool))))) (cond (decide (((y1.length : Nat) : Int) ≤ x119)) (some (Sum.inr (.inr ((false : Bool))))) (Option.bind (idxO v36 x119) fun x125 => cond (decide (0 ≤ x125)) (some (Sum.inr (.inr ((false : Bool))))) (Option.bind (idxO x9 x119) fun x130 => cond (decide (x130 = x119)) (some (Sum.inl ((v36.set (Int.toNat x119) v37), (IntKind.i64.wrap (v37 + 1))))) (some (Sum.inr (.inr ((false : Bool))))))))) (some (Sum.inr (.inl (v36, v37))))
theorem lawOrder_L4_eq (y1 : List (List Int)) (x9 : List Int) (x12 : List Int) (v36 : List Int) (v37 : Int) : lawOrder_L4 y1 x9 x12 (v36, v37) = cond (decide (v37 < ((x12.length : Nat) : Int))) (Option.bind (idxO x12 v37) fun x119 => cond (decide (x119 < 0)) (some (Sum.inr (.inr ((false : Bool))))) (cond (decide (((y1.length : Nat) : Int) ≤ x119)) (some (Sum.inr (.inr ((false : Bool))))) (Option.bind (idxO v36 x119) fun x125 => cond (decide (0 ≤ x125)) (some (Sum.inr (.inr ((false : Bool))))) (Option.bind (idxO x9 x119) fun x130 => cond (decide (x130 = x119)) (some (Sum.inl ((v36.set (Int.toNat x119) v37), (IntKind.i64.wrap (v37 + 1))))) (some (Sum.inr (.inr ((false : Bool))))))))) (some (Sum.inr (.inl (v36, v37)))) := rfl
noncomputable def lawOrder_L5 (y1 : List (List Int)) : (List Int) × Int → Option (((List Int) × Int) ⊕ (((List Int) × Int)))
  | (v26, v27) => cond (decide (v27 < ((y1.length : Nat) : Int))) (Option.bind (idxO v26 v27) fun x213 => some (Sum.inl ((v26.set (Int.toNat v27) (-1)), (IntKind.i64.wrap (v27 + 1))))) (some (Sum.inr (v26, v27)))
theorem lawOrder_L5_eq (y1 : List (List Int)) (v26 : List Int) (v27 : Int) : lawOrder_L5 y1 (v26, v27) = cond (decide (v27 < ((y1.length : Nat) : Int))) (Option.bind (idxO v26 v27) fun x213 => some (Sum.inl ((v26.set (Int.toNat v27) (-1)), (IntKind.i64.wrap (v27 + 1))))) (some (Sum.inr (v26, v27))) := rfl
noncomputable def lawOrder_v (a0 : List Int) (y1 : List (List Int)) (y2 : List Int) (y3 : Int) (y5 : List Bool) (y6 : List Int) (y7 : Int) : Option (Bool) :=
  Option.bind (cNames_v y1 y5) fun (x9, x10) => Option.bind (cOrd_v y1 y5) fun (x12, x13) => Option.bind (cQuot_v y1 y5) fun (x15, x16) => cond (decide (x10 = 0)) (cond (decide (x13 = 0)) (cond (decide (x16 = 0)) (cond (decide (((x9.length : Nat) : Int) = ((y1.length : Nat) : Int))) (cond (decide (((x15.length : Nat) : Int) = ((y1.length : Nat) : Int))) (cond (decide (y1.length < 10000000)) (Option.bind (loopO (lawOrder_L5 y1) ((List.replicate y1.length 0), 0)) (fun (v217, v218) => Option.bind (loopO (lawOrder_L4 y1 x9 x12) (v217, 0)) (fun | .inl (v320, v321) => Option.bind (loopO (lawOrder_L3 y1 x9 x15 v320) 0) (fun | .inl v395 => some true | .inr (r396) => some r396) | .inr (r397) => some r397))) none) (some false)) (some false)) (some false)) (some false)) (some false)
theorem lawOrder_vok (a0 : List Int) (r : Bool) (hr : ∀ (y1 : List (List Int)) (y2 : List Int) (y3 : Int), GraphQ a0 y1 y2 y3 → ∀ (y5 : List Bool) (y6 : List Int) (y7 : Int), ShutQ y2 y3 ((y1.length : Nat) : Int) y5 y6 y7 → lawOrder_v a0 y1 y2 y3 y5 y6 y7 = some r) :
    ACalls Try.prog 4 [.p (.sl (encI a0))] [] fun h d => h = [] ∧ d = .p (.bool r) := by
  refine ACalls_X Try.func4 rfl enters4 (by simp [Try.f4]) ?_
  unfold lawOrder_v at hr
  try simp only [go_sem]
  refine Cc_of known05_ok ?_
  rintro h' r ⟨rfl, rfl⟩
  try simp only [go_sem]
  refine Cc_of (graph8 a0) ?_
  rintro h' r ⟨y1, y2, y3, q4, rfl, rfl⟩
  replace hr := hr y1 y2 y3 q4
  try simp only [go_sem]
  refine Cc_of (shut8 y2 y3 ((y1.length : Nat) : Int) q4) ?_
  rintro h' r ⟨y5, y6, y7, q8, rfl, rfl⟩
  replace hr := hr y5 y6 y7 q8
  rcases g11 : cNames_v y1 y5 with _ | ⟨x9, x10⟩
  · simp only [g11, Option.bind_none, reduceCtorEq] at hr
  simp only [g11, Option.bind_some] at hr
  try simp only [go_sem]
  refine Cc_of (cNames_vok y1 y5 _ g11) ?_
  rintro h' r ⟨rfl, rfl⟩
  rcases g14 : cOrd_v y1 y5 with _ | ⟨x12, x13⟩
  · simp only [g14, Option.bind_none, reduceCtorEq] at hr
  simp only [g14, Option.bind_some] at hr
  try simp only [go_sem]
  refine Cc_of (cOrd_vok y1 y5 _ g14) ?_
  rintro h' r ⟨rfl, rfl⟩
  rcases g17 : cQuot_v y1 y5 with _ | ⟨x15, x16⟩
  · simp only [g17, Option.bind_none, reduceCtorEq] at hr
  simp only [g17, Option.bind_some] at hr
  try simp only [go_sem]
  refine Cc_of (cQuot_vok y1 y5 _ g17) ?_
  rintro h' r ⟨rfl, rfl⟩
  cases c18 : decide (x10 = 0)
  · simp only [c18, cond_false] at hr
    obtain rfl := Option.some.inj hr
    try simp only [go_sem, c18]
    all_goals (try refine end_pure ?_)
    all_goals (try simp only [go_sem, c18])
    all_goals (try (first | rfl | exact ⟨rfl, rfl⟩ | (simp; done)))
  simp only [c18, cond_true] at hr
  cases c19 : decide (x13 = 0)
  · simp only [c19, cond_false] at hr
    obtain rfl := Option.some.inj hr
    try simp only [go_sem, c18, c19]
    all_goals (try refine end_pure ?_)
    all_goals (try simp only [go_sem, c18, c19])
    all_goals (try (first | rfl | exact ⟨rfl, rfl⟩ | (simp; done)))
  simp only [c19, cond_true] at hr
  cases c20 : decide (x16 = 0)
  · simp only [c20, cond_false] at hr
    obtain rfl := Option.some.inj hr
    try simp only [go_sem, c18, c19, c20]
    all_goals (try refine end_pure ?_)
    all_goals (try simp only [go_sem, c18, c19, c20])
    all_goals (try (first | rfl | exact ⟨rfl, rfl⟩ | (simp; done)))
  simp only [c20, cond_true] at hr
  cases c21 : decide (((x9.length : Nat) : Int) = ((y1.length : Nat) : Int))
  · simp only [c21, cond_false] at hr
    obtain rfl := Option.some.inj hr
    try simp only [go_sem, c18, c19, c20, c21]
    all_goals (try refine end_pure ?_)
    all_goals (try simp only [go_sem, c18, c19, c20, c21])
    all_goals (try (first | rfl | exact ⟨rfl, rfl⟩ | (simp; done)))
  simp only [c21, cond_true] at hr
  cases c22 : decide (((x15.length : Nat) : Int) = ((y1.length : Nat) : Int))
  · simp only [c22, cond_false] at hr
    obtain rfl := Option.some.inj hr
    try simp only [go_sem, c18, c19, c20, c21, c22]
    all_goals (try refine end_pure ?_)
    all_goals (try simp only [go_sem, c18, c19, c20, c21, c22])
    all_goals (try (first | rfl | exact ⟨rfl, rfl⟩ | (simp; done)))
  simp only [c22, cond_true] at hr
  cases c23 : decide (y1.length < 10000000)
  · simp only [c23, cond_false, Option.bind_none, reduceCtorEq] at hr
  simp only [c23, cond_true] at hr
  try simp only [go_sem, c18, c19, c20, c21, c22]
  refine ⟨by have := of_decide_eq_true c23; omega, ?_⟩
  rcases g32 : loopO (lawOrder_L5 y1) ((List.replicate y1.length 0), 0) with _ | e31
  · simp only [g32, Option.bind_none, reduceCtorEq] at hr
  simp only [g32, Option.bind_some] at hr
  try simp only [go_sem, c18, c19, c20, c21, c22]
  refine X_loopO g32 (fun q : (List Int) × Int => ⟨[(4, .p (.sl (encG y1))), (6, .p (.sl (encI x9))), (8, .p (.sl (encI x12))), (10, .p (.sl (encG x15))), (12, .ref 73 0 q.1.length q.1.length), (13, .p (.int .i64 q.2))], [(73, .arr 3 1 (encI q.1))], 195⟩) ((Wk.forget (by simp [Le, LeE, LeH, get, envIds, hpIds, KeepH, D.ids, idsL, AO.ids, setL, base, encI_nil, encS_nil, encT_nil, encG_nil, encC_nil, encL_nil, encK_nil, encP_nil, mpS_nil, mpB_nil, encI_consE, encS_consE, encT_consE, encG_consE, encI_one, encS_one, encT_one, encI_snoc, encS_snoc, encT_snocE, encG_snocE, encC_snoc, encL_snoc, encK_snocE, encP_snocE, encI_set, encS_set, encT_setE, encG_setE, encC_setE, encK_setE, encP_setE, encI_len, encS_len, encT_len2, encG_len2, encC_len, encL_len, encK_len2, encP_len2, encW_len, dT_ids, dI_ids, dT_len, dI_len, List.length_set, encI_takeM, List.take_length]))) ?_
  rintro ⟨v26, v27⟩ m30 hh28 ih29
  rw [lawOrder_L5_eq] at hh28
  cases c33 : decide (v27 < ((y1.length : Nat) : Int))
  · simp only [c33, cond_false] at hh28
    simp only [Option.bind_some, nextO_inr] at hh28
    obtain rfl := Option.some.inj hh28
    try dsimp only at hr
    rcases g42 : loopO (lawOrder_L4 y1 x9 x12) (v26, 0) with _ | e41
    · simp only [g42, Option.bind_none, reduceCtorEq] at hr
    simp only [g42, Option.bind_some] at hr
    try simp only [go_sem, c18, c19, c20, c21, c22, c33]
    refine X_loopO g42 (fun q : (List Int) × Int => ⟨[(4, .p (.sl (encG y1))), (6, .p (.sl (encI x9))), (8, .p (.sl (encI x12))), (10, .p (.sl (encG x15))), (12, .ref 73 0 q.1.length q.1.length), (14, .p (.int .i64 q.2))], [(73, .arr 3 1 (encI q.1))], 195⟩) ((Wk.forget (by simp [Le, LeE, LeH, get, envIds, hpIds, KeepH, D.ids, idsL, AO.ids, setL, base, encI_nil, encS_nil, encT_nil, encG_nil, encC_nil, encL_nil, encK_nil, encP_nil, mpS_nil, mpB_nil, encI_consE, encS_consE, encT_consE, encG_consE, encI_one, encS_one, encT_one, encI_snoc, encS_snoc, encT_snocE, encG_snocE, encC_snoc, encL_snoc, encK_snocE, encP_snocE, encI_set, encS_set, encT_setE, encG_setE, encC_setE, encK_setE, encP_setE, encI_len, encS_len, encT_len2, encG_len2, encC_len, encL_len, encK_len2, encP_len2, encW_len, dT_ids, dI_ids, dT_len, dI_len, List.length_set, encI_takeM, List.take_length]))) ?_
    rintro ⟨v36, v37⟩ m40 hh38 ih39
    rw [lawOrder_L4_eq] at hh38
    cases c43 : decide (v37 < ((x12.length : Nat) : Int))
    · simp only [c43, cond_false] at hh38
      simp only [Option.bind_some, nextO_inr] at hh38
      obtain rfl := Option.some.inj hh38
      try dsimp only at hr
      rcases g50 : loopO (lawOrder_L3 y1 x9 x15 v36) 0 with _ | e49
      · simp only [g50, Option.bind_none, reduceCtorEq] at hr
      simp only [g50, Option.bind_some] at hr
      try simp only [go_sem, c18, c19, c20, c21, c22, c33, c43]
      refine X_loopO g50 (fun q : Int => ⟨[(4, .p (.sl (encG y1))), (6, .p (.sl (encI x9))), (10, .p (.sl (encG x15))), (12, .ref 73 0 v36.length v36.length), (15, .p (.int .i64 q))], [(73, .arr 3 1 (encI v36))], 195⟩) ((Wk.forget (by simp [Le, LeE, LeH, get, envIds, hpIds, KeepH, D.ids, idsL, AO.ids, setL, base, encI_nil, encS_nil, encT_nil, encG_nil, encC_nil, encL_nil, encK_nil, encP_nil, mpS_nil, mpB_nil, encI_consE, encS_consE, encT_consE, encG_consE, encI_one, encS_one, encT_one, encI_snoc, encS_snoc, encT_snocE, encG_snocE, encC_snoc, encL_snoc, encK_snocE, encP_snocE, encI_set, encS_set, encT_setE, encG_setE, encC_setE, encK_setE, encP_setE, encI_len, encS_len, encT_len2, encG_len2, encC_len, encL_len, encK_len2, encP_len2, encW_len, dT_ids, dI_ids, dT_len, dI_len, List.length_set, encI_takeM, List.take_length]))) ?_
      rintro v45 m48 hh46 ih47
      rw [lawOrder_L3_eq] at hh46
      cases c51 : decide (v45 < ((y1.length : Nat) : Int))
      · simp only [c51, cond_false] at hh46
        simp only [Option.bind_some, nextO_inr] at hh46
        obtain rfl := Option.some.inj hh46
        try dsimp only at hr
        obtain rfl := Option.some.inj hr
        try simp only [go_sem, c18, c19, c20, c21, c22, c33, c43, c51]
        all_goals (try refine end_pure ?_)
        all_goals (try simp only [go_sem, c18, c19, c20, c21, c22, c33, c43, c51])
        all_goals (try (first | rfl | exact ⟨rfl, rfl⟩ | (simp; done)))
      simp only [c51, cond_true] at hh46
      rcases g53 : idxO x9 v45 with _ | x52
      · simp only [g53, Option.bind_none, reduceCtorEq] at hh46
      simp only [g53, Option.bind_some] at hh46
      have f54 := idxO_rng g53
      have f55 : (encI x9).getD (Int.toNat v45) [] = [(.int .i64 x52)] := idxO_map _ g53
      cases c56 : decide (x52 = v45)
      · simp only [c56, cond_false] at hh46
        rcases g63 : loopO (lawOrder_L1 y1 x15 v36 v45) 0 with _ | e62
        · simp only [g63, Option.bind_none, reduceCtorEq] at hh46
        simp only [g63, Option.bind_some] at hh46
        try simp only [go_sem, c18, c19, c20, c21, c22, c33, c43, c51, f54, f55, c56]
        refine X_loopO g63 (fun q : Int => ⟨[(4, .p (.sl (encG y1))), (6, .p (.sl (encI x9))), (10, .p (.sl (encG x15))), (12, .ref 73 0 v36.length v36.length), (15, .p (.int .i64 v45)), (16, .p (.int .i64 q))], [(73, .arr 3 1 (encI v36))], 195⟩) ((Wk.forget (by simp [Le, LeE, LeH, get, envIds, hpIds, KeepH, D.ids, idsL, AO.ids, setL, base, encI_nil, encS_nil, encT_nil, encG_nil, encC_nil, encL_nil, encK_nil, encP_nil, mpS_nil, mpB_nil, encI_consE, encS_consE, encT_consE, encG_consE, encI_one, encS_one, encT_one, encI_snoc, encS_snoc, encT_snocE, encG_snocE, encC_snoc, encL_snoc, encK_snocE, encP_snocE, encI_set, encS_set, encT_setE, encG_setE, encC_setE, encK_setE, encP_setE, encI_len, encS_len, encT_len2, encG_len2, encC_len, encL_len, encK_len2, encP_len2, encW_len, dT_ids, dI_ids, dT_len, dI_len, List.length_set, encI_takeM, List.take_length]))) ?_
        rintro v58 m61 hh59 ih60
        rw [lawOrder_L1_eq] at hh59
        rcases g65 : idxO x15 v45 with _ | x64
        · simp only [g65, Option.bind_none, reduceCtorEq] at hh59
        simp only [g65, Option.bind_some] at hh59
        have f66 := idxO_rng g65
        have f67 : (encG x15).getD (Int.toNat v45) [] = [(.sl (encI x64))] := idxO_map _ g65
        cases c68 : decide (v58 < ((x64.length : Nat) : Int))
        · simp only [c68, cond_false] at hh59
          simp only [Option.bind_some, nextO_inr] at hh59
          obtain rfl := Option.some.inj hh59
          try dsimp only at hh46
          simp only [Option.bind_some, nextO_inl] at hh46
          try simp only [go_sem, c18, c19, c20, c21, c22, c33, c43, c51, f54, f55, c56, f66, f67, c68]
          exact ih47 (IntKind.i64.wrap (v45 + 1)) _ hh46 ((Wk.forget (by simp [Le, LeE, LeH, get, envIds, hpIds, KeepH, D.ids, idsL, AO.ids, setL, base, encI_nil, encS_nil, encT_nil, encG_nil, encC_nil, encL_nil, encK_nil, encP_nil, mpS_nil, mpB_nil, encI_consE, encS_consE, encT_consE, encG_consE, encI_one, encS_one, encT_one, encI_snoc, encS_snoc, encT_snocE, encG_snocE, encC_snoc, encL_snoc, encK_snocE, encP_snocE, encI_set, encS_set, encT_setE, encG_setE, encC_setE, encK_setE, encP_setE, encI_len, encS_len, encT_len2, encG_len2, encC_len, encL_len, encK_len2, encP_len2, encW_len, dT_ids, dI_ids, dT_len, dI_len, List.length_set, encI_takeM, List.take_length])))
        simp only [c68, cond_true] at hh59
        rcases g70 : idxO x64 v58 with _ | x69
        · simp only [g70, Option.bind_none, reduceCtorEq] at hh59
        simp only [g70, Option.bind_some] at hh59
        have f71 := idxO_rng g70
        have f72 : (encI x64).getD (Int.toNat v58) [] = [(.int .i64 x69)] := idxO_map _ g70
        try simp only [go_sem, c18, c19, c20, c21, c22, c33, c43, c51, f54, f55, c56, f66, f67, c68, f71, f72]
        refine X_any0 mixed (p := [(0, 0), (1, 0), (2, 0), (3, 0), (4, 0), (5, 0), (6, 0), (7, 0), (8, 0), (9, 0), (10, 0), (11, 0), (12, 0), (13, 0), (14, 0), (15, 0), (16, 0), (17, 0), (18, 0), (19, 0), (20, 0), (21, 0), (22, 0), (23, 0), (24, 0), (25, 0)]) (by kernel_rfl) (by simp [LeH, get]) ?_
        cases c73 : decide (x69 < 0)
        · simp only [c73, cond_false] at hh59
          cases c74 : decide (((y1.length : Nat) : Int) ≤ x69)
          · simp only [c74, cond_false] at hh59
            rcases g76 : idxO v36 v45 with _ | x75
            · simp only [g76, Option.bind_none, reduceCtorEq] at hh59
            simp only [g76, Option.bind_some] at hh59
            have f77 := idxO_rng g76
            have f78 : (encI v36).getD (Int.toNat v45) [] = [(.int .i64 x75)] := idxO_map _ g76
            cases c79 : decide (x75 < 0)
            · simp only [c79, cond_false] at hh59
              rcases g81 : idxO v36 x69 with _ | x80
              · simp only [g81, Option.bind_none, reduceCtorEq] at hh59
              simp only [g81, Option.bind_some] at hh59
              have f82 := idxO_rng g81
              have f83 : (encI v36).getD (Int.toNat x69) [] = [(.int .i64 x80)] := idxO_map _ g81
              cases c84 : decide (x80 ≤ x75)
              · simp only [c84, cond_false] at hh59
                simp only [Option.bind_some, nextO_inl] at hh59
                try simp only [go_sem, c18, c19, c20, c21, c22, c33, c43, c51, f54, f55, c56, f66, f67, c68, f71, f72, c73, c74, f77, f78, c79, f82, f83, c84]
                exact ih60 (IntKind.i64.wrap (v58 + 1)) _ hh59 ((Wk.forget (by simp [Le, LeE, LeH, get, envIds, hpIds, KeepH, D.ids, idsL, AO.ids, setL, base, encI_nil, encS_nil, encT_nil, encG_nil, encC_nil, encL_nil, encK_nil, encP_nil, mpS_nil, mpB_nil, encI_consE, encS_consE, encT_consE, encG_consE, encI_one, encS_one, encT_one, encI_snoc, encS_snoc, encT_snocE, encG_snocE, encC_snoc, encL_snoc, encK_snocE, encP_snocE, encI_set, encS_set, encT_setE, encG_setE, encC_setE, encK_setE, encP_setE, encI_len, encS_len, encT_len2, encG_len2, encC_len, encL_len, encK_len2, encP_len2, encW_len, dT_ids, dI_ids, dT_len, dI_len, List.length_set, encI_takeM, List.take_length])))
              simp only [c84, cond_true] at hh59
              simp only [Option.bind_some, nextO_inr] at hh59
              obtain rfl := Option.some.inj hh59
              try dsimp only at hh46
              simp only [Option.bind_some, nextO_inr] at hh46
              obtain rfl := Option.some.inj hh46
              try dsimp only at hr
              obtain rfl := Option.some.inj hr
              try simp only [go_sem, c18, c19, c20, c21, c22, c33, c43, c51, f54, f55, c56, f66, f67, c68, f71, f72, c73, c74, f77, f78, c79, f82, f83, c84]
              all_goals (try refine end_pure ?_)
              all_goals (try simp only [go_sem, c18, c19, c20, c21, c22, c33, c43, c51, f54, f55, c56, f66, f67, c68, f71, f72, c73, c74, f77, f78, c79, f82, f83, c84])
              all_goals (try (first | rfl | exact ⟨rfl, rfl⟩ | (simp; done)))
            simp only [c79, cond_true] at hh59
            simp only [Option.bind_some, nextO_inr] at hh59
            obtain rfl := Option.some.inj hh59
            try dsimp only at hh46
            simp only [Option.bind_some, nextO_inr] at hh46
            obtain rfl := Option.some.inj hh46
            try dsimp only at hr
            obtain rfl := Option.some.inj hr
            try simp only [go_sem, c18, c19, c20, c21, c22, c33, c43, c51, f54, f55, c56, f66, f67, c68, f71, f72, c73, c74, f77, f78, c79]
            all_goals (try refine end_pure ?_)
            all_goals (try simp only [go_sem, c18, c19, c20, c21, c22, c33, c43, c51, f54, f55, c56, f66, f67, c68, f71, f72, c73, c74, f77, f78, c79])
            all_goals (try (first | rfl | exact ⟨rfl, rfl⟩ | (simp; done)))
          simp only [c74, cond_true] at hh59
          simp only [Option.bind_some, nextO_inr] at hh59
          obtain rfl := Option.some.inj hh59
          try dsimp only at hh46
          simp only [Option.bind_some, nextO_inr] at hh46
          obtain rfl := Option.some.inj hh46
          try dsimp only at hr
          obtain rfl := Option.some.inj hr
          try simp only [go_sem, c18, c19, c20, c21, c22, c33, c43, c51, f54, f55, c56, f66, f67, c68, f71, f72, c73, c74]
          all_goals (try refine end_pure ?_)
          all_goals (try simp only [go_sem, c18, c19, c20, c21, c22, c33, c43, c51, f54, f55, c56, f66, f67, c68, f71, f72, c73, c74])
          all_goals (try (first | rfl | exact ⟨rfl, rfl⟩ | (simp; done)))
        simp only [c73, cond_true] at hh59
        simp only [Option.bind_some, nextO_inr] at hh59
        obtain rfl := Option.some.inj hh59
        try dsimp only at hh46
        simp only [Option.bind_some, nextO_inr] at hh46
        obtain rfl := Option.some.inj hh46
        try dsimp only at hr
        obtain rfl := Option.some.inj hr
        try simp only [go_sem, c18, c19, c20, c21, c22, c33, c43, c51, f54, f55, c56, f66, f67, c68, f71, f72, c73]
        all_goals (try refine end_pure ?_)
        all_goals (try simp only [go_sem, c18, c19, c20, c21, c22, c33, c43, c51, f54, f55, c56, f66, f67, c68, f71, f72, c73])
        all_goals (try (first | rfl | exact ⟨rfl, rfl⟩ | (simp; done)))
      simp only [c56, cond_true] at hh46
      rcases g88 : idxO v36 v45 with _ | x87
      · simp only [g88, Option.bind_none, reduceCtorEq] at hh46
      simp only [g88, Option.bind_some] at hh46
      have f89 := idxO_rng g88
      have f90 : (encI v36).getD (Int.toNat v45) [] = [(.int .i64 x87)] := idxO_map _ g88
      cases c91 : decide (x87 < 0)
      · simp only [c91, cond_false] at hh46
        rcases g98 : loopO (lawOrder_L2 y1 x15 v36 v45 x87) 0 with _ | e97
        · simp only [g98, Option.bind_none, reduceCtorEq] at hh46
        simp only [g98, Option.bind_some] at hh46
        try simp only [go_sem, c18, c19, c20, c21, c22, c33, c43, c51, f54, f55, c56, f89, f90, c91]
        refine X_loopO g98 (fun q : Int => ⟨[(4, .p (.sl (encG y1))), (6, .p (.sl (encI x9))), (10, .p (.sl (encG x15))), (12, .ref 73 0 v36.length v36.length), (15, .p (.int .i64 v45)), (16, .p (.int .i64 q))], [(73, .arr 3 1 (encI v36))], 195⟩) ((Wk.forget (by simp [Le, LeE, LeH, get, envIds, hpIds, KeepH, D.ids, idsL, AO.ids, setL, base, encI_nil, encS_nil, encT_nil, encG_nil, encC_nil, encL_nil, encK_nil, encP_nil, mpS_nil, mpB_nil, encI_consE, encS_consE, encT_consE, encG_consE, encI_one, encS_one, encT_one, encI_snoc, encS_snoc, encT_snocE, encG_snocE, encC_snoc, encL_snoc, encK_snocE, encP_snocE, encI_set, encS_set, encT_setE, encG_setE, encC_setE, encK_setE, encP_setE, encI_len, encS_len, encT_len2, encG_len2, encC_len, encL_len, encK_len2, encP_len2, encW_len, dT_ids, dI_ids, dT_len, dI_len, List.length_set, encI_takeM, List.take_length]))) ?_
        rintro v93 m96 hh94 ih95
        rw [lawOrder_L2_eq] at hh94
        rcases g100 : idxO x15 v45 with _ | x99
        · simp only [g100, Option.bind_none, reduceCtorEq] at hh94
        simp only [g100, Option.bind_some] at hh94
        have f101 := idxO_rng g100
        have f102 : (encG x15).getD (Int.toNat v45) [] = [(.sl (encI x99))] := idxO_map _ g100
        cases c103 : decide (v93 < ((x99.length : Nat) : Int))
        · simp only [c103, cond_false] at hh94
          simp only [Option.bind_some, nextO_inr] at hh94
          obtain rfl := Option.some.inj hh94
          try dsimp only at hh46
          simp only [Option.bind_some, nextO_inl] at hh46
          try simp only [go_sem, c18, c19, c20, c21, c22, c33, c43, c51, f54, f55, c56, f89, f90, c91, f101, f102, c103]
          exact ih47 (IntKind.i64.wrap (v45 + 1)) _ hh46 ((Wk.forget (by simp [Le, LeE, LeH, get, envIds, hpIds, KeepH, D.ids, idsL, AO.ids, setL, base, encI_nil, encS_nil, encT_nil, encG_nil, encC_nil, encL_nil, encK_nil, encP_nil, mpS_nil, mpB_nil, encI_consE, encS_consE, encT_consE, encG_consE, encI_one, encS_one, encT_one, encI_snoc, encS_snoc, encT_snocE, encG_snocE, encC_snoc, encL_snoc, encK_snocE, encP_snocE, encI_set, encS_set, encT_setE, encG_setE, encC_setE, encK_setE, encP_setE, encI_len, encS_len, encT_len2, encG_len2, encC_len, encL_len, encK_len2, encP_len2, encW_len, dT_ids, dI_ids, dT_len, dI_len, List.length_set, encI_takeM, List.take_length])))
        simp only [c103, cond_true] at hh94
        rcases g105 : idxO x99 v93 with _ | x104
        · simp only [g105, Option.bind_none, reduceCtorEq] at hh94
        simp only [g105, Option.bind_some] at hh94
        have f106 := idxO_rng g105
        have f107 : (encI x99).getD (Int.toNat v93) [] = [(.int .i64 x104)] := idxO_map _ g105
        try simp only [go_sem, c18, c19, c20, c21, c22, c33, c43, c51, f54, f55, c56, f89, f90, c91, f101, f102, c103, f106, f107]
        refine X_any0 mixed (p := [(0, 0), (1, 0), (2, 0), (3, 0), (4, 0), (5, 0), (6, 0), (7, 0), (8, 0), (9, 0), (10, 0), (11, 0), (12, 0), (13, 0), (14, 0), (15, 0), (16, 0), (17, 0), (18, 0), (19, 0), (20, 0), (21, 0), (22, 0), (23, 0), (24, 0), (25, 0)]) (by kernel_rfl) (by simp [LeH, get]) ?_
        cases c108 : decide (x104 < 0)
        · simp only [c108, cond_false] at hh94
          cases c109 : decide (((y1.length : Nat) : Int) ≤ x104)
          · simp only [c109, cond_false] at hh94
            rcases g111 : idxO v36 x104 with _ | x110
            · simp only [g111, Option.bind_none, reduceCtorEq] at hh94
            simp only [g111, Option.bind_some] at hh94
            have f112 := idxO_rng g111
            have f113 : (encI v36).getD (Int.toNat x104) [] = [(.int .i64 x110)] := idxO_map _ g111
            cases c114 : decide (x110 ≤ x87)
            · simp only [c114, cond_false] at hh94
              simp only [Option.bind_some, nextO_inl] at hh94
              try simp only [go_sem, c18, c19, c20, c21, c22, c33, c43, c51, f54, f55, c56, f89, f90, c91, f101, f102, c103, f106, f107, c108, c109, f112, f113, c114]
              exact ih95 (IntKind.i64.wrap (v93 + 1)) _ hh94 ((Wk.forget (by simp [Le, LeE, LeH, get, envIds, hpIds, KeepH, D.ids, idsL, AO.ids, setL, base, encI_nil, encS_nil, encT_nil, encG_nil, encC_nil, encL_nil, encK_nil, encP_nil, mpS_nil, mpB_nil, encI_consE, encS_consE, encT_consE, encG_consE, encI_one, encS_one, encT_one, encI_snoc, encS_snoc, encT_snocE, encG_snocE, encC_snoc, encL_snoc, encK_snocE, encP_snocE, encI_set, encS_set, encT_setE, encG_setE, encC_setE, encK_setE, encP_setE, encI_len, encS_len, encT_len2, encG_len2, encC_len, encL_len, encK_len2, encP_len2, encW_len, dT_ids, dI_ids, dT_len, dI_len, List.length_set, encI_takeM, List.take_length])))
            simp only [c114, cond_true] at hh94
            simp only [Option.bind_some, nextO_inr] at hh94
            obtain rfl := Option.some.inj hh94
            try dsimp only at hh46
            simp only [Option.bind_some, nextO_inr] at hh46
            obtain rfl := Option.some.inj hh46
            try dsimp only at hr
            obtain rfl := Option.some.inj hr
            try simp only [go_sem, c18, c19, c20, c21, c22, c33, c43, c51, f54, f55, c56, f89, f90, c91, f101, f102, c103, f106, f107, c108, c109, f112, f113, c114]
            all_goals (try refine end_pure ?_)
            all_goals (try simp only [go_sem, c18, c19, c20, c21, c22, c33, c43, c51, f54, f55, c56, f89, f90, c91, f101, f102, c103, f106, f107, c108, c109, f112, f113, c114])
            all_goals (try (first | rfl | exact ⟨rfl, rfl⟩ | (simp; done)))
          simp only [c109, cond_true] at hh94
          simp only [Option.bind_some, nextO_inr] at hh94
          obtain rfl := Option.some.inj hh94
          try dsimp only at hh46
          simp only [Option.bind_some, nextO_inr] at hh46
          obtain rfl := Option.some.inj hh46
          try dsimp only at hr
          obtain rfl := Option.some.inj hr
          try simp only [go_sem, c18, c19, c20, c21, c22, c33, c43, c51, f54, f55, c56, f89, f90, c91, f101, f102, c103, f106, f107, c108, c109]
          all_goals (try refine end_pure ?_)
          all_goals (try simp only [go_sem, c18, c19, c20, c21, c22, c33, c43, c51, f54, f55, c56, f89, f90, c91, f101, f102, c103, f106, f107, c108, c109])
          all_goals (try (first | rfl | exact ⟨rfl, rfl⟩ | (simp; done)))
        simp only [c108, cond_true] at hh94
        simp only [Option.bind_some, nextO_inr] at hh94
        obtain rfl := Option.some.inj hh94
        try dsimp only at hh46
        simp only [Option.bind_some, nextO_inr] at hh46
        obtain rfl := Option.some.inj hh46
        try dsimp only at hr
        obtain rfl := Option.some.inj hr
        try simp only [go_sem, c18, c19, c20, c21, c22, c33, c43, c51, f54, f55, c56, f89, f90, c91, f101, f102, c103, f106, f107, c108]
        all_goals (try refine end_pure ?_)
        all_goals (try simp only [go_sem, c18, c19, c20, c21, c22, c33, c43, c51, f54, f55, c56, f89, f90, c91, f101, f102, c103, f106, f107, c108])
        all_goals (try (first | rfl | exact ⟨rfl, rfl⟩ | (simp; done)))
      simp only [c91, cond_true] at hh46
      simp only [Option.bind_some, nextO_inr] at hh46
      obtain rfl := Option.some.inj hh46
      try dsimp only at hr
      obtain rfl := Option.some.inj hr
      try simp only [go_sem, c18, c19, c20, c21, c22, c33, c43, c51, f54, f55, c56, f89, f90, c91]
      all_goals (try refine end_pure ?_)
      all_goals (try simp only [go_sem, c18, c19, c20, c21, c22, c33, c43, c51, f54, f55, c56, f89, f90, c91])
      all_goals (try (first | rfl | exact ⟨rfl, rfl⟩ | (simp; done)))
    simp only [c43, cond_true] at hh38
    try simp only [go_sem, c18, c19, c20, c21, c22, c33, c43]
    refine X_any0 mixed (p := [(0, 0), (1, 0), (2, 0), (3, 0), (4, 0), (5, 0), (6, 0), (7, 0), (8, 0), (9, 0), (10, 0), (11, 0), (12, 0), (13, 0), (14, 0), (15, 0), (16, 0), (17, 0), (18, 0), (19, 0), (20, 0), (21, 0), (22, 0), (23, 0), (24, 0), (25, 0), (26, 0), (27, 0), (28, 0), (29, 0), (30, 0), (31, 0), (32, 0), (33, 0), (34, 0), (35, 0), (36, 0), (37, 0)]) (by kernel_rfl) (by simp [LeH, get]) ?_
    rcases g120 : idxO x12 v37 with _ | x119
    · simp only [g120, Option.bind_none, reduceCtorEq] at hh38
    simp only [g120, Option.bind_some] at hh38
    have f121 := idxO_rng g120
    have f122 : (encI x12).getD (Int.toNat v37) [] = [(.int .i64 x119)] := idxO_map _ g120
    cases c123 : decide (x119 < 0)
    · simp only [c123, cond_false] at hh38
      cases c124 : decide (((y1.length : Nat) : Int) ≤ x119)
      · simp only [c124, cond_false] at hh38
        rcases g126 : idxO v36 x119 with _ | x125
        · simp only [g126, Option.bind_none, reduceCtorEq] at hh38
        simp only [g126, Option.bind_some] at hh38
        have f127 := idxO_rng g126
        have f128 : (encI v36).getD (Int.toNat x119) [] = [(.int .i64 x125)] := idxO_map _ g126
        cases c129 : decide (0 ≤ x125)
        · simp only [c129, cond_false] at hh38
          rcases g131 : idxO x9 x119 with _ | x130
          · simp only [g131, Option.bind_none, reduceCtorEq] at hh38
          simp only [g131, Option.bind_some] at hh38
          have f132 := idxO_rng g131
          have f133 : (encI x9).getD (Int.toNat x119) [] = [(.int .i64 x130)] := idxO_map _ g131
          cases c134 : decide (x130 = x119)
          · simp only [c134, cond_false] at hh38
            simp only [Option.bind_some, nextO_inr] at hh38
            obtain rfl := Option.some.inj hh38
            try dsimp only at hr
            obtain rfl := Option.some.inj hr
            try simp only [go_sem, c18, c19, c20, c21, c22, c33, c43, f121, f122, c123, c124, f127, f128, c129, f132, f133, c134]
            all_goals (try refine end_pure ?_)
            all_goals (try simp only [go_sem, c18, c19, c20, c21, c22, c33, c43, f121, f122, c123, c124, f127, f128, c129, f132, f133, c134])
            all_goals (try (first | rfl | exact ⟨rfl, rfl⟩ | (simp; done)))
          simp only [c134, cond_true] at hh38
          simp only [Option.bind_some, nextO_inl] at hh38
          try simp only [go_sem, c18, c19, c20, c21, c22, c33, c43, f121, f122, c123, c124, f127, f128, c129, f132, f133, c134]
          exact ih39 ((v36.set (Int.toNat x119) v37), (IntKind.i64.wrap (v37 + 1))) _ hh38 ((Wk.forget (by simp [Le, LeE, LeH, get, envIds, hpIds, KeepH, D.ids, idsL, AO.ids, setL, base, encI_nil, encS_nil, encT_nil, encG_nil, encC_nil, encL_nil, encK_nil, encP_nil, mpS_nil, mpB_nil, encI_consE, encS_consE, encT_consE, encG_consE, encI_one, encS_one, encT_one, encI_snoc, encS_snoc, encT_snocE, encG_snocE, encC_snoc, encL_snoc, encK_snocE, encP_snocE, encI_set, encS_set, encT_setE, encG_setE, encC_setE, encK_setE, encP_setE, encI_len, encS_len, encT_len2, encG_len2, encC_len, encL_len, encK_len2, encP_len2, encW_len, dT_ids, dI_ids, dT_len, dI_len, List.length_set, encI_takeM, List.take_length])))
        simp only [c129, cond_true] at hh38
        simp only [Option.bind_some, nextO_inr] at hh38
        obtain rfl := Option.some.inj hh38
        try dsimp only at hr
        obtain rfl := Option.some.inj hr
        try simp only [go_sem, c18, c19, c20, c21, c22, c33, c43, f121, f122, c123, c124, f127, f128, c129]
        all_goals (try refine end_pure ?_)
        all_goals (try simp only [go_sem, c18, c19, c20, c21, c22, c33, c43, f121, f122, c123, c124, f127, f128, c129])
        all_goals (try (first | rfl | exact ⟨rfl, rfl⟩ | (simp; done)))
      simp only [c124, cond_true] at hh38
      simp only [Option.bind_some, nextO_inr] at hh38
      obtain rfl := Option.some.inj hh38
      try dsimp only at hr
      obtain rfl := Option.some.inj hr
      try simp only [go_sem, c18, c19, c20, c21, c22, c33, c43, f121, f122, c123, c124]
      all_goals (try refine end_pure ?_)
      all_goals (try simp only [go_sem, c18, c19, c20, c21, c22, c33, c43, f121, f122, c123, c124])
      all_goals (try (first | rfl | exact ⟨rfl, rfl⟩ | (simp; done)))
    simp only [c123, cond_true] at hh38
    simp only [Option.bind_some, nextO_inr] at hh38
    obtain rfl := Option.some.inj hh38
    try dsimp only at hr
    obtain rfl := Option.some.inj hr
    try simp only [go_sem, c18, c19, c20, c21, c22, c33, c43, f121, f122, c123]
    all_goals (try refine end_pure ?_)
    all_goals (try simp only [go_sem, c18, c19, c20, c21, c22, c33, c43, f121, f122, c123])
    all_goals (try (first | rfl | exact ⟨rfl, rfl⟩ | (simp; done)))
  simp only [c33, cond_true] at hh28
  rcases g214 : idxO v26 v27 with _ | x213
  · simp only [g214, Option.bind_none, reduceCtorEq] at hh28
  simp only [g214, Option.bind_some] at hh28
  have f215 := idxO_rng g214
  have f216 : (encI v26).getD (Int.toNat v27) [] = [(.int .i64 x213)] := idxO_map _ g214
  simp only [Option.bind_some, nextO_inl] at hh28
  try simp only [go_sem, c18, c19, c20, c21, c22, c33, f215, f216]
  exact ih29 ((v26.set (Int.toNat v27) (-1)), (IntKind.i64.wrap (v27 + 1))) _ hh28 ((Wk.forget (by simp [Le, LeE, LeH, get, envIds, hpIds, KeepH, D.ids, idsL, AO.ids, setL, base, encI_nil, encS_nil, encT_nil, encG_nil, encC_nil, encL_nil, encK_nil, encP_nil, mpS_nil, mpB_nil, encI_consE, encS_consE, encT_consE, encG_consE, encI_one, encS_one, encT_one, encI_snoc, encS_snoc, encT_snocE, encG_snocE, encC_snoc, encL_snoc, encK_snocE, encP_snocE, encI_set, encS_set, encT_setE, encG_setE, encC_setE, encK_setE, encP_setE, encI_len, encS_len, encT_len2, encG_len2, encC_len, encL_len, encK_len2, encP_len2, encW_len, dT_ids, dI_ids, dT_len, dI_len, List.length_set, encI_takeM, List.take_length])))
end Go.Am
end
section
namespace Go.Am
open Go Go.Proofs
set_option maxRecDepth 100000
set_option linter.unusedVariables false
set_option linter.unusedSimpArgs false
theorem made_val {a0 l : List Int} {a : Int} {g : List (List Int)} (h : GraphQ a0 g l a) : Gval g ∧ g.length ≤ 8 := ⟨GR.val (by have := h.2.1; omega) h.2.2, h.2.1⟩
theorem mutual_iff {g : List (List Int)} {sh : List Bool} (hg : Gok g sh) {nm : List Int} (hn : NmsOk g sh nm) {v w : Nat} (hv : v < g.length) (hw : w < g.length) :
    ((sh.getD v false = false ∧ Rch g sh v w) ∧ (sh.getD w false = false ∧ Rch g sh w v)) ↔ (0 ≤ nm.getD v (-1) ∧ nm.getD v (-1) = nm.getD w (-1)) := by
  constructor
  · rintro ⟨⟨h1, h2⟩, h3, h4⟩
    exact ⟨((hn.2 v hv).1 h1).1, hn.same hv hw h1 h3 h2 h4⟩
  · rintro ⟨h1, h2⟩
    obtain ⟨y, ey, _, hvo, _, _, _, vy, yv⟩ := hn.name hg hv h1
    obtain ⟨z, ez, _, hwo, _, _, _, wz, zw⟩ := hn.name hg hw (by rw [← h2]; exact h1)
    have : y = z := by omega
    subst this
    exact ⟨⟨hvo, vy.trans zw⟩, hwo, wz.trans yv⟩
theorem lawMutual_L1_at {g : List (List Int)} {sh : List Bool} (hv : Gval g) (hs : sh.length = g.length) {v : Nat} (hvn : v < g.length) {x : List Bool} (hx : x.length = g.length) (hxw : ∀ w, w < g.length → (x.getD w false = true ↔ sh.getD v false = false ∧ Rch g sh v w)) :
    loopO (lawMutual_L1 g sh (namesV g sh) (v : Int) ((namesV g sh).getD v (-1)) x) 0 = some (.inl ((g.length : Nat) : Int)) := by
  have hg := hv.ok hs
  have hn := namesV_ok g sh
  generalize namesV g sh = nm at hn ⊢
  have h24 := hg.n24
  refine loopO_thru (step := lawMutual_L1 g sh nm (v : Int) (nm.getD v (-1)) x) g.length (fun i => ((i : Nat) : Int)) _ ?_ ?_
  · intro w hw
    obtain ⟨y, h1, h2, h3⟩ := from_at hv hs w hw
    have hm := mutual_iff hg hn hvn hw
    rw [← hxw w hw, ← h3 v hvn] at hm
    rw [lawMutual_L1_eq, lt_c hw, cond_true, h1, Option.bind_some]
    dsimp only
    rw [show decide ((0 : Int) = 0) = true from rfl, cond_true, h2, decide_eq_true rfl, cond_true, idxO_at x w false (by omega), Option.bind_some]
    have en : idxO nm (w : Int) = some (nm.getD w (-1)) := idxO_at nm w (-1) (by rw [hn.1]; exact hw)
    have ey : idxO y (v : Int) = some (y.getD v false) := idxO_at y v false (by omega)
    have ew : IntKind.i64.wrap ((w : Int) + 1) = ((w + 1 : Nat) : Int) := wrap_sm (by omega)
    by_cases c2 : 0 ≤ nm.getD v (-1)
    · rw [decide_eq_true c2]
      cases c1 : x.getD w false
      · rw [c1] at hm
        have : ¬ nm.getD v (-1) = nm.getD w (-1) := fun h => by have := hm.2 ⟨c2, h⟩; cases this.1
        simp only [cond_false, cond_true, en, Option.bind_some, decide_eq_false this, beq_self_eq_true, ew]
      · rw [c1] at hm
        have : y.getD v false = decide (nm.getD v (-1) = nm.getD w (-1)) := by
          rw [Bool.eq_iff_iff, decide_eq_true_eq]
          constructor
          · intro h; exact (hm.1 ⟨rfl, h⟩).2
          · intro h; exact (hm.2 ⟨c2, h⟩).2
        simp only [cond_false, cond_true, en, ey, Option.bind_some, this, beq_self_eq_true, ew]
    · rw [decide_eq_false c2]
      cases c1 : x.getD w false
      · simp only [cond_false, cond_true, en, ey, Option.bind_some, beq_self_eq_true, ew]
      · rw [c1] at hm
        have : y.getD v false = false := by
          cases c3 : y.getD v false with
          | false => rfl
          | true => exact absurd (hm.1 ⟨rfl, c3⟩).1 c2
        simp only [cond_false, cond_true, en, ey, Option.bind_some, this, beq_self_eq_true, ew]
  · rw [lawMutual_L1_eq, lt_n, cond_false]
theorem lawMutual_at (a0 : List Int) (g : List (List Int)) (l : List Int) (a : Int) (hq : GraphQ a0 g l a) (sh : List Bool) (l' : List Int) (a' : Int) (hs' : ShutQ l a ((g.length : Nat) : Int) sh l' a') : lawMutual_v a0 g l a sh l' a' = some true := by
  obtain ⟨hv, h8⟩ := made_val hq
  have hs : sh.length = g.length := by unfold ShutQ at hs'; omega
  have hg := hv.ok hs
  have hn := namesV_ok g sh
  have hl : loopO (lawMutual_L2 g sh (namesV g sh)) 0 = some (.inl ((g.length : Nat) : Int)) := by
    refine loopO_thru (step := lawMutual_L2 g sh (namesV g sh)) g.length (fun i => ((i : Nat) : Int)) _ ?_ ?_
    · intro v hvn
      obtain ⟨x, h1, h2, h3⟩ := from_at hv hs v hvn
      have hin := lawMutual_L1_at hv hs hvn h2 h3
      generalize namesV g sh = nm at hn hin ⊢
      rw [lawMutual_L2_eq, lt_c hvn, cond_true, idxO_at sh v false (by omega), Option.bind_some, idxO_at nm v (-1) (by rw [hn.1]; exact hvn), Option.bind_some]
      have e1 : sh.getD v false = decide (nm.getD v (-1) < 0) := by
        cases c : sh.getD v false with
        | true => rw [(hn.2 v hvn).2 c]; rfl
        | false => rw [decide_eq_false (by have := ((hn.2 v hvn).1 c).1; omega)]
      have e2 : ¬ (v : Int) < nm.getD v (-1) := by
        intro h
        obtain ⟨y, ey, _, _, _, _, hyv, _⟩ := hn.name hg hvn (by omega)
        omega
      rw [e1, beq_self_eq_true, cond_true, decide_eq_false e2, cond_false, h1, Option.bind_some]
      dsimp only
      rw [show decide ((0 : Int) = 0) = true from rfl, cond_true, h2, decide_eq_true rfl, cond_true, hin, Option.bind_some]
      dsimp only
      rw [wrap_sm (by omega)]
    · rw [lawMutual_L2_eq, lt_n, cond_false]
  unfold lawMutual_v
  rw [hv.names hs, Option.bind_some]
  dsimp only
  rw [show decide ((0 : Int) = 0) = true from rfl, cond_true, hn.1, decide_eq_true rfl, cond_true, hl, Option.bind_some]
theorem QE.src {g : List (List Int)} {sh : List Bool} (hg : Gok g sh) {nm : List Int} (hn : NmsOk g sh nm) {v : Nat} {b : Int} (h : QE g nm (v : Int) b) : nm.getD v (-1) = (v : Int) := by
  obtain ⟨x, y, e, _, _, _, h1, _⟩ := h.rch hg hn
  have : v = x := by omega
  rw [this]; exact h1
def PlOk (n : Nat) (o : List Int) (i : Nat) (p : List Int) : Prop := p.length = n ∧ ∀ w, w < n → (∀ j, j < i → o.getD j 0 = (w : Int) → p.getD w 0 = (j : Int)) ∧ ((∀ j, j < i → o.getD j 0 ≠ (w : Int)) → p.getD w 0 = -1)
theorem lawOrder_L4_at {g : List (List Int)} {sh : List Bool} (hg : Gok g sh) {nm : List Int} (hn : NmsOk g sh nm) {o : List Int} (ho : OrdOk g nm o) (p : List Int) (hp : PlOk g.length o 0 p) :
    ∃ p', loopO (lawOrder_L4 g nm o) (p, 0) = some (.inl (p', ((o.length : Nat) : Int))) ∧ PlOk g.length o o.length p' := by
  have hlo := ho.1.len
  have h24 := hg.n24
  refine loopO_cnt (step := lawOrder_L4 g nm o) o.length (fun p i => (p, ((i : Nat) : Int))) (fun p => .inl (p, ((o.length : Nat) : Int))) (fun i p => PlOk g.length o i p) ?_ ?_ p hp
  · rintro i p hi ⟨hl, hI⟩
    obtain ⟨y, ey, hy, hyy⟩ := ho.1.mem (x := o.getD i 0) (by rw [getD_eq hi]; exact List.getElem_mem hi)
    have hnot : ∀ j, j < i → o.getD j 0 ≠ (y : Int) := by
      intro j hj e
      have := List.pairwise_iff_getElem.1 ho.1.nodup j i (by omega) hi hj
      rw [getD_eq (show j < o.length by omega)] at e
      rw [getD_eq hi] at ey
      exact this (by rw [e, ey])
    have hpy := (hI y hy).2 hnot
    try dsimp only
    rw [lawOrder_L4_eq, lt_c hi, cond_true, idxO_at o i 0 hi, Option.bind_some, ey, decide_eq_false (by omega), cond_false, decide_eq_false (by omega), cond_false, idxO_at p y 0 (by omega), Option.bind_some, hpy, show decide ((0 : Int) ≤ -1) = false from rfl, cond_false,
      idxO_at nm y (-1) (by rw [hn.1]; exact hy), Option.bind_some, hyy, decide_eq_true rfl, cond_true, Int.toNat_natCast, wrap_sm (by omega)]
    refine ⟨_, rfl, by simp [hl], fun w hw => ?_⟩
    rw [getD_setx _ _ _ _ _ (by omega)]
    by_cases e : w = y
    · subst e
      rw [if_pos rfl]
      refine ⟨fun j hj ej => ?_, fun h => absurd ey (h i (by omega))⟩
      rcases Nat.lt_succ_iff_lt_or_eq.1 hj with h1 | rfl
      · exact absurd ej (hnot j h1)
      · rfl
    · rw [if_neg e]
      refine ⟨fun j hj ej => ?_, fun h => (hI w hw).2 fun j hj => h j (by omega)⟩
      rcases Nat.lt_succ_iff_lt_or_eq.1 hj with h1 | rfl
      · exact (hI w hw).1 j h1 ej
      · omega
  · intro p _
    try dsimp only
    rw [lawOrder_L4_eq, lt_n, cond_false]
theorem lawOrder_at (a0 : List Int) (g : List (List Int)) (l : List Int) (a : Int) (hq : GraphQ a0 g l a) (sh : List Bool) (l' : List Int) (a' : Int) (hs' : ShutQ l a ((g.length : Nat) : Int) sh l' a') : lawOrder_v a0 g l a sh l' a' = some true := by
  obtain ⟨hv, h8⟩ := made_val hq
  have hs : sh.length = g.length := by unfold ShutQ at hs'; omega
  have hg := hv.ok hs
  have hn := namesV_ok g sh
  obtain ⟨o, h1, ho⟩ := order_at hv hs (by omega)
  obtain ⟨q, h2, hqo⟩ := quot_at hv hs (by omega)
  have h5 : ∃ p, loopO (lawOrder_L5 g) (List.replicate g.length 0, 0) = some (p, ((g.length : Nat) : Int)) ∧ (p.length = g.length ∧ ∀ w, w < g.length → w < g.length → p.getD w 0 = -1) := by
    refine loopO_cnt (step := lawOrder_L5 g) g.length (fun p i => (p, ((i : Nat) : Int))) (fun p => (p, ((g.length : Nat) : Int))) (fun i p => p.length = g.length ∧ ∀ w, w < g.length → w < i → p.getD w 0 = -1) ?_ ?_ _ ⟨by simp, fun w _ h => absurd h (Nat.not_lt_zero _)⟩
    · rintro i p hi ⟨hl, hI⟩
      try dsimp only
      rw [lawOrder_L5_eq, lt_c hi, cond_true, idxO_at p i 0 (by omega), Option.bind_some, Int.toNat_natCast, wrap_sm (by omega)]
      refine ⟨_, rfl, by simp [hl], fun w hw hwi => ?_⟩
      rw [getD_setx _ _ _ _ _ (by omega)]
      split
      · rfl
      · exact hI w hw (by omega)
    · intro p _
      try dsimp only
      rw [lawOrder_L5_eq, lt_n, cond_false]
  obtain ⟨p0, e5, hp0, hp1⟩ := h5
  generalize hnm : namesV g sh = nm at hn ho hqo
  have hnames : cNames_v g sh = some (nm, 0) := by rw [← hnm]; exact hv.names hs
  obtain ⟨p, e4, hp, hpl⟩ := lawOrder_L4_at hg hn ho p0 ⟨hp0, fun w hw => ⟨fun j hj => absurd hj (Nat.not_lt_zero _), fun _ => hp1 w hw hw⟩⟩
  have hlo := ho.1.len
  have e3 : loopO (lawOrder_L3 g nm q p) 0 = some (.inl ((g.length : Nat) : Int)) := by
    refine loopO_thru (step := lawOrder_L3 g nm q p) g.length (fun i => ((i : Nat) : Int)) _ ?_ ?_
    · intro v hvn
      have hqv := hqo.2 v hvn
      have hrl := (hqo.row hg hn hvn).2
      rw [lawOrder_L3_eq, lt_c hvn, cond_true, idxO_at nm v (-1) (by rw [hn.1]; exact hvn), Option.bind_some]
      by_cases c : nm.getD v (-1) = (v : Int)
      · have hvo := ho.2 v hvn c
        obtain ⟨i, hi, ei⟩ := List.mem_iff_getElem.1 hvo
        have hpv : p.getD v 0 = (i : Int) := (hpl v hvn).1 i hi (by rw [getD_eq hi]; exact ei)
        rw [decide_eq_true c, cond_true, idxO_at p v 0 (by omega), Option.bind_some, hpv, decide_eq_false (by omega), cond_false]
        have hin : loopO (lawOrder_L2 g q p (v : Int) (i : Int)) 0 = some (.inl (((q.getD v []).length : Nat) : Int)) := by
          refine loopO_thru (step := lawOrder_L2 g q p (v : Int) (i : Int)) (q.getD v []).length (fun i => ((i : Nat) : Int)) _ ?_ ?_
          · intro k hk
            have hm : (q.getD v []).getD k 0 ∈ q.getD v [] := by rw [getD_eq hk]; exact List.getElem_mem hk
            have hQE := (hqv.2 _).1 hm
            obtain ⟨x, w, ex, ew, hx, hw, _, hww, _⟩ := hQE.rch hg hn
            have hwo := ho.2 w hw hww
            obtain ⟨s, t, es⟩ := List.append_of_mem hwo
            obtain ⟨w', ew', hA, _⟩ := ho.1 s (w : Int) t es
            have : w = w' := by omega
            subst this
            rw [ew] at hQE
            have hin := hA.2.2.2 _ hQE
            obtain ⟨i', hi', ei'⟩ := List.mem_iff_getElem.1 hin
            have hpw : p.getD w 0 = (s.length : Int) := (hpl w hw).1 s.length (by rw [es]; simp) (by rw [es]; simp [List.getD])
            have hpv2 : p.getD v 0 = (i' : Int) := (hpl v hvn).1 i' (by rw [es]; simp; omega) (by rw [es, List.getD, List.getElem?_append_left hi', List.getElem?_eq_getElem hi', ei']; rfl)
            rw [lawOrder_L2_eq, idxO_at q v [] (by rw [hqo.1]; exact hvn), Option.bind_some, lt_c hk, cond_true, idxO_at _ k 0 hk, Option.bind_some, ew, decide_eq_false (by omega), cond_false, decide_eq_false (by omega), cond_false, idxO_at p w 0 (by omega), Option.bind_some, hpw,
              decide_eq_false (by omega), cond_false, wrap_sm (by omega)]
          · rw [lawOrder_L2_eq, idxO_at q v [] (by rw [hqo.1]; exact hvn), Option.bind_some, lt_n, cond_false]
        rw [hin, Option.bind_some]
        dsimp only
        rw [wrap_sm (by omega)]
      · have hemp : q.getD v [] = [] := List.eq_nil_iff_forall_not_mem.2 fun b hb => c (((hqv.2 b).1 hb).src hg hn)
        rw [decide_eq_false c, cond_false]
        have hin : loopO (lawOrder_L1 g q p (v : Int)) 0 = some (.inl 0) := by
          rw [loopO_step, lawOrder_L1_eq, idxO_at q v [] (by rw [hqo.1]; exact hvn), Option.bind_some, hemp]
          rfl
        rw [hin, Option.bind_some]
        dsimp only
        rw [wrap_sm (by omega)]
    · rw [lawOrder_L3_eq, lt_n, cond_false]
  unfold lawOrder_v
  rw [hnames, Option.bind_some]
  dsimp only
  rw [h1, Option.bind_some]
  dsimp only
  rw [h2, Option.bind_some]
  dsimp only
  rw [show decide ((0 : Int) = 0) = true from rfl, cond_true, cond_true, cond_true, hn.1, decide_eq_true rfl, cond_true, hqo.1, decide_eq_true rfl, cond_true, decide_eq_true (by omega), cond_true, e5, Option.bind_some]
  dsimp only
  rw [e4, Option.bind_some]
  dsimp only
  rw [e3, Option.bind_some]
end Go.Am
end
