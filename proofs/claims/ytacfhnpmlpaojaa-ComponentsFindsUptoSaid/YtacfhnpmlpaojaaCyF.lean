/- Texts of this proof, what it rests on, merged: part F. -/
import Derived.Shelf.Small.Bits
import Derived.Shelf.Strconv.Itoa0
import Derived.Shelf.Sort.Plain
import Derived.Shelf.Bits.Mul64
import Derived.Ground.Names2Prog
import Derived.Shelf.Slices.SearchI
import Derived.Test.YtacfhnpmlpaojaaCyE
section
namespace Go.Proofs
open Go.Shelf
def Try.lays189_ren : Go.Shelf.Ren := ⟨fun | 189 => 49 | 125 => 77 | 257 => 76 | 128 => 108 | 129 => 109 | 294 => 99 | 295 => 100 | 296 => 101 | 297 => 102 | 298 => 103 | 299 => 104 | 216 => 105 | 300 => 106 | 301 => 107 | 328 => 123 | 329 => 124 | 330 => 125 | 331 => 126 | 332 => 127 | 215 => 128 | 343 => 133 | n => n, fun | 28 => 24 | 3 => 3 | 46 => 121 | 0 => 0 | 51 => 136 | 53 => 139 | 4 => 4 | 183 => 145 | 182 => 144 | 131 => 149 | 5 => 5 | 9 => 9 | 218 => 165 | 222 => 169 | 228 => 174 | 229 => 160 | n => n, fun | n => n⟩
theorem Try.lays189 : Go.Proofs.Lays.n189 Try.prog Try.lays189_ren := {
  mixed := by kernel_rfl
  f125 := Try.func77.trans (congrArg some (by kernel_rfl))
  f128 := Try.func108.trans (congrArg some (by kernel_rfl))
  f129 := Try.func109.trans (congrArg some (by kernel_rfl))
  f189 := Try.func49.trans (congrArg some (by kernel_rfl))
  f215 := Try.func128.trans (congrArg some (by kernel_rfl))
  f216 := Try.func105.trans (congrArg some (by kernel_rfl))
  f257 := Try.func76.trans (congrArg some (by kernel_rfl))
  f294 := Try.func99.trans (congrArg some (by kernel_rfl))
  f295 := Try.func100.trans (congrArg some (by kernel_rfl))
  f296 := Try.func101.trans (congrArg some (by kernel_rfl))
  f297 := Try.func102.trans (congrArg some (by kernel_rfl))
  f298 := Try.func103.trans (congrArg some (by kernel_rfl))
  f299 := Try.func104.trans (congrArg some (by kernel_rfl))
  f300 := Try.func106.trans (congrArg some (by kernel_rfl))
  f301 := Try.func107.trans (congrArg some (by kernel_rfl))
  f328 := Try.func123.trans (congrArg some (by kernel_rfl))
  f329 := Try.func124.trans (congrArg some (by kernel_rfl))
  f330 := Try.func125.trans (congrArg some (by kernel_rfl))
  f331 := Try.func126.trans (congrArg some (by kernel_rfl))
  f332 := Try.func127.trans (congrArg some (by kernel_rfl))
  f343 := Try.func133.trans (congrArg some (by kernel_rfl))
  t0 := Try.underlying0
  a0 := Try.isAgg0
  z0 := Try.sizeOf0
  v0 := Try.zeroValue0
  t3 := Try.underlying3
  a3 := Try.isAgg3
  z3 := Try.sizeOf3
  v3 := Try.zeroValue3
  t4 := Try.underlying4
  a4 := Try.isAgg4
  z4 := Try.sizeOf4
  v4 := Try.zeroValue4
  t5 := Try.underlying5
  a5 := Try.isAgg5
  z5 := Try.sizeOf5
  v5 := Try.zeroValue5
  t9 := Try.underlying9
  a9 := Try.isAgg9
  z9 := Try.sizeOf9
  v9 := Try.zeroValue9
  t28 := Try.underlying24
  a28 := Try.isAgg24
  z28 := Try.sizeOf24
  v28 := Try.zeroValue24
  t46 := Try.underlying121
  a46 := Try.isAgg121
  z46 := Try.sizeOf121
  v46 := Try.zeroValue121
  t51 := Try.underlying136
  a51 := Try.isAgg136
  z51 := Try.sizeOf136
  v51 := Try.zeroValue136
  t53 := Try.underlying139
  a53 := Try.isAgg139
  z53 := Try.sizeOf139
  v53 := Try.zeroValue139
  t131 := Try.underlying149
  a131 := Try.isAgg149
  z131 := Try.sizeOf149
  v131 := Try.zeroValue149
  t182 := Try.underlying144
  a182 := Try.isAgg144
  z182 := Try.sizeOf144
  v182 := Try.zeroValue144
  t183 := Try.underlying145
  a183 := Try.isAgg145
  z183 := Try.sizeOf145
  v183 := Try.zeroValue145
  t218 := Try.underlying165
  a218 := Try.isAgg165
  z218 := Try.sizeOf165
  v218 := Try.zeroValue165
  t222 := Try.underlying169
  a222 := Try.isAgg169
  z222 := Try.sizeOf169
  v222 := Try.zeroValue169
  t228 := Try.underlying174
  a228 := Try.isAgg174
  z228 := Try.sizeOf174
  v228 := Try.zeroValue174
  t229 := Try.underlying160
  a229 := Try.isAgg160
  z229 := Try.sizeOf160
  v229 := Try.zeroValue160 }
open Go.Sort Go.RowKit in
theorem Try.slices_Sort_int (blk off cap : Nat) (zs : List Int) (w : World) (hH : Holds (Value.int .i64) w blk off zs.toArray) (hblk : blk < w.heap.size) (hsz : zs.length < 4611686018427387904) :
    Calls Try.prog 49 #[.slice (some ⟨blk, off, none⟩) zs.length cap] w fun e w' =>
      e = .returned (.tuple #[]) ∧ ∃ n os, w' = grow (putRow (Value.int .i64) (Sort.ahead w n) blk off (zs.mergeSort fun x y => decide (x ≤ y)).toArray) os := Any.slices_Sort_int Try.lays189 blk off cap zs w hH hblk hsz
end Go.Proofs
end
section
namespace Go.Am
open Go Go.Proofs
set_option maxRecDepth 100000
set_option linter.unusedVariables false
set_option linter.unusedSimpArgs false
theorem insS_perm : ∀ (l : List Int) (x : Int), (insS l x).Perm (x :: l)
  | [], x => .refl _
  | y :: r, x => by
    unfold insS
    split
    · exact .refl _
    · exact ((insS_perm r x).cons y).trans (List.Perm.swap x y r)
theorem foldl_insS_perm : ∀ (l p : List Int), (l.foldl insS p).Perm (p ++ l)
  | [], p => by simp
  | x :: r, p => by
    rw [List.foldl_cons]
    refine (foldl_insS_perm r (insS p x)).trans ?_
    have h1 : (insS p x ++ r).Perm (x :: p ++ r) := (insS_perm p x).append_right r
    exact h1.trans (List.perm_middle (a := x) (l₁ := p) (l₂ := r)).symm
theorem sortV_perm (l : List Int) : (sortV l).Perm l := by simpa [sortV] using foldl_insS_perm l []
theorem foldl_insS_sorted : ∀ (l p : List Int), p.Pairwise (· ≤ ·) → (l.foldl insS p).Pairwise (· ≤ ·)
  | [], _, h => h
  | x :: r, p, h => foldl_insS_sorted r (insS p x) (insS_sorted p x h)
theorem asc_uniq : ∀ {a b : List Int}, a.Pairwise (· ≤ ·) → b.Pairwise (· ≤ ·) → a.Perm b → a = b
  | [], b, _, _, h => (List.nil_perm.1 h).symm
  | x :: a, [], _, _, h => absurd h.symm (by intro h; have := List.nil_perm.1 h; cases this)
  | x :: a, y :: b, ha, hb, h => by
    rw [List.pairwise_cons] at ha hb
    have hx : x ∈ y :: b := h.mem_iff.1 (List.mem_cons_self)
    have hy : y ∈ x :: a := h.mem_iff.2 (List.mem_cons_self)
    have e : x = y := by
      rcases List.mem_cons.1 hx with h1 | h1
      · exact h1
      · rcases List.mem_cons.1 hy with h2 | h2
        · exact h2.symm
        · have := hb.1 x h1; have := ha.1 y h2; omega
    subst e
    rw [asc_uniq ha.2 hb.2 (List.Perm.cons_inv h)]
theorem sort_merge (l : List Int) : l.mergeSort leI = sortV l := by
  have h1 : (l.mergeSort leI).Pairwise fun a b => leI a b = true := List.pairwise_mergeSort (fun a b c h1 h2 => by simp only [leI, decide_eq_true_eq] at *; omega) (fun a b => by simp only [leI, Bool.or_eq_true, decide_eq_true_eq]; omega) l
  refine asc_uniq (h1.imp fun h => by simpa [leI] using h) (foldl_insS_sorted l [] List.Pairwise.nil) ((List.mergeSort_perm l leI).trans (sortV_perm l).symm)
theorem sort_24 (l : List Int) (hl : l.length ≤ 24) : ACalls Try.prog 49 [.ref 1000000 0 l.length l.length] [(1000000, .arr 3 1 (encI l))] fun h r => h = [(1000000, .arr 3 1 (encI (sortV l)))] ∧ r = .tup [] := by
  by_cases h : l.length ≤ 12
  · exact sort_own l h
  · rw [← sort_merge]
    exact ACalls_sort enters49 Try.slices_Sort_int l (by omega) (by omega)
end Go.Am
end
section
namespace Go.Am
open Go Go.Proofs
set_option maxRecDepth 100000
set_option linter.unusedVariables false
set_option linter.unusedSimpArgs false
theorem sortRow (rows : List (List Int)) (i k : Nat) (x : List Int) (hi : rows[i]? = some x) (hl : x.length ≤ 24) :
    ACalls Try.prog 49 [.nr 1000000 i x.length k] [(1000000, .nst 24 3 1 k (encW rows) none)] fun h r => h = [(1000000, .nst 24 3 1 k (encW (rows.set i (sortV x))) none)] ∧ r = .tup [] := by
  have hg : (encW rows)[i]? = some (encI x) := by simp [encW, hi]
  refine (ACalls_row (ps := []) hg (encI_len _).symm (sort_24 x hl) (R' := fun es r => es = encI (sortV x) ∧ r = .tup []) ?_).mono ?_
  · rintro h' r ⟨rfl, rfl⟩
    refine ⟨_, rfl, ?_, .inl rfl, rfl, rfl⟩
    rw [encI_len, sortV_len]
  · rintro h' r ⟨es', rfl, _, rfl, rfl⟩
    exact ⟨by rw [encW_setF], rfl⟩
end Go.Am
end
section
namespace Go.Am
open Go Go.Proofs
set_option maxRecDepth 100000
set_option maxHeartbeats 2000000
set_option linter.unusedSimpArgs false
set_option linter.unusedVariables false
noncomputable def qVal_L1 (a0 : List (List Int)) (v3 : Int) : Int → Option ((Int) ⊕ (Int ⊕ Bool))
  | v11 => Option.bind (idxO a0 v3) fun x17 => cond (decide (v11 < ((x17.length : Nat) : Int))) (Option.bind (idxO x17 v11) fun x22 => cond (decide (x22 < 0)) (some (Sum.inr (.inr (false)))) (cond (decide (((a0.length : Nat) : Int) ≤ x22)) (some (Sum.inr (.inr (false)))) (cond (decide (x22 = v3)) (some (Sum.inr (.inr (false)))) (cond (decide (0 < v11)) (Option.bind (idxO x17 (IntKind.i64.wrap (v11 - 1))) fun x30 => cond (decide (x22 ≤ x30)) (some (Sum.inr (.inr (false)))) (some (Sum.inl (IntKind.i64.wrap (v11 + 1))))) (some (Sum.inl (IntKind.i64.wrap (v11 + 1)))))))) (some (Sum.inr (.inl v11)))
theorem qVal_L1_eq (a0 : List (List Int)) (v3 : Int) (v11 : Int) : qVal_L1 a0 v3 v11 = Option.bind (idxO a0 v3) fun x17 => cond (decide (v11 < ((x17.length : Nat) : Int))) (Option.bind (idxO x17 v11) fun x22 => cond (decide (x22 < 0)) (some (Sum.inr (.inr (false)))) (cond (decide (((a0.length : Nat) : Int) ≤ x22)) (some (Sum.inr (.inr (false)))) (cond (decide (x22 = v3)) (some (Sum.inr (.inr (false)))) (cond (decide (0 < v11)) (Option.bind (idxO x17 (IntKind.i64.wrap (v11 - 1))) fun x30 => cond (decide (x22 ≤ x30)) (some (Sum.inr (.inr (false)))) (some (Sum.inl (IntKind.i64.wrap (v11 + 1))))) (some (Sum.inl (IntKind.i64.wrap (v11 + 1)))))))) (some (Sum.inr (.inl v11))) := rfl
noncomputable def qVal_L2 (a0 : List (List Int)) : Int → Option ((Int) ⊕ (Int ⊕ Bool))
  | v3 => cond (decide (v3 < ((a0.length : Nat) : Int))) (Option.bind (loopO (qVal_L1 a0 v3) 0) (fun | .inl v35 => some (Sum.inl (IntKind.i64.wrap (v3 + 1))) | .inr (r36) => some (Sum.inr (.inr (r36))))) (some (Sum.inr (.inl v3)))
theorem qVal_L2_eq (a0 : List (List Int)) (v3 : Int) : qVal_L2 a0 v3 = cond (decide (v3 < ((a0.length : Nat) : Int))) (Option.bind (loopO (qVal_L1 a0 v3) 0) (fun | .inl v35 => some (Sum.inl (IntKind.i64.wrap (v3 + 1))) | .inr (r36) => some (Sum.inr (.inr (r36))))) (some (Sum.inr (.inl v3))) := rfl
noncomputable def qVal_v (a0 : List (List Int)) : Option (Bool) :=
  cond (decide (24 < ((a0.length : Nat) : Int))) (some false) (Option.bind (loopO (qVal_L2 a0) 0) (fun | .inl v37 => some true | .inr (r38) => some r38))
theorem qVal_vok (a0 : List (List Int)) (r : Bool) (hr : qVal_v a0 = some r) :
    ACalls Try.prog 74 [.p (.sl (encG a0))] [] fun h d => h = [] ∧ d = .p (.bool r) := by
  refine ACalls_X Try.func74 rfl enters74 (by simp [Try.f74]) ?_
  unfold qVal_v at hr
  cases c1 : decide (24 < ((a0.length : Nat) : Int))
  · simp only [c1, cond_false] at hr
    rcases g8 : loopO (qVal_L2 a0) 0 with _ | e7
    · simp only [g8, Option.bind_none, reduceCtorEq] at hr
    simp only [g8, Option.bind_some] at hr
    try simp only [go_sem, c1]
    refine X_loopO g8 (fun q : Int => ⟨[(0, .p (.sl (encG a0))), (3, .p (.int .i64 q))], [], 60⟩) ((Wk.forget (by simp [Le, LeE, LeH, get, envIds, hpIds, KeepH, D.ids, idsL, AO.ids, setL, base, encI_nil, encS_nil, encT_nil, encG_nil, encC_nil, encL_nil, encK_nil, encP_nil, mpS_nil, mpB_nil, encI_consE, encS_consE, encT_consE, encG_consE, encI_one, encS_one, encT_one, encI_snoc, encS_snoc, encT_snocE, encG_snocE, encC_snoc, encL_snoc, encK_snocE, encP_snocE, encI_set, encS_set, encT_setE, encG_setE, encC_setE, encK_setE, encP_setE, encI_len, encS_len, encT_len2, encG_len2, encC_len, encL_len, encK_len2, encP_len2]))) ?_
    rintro v3 m6 hh4 ih5
    rw [qVal_L2_eq] at hh4
    cases c9 : decide (v3 < ((a0.length : Nat) : Int))
    · simp only [c9, cond_false] at hh4
      simp only [Option.bind_some, nextO_inr] at hh4
      obtain rfl := Option.some.inj hh4
      try dsimp only at hr
      obtain rfl := Option.some.inj hr
      try simp only [go_sem, c1, c9]
      all_goals (try refine end_pure ?_)
      all_goals (try simp only [go_sem, c1, c9])
      all_goals (try (first | rfl | exact ⟨rfl, rfl⟩ | (simp; done)))
    simp only [c9, cond_true] at hh4
    rcases g16 : loopO (qVal_L1 a0 v3) 0 with _ | e15
    · simp only [g16, Option.bind_none, reduceCtorEq] at hh4
    simp only [g16, Option.bind_some] at hh4
    try simp only [go_sem, c1, c9]
    refine X_loopO g16 (fun q : Int => ⟨[(0, .p (.sl (encG a0))), (3, .p (.int .i64 v3)), (4, .p (.int .i64 q))], [], 60⟩) ((Wk.forget (by simp [Le, LeE, LeH, get, envIds, hpIds, KeepH, D.ids, idsL, AO.ids, setL, base, encI_nil, encS_nil, encT_nil, encG_nil, encC_nil, encL_nil, encK_nil, encP_nil, mpS_nil, mpB_nil, encI_consE, encS_consE, encT_consE, encG_consE, encI_one, encS_one, encT_one, encI_snoc, encS_snoc, encT_snocE, encG_snocE, encC_snoc, encL_snoc, encK_snocE, encP_snocE, encI_set, encS_set, encT_setE, encG_setE, encC_setE, encK_setE, encP_setE, encI_len, encS_len, encT_len2, encG_len2, encC_len, encL_len, encK_len2, encP_len2]))) ?_
    rintro v11 m14 hh12 ih13
    rw [qVal_L1_eq] at hh12
    rcases g18 : idxO a0 v3 with _ | x17
    · simp only [g18, Option.bind_none, reduceCtorEq] at hh12
    simp only [g18, Option.bind_some] at hh12
    have f19 := idxO_rng g18
    have f20 : (encG a0).getD (Int.toNat v3) [] = [(.sl (encI x17))] := idxO_map _ g18
    cases c21 : decide (v11 < ((x17.length : Nat) : Int))
    · simp only [c21, cond_false] at hh12
      simp only [Option.bind_some, nextO_inr] at hh12
      obtain rfl := Option.some.inj hh12
      try dsimp only at hh4
      simp only [Option.bind_some, nextO_inl] at hh4
      try simp only [go_sem, c1, c9, f19, f20, c21]
      exact ih5 (IntKind.i64.wrap (v3 + 1)) _ hh4 ((Wk.forget (by simp [Le, LeE, LeH, get, envIds, hpIds, KeepH, D.ids, idsL, AO.ids, setL, base, encI_nil, encS_nil, encT_nil, encG_nil, encC_nil, encL_nil, encK_nil, encP_nil, mpS_nil, mpB_nil, encI_consE, encS_consE, encT_consE, encG_consE, encI_one, encS_one, encT_one, encI_snoc, encS_snoc, encT_snocE, encG_snocE, encC_snoc, encL_snoc, encK_snocE, encP_snocE, encI_set, encS_set, encT_setE, encG_setE, encC_setE, encK_setE, encP_setE, encI_len, encS_len, encT_len2, encG_len2, encC_len, encL_len, encK_len2, encP_len2])))
    simp only [c21, cond_true] at hh12
    rcases g23 : idxO x17 v11 with _ | x22
    · simp only [g23, Option.bind_none, reduceCtorEq] at hh12
    simp only [g23, Option.bind_some] at hh12
    have f24 := idxO_rng g23
    have f25 : (encI x17).getD (Int.toNat v11) [] = [(.int .i64 x22)] := idxO_map _ g23
    cases c26 : decide (x22 < 0)
    · simp only [c26, cond_false] at hh12
      cases c27 : decide (((a0.length : Nat) : Int) ≤ x22)
      · simp only [c27, cond_false] at hh12
        cases c28 : decide (x22 = v3)
        · simp only [c28, cond_false] at hh12
          cases c29 : decide (0 < v11)
          · simp only [c29, cond_false] at hh12
            simp only [Option.bind_some, nextO_inl] at hh12
            try simp only [go_sem, c1, c9, f19, f20, c21, f24, f25, c26, c27, c28, c29]
            exact ih13 (IntKind.i64.wrap (v11 + 1)) _ hh12 ((Wk.forget (by simp [Le, LeE, LeH, get, envIds, hpIds, KeepH, D.ids, idsL, AO.ids, setL, base, encI_nil, encS_nil, encT_nil, encG_nil, encC_nil, encL_nil, encK_nil, encP_nil, mpS_nil, mpB_nil, encI_consE, encS_consE, encT_consE, encG_consE, encI_one, encS_one, encT_one, encI_snoc, encS_snoc, encT_snocE, encG_snocE, encC_snoc, encL_snoc, encK_snocE, encP_snocE, encI_set, encS_set, encT_setE, encG_setE, encC_setE, encK_setE, encP_setE, encI_len, encS_len, encT_len2, encG_len2, encC_len, encL_len, encK_len2, encP_len2])))
          simp only [c29, cond_true] at hh12
          rcases g31 : idxO x17 (IntKind.i64.wrap (v11 - 1)) with _ | x30
          · simp only [g31, Option.bind_none, reduceCtorEq] at hh12
          simp only [g31, Option.bind_some] at hh12
          have f32 := idxO_rng g31
          have f33 : (encI x17).getD (Int.toNat (IntKind.i64.wrap (v11 - 1))) [] = [(.int .i64 x30)] := idxO_map _ g31
          cases c34 : decide (x22 ≤ x30)
          · simp only [c34, cond_false] at hh12
            simp only [Option.bind_some, nextO_inl] at hh12
            try simp only [go_sem, c1, c9, f19, f20, c21, f24, f25, c26, c27, c28, c29, f32, f33, c34]
            exact ih13 (IntKind.i64.wrap (v11 + 1)) _ hh12 ((Wk.forget (by simp [Le, LeE, LeH, get, envIds, hpIds, KeepH, D.ids, idsL, AO.ids, setL, base, encI_nil, encS_nil, encT_nil, encG_nil, encC_nil, encL_nil, encK_nil, encP_nil, mpS_nil, mpB_nil, encI_consE, encS_consE, encT_consE, encG_consE, encI_one, encS_one, encT_one, encI_snoc, encS_snoc, encT_snocE, encG_snocE, encC_snoc, encL_snoc, encK_snocE, encP_snocE, encI_set, encS_set, encT_setE, encG_setE, encC_setE, encK_setE, encP_setE, encI_len, encS_len, encT_len2, encG_len2, encC_len, encL_len, encK_len2, encP_len2])))
          simp only [c34, cond_true] at hh12
          simp only [Option.bind_some, nextO_inr] at hh12
          obtain rfl := Option.some.inj hh12
          try dsimp only at hh4
          simp only [Option.bind_some, nextO_inr] at hh4
          obtain rfl := Option.some.inj hh4
          try dsimp only at hr
          obtain rfl := Option.some.inj hr
          try simp only [go_sem, c1, c9, f19, f20, c21, f24, f25, c26, c27, c28, c29, f32, f33, c34]
          all_goals (try refine end_pure ?_)
          all_goals (try simp only [go_sem, c1, c9, f19, f20, c21, f24, f25, c26, c27, c28, c29, f32, f33, c34])
          all_goals (try (first | rfl | exact ⟨rfl, rfl⟩ | (simp; done)))
        simp only [c28, cond_true] at hh12
        simp only [Option.bind_some, nextO_inr] at hh12
        obtain rfl := Option.some.inj hh12
        try dsimp only at hh4
        simp only [Option.bind_some, nextO_inr] at hh4
        obtain rfl := Option.some.inj hh4
        try dsimp only at hr
        obtain rfl := Option.some.inj hr
        try simp only [go_sem, c1, c9, f19, f20, c21, f24, f25, c26, c27, c28]
        all_goals (try refine end_pure ?_)
        all_goals (try simp only [go_sem, c1, c9, f19, f20, c21, f24, f25, c26, c27, c28])
        all_goals (try (first | rfl | exact ⟨rfl, rfl⟩ | (simp; done)))
      simp only [c27, cond_true] at hh12
      simp only [Option.bind_some, nextO_inr] at hh12
      obtain rfl := Option.some.inj hh12
      try dsimp only at hh4
      simp only [Option.bind_some, nextO_inr] at hh4
      obtain rfl := Option.some.inj hh4
      try dsimp only at hr
      obtain rfl := Option.some.inj hr
      try simp only [go_sem, c1, c9, f19, f20, c21, f24, f25, c26, c27]
      all_goals (try refine end_pure ?_)
      all_goals (try simp only [go_sem, c1, c9, f19, f20, c21, f24, f25, c26, c27])
      all_goals (try (first | rfl | exact ⟨rfl, rfl⟩ | (simp; done)))
    simp only [c26, cond_true] at hh12
    simp only [Option.bind_some, nextO_inr] at hh12
    obtain rfl := Option.some.inj hh12
    try dsimp only at hh4
    simp only [Option.bind_some, nextO_inr] at hh4
    obtain rfl := Option.some.inj hh4
    try dsimp only at hr
    obtain rfl := Option.some.inj hr
    try simp only [go_sem, c1, c9, f19, f20, c21, f24, f25, c26]
    all_goals (try refine end_pure ?_)
    all_goals (try simp only [go_sem, c1, c9, f19, f20, c21, f24, f25, c26])
    all_goals (try (first | rfl | exact ⟨rfl, rfl⟩ | (simp; done)))
  simp only [c1, cond_true] at hr
  obtain rfl := Option.some.inj hr
  try simp only [go_sem, c1]
  all_goals (try refine end_pure ?_)
  all_goals (try simp only [go_sem, c1])
  all_goals (try (first | rfl | exact ⟨rfl, rfl⟩ | (simp; done)))
noncomputable def qChk_v (a0 : List (List Int)) (a1 : List Bool) : Option (Int) :=
  Option.bind (qVal_v a0) fun x1 => cond x1 (cond (decide (((a1.length : Nat) : Int) = ((a0.length : Nat) : Int))) (some 0) (some 19)) (some 20)
theorem qChk_vok (a0 : List (List Int)) (a1 : List Bool) (r : Int) (hr : qChk_v a0 a1 = some r) :
    ACalls Try.prog 44 [.p (.sl (encG a0)), .p (.sl (encT a1))] [] fun h d => h = [] ∧ d = .p (.int .i64 r) := by
  refine ACalls_X Try.func44 rfl enters44 (by simp [Try.f44]) ?_
  unfold qChk_v at hr
  rcases g2 : qVal_v a0 with _ | x1
  · simp only [g2, Option.bind_none, reduceCtorEq] at hr
  simp only [g2, Option.bind_some] at hr
  try simp only [go_sem]
  refine Cc_of (qVal_vok a0 _ g2) ?_
  rintro h' r ⟨rfl, rfl⟩
  cases c3 : x1
  · simp only [c3, cond_false] at hr
    obtain rfl := Option.some.inj hr
    try simp only [go_sem, c3]
    all_goals (try refine end_pure ?_)
    all_goals (try simp only [go_sem, c3])
    all_goals (try (first | rfl | exact ⟨rfl, rfl⟩ | (simp; done)))
  simp only [c3, cond_true] at hr
  cases c4 : decide (((a1.length : Nat) : Int) = ((a0.length : Nat) : Int))
  · simp only [c4, cond_false] at hr
    obtain rfl := Option.some.inj hr
    try simp only [go_sem, c3, c4]
    all_goals (try refine end_pure ?_)
    all_goals (try simp only [go_sem, c3, c4])
    all_goals (try (first | rfl | exact ⟨rfl, rfl⟩ | (simp; done)))
  simp only [c4, cond_true] at hr
  obtain rfl := Option.some.inj hr
  try simp only [go_sem, c3, c4]
  all_goals (try refine end_pure ?_)
  all_goals (try simp only [go_sem, c3, c4])
  all_goals (try (first | rfl | exact ⟨rfl, rfl⟩ | (simp; done)))
end Go.Am
end
section
namespace Go.Am
open Go Go.Proofs
set_option maxRecDepth 100000
set_option maxHeartbeats 2000000
set_option linter.unusedSimpArgs false
set_option linter.unusedVariables false
noncomputable def sCont_v (a0 : List Int) (a1 : Int) : Option (Bool) :=
  Option.bind (sIndex_v a0 a1) fun x1 => some (decide (0 ≤ x1))
theorem sCont_vok (a0 : List Int) (a1 : Int) (r : Bool) (hr : sCont_v a0 a1 = some r) :
    ACalls Try.prog 48 [.p (.sl (encI a0)), .p (.int .i64 a1)] [] fun h d => h = [] ∧ d = .p (.bool r) := by
  refine ACalls_X Try.func48 rfl enters48 (by simp [Try.f48]) ?_
  unfold sCont_v at hr
  rcases g2 : sIndex_v a0 a1 with _ | x1
  · simp only [g2, Option.bind_none, reduceCtorEq] at hr
  simp only [g2, Option.bind_some] at hr
  try simp only [go_sem]
  refine Cc_of (sIndex_vok a0 a1 _ g2) ?_
  rintro h' r ⟨rfl, rfl⟩
  obtain rfl := Option.some.inj hr
  try simp only [go_sem]
  all_goals (try refine end_pure ?_)
  all_goals (try simp only [go_sem])
  all_goals (try (first | rfl | exact ⟨rfl, rfl⟩ | (simp; done)))
noncomputable def cQuot_L1 (v10 : List (List Int)) : (List (List Int)) × Int → Option (((List (List Int)) × Int) ⊕ (((List (List Int)) × Int)))
  | (v23, v24) => cond (decide (v24 < ((v10.length : Nat) : Int))) (Option.bind (idxO v23 v24) fun x32 => cond (decide (x32.length ≤ 24)) (some (Sum.inl ((v23.set (Int.toNat v24) (sortV x32)), (IntKind.i64.wrap (v24 + 1))))) none) (some (Sum.inr (v23, v24)))
theorem cQuot_L1_eq (v10 : List (List Int)) (v23 : List (List Int)) (v24 : Int) : cQuot_L1 v10 (v23, v24) = cond (decide (v24 < ((v10.length : Nat) : Int))) (Option.bind (idxO v23 v24) fun x32 => cond (decide (x32.length ≤ 24)) (some (Sum.inl ((v23.set (Int.toNat v24) (sortV x32)), (IntKind.i64.wrap (v24 + 1))))) none) (some (Sum.inr (v23, v24))) := rfl
noncomputable def cQuot_L2 (x1 : List Int) (v11 : Int) (x43 : List Int) : (List (List Int)) × Int → Option (((List (List Int)) × Int) ⊕ (((List (List Int)) × Int)))
  | (v51, v52) => cond (decide (v52 < ((x43.length : Nat) : Int))) (Option.bind (idxO x43 v52) fun x60 => Option.bind (idxO x1 v11) fun x64 => Option.bind (idxO x1 x60) fun x68 => cond (decide (0 ≤ x64)) (cond (decide (0 ≤ x68)) (cond (decide (x64 = x68)) (some (Sum.inl (v51, (IntKind.i64.wrap (v52 + 1))))) (Option.bind (idxO v51 x64) fun x75 => Option.bind (sCont_v x75 x68) fun x82 => cond x82 (some (Sum.inl (v51, (IntKind.i64.wrap (v52 + 1))))) (cond (decide (x75.length + 1 < 10000000)) (some (Sum.inl ((v51.set (Int.toNat x64) (x75 ++ [x68])), (IntKind.i64.wrap (v52 + 1))))) none))) (some (Sum.inl (v51, (IntKind.i64.wrap (v52 + 1)))))) (some (Sum.inl (v51, (IntKind.i64.wrap (v52 + 1)))))) (some (Sum.inr (v51, v52)))
theorem cQuot_L2_eq (x1 : List Int) (v11 : Int) (x43 : List Int) (v51 : List (List Int)) (v52 : Int) : cQuot_L2 x1 v11 x43 (v51, v52) = cond (decide (v52 < ((x43.length : Nat) : Int))) (Option.bind (idxO x43 v52) fun x60 => Option.bind (idxO x1 v11) fun x64 => Option.bind (idxO x1 x60) fun x68 => cond (decide (0 ≤ x64)) (cond (decide (0 ≤ x68)) (cond (decide (x64 = x68)) (some (Sum.inl (v51, (IntKind.i64.wrap (v52 + 1))))) (Option.bind (idxO v51 x64) fun x75 => Option.bind (sCont_v x75 x68) fun x82 => cond x82 (some (Sum.inl (v51, (IntKind.i64.wrap (v52 + 1))))) (cond (decide (x75.length + 1 < 10000000)) (some (Sum.inl ((v51.set (Int.toNat x64) (x75 ++ [x68])), (IntKind.i64.wrap (v52 + 1))))) none))) (some (Sum.inl (v51, (IntKind.i64.wrap (v52 + 1)))))) (some (Sum.inl (v51, (IntKind.i64.wrap (v52 + 1)))))) (some (Sum.inr (v51, v52))) := rfl
noncomputable def cQuot_L3 (a0 : List (List Int)) (x1 : List Int) : (List (List Int)) × Int → Option (((List (List Int)) × Int) ⊕ (((List (List Int)) × Int)))
  | (v10, v11) => cond (decide (v11 < ((a0.length : Nat) : Int))) (Option.bind (idxO a0 v11) fun x43 => Option.bind (loopO (cQuot_L2 x1 v11 x43) (v10, 0)) (fun (v86, v87) => some (Sum.inl (v86, (IntKind.i64.wrap (v11 + 1)))))) (some (Sum.inr (v10, v11)))
theorem cQuot_L3_eq (a0 : List (List Int)) (x1 : List Int) (v10 : List (List Int)) (v11 : Int) : cQuot_L3 a0 x1 (v10, v11) = cond (decide (v11 < ((a0.length : Nat) : Int))) (Option.bind (idxO a0 v11) fun x43 => Option.bind (loopO (cQuot_L2 x1 v11 x43) (v10, 0)) (fun (v86, v87) => some (Sum.inl (v86, (IntKind.i64.wrap (v11 + 1)))))) (some (Sum.inr (v10, v11))) := rfl
noncomputable def cQuot_v (a0 : List (List Int)) (a1 : List Bool) : Option ((List (List Int)) × Int) :=
  Option.bind (cNames_v a0 a1) fun (x1, x2) => cond (decide (x2 = 0)) (cond (decide (a0.length < 10000000)) (Option.bind (loopO (cQuot_L3 a0 x1) ((List.replicate a0.length []), 0)) (fun (v89, v90) => Option.bind (loopO (cQuot_L1 v89) (v89, 0)) (fun (v113, v114) => some (v113, 0)))) none) (some ([], x2))
theorem cQuot_vok (a0 : List (List Int)) (a1 : List Bool) (r : (List (List Int)) × Int) (hr : cQuot_v a0 a1 = some r) :
    ACalls Try.prog 19 [.p (.sl (encG a0)), .p (.sl (encT a1))] [] fun h d => h = [] ∧ d = .tup [.p (.sl (encG r.1)), .p (.int .i64 r.2)] := by
  refine ACalls_X Try.func19 rfl enters19 (by simp [Try.f19]) ?_
  unfold cQuot_v at hr
  rcases g3 : cNames_v a0 a1 with _ | ⟨x1, x2⟩
  · simp only [g3, Option.bind_none, reduceCtorEq] at hr
  simp only [g3, Option.bind_some] at hr
  try simp only [go_sem]
  refine Cc_of (cNames_vok a0 a1 _ g3) ?_
  rintro h' r ⟨rfl, rfl⟩
  cases c4 : decide (x2 = 0)
  · simp only [c4, cond_false] at hr
    obtain rfl := Option.some.inj hr
    try simp only [go_sem, c4]
    all_goals (try refine end_pure ?_)
    all_goals (try simp only [go_sem, c4])
    all_goals (try (first | rfl | exact ⟨rfl, rfl⟩ | (simp; done)))
  simp only [c4, cond_true] at hr
  cases c5 : decide (a0.length < 10000000)
  · simp only [c5, cond_false, Option.bind_none, reduceCtorEq] at hr
  simp only [c5, cond_true] at hr
  try simp only [go_sem, c4]
  refine Af_mknst (n := ((a0.length : Nat) : Int)) (sz := 1) rfl ti22 ti24 (by decide) rfl rfl rfl (by have := of_decide_eq_true c5; omega) (by have := of_decide_eq_true c5; omega) (by have := of_decide_eq_true c5; omega) ?_
  rcases g17 : loopO (cQuot_L3 a0 x1) ((List.replicate a0.length []), 0) with _ | e16
  · simp only [g17, Option.bind_none, reduceCtorEq] at hr
  simp only [g17, Option.bind_some] at hr
  try simp only [go_sem, c4]
  refine X_loopK g17 (fun (q : (List (List Int)) × Int) (c : Nat) => ⟨[(6, .p (.sl (encI x1))), (8, .nref 28 q.1.length), (29, .p (.sl (encG a0))), (30, .p (.int .i64 ((a0.length : Nat) : Int))), (31, .p (.int .i64 q.2))], [(28, .nst 24 3 1 c (encW q.1) none)], 92⟩) 0 ((Wk.forget (by simp [Le, LeE, LeH, get, envIds, hpIds, KeepH, D.ids, idsL, AO.ids, setL, base, encI_nil, encS_nil, encT_nil, encG_nil, encC_nil, encL_nil, encK_nil, encP_nil, mpS_nil, mpB_nil, encI_consE, encS_consE, encT_consE, encG_consE, encI_one, encS_one, encT_one, encI_snoc, encS_snoc, encT_snocE, encG_snocE, encC_snoc, encL_snoc, encK_snocE, encP_snocE, encI_set, encS_set, encT_setE, encG_setE, encC_setE, encK_setE, encP_setE, encI_len, encS_len, encT_len2, encG_len2, encC_len, encL_len, encK_len2, encP_len2, encW_len, dT_ids, dI_ids, dT_len, dI_len, List.length_set, encI_takeM, List.take_length]))) ?_
  rintro ⟨v10, v11⟩ kk12 m15 hh13 ih14
  rw [cQuot_L3_eq] at hh13
  cases c18 : decide (v11 < ((a0.length : Nat) : Int))
  · simp only [c18, cond_false] at hh13
    simp only [Option.bind_some, nextO_inr] at hh13
    obtain rfl := Option.some.inj hh13
    try dsimp only at hr
    rcases g30 : loopO (cQuot_L1 v10) (v10, 0) with _ | e29
    · simp only [g30, Option.bind_none, reduceCtorEq] at hr
    simp only [g30, Option.bind_some] at hr
    try simp only [go_sem, c4, c18]
    refine X_loopK g30 (fun (q : (List (List Int)) × Int) (c : Nat) => ⟨[(8, .nref 28 q.1.length), (82, .nref 28 q.1.length), (83, .p (.int .i64 ((v10.length : Nat) : Int))), (84, .p (.int .i64 q.2))], [(28, .nst 24 3 1 c (encW q.1) none)], 92⟩) kk12 ((Wk.forget (by simp [Le, LeE, LeH, get, envIds, hpIds, KeepH, D.ids, idsL, AO.ids, setL, base, encI_nil, encS_nil, encT_nil, encG_nil, encC_nil, encL_nil, encK_nil, encP_nil, mpS_nil, mpB_nil, encI_consE, encS_consE, encT_consE, encG_consE, encI_one, encS_one, encT_one, encI_snoc, encS_snoc, encT_snocE, encG_snocE, encC_snoc, encL_snoc, encK_snocE, encP_snocE, encI_set, encS_set, encT_setE, encG_setE, encC_setE, encK_setE, encP_setE, encI_len, encS_len, encT_len2, encG_len2, encC_len, encL_len, encK_len2, encP_len2, encW_len, dT_ids, dI_ids, dT_len, dI_len, List.length_set, encI_takeM, List.take_length]))) ?_
    rintro ⟨v23, v24⟩ kk25 m28 hh26 ih27
    rw [cQuot_L1_eq] at hh26
    cases c31 : decide (v24 < ((v10.length : Nat) : Int))
    · simp only [c31, cond_false] at hh26
      simp only [Option.bind_some, nextO_inr] at hh26
      obtain rfl := Option.some.inj hh26
      try dsimp only at hr
      obtain rfl := Option.some.inj hr
      try simp only [go_sem, c4, c18, c31]
      all_goals (try refine end_pure ?_)
      all_goals (try simp only [go_sem, c4, c18, c31])
      all_goals (try (first | rfl | exact ⟨rfl, rfl⟩ | (simp; done)))
    simp only [c31, cond_true] at hh26
    rcases g33 : idxO v23 v24 with _ | x32
    · simp only [g33, Option.bind_none, reduceCtorEq] at hh26
    simp only [g33, Option.bind_some] at hh26
    have f34 := idxO_rng g33
    have f35 : (encW v23).getD (Int.toNat v24) [] = encI x32 := idxO_row g33
    have f36 : (encW v23)[(Int.toNat v24)]?.getD [] = encI x32 := idxO_row2 g33
    have f37 : (Int.toNat v24) < v23.length := idxO_lt g33
    have f38 : ∀ hx, (encW v23)[(Int.toNat v24)]'hx = encI x32 := idxO_row3 g33
    cases c39 : decide (x32.length ≤ 24)
    · simp only [c39, cond_false, Option.bind_none, reduceCtorEq] at hh26
    simp only [c39, cond_true] at hh26
    try simp only [go_sem, c4, c18, c31, f34, f35, f36, f37, f38]
    refine Cc_of (sortRow v23 (Int.toNat v24) kk25 x32 (idxO_some g33).2 (of_decide_eq_true c39)) ?_
    rintro h' r ⟨rfl, rfl⟩
    simp only [Option.bind_some, nextO_inl] at hh26
    try simp only [go_sem, c4, c18, c31, f34, f35, f36, f37, f38]
    exact ih27 ((v23.set (Int.toNat v24) (sortV x32)), (IntKind.i64.wrap (v24 + 1))) kk25 _ hh26 ((Wk.forget (by simp [Le, LeE, LeH, get, envIds, hpIds, KeepH, D.ids, idsL, AO.ids, setL, base, encI_nil, encS_nil, encT_nil, encG_nil, encC_nil, encL_nil, encK_nil, encP_nil, mpS_nil, mpB_nil, encI_consE, encS_consE, encT_consE, encG_consE, encI_one, encS_one, encT_one, encI_snoc, encS_snoc, encT_snocE, encG_snocE, encC_snoc, encL_snoc, encK_snocE, encP_snocE, encI_set, encS_set, encT_setE, encG_setE, encC_setE, encK_setE, encP_setE, encI_len, encS_len, encT_len2, encG_len2, encC_len, encL_len, encK_len2, encP_len2, encW_len, dT_ids, dI_ids, dT_len, dI_len, List.length_set, encI_takeM, List.take_length])))
  simp only [c18, cond_true] at hh13
  rcases g44 : idxO a0 v11 with _ | x43
  · simp only [g44, Option.bind_none, reduceCtorEq] at hh13
  simp only [g44, Option.bind_some] at hh13
  have f45 := idxO_rng g44
  have f46 : (encG a0).getD (Int.toNat v11) [] = [(.sl (encI x43))] := idxO_map _ g44
  rcases g58 : loopO (cQuot_L2 x1 v11 x43) (v10, 0) with _ | e57
  · simp only [g58, Option.bind_none, reduceCtorEq] at hh13
  simp only [g58, Option.bind_some] at hh13
  try simp only [go_sem, c4, c18, f45, f46]
  refine X_loopK g58 (fun (q : (List (List Int)) × Int) (c : Nat) => ⟨[(6, .p (.sl (encI x1))), (8, .nref 28 q.1.length), (9, .p (.int .i64 v11)), (29, .p (.sl (encG a0))), (30, .p (.int .i64 ((a0.length : Nat) : Int))), (31, .p (.int .i64 v11)), (36, .p (.sl (encI x43))), (37, .p (.int .i64 ((x43.length : Nat) : Int))), (38, .p (.int .i64 q.2))], [(28, .nst 24 3 1 c (encW q.1) none)], 92⟩) kk12 ((Wk.forget (by simp [Le, LeE, LeH, get, envIds, hpIds, KeepH, D.ids, idsL, AO.ids, setL, base, encI_nil, encS_nil, encT_nil, encG_nil, encC_nil, encL_nil, encK_nil, encP_nil, mpS_nil, mpB_nil, encI_consE, encS_consE, encT_consE, encG_consE, encI_one, encS_one, encT_one, encI_snoc, encS_snoc, encT_snocE, encG_snocE, encC_snoc, encL_snoc, encK_snocE, encP_snocE, encI_set, encS_set, encT_setE, encG_setE, encC_setE, encK_setE, encP_setE, encI_len, encS_len, encT_len2, encG_len2, encC_len, encL_len, encK_len2, encP_len2, encW_len, dT_ids, dI_ids, dT_len, dI_len, List.length_set, encI_takeM, List.take_length]))) ?_
  rintro ⟨v51, v52⟩ kk53 m56 hh54 ih55
  rw [cQuot_L2_eq] at hh54
  cases c59 : decide (v52 < ((x43.length : Nat) : Int))
  · simp only [c59, cond_false] at hh54
    simp only [Option.bind_some, nextO_inr] at hh54
    obtain rfl := Option.some.inj hh54
    try dsimp only at hh13
    simp only [Option.bind_some, nextO_inl] at hh13
    try simp only [go_sem, c4, c18, f45, f46, c59]
    exact ih14 (v51, (IntKind.i64.wrap (v11 + 1))) kk53 _ hh13 ((Wk.forget (by simp [Le, LeE, LeH, get, envIds, hpIds, KeepH, D.ids, idsL, AO.ids, setL, base, encI_nil, encS_nil, encT_nil, encG_nil, encC_nil, encL_nil, encK_nil, encP_nil, mpS_nil, mpB_nil, encI_consE, encS_consE, encT_consE, encG_consE, encI_one, encS_one, encT_one, encI_snoc, encS_snoc, encT_snocE, encG_snocE, encC_snoc, encL_snoc, encK_snocE, encP_snocE, encI_set, encS_set, encT_setE, encG_setE, encC_setE, encK_setE, encP_setE, encI_len, encS_len, encT_len2, encG_len2, encC_len, encL_len, encK_len2, encP_len2, encW_len, dT_ids, dI_ids, dT_len, dI_len, List.length_set, encI_takeM, List.take_length])))
  simp only [c59, cond_true] at hh54
  rcases g61 : idxO x43 v52 with _ | x60
  · simp only [g61, Option.bind_none, reduceCtorEq] at hh54
  simp only [g61, Option.bind_some] at hh54
  have f62 := idxO_rng g61
  have f63 : (encI x43).getD (Int.toNat v52) [] = [(.int .i64 x60)] := idxO_map _ g61
  try simp only [go_sem, c4, c18, f45, f46, c59, f62, f63]
  refine X_any0 mixed (p := [(0, 0), (1, 0), (2, 0), (3, 0), (4, 0), (5, 0), (6, 0), (7, 0), (8, 0), (9, 0)]) (by kernel_rfl) (by simp [LeH, get]) ?_
  rcases g65 : idxO x1 v11 with _ | x64
  · simp only [g65, Option.bind_none, reduceCtorEq] at hh54
  simp only [g65, Option.bind_some] at hh54
  have f66 := idxO_rng g65
  have f67 : (encI x1).getD (Int.toNat v11) [] = [(.int .i64 x64)] := idxO_map _ g65
  rcases g69 : idxO x1 x60 with _ | x68
  · simp only [g69, Option.bind_none, reduceCtorEq] at hh54
  simp only [g69, Option.bind_some] at hh54
  have f70 := idxO_rng g69
  have f71 : (encI x1).getD (Int.toNat x60) [] = [(.int .i64 x68)] := idxO_map _ g69
  cases c72 : decide (0 ≤ x64)
  · simp only [c72, cond_false] at hh54
    simp only [Option.bind_some, nextO_inl] at hh54
    try simp only [go_sem, c4, c18, f45, f46, c59, f62, f63, f66, f67, f70, f71, c72]
    exact ih55 (v51, (IntKind.i64.wrap (v52 + 1))) kk53 _ hh54 ((Wk.forget (by simp [Le, LeE, LeH, get, envIds, hpIds, KeepH, D.ids, idsL, AO.ids, setL, base, encI_nil, encS_nil, encT_nil, encG_nil, encC_nil, encL_nil, encK_nil, encP_nil, mpS_nil, mpB_nil, encI_consE, encS_consE, encT_consE, encG_consE, encI_one, encS_one, encT_one, encI_snoc, encS_snoc, encT_snocE, encG_snocE, encC_snoc, encL_snoc, encK_snocE, encP_snocE, encI_set, encS_set, encT_setE, encG_setE, encC_setE, encK_setE, encP_setE, encI_len, encS_len, encT_len2, encG_len2, encC_len, encL_len, encK_len2, encP_len2, encW_len, dT_ids, dI_ids, dT_len, dI_len, List.length_set, encI_takeM, List.take_length])))
  simp only [c72, cond_true] at hh54
  cases c73 : decide (0 ≤ x68)
  · simp only [c73, cond_false] at hh54
    simp only [Option.bind_some, nextO_inl] at hh54
    try simp only [go_sem, c4, c18, f45, f46, c59, f62, f63, f66, f67, f70, f71, c72, c73]
    exact ih55 (v51, (IntKind.i64.wrap (v52 + 1))) kk53 _ hh54 ((Wk.forget (by simp [Le, LeE, LeH, get, envIds, hpIds, KeepH, D.ids, idsL, AO.ids, setL, base, encI_nil, encS_nil, encT_nil, encG_nil, encC_nil, encL_nil, encK_nil, encP_nil, mpS_nil, mpB_nil, encI_consE, encS_consE, encT_consE, encG_consE, encI_one, encS_one, encT_one, encI_snoc, encS_snoc, encT_snocE, encG_snocE, encC_snoc, encL_snoc, encK_snocE, encP_snocE, encI_set, encS_set, encT_setE, encG_setE, encC_setE, encK_setE, encP_setE, encI_len, encS_len, encT_len2, encG_len2, encC_len, encL_len, encK_len2, encP_len2, encW_len, dT_ids, dI_ids, dT_len, dI_len, List.length_set, encI_takeM, List.take_length])))
  simp only [c73, cond_true] at hh54
  cases c74 : decide (x64 = x68)
  · simp only [c74, cond_false] at hh54
    rcases g76 : idxO v51 x64 with _ | x75
    · simp only [g76, Option.bind_none, reduceCtorEq] at hh54
    simp only [g76, Option.bind_some] at hh54
    have f77 := idxO_rng g76
    have f78 : (encW v51).getD (Int.toNat x64) [] = encI x75 := idxO_row g76
    have f79 : (encW v51)[(Int.toNat x64)]?.getD [] = encI x75 := idxO_row2 g76
    have f80 : (Int.toNat x64) < v51.length := idxO_lt g76
    have f81 : ∀ hx, (encW v51)[(Int.toNat x64)]'hx = encI x75 := idxO_row3 g76
    rcases g83 : sCont_v x75 x68 with _ | x82
    · simp only [g83, Option.bind_none, reduceCtorEq] at hh54
    simp only [g83, Option.bind_some] at hh54
    try simp only [go_sem, c4, c18, f45, f46, c59, f62, f63, f66, f67, f70, f71, c72, c73, c74, f77, f78, f79, f80, f81]
    refine Cc_bor rfl rfl (sCont_vok x75 x68 _ g83) (by simp [BorL, Bor, ev, get, List.take_of_length_le, encI_takeF, encS_takeF, encT_takeF, encG_takeF, encC_takeF, encL_takeF, encK_takeF, encP_takeF, encI_len, encS_len, encT_len2, encG_len2, encC_len, encL_len, encK_len2, encP_len2, encI_nil, encS_nil, encT_nil, encG_nil, encC_nil, encL_nil, encK_nil, encP_nil, encW_len, f77, f78, f79, f80, f81] <;> rfl) ?_
    rintro h' r ⟨rfl, rfl⟩
    refine ⟨rfl, rfl, ?_⟩
    cases c84 : x82
    · simp only [c84, cond_false] at hh54
      cases c85 : decide (x75.length + 1 < 10000000)
      · simp only [c85, cond_false, Option.bind_none, reduceCtorEq] at hh54
      simp only [c85, cond_true] at hh54
      try simp only [go_sem, c4, c18, f45, f46, c59, f62, f63, f66, f67, f70, f71, c72, c73, c74, f77, f78, f79, f80, f81, c84]
      refine ⟨by have := of_decide_eq_true c85; (try simp only [List.length_cons, List.length_nil, List.length_append] at *); (repeat' refine And.intro ?_ ?_) <;> first | exact wid1 _ _ rfl | exact encI_wid _ | omega | (simp [Wid]; done), ?_⟩
      simp only [Option.bind_some, nextO_inl] at hh54
      try simp only [go_sem, c4, c18, f45, f46, c59, f62, f63, f66, f67, f70, f71, c72, c73, c74, f77, f78, f79, f80, f81, c84]
      exact ih55 ((v51.set (Int.toNat x64) (x75 ++ [x68])), (IntKind.i64.wrap (v52 + 1))) ((kk53 + 1) + 1) _ hh54 ((Wk.forget (by simp [Le, LeE, LeH, get, envIds, hpIds, KeepH, D.ids, idsL, AO.ids, setL, base, encI_nil, encS_nil, encT_nil, encG_nil, encC_nil, encL_nil, encK_nil, encP_nil, mpS_nil, mpB_nil, encI_consE, encS_consE, encT_consE, encG_consE, encI_one, encS_one, encT_one, encI_snoc, encS_snoc, encT_snocE, encG_snocE, encC_snoc, encL_snoc, encK_snocE, encP_snocE, encI_set, encS_set, encT_setE, encG_setE, encC_setE, encK_setE, encP_setE, encI_len, encS_len, encT_len2, encG_len2, encC_len, encL_len, encK_len2, encP_len2, encW_len, dT_ids, dI_ids, dT_len, dI_len, List.length_set, encI_takeM, List.take_length, c84])))
    simp only [c84, cond_true] at hh54
    simp only [Option.bind_some, nextO_inl] at hh54
    try simp only [go_sem, c4, c18, f45, f46, c59, f62, f63, f66, f67, f70, f71, c72, c73, c74, f77, f78, f79, f80, f81, c84]
    exact ih55 (v51, (IntKind.i64.wrap (v52 + 1))) kk53 _ hh54 ((Wk.forget (by simp [Le, LeE, LeH, get, envIds, hpIds, KeepH, D.ids, idsL, AO.ids, setL, base, encI_nil, encS_nil, encT_nil, encG_nil, encC_nil, encL_nil, encK_nil, encP_nil, mpS_nil, mpB_nil, encI_consE, encS_consE, encT_consE, encG_consE, encI_one, encS_one, encT_one, encI_snoc, encS_snoc, encT_snocE, encG_snocE, encC_snoc, encL_snoc, encK_snocE, encP_snocE, encI_set, encS_set, encT_setE, encG_setE, encC_setE, encK_setE, encP_setE, encI_len, encS_len, encT_len2, encG_len2, encC_len, encL_len, encK_len2, encP_len2, encW_len, dT_ids, dI_ids, dT_len, dI_len, List.length_set, encI_takeM, List.take_length, c84])))
  simp only [c74, cond_true] at hh54
  simp only [Option.bind_some, nextO_inl] at hh54
  try simp only [go_sem, c4, c18, f45, f46, c59, f62, f63, f66, f67, f70, f71, c72, c73, c74]
  exact ih55 (v51, (IntKind.i64.wrap (v52 + 1))) kk53 _ hh54 ((Wk.forget (by simp [Le, LeE, LeH, get, envIds, hpIds, KeepH, D.ids, idsL, AO.ids, setL, base, encI_nil, encS_nil, encT_nil, encG_nil, encC_nil, encL_nil, encK_nil, encP_nil, mpS_nil, mpB_nil, encI_consE, encS_consE, encT_consE, encG_consE, encI_one, encS_one, encT_one, encI_snoc, encS_snoc, encT_snocE, encG_snocE, encC_snoc, encL_snoc, encK_snocE, encP_snocE, encI_set, encS_set, encT_setE, encG_setE, encC_setE, encK_setE, encP_setE, encI_len, encS_len, encT_len2, encG_len2, encC_len, encL_len, encK_len2, encP_len2, encW_len, dT_ids, dI_ids, dT_len, dI_len, List.length_set, encI_takeM, List.take_length])))
noncomputable def g_components_Order_1_v (a0 : Int) (a1 : List Int) (a2 : List Int) : Option (Bool × (List Int) × (List Int)) :=
  cond (decide (0 ≤ a0)) (Option.bind (idxO a1 a0) fun x2 => cond (decide (x2 = 0)) (Option.bind (sCont_v a2 a0) fun x7 => some (!x7, a1, a2)) (some (false, a1, a2))) (some (false, a1, a2))
theorem g_components_Order_1_vok (a0 : Int) (a1 : List Int) (a2 : List Int) (r : Bool × (List Int) × (List Int)) (hr : g_components_Order_1_v a0 a1 a2 = some r) :
    ACalls Try.prog 47 [.p (.int .i64 a0), .ptr 1000000 0, .ptr 1000001 0] [(1000000, .box [.ref 1000002 0 a1.length a1.length]), (1000001, .box [.ref 1000003 0 a2.length a2.length]), (1000002, .arr 3 1 (encI a1)), (1000003, .arr 3 1 (encI a2))] fun h d => h = [(1000000, .box [.ref 1000002 0 r.2.1.length r.2.1.length]), (1000001, .box [.ref 1000003 0 r.2.2.length r.2.2.length]), (1000002, .arr 3 1 (encI r.2.1)), (1000003, .arr 3 1 (encI r.2.2))] ∧ d = .p (.bool r.1) := by
  refine ACalls_X Try.func47 rfl enters47 (by simp [Try.f47]) ?_
  unfold g_components_Order_1_v at hr
  cases c1 : decide (0 ≤ a0)
  · simp only [c1, cond_false] at hr
    obtain rfl := Option.some.inj hr
    try simp only [go_sem, c1]
    all_goals (try refine end_own ?_)
    all_goals (try simp only [go_sem, c1])
    all_goals (try (first | rfl | exact ⟨rfl, rfl⟩ | (simp; done)))
  simp only [c1, cond_true] at hr
  rcases g3 : idxO a1 a0 with _ | x2
  · simp only [g3, Option.bind_none, reduceCtorEq] at hr
  simp only [g3, Option.bind_some] at hr
  have f4 := idxO_rng g3
  have f5 : (encI a1).getD (Int.toNat a0) [] = [(.int .i64 x2)] := idxO_map _ g3
  cases c6 : decide (x2 = 0)
  · simp only [c6, cond_false] at hr
    obtain rfl := Option.some.inj hr
    try simp only [go_sem, c1, f4, f5, c6]
    all_goals (try refine end_own ?_)
    all_goals (try simp only [go_sem, c1, f4, f5, c6])
    all_goals (try (first | rfl | exact ⟨rfl, rfl⟩ | (simp; done)))
  simp only [c6, cond_true] at hr
  rcases g8 : sCont_v a2 a0 with _ | x7
  · simp only [g8, Option.bind_none, reduceCtorEq] at hr
  simp only [g8, Option.bind_some] at hr
  try simp only [go_sem, c1, f4, f5, c6]
  refine Cc_bor rfl rfl (sCont_vok a2 a0 _ g8) (by simp [BorL, Bor, ev, get, List.take_of_length_le, encI_takeF, encS_takeF, encT_takeF, encG_takeF, encC_takeF, encL_takeF, encK_takeF, encP_takeF, encI_len, encS_len, encT_len2, encG_len2, encC_len, encL_len, encK_len2, encP_len2, encI_nil, encS_nil, encT_nil, encG_nil, encC_nil, encL_nil, encK_nil, encP_nil] <;> rfl) ?_
  rintro h' r ⟨rfl, rfl⟩
  refine ⟨rfl, rfl, ?_⟩
  obtain rfl := Option.some.inj hr
  try simp only [go_sem, c1, f4, f5, c6]
  all_goals (try refine end_own ?_)
  all_goals (try simp only [go_sem, c1, f4, f5, c6])
  all_goals (try (first | rfl | exact ⟨rfl, rfl⟩ | (simp; done)))
noncomputable def g_slices_IndexFunc_L1 (a0 : List Int) : (List Int) × (List Int) × Int → Option (((List Int) × (List Int) × Int) ⊕ (((List Int) × (List Int) × Int) ⊕ (Int × (List Int) × (List Int))))
  | (v4, v5, v6) => cond (decide (v6 < ((a0.length : Nat) : Int))) (Option.bind (idxO a0 v6) fun x13 => Option.bind (g_components_Order_1_v x13 v4 v5) fun (x17, x18, x19) => cond x17 (some (Sum.inr (.inr (((v6, x18, x19) : Int × (List Int) × (List Int)))))) (some (Sum.inl (x18, x19, (IntKind.i64.wrap (v6 + 1)))))) (some (Sum.inr (.inl (v4, v5, v6))))
theorem g_slices_IndexFunc_L1_eq (a0 : List Int) (v4 : List Int) (v5 : List Int) (v6 : Int) : g_slices_IndexFunc_L1 a0 (v4, v5, v6) = cond (decide (v6 < ((a0.length : Nat) : Int))) (Option.bind (idxO a0 v6) fun x13 => Option.bind (g_components_Order_1_v x13 v4 v5) fun (x17, x18, x19) => cond x17 (some (Sum.inr (.inr (((v6, x18, x19) : Int × (List Int) × (List Int)))))) (some (Sum.inl (x18, x19, (IntKind.i64.wrap (v6 + 1)))))) (some (Sum.inr (.inl (v4, v5, v6)))) := rfl
noncomputable def g_slices_IndexFunc_v (a0 : List Int) (a1 : List Int) (a2 : List Int) : Option (Int × (List Int) × (List Int)) :=
  Option.bind (loopO (g_slices_IndexFunc_L1 a0) (a1, a2, 0)) (fun | .inl (v22, v23, v24) => some ((-1), v22, v23) | .inr (r25) => some r25)
theorem g_slices_IndexFunc_vok (a0 : List Int) (a1 : List Int) (a2 : List Int) (r : Int × (List Int) × (List Int)) (hr : g_slices_IndexFunc_v a0 a1 a2 = some r) :
    ACalls Try.prog 46 [.p (.sl (encI a0)), .fn 47 [.ptr 1000000 0, .ptr 1000001 0]] [(1000000, .box [.ref 1000002 0 a1.length a1.length]), (1000001, .box [.ref 1000003 0 a2.length a2.length]), (1000002, .arr 3 1 (encI a1)), (1000003, .arr 3 1 (encI a2))] fun h d => h = [(1000000, .box [.ref 1000002 0 r.2.1.length r.2.1.length]), (1000001, .box [.ref 1000003 0 r.2.2.length r.2.2.length]), (1000002, .arr 3 1 (encI r.2.1)), (1000003, .arr 3 1 (encI r.2.2))] ∧ d = .p (.int .i64 r.1) := by
  refine ACalls_X Try.func46 rfl enters46 (by simp [Try.f46]) ?_
  unfold g_slices_IndexFunc_v at hr
  rcases g11 : loopO (g_slices_IndexFunc_L1 a0) (a1, a2, 0) with _ | e10
  · simp only [g11, Option.bind_none, reduceCtorEq] at hr
  simp only [g11, Option.bind_some] at hr
  try simp only [go_sem]
  refine X_loopO g11 (fun q : (List Int) × (List Int) × Int => ⟨[(0, .p (.sl (encI a0))), (1, .fn 47 [.ptr 1000000 0, .ptr 1000001 0]), (7, .p (.int .i64 ((a0.length : Nat) : Int))), (8, .p (.int .i64 q.2.2))], [(1000000, .box [.ref 1000002 0 q.1.length q.1.length]), (1000001, .box [.ref 1000003 0 q.2.1.length q.2.1.length]), (1000002, .arr 3 1 (encI q.1)), (1000003, .arr 3 1 (encI q.2.1))], 19⟩) ((Wk.forget (by simp [Le, LeE, LeH, get, envIds, hpIds, KeepH, D.ids, idsL, AO.ids, setL, base, encI_nil, encS_nil, encT_nil, encG_nil, encC_nil, encL_nil, encK_nil, encP_nil, mpS_nil, mpB_nil, encI_consE, encS_consE, encT_consE, encG_consE, encI_one, encS_one, encT_one, encI_snoc, encS_snoc, encT_snocE, encG_snocE, encC_snoc, encL_snoc, encK_snocE, encP_snocE, encI_set, encS_set, encT_setE, encG_setE, encC_setE, encK_setE, encP_setE, encI_len, encS_len, encT_len2, encG_len2, encC_len, encL_len, encK_len2, encP_len2, encW_len, dT_ids, dI_ids, dT_len, dI_len, List.length_set, encI_takeM, List.take_length]))) ?_
  rintro ⟨v4, v5, v6⟩ m9 hh7 ih8
  rw [g_slices_IndexFunc_L1_eq] at hh7
  cases c12 : decide (v6 < ((a0.length : Nat) : Int))
  · simp only [c12, cond_false] at hh7
    simp only [Option.bind_some, nextO_inr] at hh7
    obtain rfl := Option.some.inj hh7
    try dsimp only at hr
    obtain rfl := Option.some.inj hr
    try simp only [go_sem, c12]
    all_goals (try refine end_own ?_)
    all_goals (try simp only [go_sem, c12])
    all_goals (try (first | rfl | exact ⟨rfl, rfl⟩ | (simp; done)))
  simp only [c12, cond_true] at hh7
  rcases g14 : idxO a0 v6 with _ | x13
  · simp only [g14, Option.bind_none, reduceCtorEq] at hh7
  simp only [g14, Option.bind_some] at hh7
  have f15 := idxO_rng g14
  have f16 : (encI a0).getD (Int.toNat v6) [] = [(.int .i64 x13)] := idxO_map _ g14
  rcases g20 : g_components_Order_1_v x13 v4 v5 with _ | ⟨x17, x18, x19⟩
  · simp only [g20, Option.bind_none, reduceCtorEq] at hh7
  simp only [g20, Option.bind_some] at hh7
  try simp only [go_sem, c12, f15, f16]
  refine Cc_of (g_components_Order_1_vok x13 v4 v5 _ g20) ?_
  rintro h' r ⟨rfl, rfl⟩
  cases c21 : x17
  · simp only [c21, cond_false] at hh7
    simp only [Option.bind_some, nextO_inl] at hh7
    try simp only [go_sem, c12, f15, f16, c21]
    exact ih8 (x18, x19, (IntKind.i64.wrap (v6 + 1))) _ hh7 ((Wk.forget (by simp [Le, LeE, LeH, get, envIds, hpIds, KeepH, D.ids, idsL, AO.ids, setL, base, encI_nil, encS_nil, encT_nil, encG_nil, encC_nil, encL_nil, encK_nil, encP_nil, mpS_nil, mpB_nil, encI_consE, encS_consE, encT_consE, encG_consE, encI_one, encS_one, encT_one, encI_snoc, encS_snoc, encT_snocE, encG_snocE, encC_snoc, encL_snoc, encK_snocE, encP_snocE, encI_set, encS_set, encT_setE, encG_setE, encC_setE, encK_setE, encP_setE, encI_len, encS_len, encT_len2, encG_len2, encC_len, encL_len, encK_len2, encP_len2, encW_len, dT_ids, dI_ids, dT_len, dI_len, List.length_set, encI_takeM, List.take_length, c21])))
  simp only [c21, cond_true] at hh7
  simp only [Option.bind_some, nextO_inr] at hh7
  obtain rfl := Option.some.inj hh7
  try dsimp only at hr
  obtain rfl := Option.some.inj hr
  try simp only [go_sem, c12, f15, f16, c21]
  all_goals (try refine end_own ?_)
  all_goals (try simp only [go_sem, c12, f15, f16, c21])
  all_goals (try (first | rfl | exact ⟨rfl, rfl⟩ | (simp; done)))
noncomputable def cOrd_L1 (x33 : List Int) : (List Int) × Int → Option (((List Int) × Int) ⊕ (((List Int) × Int)))
  | (v39, v40) => cond (decide (v40 < ((x33.length : Nat) : Int))) (Option.bind (idxO x33 v40) fun x48 => Option.bind (idxO v39 x48) fun x52 => some (Sum.inl ((v39.set (Int.toNat x48) (IntKind.i64.wrap (x52 - 1))), (IntKind.i64.wrap (v40 + 1))))) (some (Sum.inr (v39, v40)))
theorem cOrd_L1_eq (x33 : List Int) (v39 : List Int) (v40 : Int) : cOrd_L1 x33 (v39, v40) = cond (decide (v40 < ((x33.length : Nat) : Int))) (Option.bind (idxO x33 v40) fun x48 => Option.bind (idxO v39 x48) fun x52 => some (Sum.inl ((v39.set (Int.toNat x48) (IntKind.i64.wrap (x52 - 1))), (IntKind.i64.wrap (v40 + 1))))) (some (Sum.inr (v39, v40))) := rfl
noncomputable def cOrd_L2 (x1 : List (List Int)) (x5 : List Int) : (List Int) × (List Int) → Option (((List Int) × (List Int)) ⊕ (((List Int) × Int)))
  | (v21, v22) => Option.bind (g_slices_IndexFunc_v x5 v21 v22) fun (x28, x29, x30) => cond (decide (x28 < 0)) (some (Sum.inr ((x30, 0) : (List Int) × Int))) (Option.bind (idxO x1 x28) fun x33 => Option.bind (loopO (cOrd_L1 x33) (x29, 0)) (fun (v56, v57) => cond (decide (x30.length + 1 < 10000000)) (some (Sum.inl (v56, (x30 ++ [x28])))) none))
theorem cOrd_L2_eq (x1 : List (List Int)) (x5 : List Int) (v21 : List Int) (v22 : List Int) : cOrd_L2 x1 x5 (v21, v22) = Option.bind (g_slices_IndexFunc_v x5 v21 v22) fun (x28, x29, x30) => cond (decide (x28 < 0)) (some (Sum.inr ((x30, 0) : (List Int) × Int))) (Option.bind (idxO x1 x28) fun x33 => Option.bind (loopO (cOrd_L1 x33) (x29, 0)) (fun (v56, v57) => cond (decide (x30.length + 1 < 10000000)) (some (Sum.inl (v56, (x30 ++ [x28])))) none)) := rfl
noncomputable def cOrd_L3 (x60 : List Int) : (List Int) × Int → Option (((List Int) × Int) ⊕ (((List Int) × Int)))
  | (v66, v67) => cond (decide (v67 < ((x60.length : Nat) : Int))) (Option.bind (idxO x60 v67) fun x74 => Option.bind (idxO v66 x74) fun x78 => some (Sum.inl ((v66.set (Int.toNat x74) (IntKind.i64.wrap (x78 + 1))), (IntKind.i64.wrap (v67 + 1))))) (some (Sum.inr (v66, v67)))
theorem cOrd_L3_eq (x60 : List Int) (v66 : List Int) (v67 : Int) : cOrd_L3 x60 (v66, v67) = cond (decide (v67 < ((x60.length : Nat) : Int))) (Option.bind (idxO x60 v67) fun x74 => Option.bind (idxO v66 x74) fun x78 => some (Sum.inl ((v66.set (Int.toNat x74) (IntKind.i64.wrap (x78 + 1))), (IntKind.i64.wrap (v67 + 1))))) (some (Sum.inr (v66, v67))) := rfl
noncomputable def cOrd_L4 (x1 : List (List Int)) : (List Int) × Int → Option (((List Int) × Int) ⊕ (((List Int) × Int)))
  | (v11, v12) => cond (decide (v12 < ((x1.length : Nat) : Int))) (Option.bind (idxO x1 v12) fun x60 => Option.bind (loopO (cOrd_L3 x60) (v11, 0)) (fun (v82, v83) => some (Sum.inl (v82, (IntKind.i64.wrap (v12 + 1)))))) (some (Sum.inr (v11, v12)))
theorem cOrd_L4_eq (x1 : List (List Int)) (v11 : List Int) (v12 : Int) : cOrd_L4 x1 (v11, v12) = cond (decide (v12 < ((x1.length : Nat) : Int))) (Option.bind (idxO x1 v12) fun x60 => Option.bind (loopO (cOrd_L3 x60) (v11, 0)) (fun (v82, v83) => some (Sum.inl (v82, (IntKind.i64.wrap (v12 + 1)))))) (some (Sum.inr (v11, v12))) := rfl
noncomputable def cOrd_v (a0 : List (List Int)) (a1 : List Bool) : Option ((List Int) × Int) :=
  Option.bind (cQuot_v a0 a1) fun (x1, x2) => cond (decide (x2 = 0)) (Option.bind (cNames_v a0 a1) fun (x5, x6) => cond (decide (a0.length < 10000000)) (Option.bind (loopO (cOrd_L4 x1) ((List.replicate a0.length 0), 0)) (fun (v84, v85) => Option.bind (loopO (cOrd_L2 x1 x5) (v84, [])) (fun r126 => some r126))) none) (some ([], x2))
theorem cOrd_vok (a0 : List (List Int)) (a1 : List Bool) (r : (List Int) × Int) (hr : cOrd_v a0 a1 = some r) :
    ACalls Try.prog 17 [.p (.sl (encG a0)), .p (.sl (encT a1))] [] fun h d => h = [] ∧ d = .tup [.p (.sl (encI r.1)), .p (.int .i64 r.2)] := by
  refine ACalls_X Try.func17 rfl enters17 (by simp [Try.f17]) ?_
  unfold cOrd_v at hr
  rcases g3 : cQuot_v a0 a1 with _ | ⟨x1, x2⟩
  · simp only [g3, Option.bind_none, reduceCtorEq] at hr
  simp only [g3, Option.bind_some] at hr
  try simp only [go_sem]
  refine Cc_of (cQuot_vok a0 a1 _ g3) ?_
  rintro h' r ⟨rfl, rfl⟩
  cases c4 : decide (x2 = 0)
  · simp only [c4, cond_false] at hr
    obtain rfl := Option.some.inj hr
    try simp only [go_sem, c4]
    all_goals (try refine end_pure ?_)
    all_goals (try simp only [go_sem, c4])
    all_goals (try (first | rfl | exact ⟨rfl, rfl⟩ | (simp; done)))
  simp only [c4, cond_true] at hr
  rcases g7 : cNames_v a0 a1 with _ | ⟨x5, x6⟩
  · simp only [g7, Option.bind_none, reduceCtorEq] at hr
  simp only [g7, Option.bind_some] at hr
  try simp only [go_sem, c4]
  refine Cc_of (cNames_vok a0 a1 _ g7) ?_
  rintro h' r ⟨rfl, rfl⟩
  cases c8 : decide (a0.length < 10000000)
  · simp only [c8, cond_false, Option.bind_none, reduceCtorEq] at hr
  simp only [c8, cond_true] at hr
  try simp only [go_sem, c4]
  refine ⟨by have := of_decide_eq_true c8; omega, ?_⟩
  rcases g17 : loopO (cOrd_L4 x1) ((List.replicate a0.length 0), 0) with _ | e16
  · simp only [g17, Option.bind_none, reduceCtorEq] at hr
  simp only [g17, Option.bind_some] at hr
  try simp only [go_sem, c4]
  refine X_loopO g17 (fun q : (List Int) × Int => ⟨[(6, .p (.sl (encG x1))), (8, .p (.sl (encI x5))), (10, .ptr 10 0), (37, .p (.sl (encG x1))), (38, .p (.int .i64 ((x1.length : Nat) : Int))), (39, .p (.int .i64 q.2))], [(10, .box [.ref 36 0 q.1.length q.1.length]), (36, .arr 3 1 (encI q.1))], 83⟩) ((Wk.forget (by simp [Le, LeE, LeH, get, envIds, hpIds, KeepH, D.ids, idsL, AO.ids, setL, base, encI_nil, encS_nil, encT_nil, encG_nil, encC_nil, encL_nil, encK_nil, encP_nil, mpS_nil, mpB_nil, encI_consE, encS_consE, encT_consE, encG_consE, encI_one, encS_one, encT_one, encI_snoc, encS_snoc, encT_snocE, encG_snocE, encC_snoc, encL_snoc, encK_snocE, encP_snocE, encI_set, encS_set, encT_setE, encG_setE, encC_setE, encK_setE, encP_setE, encI_len, encS_len, encT_len2, encG_len2, encC_len, encL_len, encK_len2, encP_len2, encW_len, dT_ids, dI_ids, dT_len, dI_len, List.length_set, encI_takeM, List.take_length]))) ?_
  rintro ⟨v11, v12⟩ m15 hh13 ih14
  rw [cOrd_L4_eq] at hh13
  cases c18 : decide (v12 < ((x1.length : Nat) : Int))
  · simp only [c18, cond_false] at hh13
    simp only [Option.bind_some, nextO_inr] at hh13
    obtain rfl := Option.some.inj hh13
    try dsimp only at hr
    rcases g27 : loopO (cOrd_L2 x1 x5) (v11, []) with _ | e26
    · simp only [g27, Option.bind_none, reduceCtorEq] at hr
    simp only [g27, Option.bind_some] at hr
    try simp only [go_sem, c4, c18]
    refine X_loopO g27 (fun q : (List Int) × (List Int) => ⟨[(6, .p (.sl (encG x1))), (8, .p (.sl (encI x5))), (10, .ptr 10 0), (15, .ptr 15 0)], [(10, .box [.ref 36 0 q.1.length q.1.length]), (15, .box [.ref 515000 0 q.2.length q.2.length]), (36, .arr 3 1 (encI q.1)), (515000, .arr 3 1 (encI q.2))], 83⟩) ((Wk.nilBox (id := 15) (j := 0) (q := 515000) (sz := 1) 3 rfl rfl rfl (by decide)).trans ((Wk.forget (by simp [Le, LeE, LeH, get, envIds, hpIds, KeepH, D.ids, idsL, AO.ids, setL, base, encI_nil, encS_nil, encT_nil, encG_nil, encC_nil, encL_nil, encK_nil, encP_nil, mpS_nil, mpB_nil, encI_consE, encS_consE, encT_consE, encG_consE, encI_one, encS_one, encT_one, encI_snoc, encS_snoc, encT_snocE, encG_snocE, encC_snoc, encL_snoc, encK_snocE, encP_snocE, encI_set, encS_set, encT_setE, encG_setE, encC_setE, encK_setE, encP_setE, encI_len, encS_len, encT_len2, encG_len2, encC_len, encL_len, encK_len2, encP_len2, encW_len, dT_ids, dI_ids, dT_len, dI_len, List.length_set, encI_takeM, List.take_length])))) ?_
    rintro ⟨v21, v22⟩ m25 hh23 ih24
    rw [cOrd_L2_eq] at hh23
    rcases g31 : g_slices_IndexFunc_v x5 v21 v22 with _ | ⟨x28, x29, x30⟩
    · simp only [g31, Option.bind_none, reduceCtorEq] at hh23
    simp only [g31, Option.bind_some] at hh23
    try simp only [go_sem, c4, c18]
    refine Cc_of (g_slices_IndexFunc_vok x5 v21 v22 _ g31) ?_
    rintro h' r ⟨rfl, rfl⟩
    cases c32 : decide (x28 < 0)
    · simp only [c32, cond_false] at hh23
      rcases g34 : idxO x1 x28 with _ | x33
      · simp only [g34, Option.bind_none, reduceCtorEq] at hh23
      simp only [g34, Option.bind_some] at hh23
      have f35 := idxO_rng g34
      have f36 : (encG x1).getD (Int.toNat x28) [] = [(.sl (encI x33))] := idxO_map _ g34
      rcases g45 : loopO (cOrd_L1 x33) (x29, 0) with _ | e44
      · simp only [g45, Option.bind_none, reduceCtorEq] at hh23
      simp only [g45, Option.bind_some] at hh23
      try simp only [go_sem, c4, c18, c32, f35, f36]
      refine X_loopO g45 (fun q : (List Int) × Int => ⟨[(6, .p (.sl (encG x1))), (8, .p (.sl (encI x5))), (10, .ptr 10 0), (15, .ptr 15 0), (16, .p (.int .i64 x28)), (66, .p (.sl (encI x33))), (67, .p (.int .i64 ((x33.length : Nat) : Int))), (68, .p (.int .i64 q.2))], [(10, .box [.ref 36 0 q.1.length q.1.length]), (15, .box [.ref 515000 0 x30.length x30.length]), (36, .arr 3 1 (encI q.1)), (515000, .arr 3 1 (encI x30))], 83⟩) ((Wk.forget (by simp [Le, LeE, LeH, get, envIds, hpIds, KeepH, D.ids, idsL, AO.ids, setL, base, encI_nil, encS_nil, encT_nil, encG_nil, encC_nil, encL_nil, encK_nil, encP_nil, mpS_nil, mpB_nil, encI_consE, encS_consE, encT_consE, encG_consE, encI_one, encS_one, encT_one, encI_snoc, encS_snoc, encT_snocE, encG_snocE, encC_snoc, encL_snoc, encK_snocE, encP_snocE, encI_set, encS_set, encT_setE, encG_setE, encC_setE, encK_setE, encP_setE, encI_len, encS_len, encT_len2, encG_len2, encC_len, encL_len, encK_len2, encP_len2, encW_len, dT_ids, dI_ids, dT_len, dI_len, List.length_set, encI_takeM, List.take_length]))) ?_
      rintro ⟨v39, v40⟩ m43 hh41 ih42
      rw [cOrd_L1_eq] at hh41
      cases c46 : decide (v40 < ((x33.length : Nat) : Int))
      · simp only [c46, cond_false] at hh41
        simp only [Option.bind_some, nextO_inr] at hh41
        obtain rfl := Option.some.inj hh41
        try dsimp only at hh23
        cases c47 : decide (x30.length + 1 < 10000000)
        · simp only [c47, cond_false, Option.bind_none, reduceCtorEq] at hh23
        simp only [c47, cond_true] at hh23
        try simp only [go_sem, c4, c18, c32, f35, f36, c46]
        refine ⟨by have := of_decide_eq_true c47; (try simp only [List.length_cons, List.length_nil, List.length_append] at *); (repeat' refine And.intro ?_ ?_) <;> first | exact wid1 _ _ rfl | exact encI_wid _ | omega | (simp [Wid]; done), ?_⟩
        simp only [Option.bind_some, nextO_inl] at hh23
        try simp only [go_sem, c4, c18, c32, f35, f36, c46]
        exact ih24 (v39, (x30 ++ [x28])) _ hh23 ((Wk.forget (by simp [Le, LeE, LeH, get, envIds, hpIds, KeepH, D.ids, idsL, AO.ids, setL, base, encI_nil, encS_nil, encT_nil, encG_nil, encC_nil, encL_nil, encK_nil, encP_nil, mpS_nil, mpB_nil, encI_consE, encS_consE, encT_consE, encG_consE, encI_one, encS_one, encT_one, encI_snoc, encS_snoc, encT_snocE, encG_snocE, encC_snoc, encL_snoc, encK_snocE, encP_snocE, encI_set, encS_set, encT_setE, encG_setE, encC_setE, encK_setE, encP_setE, encI_len, encS_len, encT_len2, encG_len2, encC_len, encL_len, encK_len2, encP_len2, encW_len, dT_ids, dI_ids, dT_len, dI_len, List.length_set, encI_takeM, List.take_length])))
      simp only [c46, cond_true] at hh41
      rcases g49 : idxO x33 v40 with _ | x48
      · simp only [g49, Option.bind_none, reduceCtorEq] at hh41
      simp only [g49, Option.bind_some] at hh41
      have f50 := idxO_rng g49
      have f51 : (encI x33).getD (Int.toNat v40) [] = [(.int .i64 x48)] := idxO_map _ g49
      rcases g53 : idxO v39 x48 with _ | x52
      · simp only [g53, Option.bind_none, reduceCtorEq] at hh41
      simp only [g53, Option.bind_some] at hh41
      have f54 := idxO_rng g53
      have f55 : (encI v39).getD (Int.toNat x48) [] = [(.int .i64 x52)] := idxO_map _ g53
      simp only [Option.bind_some, nextO_inl] at hh41
      try simp only [go_sem, c4, c18, c32, f35, f36, c46, f50, f51, f54, f55]
      exact ih42 ((v39.set (Int.toNat x48) (IntKind.i64.wrap (x52 - 1))), (IntKind.i64.wrap (v40 + 1))) _ hh41 ((Wk.forget (by simp [Le, LeE, LeH, get, envIds, hpIds, KeepH, D.ids, idsL, AO.ids, setL, base, encI_nil, encS_nil, encT_nil, encG_nil, encC_nil, encL_nil, encK_nil, encP_nil, mpS_nil, mpB_nil, encI_consE, encS_consE, encT_consE, encG_consE, encI_one, encS_one, encT_one, encI_snoc, encS_snoc, encT_snocE, encG_snocE, encC_snoc, encL_snoc, encK_snocE, encP_snocE, encI_set, encS_set, encT_setE, encG_setE, encC_setE, encK_setE, encP_setE, encI_len, encS_len, encT_len2, encG_len2, encC_len, encL_len, encK_len2, encP_len2, encW_len, dT_ids, dI_ids, dT_len, dI_len, List.length_set, encI_takeM, List.take_length])))
    simp only [c32, cond_true] at hh23
    simp only [Option.bind_some, nextO_inr] at hh23
    obtain rfl := Option.some.inj hh23
    try dsimp only at hr
    obtain rfl := Option.some.inj hr
    try simp only [go_sem, c4, c18, c32]
    all_goals (try refine end_pure ?_)
    all_goals (try simp only [go_sem, c4, c18, c32])
    all_goals (try (first | rfl | exact ⟨rfl, rfl⟩ | (simp; done)))
  simp only [c18, cond_true] at hh13
  rcases g61 : idxO x1 v12 with _ | x60
  · simp only [g61, Option.bind_none, reduceCtorEq] at hh13
  simp only [g61, Option.bind_some] at hh13
  have f62 := idxO_rng g61
  have f63 : (encG x1).getD (Int.toNat v12) [] = [(.sl (encI x60))] := idxO_map _ g61
  rcases g72 : loopO (cOrd_L3 x60) (v11, 0) with _ | e71
  · simp only [g72, Option.bind_none, reduceCtorEq] at hh13
  simp only [g72, Option.bind_some] at hh13
  try simp only [go_sem, c4, c18, f62, f63]
  refine X_loopO g72 (fun q : (List Int) × Int => ⟨[(6, .p (.sl (encG x1))), (8, .p (.sl (encI x5))), (10, .ptr 10 0), (37, .p (.sl (encG x1))), (38, .p (.int .i64 ((x1.length : Nat) : Int))), (39, .p (.int .i64 v12)), (43, .p (.sl (encI x60))), (44, .p (.int .i64 ((x60.length : Nat) : Int))), (45, .p (.int .i64 q.2))], [(10, .box [.ref 36 0 q.1.length q.1.length]), (36, .arr 3 1 (encI q.1))], 83⟩) ((Wk.forget (by simp [Le, LeE, LeH, get, envIds, hpIds, KeepH, D.ids, idsL, AO.ids, setL, base, encI_nil, encS_nil, encT_nil, encG_nil, encC_nil, encL_nil, encK_nil, encP_nil, mpS_nil, mpB_nil, encI_consE, encS_consE, encT_consE, encG_consE, encI_one, encS_one, encT_one, encI_snoc, encS_snoc, encT_snocE, encG_snocE, encC_snoc, encL_snoc, encK_snocE, encP_snocE, encI_set, encS_set, encT_setE, encG_setE, encC_setE, encK_setE, encP_setE, encI_len, encS_len, encT_len2, encG_len2, encC_len, encL_len, encK_len2, encP_len2, encW_len, dT_ids, dI_ids, dT_len, dI_len, List.length_set, encI_takeM, List.take_length]))) ?_
  rintro ⟨v66, v67⟩ m70 hh68 ih69
  rw [cOrd_L3_eq] at hh68
  cases c73 : decide (v67 < ((x60.length : Nat) : Int))
  · simp only [c73, cond_false] at hh68
    simp only [Option.bind_some, nextO_inr] at hh68
    obtain rfl := Option.some.inj hh68
    try dsimp only at hh13
    simp only [Option.bind_some, nextO_inl] at hh13
    try simp only [go_sem, c4, c18, f62, f63, c73]
    exact ih14 (v66, (IntKind.i64.wrap (v12 + 1))) _ hh13 ((Wk.forget (by simp [Le, LeE, LeH, get, envIds, hpIds, KeepH, D.ids, idsL, AO.ids, setL, base, encI_nil, encS_nil, encT_nil, encG_nil, encC_nil, encL_nil, encK_nil, encP_nil, mpS_nil, mpB_nil, encI_consE, encS_consE, encT_consE, encG_consE, encI_one, encS_one, encT_one, encI_snoc, encS_snoc, encT_snocE, encG_snocE, encC_snoc, encL_snoc, encK_snocE, encP_snocE, encI_set, encS_set, encT_setE, encG_setE, encC_setE, encK_setE, encP_setE, encI_len, encS_len, encT_len2, encG_len2, encC_len, encL_len, encK_len2, encP_len2, encW_len, dT_ids, dI_ids, dT_len, dI_len, List.length_set, encI_takeM, List.take_length])))
  simp only [c73, cond_true] at hh68
  rcases g75 : idxO x60 v67 with _ | x74
  · simp only [g75, Option.bind_none, reduceCtorEq] at hh68
  simp only [g75, Option.bind_some] at hh68
  have f76 := idxO_rng g75
  have f77 : (encI x60).getD (Int.toNat v67) [] = [(.int .i64 x74)] := idxO_map _ g75
  rcases g79 : idxO v66 x74 with _ | x78
  · simp only [g79, Option.bind_none, reduceCtorEq] at hh68
  simp only [g79, Option.bind_some] at hh68
  have f80 := idxO_rng g79
  have f81 : (encI v66).getD (Int.toNat x74) [] = [(.int .i64 x78)] := idxO_map _ g79
  simp only [Option.bind_some, nextO_inl] at hh68
  try simp only [go_sem, c4, c18, f62, f63, c73, f76, f77, f80, f81]
  exact ih69 ((v66.set (Int.toNat x74) (IntKind.i64.wrap (x78 + 1))), (IntKind.i64.wrap (v67 + 1))) _ hh68 ((Wk.forget (by simp [Le, LeE, LeH, get, envIds, hpIds, KeepH, D.ids, idsL, AO.ids, setL, base, encI_nil, encS_nil, encT_nil, encG_nil, encC_nil, encL_nil, encK_nil, encP_nil, mpS_nil, mpB_nil, encI_consE, encS_consE, encT_consE, encG_consE, encI_one, encS_one, encT_one, encI_snoc, encS_snoc, encT_snocE, encG_snocE, encC_snoc, encL_snoc, encK_snocE, encP_snocE, encI_set, encS_set, encT_setE, encG_setE, encC_setE, encK_setE, encP_setE, encI_len, encS_len, encT_len2, encG_len2, encC_len, encL_len, encK_len2, encP_len2, encW_len, dT_ids, dI_ids, dT_len, dI_len, List.length_set, encI_takeM, List.take_length])))
end Go.Am
end
section
namespace Go.Am
open Go Go.Proofs
set_option maxRecDepth 100000
set_option maxHeartbeats 2000000
set_option linter.unusedSimpArgs false
set_option linter.unusedVariables false
noncomputable def qReach_L1 (a0 : List (List Int)) (a1 : List Bool) (x : Int) : (List Int) × (List Bool) × Int → Option (((List Int) × (List Bool) × Int) ⊕ ((List Int) × (List Bool) × Int))
  | (t, o, i) => Option.bind (idxO a0 x) fun row => cond (decide (i < ((row.length : Nat) : Int))) (Option.bind (idxO row i) fun y => Option.bind (idxO a1 y) fun s => cond s (some (Sum.inl (t, o, IntKind.i64.wrap (i + 1))))
      (Option.bind (idxO o y) fun m => cond m (some (Sum.inl (t, o, IntKind.i64.wrap (i + 1)))) (cond (decide (t.length < 1000)) (some (Sum.inl (t ++ [y], o.set y.toNat true, IntKind.i64.wrap (i + 1)))) none))) (some (Sum.inr (t, o, i)))
theorem qReach_L1_eq (a0 : List (List Int)) (a1 : List Bool) (x : Int) (t : List Int) (o : List Bool) (i : Int) : qReach_L1 a0 a1 x (t, o, i) = Option.bind (idxO a0 x) fun row => cond (decide (i < ((row.length : Nat) : Int))) (Option.bind (idxO row i) fun y => Option.bind (idxO a1 y) fun s => cond s (some (Sum.inl (t, o, IntKind.i64.wrap (i + 1))))
      (Option.bind (idxO o y) fun m => cond m (some (Sum.inl (t, o, IntKind.i64.wrap (i + 1)))) (cond (decide (t.length < 1000)) (some (Sum.inl (t ++ [y], o.set y.toNat true, IntKind.i64.wrap (i + 1)))) none))) (some (Sum.inr (t, o, i))) := rfl
noncomputable def qReach_L2 (a0 : List (List Int)) (a1 : List Bool) : (List Int) × (List Bool) → Option (((List Int) × (List Bool)) ⊕ (List Bool))
  | ([], o) => some (Sum.inr o)
  | (x :: t, o) => Option.bind (loopO (qReach_L1 a0 a1 x) (t, o, 0)) fun (t', o', i') => some (Sum.inl (t', o'))
theorem qReach_L2_nil (a0 : List (List Int)) (a1 : List Bool) (o : List Bool) : qReach_L2 a0 a1 ([], o) = some (Sum.inr o) := rfl
theorem qReach_L2_cons (a0 : List (List Int)) (a1 : List Bool) (x : Int) (t : List Int) (o : List Bool) : qReach_L2 a0 a1 (x :: t, o) = Option.bind (loopO (qReach_L1 a0 a1 x) (t, o, 0)) fun (t', o', i') => some (Sum.inl (t', o')) := rfl
noncomputable def qReach_v (a0 : List (List Int)) (a1 : List Bool) (a2 : Int) : Option (List Bool) :=
  cond (decide (a0.length < 1000)) (Option.bind (idxO a1 a2) fun s => cond s (some (List.replicate a0.length false)) (Option.bind (idxO (List.replicate a0.length false) a2) fun m => loopO (qReach_L2 a0 a1) ([a2], (List.replicate a0.length false).set a2.toNat true))) none
def qSo (a0 : List (List Int)) (a1 : List Bool) (q : (List Int) × (List Bool)) (p : List Int) : St :=
  ⟨[(0, .p (.sl (encG a0))), (1, .p (.sl (encT a1))), (7, .ref 14 0 q.2.length q.2.length), (8, .ref 24 p.length q.1.length (p ++ q.1).length)], [(14, .arr 4 1 (encT q.2)), (24, .arr 3 1 (encI (p ++ q.1)))], 69⟩
def qSi (a0 : List (List Int)) (a1 : List Bool) (x : Int) (q : (List Int) × (List Bool) × Int) (p : List Int) : St :=
  ⟨[(0, .p (.sl (encG a0))), (1, .p (.sl (encT a1))), (7, .ref 14 0 q.2.1.length q.2.1.length), (8, .ref 24 p.length q.1.length (p ++ q.1).length), (9, .p (.int .i64 x)), (10, .p (.int .i64 q.2.2))], [(14, .arr 4 1 (encT q.2.1)), (24, .arr 3 1 (encI (p ++ q.1)))], 69⟩
theorem qReach_vok (a0 : List (List Int)) (a1 : List Bool) (a2 : Int) (r : List Bool) (hr : qReach_v a0 a1 a2 = some r) :
    ACalls Try.prog 45 [.p (.sl (encG a0)), .p (.sl (encT a1)), .p (.int .i64 a2)] [] fun h d => h = [] ∧ d = .p (.sl (encT r)) := by
  unfold qReach_v at hr
  cases c0 : decide (a0.length < 1000)
  · simp only [c0, cond_false, reduceCtorEq] at hr
  simp only [c0, cond_true] at hr
  have c0' := of_decide_eq_true c0
  have b0 : 0 ≤ ((a0.length : Nat) : Int) := by omega
  have b1 : ((a0.length : Nat) : Int) ≤ 140737488355328 := by omega
  have b2 : ((a0.length : Nat) : Int) * 1 ≤ 140737488355328 := by omega
  have b3 : ((a0.length : Nat) : Int) ≤ ((a0.length : Nat) : Int) := Int.le_refl _
  rcases g1 : idxO a1 a2 with _ | s
  · simp only [g1, Option.bind_none, reduceCtorEq] at hr
  simp only [g1, Option.bind_some] at hr
  have f1 := idxO_rng g1
  have f2 : (encT a1).getD a2.toNat [] = [.bool s] := idxO_map _ g1
  refine ACalls_X Try.func45 rfl enters45 (by simp [Try.f45]) ?_
  cases s
  rotate_left
  · simp only [cond_true] at hr
    obtain rfl := Option.some.inj hr
    have tk : List.take a0.length (encT (List.replicate a0.length false)) = encT (List.replicate a0.length false) := by rw [List.take_of_length_le]; simp [encT]
    simp only [go_sem, b0, b1, b2, b3, f1, f2]
    refine end_pure ?_
    simp only [go_sem, tk]
  simp only [cond_false] at hr
  rcases g2 : idxO (List.replicate a0.length false) a2 with _ | m
  · simp only [g2, Option.bind_none, reduceCtorEq] at hr
  simp only [g2, Option.bind_some] at hr
  have f3 := idxO_rng g2
  rw [List.length_replicate] at f3
  have f4 : (encT (List.replicate a0.length false)).getD a2.toNat [] = [.bool m] := idxO_map _ g2
  simp only [go_sem, b0, b1, b2, b3, f1, f2, f3, f4]
  refine X_loopK hr (qSo a0 a1) [] (Wk.forget (by simp [Le, LeE, LeH, get, envIds, hpIds, KeepH, D.ids, idsL, AO.ids, setL, base, qSo, encI_one, encI_nil])) ?_
  rintro ⟨t, o⟩ p m1 hh ih
  unfold qSo
  rcases t with _ | ⟨x, t⟩
  · rw [qReach_L2_nil] at hh
    simp only [Option.bind_some, nextO_inr] at hh
    obtain rfl := Option.some.inj hh
    simp only [go_sem]
    refine end_pure ?_
    simp only [go_sem]
  · rw [qReach_L2_cons] at hh
    rcases g3 : loopO (qReach_L1 a0 a1 x) (t, o, 0) with _ | ⟨t', o', i'⟩
    · simp only [g3, Option.bind_none, reduceCtorEq] at hh
    simp only [g3, Option.bind_some, nextO_inl] at hh
    have l1 : (0 : Int) < ((t.length + 1 : Nat) : Int) := by omega
    have l2 : (1 : Int) ≤ ((t.length + 1 : Nat) : Int) := by omega
    have l3 : (encI (p ++ x :: t)).getD p.length [] = [.int .i64 x] := by simp [encI, List.getD]
    have l4 : (((t.length + 1 : Nat) : Int) - 1).toNat = t.length := by omega
    simp only [go_sem, l1, l2, l3, l4, Nat.add_zero, Int.le_refl]
    refine X_loopK g3 (qSi a0 a1 x) (p ++ [x]) (Wk.forget (by simp [Le, LeE, LeH, get, envIds, hpIds, KeepH, D.ids, idsL, AO.ids, setL, base, qSi, List.append_assoc, List.length_append])) ?_
    rintro ⟨t1, o1, i1⟩ p1 m2 hh2 ih2
    unfold qSi
    rw [qReach_L1_eq] at hh2
    rcases g4 : idxO a0 x with _ | row
    · simp only [g4, Option.bind_none, reduceCtorEq] at hh2
    simp only [g4, Option.bind_some] at hh2
    have f5 := idxO_rng g4
    have f6 : (encG a0).getD x.toNat [] = [.sl (encI row)] := idxO_map _ g4
    cases c2 : decide (i1 < ((row.length : Nat) : Int))
    · simp only [c2, cond_false] at hh2
      simp only [Option.bind_some, nextO_inr] at hh2
      obtain ⟨rfl, rfl, rfl⟩ : t1 = t' ∧ o1 = o' ∧ i1 = i' := by simpa using hh2
      simp only [go_sem, f5, f6, c2]
      exact ih (t1, o1) p1 _ hh (Wk.forget (by simp [Le, LeE, LeH, get, envIds, hpIds, KeepH, D.ids, idsL, AO.ids, setL, base, qSo]))
    simp only [c2, cond_true] at hh2
    rcases g5 : idxO row i1 with _ | y
    · simp only [g5, Option.bind_none, reduceCtorEq] at hh2
    simp only [g5, Option.bind_some] at hh2
    have f7 := idxO_rng g5
    have f8 : (encI row).getD i1.toNat [] = [.int .i64 y] := idxO_map _ g5
    rcases g6 : idxO a1 y with _ | sy
    · simp only [g6, Option.bind_none, reduceCtorEq] at hh2
    simp only [g6, Option.bind_some] at hh2
    have f9 := idxO_rng g6
    have f10 : (encT a1).getD y.toNat [] = [.bool sy] := idxO_map _ g6
    cases sy
    rotate_left
    · simp only [cond_true] at hh2
      simp only [Option.bind_some, nextO_inl] at hh2
      simp only [go_sem, f5, f6, c2, f7, f8, f9, f10]
      exact ih2 (t1, o1, IntKind.i64.wrap (i1 + 1)) p1 _ hh2 (Wk.forget (by simp [Le, LeE, LeH, get, envIds, hpIds, KeepH, D.ids, idsL, AO.ids, setL, base, qSi]))
    simp only [cond_false] at hh2
    rcases g7 : idxO o1 y with _ | my
    · simp only [g7, Option.bind_none, reduceCtorEq] at hh2
    simp only [g7, Option.bind_some] at hh2
    have f11 := idxO_rng g7
    have f12 : (encT o1).getD y.toNat [] = [.bool my] := idxO_map _ g7
    cases my
    rotate_left
    · simp only [cond_true] at hh2
      simp only [Option.bind_some, nextO_inl] at hh2
      simp only [go_sem, f5, f6, c2, f7, f8, f9, f10, f11, f12]
      exact ih2 (t1, o1, IntKind.i64.wrap (i1 + 1)) p1 _ hh2 (Wk.forget (by simp [Le, LeE, LeH, get, envIds, hpIds, KeepH, D.ids, idsL, AO.ids, setL, base, qSi]))
    simp only [cond_false] at hh2
    cases c3 : decide (t1.length < 1000)
    · simp only [c3, cond_false, Option.bind_none, reduceCtorEq] at hh2
    simp only [c3, cond_true] at hh2
    simp only [Option.bind_some, nextO_inl] at hh2
    have c3' := of_decide_eq_true c3
    have f13 : (encT o1)[y.toNat]?.getD [] = [.bool false] := f12
    rcases p1 with _ | ⟨p0, p1⟩
    · simp only [go_sem, f5, f6, c2, f7, f8, f9, f10, f11, f12]
      exact ⟨⟨wid1 _ _ rfl, by omega, by omega⟩, ih2 (t1 ++ [y], o1.set y.toNat true, IntKind.i64.wrap (i1 + 1)) [] _ hh2 (Wk.forget (by simp [Le, LeE, LeH, get, envIds, hpIds, KeepH, D.ids, idsL, AO.ids, setL, base, qSi]))⟩
    · simp only [go_sem, f5, f6, c2, f7, f8, f9, f10, f11, f12]
      refine Af_appq rfl rfl rfl rfl rfl ?_
      have e1 : (p1.length + 1) + t1.length = (p1 ++ t1).length + 1 := by simp; omega
      have e2 : (encI (p0 :: (p1 ++ t1))).drop (p1.length + 1) = encI t1 := by simp [encI]
      have e3 : (p1 ++ t1).length + 1 = (encI (p0 :: (p1 ++ t1))).length := by simp [encI]
      simp only [appQD, ti24, ti3, ev, get, srcD, setL]
      simp
      refine ⟨rfl, by rw [← e3]; simp; omega, by rw [← e3]; simp; try omega, by omega, by omega, ?_, ?_⟩
      · have e4 : encI (p0 :: (p1 ++ t1)) ++ [[.int .i64 y]] = encI ((p0 :: p1) ++ (t1 ++ [y])) := by simp [encI]
        have e5 : (encI (p0 :: (p1 ++ t1))).length + 1 = ((p0 :: p1) ++ (t1 ++ [y])).length := by simp only [encI_len, List.length_cons, List.length_append, List.length_nil]; omega
        simp only [go_sem, e4, e5]
        exact ih2 (t1 ++ [y], o1.set y.toNat true, IntKind.i64.wrap (i1 + 1)) (p0 :: p1) _ hh2 (Wk.forget (by simp [Le, LeE, LeH, get, envIds, hpIds, KeepH, D.ids, idsL, AO.ids, setL, base, qSi, Nat.add_assoc]))
      · have e4 : encI t1 ++ [[.int .i64 y]] = encI (t1 ++ [y]) := by simp [encI]
        have e5 : (encI t1).length + 1 = (t1 ++ [y]).length := by simp [encI]
        simp only [go_sem, e2, e4, e5]
        refine ih2 (t1 ++ [y], o1.set y.toNat true, IntKind.i64.wrap (i1 + 1)) [] _ hh2 ?_
        refine Wk.trans (b := ⟨[(0, .p (.sl (encG a0))), (1, .p (.sl (encT a1))), (7, .ref 14 0 o1.length o1.length), (8, .ref 67 0 (t1 ++ [y]).length (encI (t1 ++ [y])).length), (9, .p (.int .i64 x)), (10, .p (.int .i64 (IntKind.i64.wrap (i1 + 1))))], [(14, .arr 4 1 (encT (o1.set y.toNat true))), (67, .arr 3 1 (encI (t1 ++ [y])))], 69⟩) (Wk.forget (by simp [Le, LeE, LeH, get, envIds, hpIds, KeepH, D.ids, idsL, AO.ids, setL, base, encI_len])) ?_
        refine (Wk.moveSlot (t := 8) (q := 67) (k := (t1 ++ [y]).length) (sz := 1) (e := 3) (es := encI (t1 ++ [y])) 24 rfl rfl (by simp [encI]) rfl).trans ?_
        have e6 : List.take (t1.length + 1) (t1 ++ [y]) = t1 ++ [y] := by rw [List.take_of_length_le]; simp
        exact (Wk.forget (by simp [Le, LeE, LeH, get, envIds, hpIds, KeepH, D.ids, idsL, AO.ids, setL, base, qSi, encI_takeM, List.take_length, e6]))
end Go.Am
end
section
namespace Go.Am
open Go Go.Proofs
set_option maxRecDepth 100000
set_option maxHeartbeats 2000000
set_option linter.unusedSimpArgs false
set_option linter.unusedVariables false
noncomputable def sameI_L1 (a0 : List Int) (a1 : List Int) : Int → Option ((Int) ⊕ (Int ⊕ Bool))
  | v3 => cond (decide (v3 < ((a0.length : Nat) : Int))) (Option.bind (idxO a0 v3) fun x10 => Option.bind (idxO a1 v3) fun x14 => cond (decide (x10 = x14)) (some (Sum.inl (IntKind.i64.wrap (v3 + 1)))) (some (Sum.inr (.inr (false))))) (some (Sum.inr (.inl v3)))
theorem sameI_L1_eq (a0 : List Int) (a1 : List Int) (v3 : Int) : sameI_L1 a0 a1 v3 = cond (decide (v3 < ((a0.length : Nat) : Int))) (Option.bind (idxO a0 v3) fun x10 => Option.bind (idxO a1 v3) fun x14 => cond (decide (x10 = x14)) (some (Sum.inl (IntKind.i64.wrap (v3 + 1)))) (some (Sum.inr (.inr (false))))) (some (Sum.inr (.inl v3))) := rfl
noncomputable def sameI_v (a0 : List Int) (a1 : List Int) : Option (Bool) :=
  cond (decide (((a0.length : Nat) : Int) = ((a1.length : Nat) : Int))) (Option.bind (loopO (sameI_L1 a0 a1) 0) (fun | .inl v19 => some true | .inr (r20) => some r20)) (some false)
theorem sameI_vok (a0 : List Int) (a1 : List Int) (r : Bool) (hr : sameI_v a0 a1 = some r) :
    ACalls Try.prog 21 [.p (.sl (encI a0)), .p (.sl (encI a1))] [] fun h d => h = [] ∧ d = .p (.bool r) := by
  refine ACalls_X Try.func21 rfl enters21 (by simp [Try.f21]) ?_
  unfold sameI_v at hr
  cases c1 : decide (((a0.length : Nat) : Int) = ((a1.length : Nat) : Int))
  · simp only [c1, cond_false] at hr
    obtain rfl := Option.some.inj hr
    try simp only [go_sem, c1]
    all_goals (try refine end_pure ?_)
    all_goals (try simp only [go_sem, c1])
    all_goals (try (first | rfl | exact ⟨rfl, rfl⟩ | (simp; done)))
  simp only [c1, cond_true] at hr
  rcases g8 : loopO (sameI_L1 a0 a1) 0 with _ | e7
  · simp only [g8, Option.bind_none, reduceCtorEq] at hr
  simp only [g8, Option.bind_some] at hr
  try simp only [go_sem, c1]
  refine X_loopO g8 (fun q : Int => ⟨[(0, .p (.sl (encI a0))), (1, .p (.sl (encI a1))), (5, .p (.int .i64 q))], [], 26⟩) ((Wk.forget (by simp [Le, LeE, LeH, get, envIds, hpIds, KeepH, D.ids, idsL, AO.ids, setL, base, encI_nil, encS_nil, encT_nil, encG_nil, encC_nil, encL_nil, encK_nil, encP_nil, mpS_nil, mpB_nil, encI_consE, encS_consE, encT_consE, encG_consE, encI_one, encS_one, encT_one, encI_snoc, encS_snoc, encT_snocE, encG_snocE, encC_snoc, encL_snoc, encK_snocE, encP_snocE, encI_set, encS_set, encT_setE, encG_setE, encC_setE, encK_setE, encP_setE, encI_len, encS_len, encT_len2, encG_len2, encC_len, encL_len, encK_len2, encP_len2]))) ?_
  rintro v3 m6 hh4 ih5
  rw [sameI_L1_eq] at hh4
  cases c9 : decide (v3 < ((a0.length : Nat) : Int))
  · simp only [c9, cond_false] at hh4
    simp only [Option.bind_some, nextO_inr] at hh4
    obtain rfl := Option.some.inj hh4
    try dsimp only at hr
    obtain rfl := Option.some.inj hr
    try simp only [go_sem, c1, c9]
    all_goals (try refine end_pure ?_)
    all_goals (try simp only [go_sem, c1, c9])
    all_goals (try (first | rfl | exact ⟨rfl, rfl⟩ | (simp; done)))
  simp only [c9, cond_true] at hh4
  try simp only [go_sem, c1, c9]
  refine X_any0 mixed (p := [(0, 0), (1, 0), (2, 0), (3, 0), (4, 0), (5, 0), (6, 0), (7, 0), (8, 0)]) (by kernel_rfl) (by simp [LeH, get]) ?_
  rcases g11 : idxO a0 v3 with _ | x10
  · simp only [g11, Option.bind_none, reduceCtorEq] at hh4
  simp only [g11, Option.bind_some] at hh4
  have f12 := idxO_rng g11
  have f13 : (encI a0).getD (Int.toNat v3) [] = [(.int .i64 x10)] := idxO_map _ g11
  rcases g15 : idxO a1 v3 with _ | x14
  · simp only [g15, Option.bind_none, reduceCtorEq] at hh4
  simp only [g15, Option.bind_some] at hh4
  have f16 := idxO_rng g15
  have f17 : (encI a1).getD (Int.toNat v3) [] = [(.int .i64 x14)] := idxO_map _ g15
  cases c18 : decide (x10 = x14)
  · simp only [c18, cond_false] at hh4
    simp only [Option.bind_some, nextO_inr] at hh4
    obtain rfl := Option.some.inj hh4
    try dsimp only at hr
    obtain rfl := Option.some.inj hr
    try simp only [go_sem, c1, c9, f12, f13, f16, f17, c18]
    all_goals (try refine end_pure ?_)
    all_goals (try simp only [go_sem, c1, c9, f12, f13, f16, f17, c18])
    all_goals (try (first | rfl | exact ⟨rfl, rfl⟩ | (simp; done)))
  simp only [c18, cond_true] at hh4
  simp only [Option.bind_some, nextO_inl] at hh4
  try simp only [go_sem, c1, c9, f12, f13, f16, f17, c18]
  exact ih5 (IntKind.i64.wrap (v3 + 1)) _ hh4 ((Wk.forget (by simp [Le, LeE, LeH, get, envIds, hpIds, KeepH, D.ids, idsL, AO.ids, setL, base, encI_nil, encS_nil, encT_nil, encG_nil, encC_nil, encL_nil, encK_nil, encP_nil, mpS_nil, mpB_nil, encI_consE, encS_consE, encT_consE, encG_consE, encI_one, encS_one, encT_one, encI_snoc, encS_snoc, encT_snocE, encG_snocE, encC_snoc, encL_snoc, encK_snocE, encP_snocE, encI_set, encS_set, encT_setE, encG_setE, encC_setE, encK_setE, encP_setE, encI_len, encS_len, encT_len2, encG_len2, encC_len, encL_len, encK_len2, encP_len2])))
end Go.Am
end
section
namespace Go.Am
open Go Go.Proofs
set_option maxRecDepth 100000
set_option linter.unusedVariables false
set_option linter.unusedSimpArgs false
end Go.Am
end
section
namespace Go.Am
open Go Go.Proofs
set_option maxRecDepth 100000
set_option linter.unusedVariables false
set_option linter.unusedSimpArgs false
end Go.Am
end
section
namespace Go.Am
open Go Go.Proofs
set_option maxRecDepth 100000
set_option linter.unusedVariables false
set_option linter.unusedSimpArgs false
theorem has_ok (l : List Int) (x : Int) (hl : l.length ≤ 10000000) :
    ACalls Try.prog 39 [.p (.sl (encI l)), .p (.int .i64 x)] [] fun h r => h = [] ∧ r = .p (.bool (decide (x ∈ l))) := by
  refine ACalls_X Try.func39 rfl enters39 (by simp [Try.f39]) ?_
  simp only [go_sem, encI_len]
  refine X_loop_inv (fun i => ⟨[(0, .p (.sl (encI l))), (1, .p (.int .i64 x)), (5, .p (.int .i64 (i : Nat)))], [], 18⟩) (fun i => i ≤ l.length ∧ x ∉ l.take i) (fun i => l.length - i) 0 ⟨Nat.zero_le _, by simp⟩ (Wk.forget (by simp [Le, LeE, LeH, get, envIds, hpIds, KeepH, D.ids, idsL, AO.ids, setL, base, encI])) ?_
  rintro i n ⟨hi, he⟩ ih
  simp only [go_sem, encI_len]
  refine Cn_split (fun h2 => ?_) (fun h2 => ?_)
  · have hlt : i < l.length := by simp at h2; omega
    have hw := wrap_succ i (by omega)
    have hg := encI_get l i hlt
    have hx : l[i]? = some (l.getD i 0) := by simp [List.getD, hlt]
    have hi0 : (0 : Int) ≤ (i : Int) ∧ (i : Int) < (l.length : Int) := by omega
    have hmem := getD_mem l i 0 hlt
    generalize l.getD i 0 = y at *
    simp only [go_sem, encI_len, Int.toNat_natCast, hg, hi0]
    cases hv : decide (y = x)
    · simp only [go_sem, hv, hw]
      refine ih (i + 1) _ ⟨hlt, ?_⟩ (by omega) ?_
      · rw [List.take_add_one, hx]
        have : ¬ x = y := fun e => of_decide_eq_false hv e.symm
        simp [he, this]
      · (refine Wk.forget ?_; simp [Le, LeE, LeH, get, envIds, hpIds, KeepH, D.ids, idsL, AO.ids, setL, base, encI]; done)
    · simp only [go_sem, hv]
      have hm : x ∈ l := by rw [← of_decide_eq_true hv]; exact hmem
      simp [hm]
  · simp only [go_sem]
    have : i = l.length := by simp at h2; omega
    subst this
    rw [List.take_length] at he
    simp [he]
theorem insert_ok (l : List Int) (x : Int) (hl : l.length ≤ 10000000) :
    ACalls Try.prog 40 [.p (.sl (encI l)), .p (.int .i64 x)] [] fun h r => h = [] ∧ r = .p (.sl (encI (insV l x))) := by
  refine ACalls_X Try.func40 rfl enters40 (by simp [Try.f40]) ?_
  simp only [go_sem, encI_len]
  refine X_loop_inv (fun q : Nat × Bool × List Int => ⟨[(0, .p (.sl (encI l))), (1, .p (.int .i64 x)), (5, .ref 27 0 q.2.2.length q.2.2.length), (6, .p (.bool q.2.1)), (7, .p (.int .i64 (q.1 : Nat)))], [(27, .arr 3 1 (encI q.2.2))], 42⟩)
    (fun q => q.1 ≤ l.length ∧ q.2.2.length ≤ q.1 + q.2.1.toNat ∧ q.2.2 ++ (if q.2.1 then l.drop q.1 else insV (l.drop q.1) x) = insV l x) (fun q => l.length - q.1) (0, false, []) ⟨Nat.zero_le _, by simp, by simp⟩ ((Wk.nil (t := 5) (q := 27) (sz := 1) 3 rfl rfl (by decide)).trans (Wk.forget (by simp [Le, LeE, LeH, get, envIds, hpIds, KeepH, D.ids, idsL, AO.ids, setL, base, encI]))) ?_
  rintro ⟨i, dn, acc⟩ n ⟨hi, ha, he⟩ ih
  simp only at hi ha he
  simp only [go_sem, encI_len]
  refine Cn_split (fun h2 => ?_) (fun h2 => ?_)
  · have hlt : i < l.length := by simp at h2; omega
    have hw := wrap_succ i (by omega)
    have hg := encI_get l i hlt
    have hi0 : (0 : Int) ≤ (i : Int) ∧ (i : Int) < (l.length : Int) := by omega
    rw [drop_getD l i 0 hlt] at he
    generalize l.getD i 0 = y at *
    cases dn
    · cases hv : decide (x < y)
      · have hv' : ¬ x < y := of_decide_eq_false hv
        simp only [go_sem, encI_len, Int.toNat_natCast, hg, hi0, hv, hv']
        refine ⟨⟨wid1 _ _ rfl, by simp at ha; omega⟩, ?_⟩
        simp only [go_sem, hw]
        refine ih (i + 1, false, acc ++ [y]) _ ⟨hlt, by simp at ha ⊢; omega, ?_⟩ (by simp only; omega) ?_
        · rw [← he]; simp [insV, hv']
        · (refine Wk.forget ?_; simp [Le, LeE, LeH, get, envIds, hpIds, KeepH, D.ids, idsL, AO.ids, setL, base, encI_snoc, encI_len]; done)
      · have hv' : x < y := of_decide_eq_true hv
        simp only [go_sem, encI_len, Int.toNat_natCast, hg, hi0, hv, hv']
        refine ⟨⟨wid1 _ _ rfl, by simp at ha; omega⟩, ⟨wid1 _ _ rfl, by simp at ha; simp [encI_len]; omega⟩, ?_⟩
        simp only [go_sem, hw]
        refine ih (i + 1, true, acc ++ [x] ++ [y]) _ ⟨hlt, by simp at ha ⊢; omega, ?_⟩ (by simp only; omega) ?_
        · rw [← he]; simp [insV, hv']
        · (refine Wk.forget ?_; simp [Le, LeE, LeH, get, envIds, hpIds, KeepH, D.ids, idsL, AO.ids, setL, base, encI]; done)
    · simp only [go_sem, encI_len, Int.toNat_natCast, hg, hi0]
      refine ⟨⟨wid1 _ _ rfl, by simp at ha; omega⟩, ?_⟩
      simp only [go_sem, hw]
      refine ih (i + 1, true, acc ++ [y]) _ ⟨hlt, by simp at ha ⊢; omega, ?_⟩ (by simp only; omega) ?_
      · rw [← he]; simp
      · (refine Wk.forget ?_; simp [Le, LeE, LeH, get, envIds, hpIds, KeepH, D.ids, idsL, AO.ids, setL, base, encI_snoc, encI_len]; done)
  · have : i = l.length := by simp at h2; omega
    subst this
    rw [List.drop_length] at he
    cases dn
    · simp only [go_sem, encI_len]
      refine ⟨⟨wid1 _ _ rfl, by simp at ha; omega⟩, ?_⟩
      refine end_pure ?_
      simp only [go_sem]
      rw [← he]
      try rw [List.take_of_length_le (by simp [encI_len])]
      simp [insV, encI]
    · simp only [go_sem]
      refine end_pure ?_
      simp only [go_sem]
      rw [← he]
      simp [encI_take, encI_len]
end Go.Am
end
section
namespace Go.Am
open Go Go.Proofs
set_option maxRecDepth 100000
set_option maxHeartbeats 2000000
set_option linter.unusedSimpArgs false
set_option linter.unusedVariables false
noncomputable def sameLs_L1 (a0 : List (List Int)) (a1 : List (List Int)) : Int → Option ((Int) ⊕ (Int ⊕ Bool))
  | v3 => cond (decide (v3 < ((a0.length : Nat) : Int))) (Option.bind (idxO a0 v3) fun x10 => Option.bind (idxO a1 v3) fun x14 => Option.bind (sameI_v x10 x14) fun x18 => cond x18 (some (Sum.inl (IntKind.i64.wrap (v3 + 1)))) (some (Sum.inr (.inr ((false : Bool)))))) (some (Sum.inr (.inl v3)))
theorem sameLs_L1_eq (a0 : List (List Int)) (a1 : List (List Int)) (v3 : Int) : sameLs_L1 a0 a1 v3 = cond (decide (v3 < ((a0.length : Nat) : Int))) (Option.bind (idxO a0 v3) fun x10 => Option.bind (idxO a1 v3) fun x14 => Option.bind (sameI_v x10 x14) fun x18 => cond x18 (some (Sum.inl (IntKind.i64.wrap (v3 + 1)))) (some (Sum.inr (.inr ((false : Bool)))))) (some (Sum.inr (.inl v3))) := rfl
noncomputable def sameLs_v (a0 : List (List Int)) (a1 : List (List Int)) : Option (Bool) :=
  cond (decide (((a0.length : Nat) : Int) = ((a1.length : Nat) : Int))) (Option.bind (loopO (sameLs_L1 a0 a1) 0) (fun | .inl v21 => some true | .inr (r22) => some r22)) (some false)
theorem sameLs_vok (a0 : List (List Int)) (a1 : List (List Int)) (r : Bool) (hr : sameLs_v a0 a1 = some r) :
    ACalls Try.prog 22 [.p (.sl (encG a0)), .p (.sl (encG a1))] [] fun h d => h = [] ∧ d = .p (.bool r) := by
  refine ACalls_X Try.func22 rfl enters22 (by simp [Try.f22]) ?_
  unfold sameLs_v at hr
  cases c1 : decide (((a0.length : Nat) : Int) = ((a1.length : Nat) : Int))
  · simp only [c1, cond_false] at hr
    obtain rfl := Option.some.inj hr
    try simp only [go_sem, c1]
    all_goals (try refine end_pure ?_)
    all_goals (try simp only [go_sem, c1])
    all_goals (try (first | rfl | exact ⟨rfl, rfl⟩ | (simp; done)))
  simp only [c1, cond_true] at hr
  rcases g8 : loopO (sameLs_L1 a0 a1) 0 with _ | e7
  · simp only [g8, Option.bind_none, reduceCtorEq] at hr
  simp only [g8, Option.bind_some] at hr
  try simp only [go_sem, c1]
  refine X_loopO g8 (fun q : Int => ⟨[(0, .p (.sl (encG a0))), (1, .p (.sl (encG a1))), (5, .p (.int .i64 q))], [], 27⟩) ((Wk.forget (by simp [Le, LeE, LeH, get, envIds, hpIds, KeepH, D.ids, idsL, AO.ids, setL, base, encI_nil, encS_nil, encT_nil, encG_nil, encC_nil, encL_nil, encK_nil, encP_nil, mpS_nil, mpB_nil, encI_consE, encS_consE, encT_consE, encG_consE, encI_one, encS_one, encT_one, encI_snoc, encS_snoc, encT_snocE, encG_snocE, encC_snoc, encL_snoc, encK_snocE, encP_snocE, encI_set, encS_set, encT_setE, encG_setE, encC_setE, encK_setE, encP_setE, encI_len, encS_len, encT_len2, encG_len2, encC_len, encL_len, encK_len2, encP_len2, encW_len, dT_ids, dI_ids, dT_len, dI_len, List.length_set, encI_takeM, List.take_length, encSlT_nil, encSlT_consE, encSlT_len2, encSlT_snocE]))) ?_
  rintro v3 m6 hh4 ih5
  rw [sameLs_L1_eq] at hh4
  cases c9 : decide (v3 < ((a0.length : Nat) : Int))
  · simp only [c9, cond_false] at hh4
    simp only [Option.bind_some, nextO_inr] at hh4
    obtain rfl := Option.some.inj hh4
    try dsimp only at hr
    obtain rfl := Option.some.inj hr
    try simp only [go_sem, c1, c9]
    all_goals (try refine end_pure ?_)
    all_goals (try simp only [go_sem, c1, c9])
    all_goals (try (first | rfl | exact ⟨rfl, rfl⟩ | (simp; done)))
  simp only [c9, cond_true] at hh4
  try simp only [go_sem, c1, c9]
  refine X_any0 mixed (p := [(0, 0), (1, 0), (2, 0), (3, 0), (4, 0), (5, 0), (6, 0), (7, 0), (8, 2), (9, 0)]) (by kernel_rfl) (by simp [LeH, get]) ?_
  rcases g11 : idxO a0 v3 with _ | x10
  · simp only [g11, Option.bind_none, reduceCtorEq] at hh4
  simp only [g11, Option.bind_some] at hh4
  have f12 := idxO_rng g11
  have f13 : (encG a0).getD (Int.toNat v3) [] = [(.sl (encI x10))] := idxO_map _ g11
  rcases g15 : idxO a1 v3 with _ | x14
  · simp only [g15, Option.bind_none, reduceCtorEq] at hh4
  simp only [g15, Option.bind_some] at hh4
  have f16 := idxO_rng g15
  have f17 : (encG a1).getD (Int.toNat v3) [] = [(.sl (encI x14))] := idxO_map _ g15
  rcases g19 : sameI_v x10 x14 with _ | x18
  · simp only [g19, Option.bind_none, reduceCtorEq] at hh4
  simp only [g19, Option.bind_some] at hh4
  try simp only [go_sem, c1, c9, f12, f13, f16, f17]
  refine Gh_of (sameI_vok x10 x14 _ g19) ?_
  rintro h' r ⟨rfl, rfl⟩
  cases c20 : x18
  · simp only [c20, cond_false] at hh4
    simp only [Option.bind_some, nextO_inr] at hh4
    obtain rfl := Option.some.inj hh4
    try dsimp only at hr
    obtain rfl := Option.some.inj hr
    try simp only [go_sem, c1, c9, f12, f13, f16, f17, c20]
    all_goals (try refine end_pure ?_)
    all_goals (try simp only [go_sem, c1, c9, f12, f13, f16, f17, c20])
    all_goals (try (first | rfl | exact ⟨rfl, rfl⟩ | (simp; done)))
  simp only [c20, cond_true] at hh4
  simp only [Option.bind_some, nextO_inl] at hh4
  try simp only [go_sem, c1, c9, f12, f13, f16, f17, c20]
  exact ih5 (IntKind.i64.wrap (v3 + 1)) _ hh4 ((Wk.forget (by simp [Le, LeE, LeH, get, envIds, hpIds, KeepH, D.ids, idsL, AO.ids, setL, base, encI_nil, encS_nil, encT_nil, encG_nil, encC_nil, encL_nil, encK_nil, encP_nil, mpS_nil, mpB_nil, encI_consE, encS_consE, encT_consE, encG_consE, encI_one, encS_one, encT_one, encI_snoc, encS_snoc, encT_snocE, encG_snocE, encC_snoc, encL_snoc, encK_snocE, encP_snocE, encI_set, encS_set, encT_setE, encG_setE, encC_setE, encK_setE, encP_setE, encI_len, encS_len, encT_len2, encG_len2, encC_len, encL_len, encK_len2, encP_len2, encW_len, dT_ids, dI_ids, dT_len, dI_len, List.length_set, encI_takeM, List.take_length, encSlT_nil, encSlT_consE, encSlT_len2, encSlT_snocE, c20])))
noncomputable def qHas_v (l : List Int) (x : Int) : Option Bool := if l.length ≤ 10000000 then some (decide (x ∈ l)) else none
theorem qHas_vok (l : List Int) (x : Int) (r : Bool) (h : qHas_v l x = some r) : ACalls Try.prog 39 [.p (.sl (encI l)), .p (.int .i64 x)] [] fun h d => h = [] ∧ d = .p (.bool r) := by
  unfold qHas_v at h; split at h; next hl => cases h; exact has_ok l x hl
  next => cases h
noncomputable def qIns_v (l : List Int) (x : Int) : Option (List Int) := if l.length ≤ 10000000 then some (insV l x) else none
theorem qIns_vok (l : List Int) (x : Int) (r : List Int) (h : qIns_v l x = some r) : ACalls Try.prog 40 [.p (.sl (encI l)), .p (.int .i64 x)] [] fun h d => h = [] ∧ d = .p (.sl (encI r)) := by
  unfold qIns_v at h; split at h; next hl => cases h; exact insert_ok l x hl
  next => cases h
noncomputable def qNames_L1 (v6 : List (List Bool)) (v18 : Int) : (List Int) × Int → Option (((List Int) × Int) ⊕ (((List Int) × Int)))
  | (v31, v32) => cond (decide (v32 ≤ v18)) (Option.bind (idxO v31 v18) fun x39 => cond (decide (x39 < 0)) (Option.bind (idxO v6 v18) fun x44 => Option.bind (idxO x44 v32) fun x48 => cond x48 (Option.bind (idxO v6 v32) fun x53 => Option.bind (idxO x53 v18) fun x57 => cond x57 (some (Sum.inl ((v31.set (Int.toNat v18) v32), (IntKind.i64.wrap (v32 + 1))))) (some (Sum.inl (v31, (IntKind.i64.wrap (v32 + 1)))))) (some (Sum.inl (v31, (IntKind.i64.wrap (v32 + 1)))))) (some (Sum.inr (v31, v32)))) (some (Sum.inr (v31, v32)))
theorem qNames_L1_eq (v6 : List (List Bool)) (v18 : Int) (v31 : List Int) (v32 : Int) : qNames_L1 v6 v18 (v31, v32) = cond (decide (v32 ≤ v18)) (Option.bind (idxO v31 v18) fun x39 => cond (decide (x39 < 0)) (Option.bind (idxO v6 v18) fun x44 => Option.bind (idxO x44 v32) fun x48 => cond x48 (Option.bind (idxO v6 v32) fun x53 => Option.bind (idxO x53 v18) fun x57 => cond x57 (some (Sum.inl ((v31.set (Int.toNat v18) v32), (IntKind.i64.wrap (v32 + 1))))) (some (Sum.inl (v31, (IntKind.i64.wrap (v32 + 1)))))) (some (Sum.inl (v31, (IntKind.i64.wrap (v32 + 1)))))) (some (Sum.inr (v31, v32)))) (some (Sum.inr (v31, v32))) := rfl
noncomputable def qNames_L2 (a0 : List (List Int)) (v6 : List (List Bool)) : (List Int) × Int → Option (((List Int) × Int) ⊕ (((List Int) × Int)))
  | (v17, v18) => cond (decide (v18 < ((a0.length : Nat) : Int))) (Option.bind (idxO v17 v18) fun x25 => Option.bind (loopO (qNames_L1 v6 v18) ((v17.set (Int.toNat v18) (-1)), 0)) (fun (v62, v63) => some (Sum.inl (v62, (IntKind.i64.wrap (v18 + 1)))))) (some (Sum.inr (v17, v18)))
theorem qNames_L2_eq (a0 : List (List Int)) (v6 : List (List Bool)) (v17 : List Int) (v18 : Int) : qNames_L2 a0 v6 (v17, v18) = cond (decide (v18 < ((a0.length : Nat) : Int))) (Option.bind (idxO v17 v18) fun x25 => Option.bind (loopO (qNames_L1 v6 v18) ((v17.set (Int.toNat v18) (-1)), 0)) (fun (v62, v63) => some (Sum.inl (v62, (IntKind.i64.wrap (v18 + 1)))))) (some (Sum.inr (v17, v18))) := rfl
noncomputable def qNames_L3 (a0 : List (List Int)) (a1 : List Bool) : (List (List Bool)) × Int → Option (((List (List Bool)) × Int) ⊕ (((List (List Bool)) × Int)))
  | (v6, v7) => cond (decide (v7 < ((a0.length : Nat) : Int))) (Option.bind (qReach_v a0 a1 v7) fun x66 => cond (decide (v6.length + 1 < 10000000)) (some (Sum.inl ((v6 ++ [x66]), (IntKind.i64.wrap (v7 + 1))))) none) (some (Sum.inr (v6, v7)))
theorem qNames_L3_eq (a0 : List (List Int)) (a1 : List Bool) (v6 : List (List Bool)) (v7 : Int) : qNames_L3 a0 a1 (v6, v7) = cond (decide (v7 < ((a0.length : Nat) : Int))) (Option.bind (qReach_v a0 a1 v7) fun x66 => cond (decide (v6.length + 1 < 10000000)) (some (Sum.inl ((v6 ++ [x66]), (IntKind.i64.wrap (v7 + 1))))) none) (some (Sum.inr (v6, v7))) := rfl
noncomputable def qNames_v (a0 : List (List Int)) (a1 : List Bool) : Option ((List Int) × Int) :=
  Option.bind (qChk_v a0 a1) fun x1 => cond (decide (x1 = 0)) (Option.bind (loopO (qNames_L3 a0 a1) ([], 0)) (fun (v69, v70) => cond (decide (a0.length < 10000000)) (Option.bind (loopO (qNames_L2 a0 v69) ((List.replicate a0.length 0), 0)) (fun (v121, v122) => some (v121, 0))) none)) (some ([], x1))
theorem qNames_vok (a0 : List (List Int)) (a1 : List Bool) (r : (List Int) × Int) (hr : qNames_v a0 a1 = some r) :
    ACalls Try.prog 16 [.p (.sl (encG a0)), .p (.sl (encT a1))] [] fun h d => h = [] ∧ d = .tup [.p (.sl (encI r.1)), .p (.int .i64 r.2)] := by
  refine ACalls_X Try.func16 rfl enters16 (by simp [Try.f16]) ?_
  unfold qNames_v at hr
  rcases g2 : qChk_v a0 a1 with _ | x1
  · simp only [g2, Option.bind_none, reduceCtorEq] at hr
  simp only [g2, Option.bind_some] at hr
  try simp only [go_sem]
  refine Cc_of (qChk_vok a0 a1 _ g2) ?_
  rintro h' r ⟨rfl, rfl⟩
  cases c3 : decide (x1 = 0)
  · simp only [c3, cond_false] at hr
    obtain rfl := Option.some.inj hr
    try simp only [go_sem, c3]
    all_goals (try refine end_pure ?_)
    all_goals (try simp only [go_sem, c3])
    all_goals (try (first | rfl | exact ⟨rfl, rfl⟩ | (simp; done)))
  simp only [c3, cond_true] at hr
  rcases g12 : loopO (qNames_L3 a0 a1) ([], 0) with _ | e11
  · simp only [g12, Option.bind_none, reduceCtorEq] at hr
  simp only [g12, Option.bind_some] at hr
  try simp only [go_sem, c3]
  refine X_loopO g12 (fun q : (List (List Bool)) × Int => ⟨[(0, .p (.sl (encG a0))), (1, .p (.sl (encT a1))), (7, .ref 30 0 q.1.length q.1.length), (8, .p (.int .i64 q.2))], [(30, .arr 23 1 (encSlT q.1))], 76⟩) ((Wk.nil (t := 7) (q := 30) (sz := 1) 23 rfl rfl (by decide)).trans ((Wk.forget (by simp [Le, LeE, LeH, get, envIds, hpIds, KeepH, D.ids, idsL, AO.ids, setL, base, encI_nil, encS_nil, encT_nil, encG_nil, encC_nil, encL_nil, encK_nil, encP_nil, mpS_nil, mpB_nil, encI_consE, encS_consE, encT_consE, encG_consE, encI_one, encS_one, encT_one, encI_snoc, encS_snoc, encT_snocE, encG_snocE, encC_snoc, encL_snoc, encK_snocE, encP_snocE, encI_set, encS_set, encT_setE, encG_setE, encC_setE, encK_setE, encP_setE, encI_len, encS_len, encT_len2, encG_len2, encC_len, encL_len, encK_len2, encP_len2, encW_len, dT_ids, dI_ids, dT_len, dI_len, List.length_set, encI_takeM, List.take_length, encSlT_nil, encSlT_consE, encSlT_len2, encSlT_snocE])))) ?_
  rintro ⟨v6, v7⟩ m10 hh8 ih9
  rw [qNames_L3_eq] at hh8
  cases c13 : decide (v7 < ((a0.length : Nat) : Int))
  · simp only [c13, cond_false] at hh8
    simp only [Option.bind_some, nextO_inr] at hh8
    obtain rfl := Option.some.inj hh8
    try dsimp only at hr
    cases c14 : decide (a0.length < 10000000)
    · simp only [c14, cond_false, Option.bind_none, reduceCtorEq] at hr
    simp only [c14, cond_true] at hr
    try simp only [go_sem, c3, c13]
    refine ⟨by have := of_decide_eq_true c14; omega, ?_⟩
    rcases g23 : loopO (qNames_L2 a0 v6) ((List.replicate a0.length 0), 0) with _ | e22
    · simp only [g23, Option.bind_none, reduceCtorEq] at hr
    simp only [g23, Option.bind_some] at hr
    try simp only [go_sem, c3, c13]
    refine X_loopO g23 (fun q : (List Int) × Int => ⟨[(0, .p (.sl (encG a0))), (7, .ref 30 0 v6.length v6.length), (9, .ref 33 0 q.1.length q.1.length), (10, .p (.int .i64 q.2))], [(30, .arr 23 1 (encSlT v6)), (33, .arr 3 1 (encI q.1))], 76⟩) ((Wk.forget (by simp [Le, LeE, LeH, get, envIds, hpIds, KeepH, D.ids, idsL, AO.ids, setL, base, encI_nil, encS_nil, encT_nil, encG_nil, encC_nil, encL_nil, encK_nil, encP_nil, mpS_nil, mpB_nil, encI_consE, encS_consE, encT_consE, encG_consE, encI_one, encS_one, encT_one, encI_snoc, encS_snoc, encT_snocE, encG_snocE, encC_snoc, encL_snoc, encK_snocE, encP_snocE, encI_set, encS_set, encT_setE, encG_setE, encC_setE, encK_setE, encP_setE, encI_len, encS_len, encT_len2, encG_len2, encC_len, encL_len, encK_len2, encP_len2, encW_len, dT_ids, dI_ids, dT_len, dI_len, List.length_set, encI_takeM, List.take_length, encSlT_nil, encSlT_consE, encSlT_len2, encSlT_snocE]))) ?_
    rintro ⟨v17, v18⟩ m21 hh19 ih20
    rw [qNames_L2_eq] at hh19
    cases c24 : decide (v18 < ((a0.length : Nat) : Int))
    · simp only [c24, cond_false] at hh19
      simp only [Option.bind_some, nextO_inr] at hh19
      obtain rfl := Option.some.inj hh19
      try dsimp only at hr
      obtain rfl := Option.some.inj hr
      try simp only [go_sem, c3, c13, c24]
      all_goals (try refine end_pure ?_)
      all_goals (try simp only [go_sem, c3, c13, c24])
      all_goals (try (first | rfl | exact ⟨rfl, rfl⟩ | (simp; done)))
    simp only [c24, cond_true] at hh19
    rcases g26 : idxO v17 v18 with _ | x25
    · simp only [g26, Option.bind_none, reduceCtorEq] at hh19
    simp only [g26, Option.bind_some] at hh19
    have f27 := idxO_rng g26
    have f28 : (encI v17).getD (Int.toNat v18) [] = [(.int .i64 x25)] := idxO_map _ g26
    rcases g37 : loopO (qNames_L1 v6 v18) ((v17.set (Int.toNat v18) (-1)), 0) with _ | e36
    · simp only [g37, Option.bind_none, reduceCtorEq] at hh19
    simp only [g37, Option.bind_some] at hh19
    try simp only [go_sem, c3, c13, c24, f27, f28]
    refine X_loopO g37 (fun q : (List Int) × Int => ⟨[(0, .p (.sl (encG a0))), (7, .ref 30 0 v6.length v6.length), (9, .ref 33 0 q.1.length q.1.length), (10, .p (.int .i64 v18)), (11, .p (.int .i64 q.2))], [(30, .arr 23 1 (encSlT v6)), (33, .arr 3 1 (encI q.1))], 76⟩) ((Wk.forget (by simp [Le, LeE, LeH, get, envIds, hpIds, KeepH, D.ids, idsL, AO.ids, setL, base, encI_nil, encS_nil, encT_nil, encG_nil, encC_nil, encL_nil, encK_nil, encP_nil, mpS_nil, mpB_nil, encI_consE, encS_consE, encT_consE, encG_consE, encI_one, encS_one, encT_one, encI_snoc, encS_snoc, encT_snocE, encG_snocE, encC_snoc, encL_snoc, encK_snocE, encP_snocE, encI_set, encS_set, encT_setE, encG_setE, encC_setE, encK_setE, encP_setE, encI_len, encS_len, encT_len2, encG_len2, encC_len, encL_len, encK_len2, encP_len2, encW_len, dT_ids, dI_ids, dT_len, dI_len, List.length_set, encI_takeM, List.take_length, encSlT_nil, encSlT_consE, encSlT_len2, encSlT_snocE]))) ?_
    rintro ⟨v31, v32⟩ m35 hh33 ih34
    rw [qNames_L1_eq] at hh33
    cases c38 : decide (v32 ≤ v18)
    · simp only [c38, cond_false] at hh33
      simp only [Option.bind_some, nextO_inr] at hh33
      obtain rfl := Option.some.inj hh33
      try dsimp only at hh19
      simp only [Option.bind_some, nextO_inl] at hh19
      try simp only [go_sem, c3, c13, c24, f27, f28, c38]
      exact ih20 (v31, (IntKind.i64.wrap (v18 + 1))) _ hh19 ((Wk.forget (by simp [Le, LeE, LeH, get, envIds, hpIds, KeepH, D.ids, idsL, AO.ids, setL, base, encI_nil, encS_nil, encT_nil, encG_nil, encC_nil, encL_nil, encK_nil, encP_nil, mpS_nil, mpB_nil, encI_consE, encS_consE, encT_consE, encG_consE, encI_one, encS_one, encT_one, encI_snoc, encS_snoc, encT_snocE, encG_snocE, encC_snoc, encL_snoc, encK_snocE, encP_snocE, encI_set, encS_set, encT_setE, encG_setE, encC_setE, encK_setE, encP_setE, encI_len, encS_len, encT_len2, encG_len2, encC_len, encL_len, encK_len2, encP_len2, encW_len, dT_ids, dI_ids, dT_len, dI_len, List.length_set, encI_takeM, List.take_length, encSlT_nil, encSlT_consE, encSlT_len2, encSlT_snocE])))
    simp only [c38, cond_true] at hh33
    rcases g40 : idxO v31 v18 with _ | x39
    · simp only [g40, Option.bind_none, reduceCtorEq] at hh33
    simp only [g40, Option.bind_some] at hh33
    have f41 := idxO_rng g40
    have f42 : (encI v31).getD (Int.toNat v18) [] = [(.int .i64 x39)] := idxO_map _ g40
    cases c43 : decide (x39 < 0)
    · simp only [c43, cond_false] at hh33
      simp only [Option.bind_some, nextO_inr] at hh33
      obtain rfl := Option.some.inj hh33
      try dsimp only at hh19
      simp only [Option.bind_some, nextO_inl] at hh19
      try simp only [go_sem, c3, c13, c24, f27, f28, c38, f41, f42, c43]
      exact ih20 (v31, (IntKind.i64.wrap (v18 + 1))) _ hh19 ((Wk.forget (by simp [Le, LeE, LeH, get, envIds, hpIds, KeepH, D.ids, idsL, AO.ids, setL, base, encI_nil, encS_nil, encT_nil, encG_nil, encC_nil, encL_nil, encK_nil, encP_nil, mpS_nil, mpB_nil, encI_consE, encS_consE, encT_consE, encG_consE, encI_one, encS_one, encT_one, encI_snoc, encS_snoc, encT_snocE, encG_snocE, encC_snoc, encL_snoc, encK_snocE, encP_snocE, encI_set, encS_set, encT_setE, encG_setE, encC_setE, encK_setE, encP_setE, encI_len, encS_len, encT_len2, encG_len2, encC_len, encL_len, encK_len2, encP_len2, encW_len, dT_ids, dI_ids, dT_len, dI_len, List.length_set, encI_takeM, List.take_length, encSlT_nil, encSlT_consE, encSlT_len2, encSlT_snocE])))
    simp only [c43, cond_true] at hh33
    rcases g45 : idxO v6 v18 with _ | x44
    · simp only [g45, Option.bind_none, reduceCtorEq] at hh33
    simp only [g45, Option.bind_some] at hh33
    have f46 := idxO_rng g45
    have f47 : (encSlT v6).getD (Int.toNat v18) [] = [(.sl (encT x44))] := idxO_map _ g45
    rcases g49 : idxO x44 v32 with _ | x48
    · simp only [g49, Option.bind_none, reduceCtorEq] at hh33
    simp only [g49, Option.bind_some] at hh33
    have f50 := idxO_rng g49
    have f51 : (encT x44).getD (Int.toNat v32) [] = [(.bool x48)] := idxO_map _ g49
    cases c52 : x48
    · simp only [c52, cond_false] at hh33
      simp only [Option.bind_some, nextO_inl] at hh33
      try simp only [go_sem, c3, c13, c24, f27, f28, c38, f41, f42, c43, f46, f47, f50, f51, c52]
      exact ih34 (v31, (IntKind.i64.wrap (v32 + 1))) _ hh33 ((Wk.forget (by simp [Le, LeE, LeH, get, envIds, hpIds, KeepH, D.ids, idsL, AO.ids, setL, base, encI_nil, encS_nil, encT_nil, encG_nil, encC_nil, encL_nil, encK_nil, encP_nil, mpS_nil, mpB_nil, encI_consE, encS_consE, encT_consE, encG_consE, encI_one, encS_one, encT_one, encI_snoc, encS_snoc, encT_snocE, encG_snocE, encC_snoc, encL_snoc, encK_snocE, encP_snocE, encI_set, encS_set, encT_setE, encG_setE, encC_setE, encK_setE, encP_setE, encI_len, encS_len, encT_len2, encG_len2, encC_len, encL_len, encK_len2, encP_len2, encW_len, dT_ids, dI_ids, dT_len, dI_len, List.length_set, encI_takeM, List.take_length, encSlT_nil, encSlT_consE, encSlT_len2, encSlT_snocE, c52])))
    simp only [c52, cond_true] at hh33
    rcases g54 : idxO v6 v32 with _ | x53
    · simp only [g54, Option.bind_none, reduceCtorEq] at hh33
    simp only [g54, Option.bind_some] at hh33
    have f55 := idxO_rng g54
    have f56 : (encSlT v6).getD (Int.toNat v32) [] = [(.sl (encT x53))] := idxO_map _ g54
    rcases g58 : idxO x53 v18 with _ | x57
    · simp only [g58, Option.bind_none, reduceCtorEq] at hh33
    simp only [g58, Option.bind_some] at hh33
    have f59 := idxO_rng g58
    have f60 : (encT x53).getD (Int.toNat v18) [] = [(.bool x57)] := idxO_map _ g58
    cases c61 : x57
    · simp only [c61, cond_false] at hh33
      simp only [Option.bind_some, nextO_inl] at hh33
      try simp only [go_sem, c3, c13, c24, f27, f28, c38, f41, f42, c43, f46, f47, f50, f51, c52, f55, f56, f59, f60, c61]
      exact ih34 (v31, (IntKind.i64.wrap (v32 + 1))) _ hh33 ((Wk.forget (by simp [Le, LeE, LeH, get, envIds, hpIds, KeepH, D.ids, idsL, AO.ids, setL, base, encI_nil, encS_nil, encT_nil, encG_nil, encC_nil, encL_nil, encK_nil, encP_nil, mpS_nil, mpB_nil, encI_consE, encS_consE, encT_consE, encG_consE, encI_one, encS_one, encT_one, encI_snoc, encS_snoc, encT_snocE, encG_snocE, encC_snoc, encL_snoc, encK_snocE, encP_snocE, encI_set, encS_set, encT_setE, encG_setE, encC_setE, encK_setE, encP_setE, encI_len, encS_len, encT_len2, encG_len2, encC_len, encL_len, encK_len2, encP_len2, encW_len, dT_ids, dI_ids, dT_len, dI_len, List.length_set, encI_takeM, List.take_length, encSlT_nil, encSlT_consE, encSlT_len2, encSlT_snocE, c52, c61])))
    simp only [c61, cond_true] at hh33
    simp only [Option.bind_some, nextO_inl] at hh33
    try simp only [go_sem, c3, c13, c24, f27, f28, c38, f41, f42, c43, f46, f47, f50, f51, c52, f55, f56, f59, f60, c61]
    exact ih34 ((v31.set (Int.toNat v18) v32), (IntKind.i64.wrap (v32 + 1))) _ hh33 ((Wk.forget (by simp [Le, LeE, LeH, get, envIds, hpIds, KeepH, D.ids, idsL, AO.ids, setL, base, encI_nil, encS_nil, encT_nil, encG_nil, encC_nil, encL_nil, encK_nil, encP_nil, mpS_nil, mpB_nil, encI_consE, encS_consE, encT_consE, encG_consE, encI_one, encS_one, encT_one, encI_snoc, encS_snoc, encT_snocE, encG_snocE, encC_snoc, encL_snoc, encK_snocE, encP_snocE, encI_set, encS_set, encT_setE, encG_setE, encC_setE, encK_setE, encP_setE, encI_len, encS_len, encT_len2, encG_len2, encC_len, encL_len, encK_len2, encP_len2, encW_len, dT_ids, dI_ids, dT_len, dI_len, List.length_set, encI_takeM, List.take_length, encSlT_nil, encSlT_consE, encSlT_len2, encSlT_snocE, c52, c61])))
  simp only [c13, cond_true] at hh8
  rcases g67 : qReach_v a0 a1 v7 with _ | x66
  · simp only [g67, Option.bind_none, reduceCtorEq] at hh8
  simp only [g67, Option.bind_some] at hh8
  try simp only [go_sem, c3, c13]
  refine Cc_of (qReach_vok a0 a1 v7 _ g67) ?_
  rintro h' r ⟨rfl, rfl⟩
  cases c68 : decide (v6.length + 1 < 10000000)
  · simp only [c68, cond_false, Option.bind_none, reduceCtorEq] at hh8
  simp only [c68, cond_true] at hh8
  try simp only [go_sem, c3, c13]
  refine ⟨by have := of_decide_eq_true c68; (try simp only [List.length_cons, List.length_nil, List.length_append] at *); (repeat' refine And.intro ?_ ?_) <;> first | exact wid1 _ _ rfl | exact encSlT_wid _ | omega | (simp [Wid]; done), ?_⟩
  simp only [Option.bind_some, nextO_inl] at hh8
  try simp only [go_sem, c3, c13]
  exact ih9 ((v6 ++ [x66]), (IntKind.i64.wrap (v7 + 1))) _ hh8 ((Wk.forget (by simp [Le, LeE, LeH, get, envIds, hpIds, KeepH, D.ids, idsL, AO.ids, setL, base, encI_nil, encS_nil, encT_nil, encG_nil, encC_nil, encL_nil, encK_nil, encP_nil, mpS_nil, mpB_nil, encI_consE, encS_consE, encT_consE, encG_consE, encI_one, encS_one, encT_one, encI_snoc, encS_snoc, encT_snocE, encG_snocE, encC_snoc, encL_snoc, encK_snocE, encP_snocE, encI_set, encS_set, encT_setE, encG_setE, encC_setE, encK_setE, encP_setE, encI_len, encS_len, encT_len2, encG_len2, encC_len, encL_len, encK_len2, encP_len2, encW_len, dT_ids, dI_ids, dT_len, dI_len, List.length_set, encI_takeM, List.take_length, encSlT_nil, encSlT_consE, encSlT_len2, encSlT_snocE])))
noncomputable def qOrd_L1 (a0 : List (List Int)) (a1 : List Bool) (x1 : List Int) (v6 : List Int) (v14 : Int) : Bool × Int → Option ((Bool × Int) ⊕ ((Bool × Int)))
  | (v34, v35) => cond (decide (v35 < ((a0.length : Nat) : Int))) (Option.bind (idxO x1 v35) fun x43 => cond (decide (x43 = v35)) (cond (decide (v35 = v14)) (some (Sum.inl (v34, (IntKind.i64.wrap (v35 + 1))))) (Option.bind (qHas_v v6 v35) fun x49 => cond x49 (some (Sum.inl (v34, (IntKind.i64.wrap (v35 + 1))))) (Option.bind (qReach_v a0 a1 v35) fun x52 => Option.bind (idxO x52 v14) fun x54 => cond x54 (some (Sum.inl (false, (IntKind.i64.wrap (v35 + 1))))) (some (Sum.inl (v34, (IntKind.i64.wrap (v35 + 1)))))))) (some (Sum.inl (v34, (IntKind.i64.wrap (v35 + 1)))))) (some (Sum.inr (v34, v35)))
theorem qOrd_L1_eq (a0 : List (List Int)) (a1 : List Bool) (x1 : List Int) (v6 : List Int) (v14 : Int) (v34 : Bool) (v35 : Int) : qOrd_L1 a0 a1 x1 v6 v14 (v34, v35) = cond (decide (v35 < ((a0.length : Nat) : Int))) (Option.bind (idxO x1 v35) fun x43 => cond (decide (x43 = v35)) (cond (decide (v35 = v14)) (some (Sum.inl (v34, (IntKind.i64.wrap (v35 + 1))))) (Option.bind (qHas_v v6 v35) fun x49 => cond x49 (some (Sum.inl (v34, (IntKind.i64.wrap (v35 + 1))))) (Option.bind (qReach_v a0 a1 v35) fun x52 => Option.bind (idxO x52 v14) fun x54 => cond x54 (some (Sum.inl (false, (IntKind.i64.wrap (v35 + 1))))) (some (Sum.inl (v34, (IntKind.i64.wrap (v35 + 1)))))))) (some (Sum.inl (v34, (IntKind.i64.wrap (v35 + 1)))))) (some (Sum.inr (v34, v35))) := rfl
noncomputable def qOrd_L2 (a0 : List (List Int)) (a1 : List Bool) (x1 : List Int) (v6 : List Int) : Int × Int → Option ((Int × Int) ⊕ ((Int × Int)))
  | (v14, v15) => cond (decide (0 ≤ v14)) (Option.bind (idxO x1 v14) fun x24 => cond (decide (x24 = v14)) (Option.bind (qHas_v v6 v14) fun x29 => cond x29 (some (Sum.inl ((IntKind.i64.wrap (v14 - 1)), v15))) (Option.bind (loopO (qOrd_L1 a0 a1 x1 v6 v14) (true, 0)) (fun (v59, v60) => cond v59 (some (Sum.inl ((IntKind.i64.wrap (v14 - 1)), v14))) (some (Sum.inl ((IntKind.i64.wrap (v14 - 1)), v15)))))) (some (Sum.inl ((IntKind.i64.wrap (v14 - 1)), v15)))) (some (Sum.inr (v14, v15)))
theorem qOrd_L2_eq (a0 : List (List Int)) (a1 : List Bool) (x1 : List Int) (v6 : List Int) (v14 : Int) (v15 : Int) : qOrd_L2 a0 a1 x1 v6 (v14, v15) = cond (decide (0 ≤ v14)) (Option.bind (idxO x1 v14) fun x24 => cond (decide (x24 = v14)) (Option.bind (qHas_v v6 v14) fun x29 => cond x29 (some (Sum.inl ((IntKind.i64.wrap (v14 - 1)), v15))) (Option.bind (loopO (qOrd_L1 a0 a1 x1 v6 v14) (true, 0)) (fun (v59, v60) => cond v59 (some (Sum.inl ((IntKind.i64.wrap (v14 - 1)), v14))) (some (Sum.inl ((IntKind.i64.wrap (v14 - 1)), v15)))))) (some (Sum.inl ((IntKind.i64.wrap (v14 - 1)), v15)))) (some (Sum.inr (v14, v15))) := rfl
noncomputable def qOrd_L3 (a0 : List (List Int)) (a1 : List Bool) (x1 : List Int) : (List Int) → Option (((List Int)) ⊕ (((List Int) × Int)))
  | v6 => Option.bind (loopO (qOrd_L2 a0 a1 x1 v6) ((IntKind.i64.wrap (((a0.length : Nat) : Int) - 1)), (-1))) (fun (v62, v63) => cond (decide (v63 < 0)) (some (Sum.inr ((v6, 0) : (List Int) × Int))) (cond (decide (v6.length + 1 < 10000000)) (some (Sum.inl (v6 ++ [v63]))) none))
theorem qOrd_L3_eq (a0 : List (List Int)) (a1 : List Bool) (x1 : List Int) (v6 : List Int) : qOrd_L3 a0 a1 x1 v6 = Option.bind (loopO (qOrd_L2 a0 a1 x1 v6) ((IntKind.i64.wrap (((a0.length : Nat) : Int) - 1)), (-1))) (fun (v62, v63) => cond (decide (v63 < 0)) (some (Sum.inr ((v6, 0) : (List Int) × Int))) (cond (decide (v6.length + 1 < 10000000)) (some (Sum.inl (v6 ++ [v63]))) none)) := rfl
noncomputable def qOrd_v (a0 : List (List Int)) (a1 : List Bool) : Option ((List Int) × Int) :=
  Option.bind (qNames_v a0 a1) fun (x1, x2) => cond (decide (x2 = 0)) (Option.bind (loopO (qOrd_L3 a0 a1 x1) []) (fun r66 => some r66)) (some ([], x2))
theorem qOrd_vok (a0 : List (List Int)) (a1 : List Bool) (r : (List Int) × Int) (hr : qOrd_v a0 a1 = some r) :
    ACalls Try.prog 18 [.p (.sl (encG a0)), .p (.sl (encT a1))] [] fun h d => h = [] ∧ d = .tup [.p (.sl (encI r.1)), .p (.int .i64 r.2)] := by
  refine ACalls_X Try.func18 rfl enters18 (by simp [Try.f18]) ?_
  unfold qOrd_v at hr
  rcases g3 : qNames_v a0 a1 with _ | ⟨x1, x2⟩
  · simp only [g3, Option.bind_none, reduceCtorEq] at hr
  simp only [g3, Option.bind_some] at hr
  try simp only [go_sem]
  refine Cc_of (qNames_vok a0 a1 _ g3) ?_
  rintro h' r ⟨rfl, rfl⟩
  cases c4 : decide (x2 = 0)
  · simp only [c4, cond_false] at hr
    obtain rfl := Option.some.inj hr
    try simp only [go_sem, c4]
    all_goals (try refine end_pure ?_)
    all_goals (try simp only [go_sem, c4])
    all_goals (try (first | rfl | exact ⟨rfl, rfl⟩ | (simp; done)))
  simp only [c4, cond_true] at hr
  rcases g11 : loopO (qOrd_L3 a0 a1 x1) [] with _ | e10
  · simp only [g11, Option.bind_none, reduceCtorEq] at hr
  simp only [g11, Option.bind_some] at hr
  try simp only [go_sem, c4]
  refine X_loopO g11 (fun q : (List Int) => ⟨[(0, .p (.sl (encG a0))), (1, .p (.sl (encT a1))), (6, .p (.sl (encI x1))), (8, .ref 80 0 q.length q.length)], [(80, .arr 3 1 (encI q))], 81⟩) ((Wk.nil (t := 8) (q := 80) (sz := 1) 3 rfl rfl (by decide)).trans ((Wk.forget (by simp [Le, LeE, LeH, get, envIds, hpIds, KeepH, D.ids, idsL, AO.ids, setL, base, encI_nil, encS_nil, encT_nil, encG_nil, encC_nil, encL_nil, encK_nil, encP_nil, mpS_nil, mpB_nil, encI_consE, encS_consE, encT_consE, encG_consE, encI_one, encS_one, encT_one, encI_snoc, encS_snoc, encT_snocE, encG_snocE, encC_snoc, encL_snoc, encK_snocE, encP_snocE, encI_set, encS_set, encT_setE, encG_setE, encC_setE, encK_setE, encP_setE, encI_len, encS_len, encT_len2, encG_len2, encC_len, encL_len, encK_len2, encP_len2, encW_len, dT_ids, dI_ids, dT_len, dI_len, List.length_set, encI_takeM, List.take_length, encSlT_nil, encSlT_consE, encSlT_len2, encSlT_snocE])))) ?_
  rintro v6 m9 hh7 ih8
  rw [qOrd_L3_eq] at hh7
  rcases g20 : loopO (qOrd_L2 a0 a1 x1 v6) ((IntKind.i64.wrap (((a0.length : Nat) : Int) - 1)), (-1)) with _ | e19
  · simp only [g20, Option.bind_none, reduceCtorEq] at hh7
  simp only [g20, Option.bind_some] at hh7
  try simp only [go_sem, c4]
  refine X_loopO g20 (fun q : Int × Int => ⟨[(0, .p (.sl (encG a0))), (1, .p (.sl (encT a1))), (6, .p (.sl (encI x1))), (8, .ref 80 0 v6.length v6.length), (9, .p (.int .i64 q.2)), (10, .p (.int .i64 q.1))], [(80, .arr 3 1 (encI v6))], 81⟩) ((Wk.forget (by simp [Le, LeE, LeH, get, envIds, hpIds, KeepH, D.ids, idsL, AO.ids, setL, base, encI_nil, encS_nil, encT_nil, encG_nil, encC_nil, encL_nil, encK_nil, encP_nil, mpS_nil, mpB_nil, encI_consE, encS_consE, encT_consE, encG_consE, encI_one, encS_one, encT_one, encI_snoc, encS_snoc, encT_snocE, encG_snocE, encC_snoc, encL_snoc, encK_snocE, encP_snocE, encI_set, encS_set, encT_setE, encG_setE, encC_setE, encK_setE, encP_setE, encI_len, encS_len, encT_len2, encG_len2, encC_len, encL_len, encK_len2, encP_len2, encW_len, dT_ids, dI_ids, dT_len, dI_len, List.length_set, encI_takeM, List.take_length, encSlT_nil, encSlT_consE, encSlT_len2, encSlT_snocE]))) ?_
  rintro ⟨v14, v15⟩ m18 hh16 ih17
  rw [qOrd_L2_eq] at hh16
  cases c21 : decide (0 ≤ v14)
  · simp only [c21, cond_false] at hh16
    simp only [Option.bind_some, nextO_inr] at hh16
    obtain rfl := Option.some.inj hh16
    try dsimp only at hh7
    cases c22 : decide (v15 < 0)
    · simp only [c22, cond_false] at hh7
      cases c23 : decide (v6.length + 1 < 10000000)
      · simp only [c23, cond_false, Option.bind_none, reduceCtorEq] at hh7
      simp only [c23, cond_true] at hh7
      try simp only [go_sem, c4, c21, c22]
      refine ⟨by have := of_decide_eq_true c23; (try simp only [List.length_cons, List.length_nil, List.length_append] at *); (repeat' refine And.intro ?_ ?_) <;> first | exact wid1 _ _ rfl | exact encI_wid _ | omega | (simp [Wid]; done), ?_⟩
      simp only [Option.bind_some, nextO_inl] at hh7
      try simp only [go_sem, c4, c21, c22]
      exact ih8 (v6 ++ [v15]) _ hh7 ((Wk.forget (by simp [Le, LeE, LeH, get, envIds, hpIds, KeepH, D.ids, idsL, AO.ids, setL, base, encI_nil, encS_nil, encT_nil, encG_nil, encC_nil, encL_nil, encK_nil, encP_nil, mpS_nil, mpB_nil, encI_consE, encS_consE, encT_consE, encG_consE, encI_one, encS_one, encT_one, encI_snoc, encS_snoc, encT_snocE, encG_snocE, encC_snoc, encL_snoc, encK_snocE, encP_snocE, encI_set, encS_set, encT_setE, encG_setE, encC_setE, encK_setE, encP_setE, encI_len, encS_len, encT_len2, encG_len2, encC_len, encL_len, encK_len2, encP_len2, encW_len, dT_ids, dI_ids, dT_len, dI_len, List.length_set, encI_takeM, List.take_length, encSlT_nil, encSlT_consE, encSlT_len2, encSlT_snocE])))
    simp only [c22, cond_true] at hh7
    simp only [Option.bind_some, nextO_inr] at hh7
    obtain rfl := Option.some.inj hh7
    try dsimp only at hr
    obtain rfl := Option.some.inj hr
    try simp only [go_sem, c4, c21, c22]
    all_goals (try refine end_pure ?_)
    all_goals (try simp only [go_sem, c4, c21, c22])
    all_goals (try (first | rfl | exact ⟨rfl, rfl⟩ | (simp; done)))
  simp only [c21, cond_true] at hh16
  rcases g25 : idxO x1 v14 with _ | x24
  · simp only [g25, Option.bind_none, reduceCtorEq] at hh16
  simp only [g25, Option.bind_some] at hh16
  have f26 := idxO_rng g25
  have f27 : (encI x1).getD (Int.toNat v14) [] = [(.int .i64 x24)] := idxO_map _ g25
  cases c28 : decide (x24 = v14)
  · simp only [c28, cond_false] at hh16
    simp only [Option.bind_some, nextO_inl] at hh16
    try simp only [go_sem, c4, c21, f26, f27, c28]
    exact ih17 ((IntKind.i64.wrap (v14 - 1)), v15) _ hh16 ((Wk.forget (by simp [Le, LeE, LeH, get, envIds, hpIds, KeepH, D.ids, idsL, AO.ids, setL, base, encI_nil, encS_nil, encT_nil, encG_nil, encC_nil, encL_nil, encK_nil, encP_nil, mpS_nil, mpB_nil, encI_consE, encS_consE, encT_consE, encG_consE, encI_one, encS_one, encT_one, encI_snoc, encS_snoc, encT_snocE, encG_snocE, encC_snoc, encL_snoc, encK_snocE, encP_snocE, encI_set, encS_set, encT_setE, encG_setE, encC_setE, encK_setE, encP_setE, encI_len, encS_len, encT_len2, encG_len2, encC_len, encL_len, encK_len2, encP_len2, encW_len, dT_ids, dI_ids, dT_len, dI_len, List.length_set, encI_takeM, List.take_length, encSlT_nil, encSlT_consE, encSlT_len2, encSlT_snocE])))
  simp only [c28, cond_true] at hh16
  rcases g30 : qHas_v v6 v14 with _ | x29
  · simp only [g30, Option.bind_none, reduceCtorEq] at hh16
  simp only [g30, Option.bind_some] at hh16
  try simp only [go_sem, c4, c21, f26, f27, c28]
  refine Cc_bor rfl rfl (qHas_vok v6 v14 _ g30) (by simp [BorL, Bor, ev, get, List.take_of_length_le, encI_takeF, encS_takeF, encT_takeF, encG_takeF, encC_takeF, encL_takeF, encK_takeF, encP_takeF, encI_len, encS_len, encT_len2, encG_len2, encC_len, encL_len, encK_len2, encP_len2, encI_nil, encS_nil, encT_nil, encG_nil, encC_nil, encL_nil, encK_nil, encP_nil] <;> rfl) ?_
  rintro h' r ⟨rfl, rfl⟩
  refine ⟨rfl, rfl, ?_⟩
  cases c31 : x29
  · simp only [c31, cond_false] at hh16
    rcases g40 : loopO (qOrd_L1 a0 a1 x1 v6 v14) (true, 0) with _ | e39
    · simp only [g40, Option.bind_none, reduceCtorEq] at hh16
    simp only [g40, Option.bind_some] at hh16
    try simp only [go_sem, c4, c21, f26, f27, c28, c31]
    refine X_loopO g40 (fun q : Bool × Int => ⟨[(0, .p (.sl (encG a0))), (1, .p (.sl (encT a1))), (6, .p (.sl (encI x1))), (8, .ref 80 0 v6.length v6.length), (9, .p (.int .i64 v15)), (10, .p (.int .i64 v14)), (11, .p (.bool q.1)), (12, .p (.int .i64 q.2))], [(80, .arr 3 1 (encI v6))], 81⟩) ((Wk.forget (by simp [Le, LeE, LeH, get, envIds, hpIds, KeepH, D.ids, idsL, AO.ids, setL, base, encI_nil, encS_nil, encT_nil, encG_nil, encC_nil, encL_nil, encK_nil, encP_nil, mpS_nil, mpB_nil, encI_consE, encS_consE, encT_consE, encG_consE, encI_one, encS_one, encT_one, encI_snoc, encS_snoc, encT_snocE, encG_snocE, encC_snoc, encL_snoc, encK_snocE, encP_snocE, encI_set, encS_set, encT_setE, encG_setE, encC_setE, encK_setE, encP_setE, encI_len, encS_len, encT_len2, encG_len2, encC_len, encL_len, encK_len2, encP_len2, encW_len, dT_ids, dI_ids, dT_len, dI_len, List.length_set, encI_takeM, List.take_length, encSlT_nil, encSlT_consE, encSlT_len2, encSlT_snocE, c31]))) ?_
    rintro ⟨v34, v35⟩ m38 hh36 ih37
    rw [qOrd_L1_eq] at hh36
    cases c41 : decide (v35 < ((a0.length : Nat) : Int))
    · simp only [c41, cond_false] at hh36
      simp only [Option.bind_some, nextO_inr] at hh36
      obtain rfl := Option.some.inj hh36
      try dsimp only at hh16
      cases c42 : v34
      · simp only [c42, cond_false] at hh16
        simp only [Option.bind_some, nextO_inl] at hh16
        try simp only [go_sem, c4, c21, f26, f27, c28, c31, c41, c42]
        exact ih17 ((IntKind.i64.wrap (v14 - 1)), v15) _ hh16 ((Wk.forget (by simp [Le, LeE, LeH, get, envIds, hpIds, KeepH, D.ids, idsL, AO.ids, setL, base, encI_nil, encS_nil, encT_nil, encG_nil, encC_nil, encL_nil, encK_nil, encP_nil, mpS_nil, mpB_nil, encI_consE, encS_consE, encT_consE, encG_consE, encI_one, encS_one, encT_one, encI_snoc, encS_snoc, encT_snocE, encG_snocE, encC_snoc, encL_snoc, encK_snocE, encP_snocE, encI_set, encS_set, encT_setE, encG_setE, encC_setE, encK_setE, encP_setE, encI_len, encS_len, encT_len2, encG_len2, encC_len, encL_len, encK_len2, encP_len2, encW_len, dT_ids, dI_ids, dT_len, dI_len, List.length_set, encI_takeM, List.take_length, encSlT_nil, encSlT_consE, encSlT_len2, encSlT_snocE, c31, c42])))
      simp only [c42, cond_true] at hh16
      simp only [Option.bind_some, nextO_inl] at hh16
      try simp only [go_sem, c4, c21, f26, f27, c28, c31, c41, c42]
      exact ih17 ((IntKind.i64.wrap (v14 - 1)), v14) _ hh16 ((Wk.forget (by simp [Le, LeE, LeH, get, envIds, hpIds, KeepH, D.ids, idsL, AO.ids, setL, base, encI_nil, encS_nil, encT_nil, encG_nil, encC_nil, encL_nil, encK_nil, encP_nil, mpS_nil, mpB_nil, encI_consE, encS_consE, encT_consE, encG_consE, encI_one, encS_one, encT_one, encI_snoc, encS_snoc, encT_snocE, encG_snocE, encC_snoc, encL_snoc, encK_snocE, encP_snocE, encI_set, encS_set, encT_setE, encG_setE, encC_setE, encK_setE, encP_setE, encI_len, encS_len, encT_len2, encG_len2, encC_len, encL_len, encK_len2, encP_len2, encW_len, dT_ids, dI_ids, dT_len, dI_len, List.length_set, encI_takeM, List.take_length, encSlT_nil, encSlT_consE, encSlT_len2, encSlT_snocE, c31, c42])))
    simp only [c41, cond_true] at hh36
    rcases g44 : idxO x1 v35 with _ | x43
    · simp only [g44, Option.bind_none, reduceCtorEq] at hh36
    simp only [g44, Option.bind_some] at hh36
    have f45 := idxO_rng g44
    have f46 : (encI x1).getD (Int.toNat v35) [] = [(.int .i64 x43)] := idxO_map _ g44
    cases c47 : decide (x43 = v35)
    · simp only [c47, cond_false] at hh36
      simp only [Option.bind_some, nextO_inl] at hh36
      try simp only [go_sem, c4, c21, f26, f27, c28, c31, c41, f45, f46, c47]
      exact ih37 (v34, (IntKind.i64.wrap (v35 + 1))) _ hh36 ((Wk.forget (by simp [Le, LeE, LeH, get, envIds, hpIds, KeepH, D.ids, idsL, AO.ids, setL, base, encI_nil, encS_nil, encT_nil, encG_nil, encC_nil, encL_nil, encK_nil, encP_nil, mpS_nil, mpB_nil, encI_consE, encS_consE, encT_consE, encG_consE, encI_one, encS_one, encT_one, encI_snoc, encS_snoc, encT_snocE, encG_snocE, encC_snoc, encL_snoc, encK_snocE, encP_snocE, encI_set, encS_set, encT_setE, encG_setE, encC_setE, encK_setE, encP_setE, encI_len, encS_len, encT_len2, encG_len2, encC_len, encL_len, encK_len2, encP_len2, encW_len, dT_ids, dI_ids, dT_len, dI_len, List.length_set, encI_takeM, List.take_length, encSlT_nil, encSlT_consE, encSlT_len2, encSlT_snocE, c31])))
    simp only [c47, cond_true] at hh36
    cases c48 : decide (v35 = v14)
    · simp only [c48, cond_false] at hh36
      rcases g50 : qHas_v v6 v35 with _ | x49
      · simp only [g50, Option.bind_none, reduceCtorEq] at hh36
      simp only [g50, Option.bind_some] at hh36
      try simp only [go_sem, c4, c21, f26, f27, c28, c31, c41, f45, f46, c47, c48]
      refine Cc_bor rfl rfl (qHas_vok v6 v35 _ g50) (by simp [BorL, Bor, ev, get, List.take_of_length_le, encI_takeF, encS_takeF, encT_takeF, encG_takeF, encC_takeF, encL_takeF, encK_takeF, encP_takeF, encI_len, encS_len, encT_len2, encG_len2, encC_len, encL_len, encK_len2, encP_len2, encI_nil, encS_nil, encT_nil, encG_nil, encC_nil, encL_nil, encK_nil, encP_nil] <;> rfl) ?_
      rintro h' r ⟨rfl, rfl⟩
      refine ⟨rfl, rfl, ?_⟩
      cases c51 : x49
      · simp only [c51, cond_false] at hh36
        rcases g53 : qReach_v a0 a1 v35 with _ | x52
        · simp only [g53, Option.bind_none, reduceCtorEq] at hh36
        simp only [g53, Option.bind_some] at hh36
        try simp only [go_sem, c4, c21, f26, f27, c28, c31, c41, f45, f46, c47, c48, c51]
        refine Cc_of (qReach_vok a0 a1 v35 _ g53) ?_
        rintro h' r ⟨rfl, rfl⟩
        rcases g55 : idxO x52 v14 with _ | x54
        · simp only [g55, Option.bind_none, reduceCtorEq] at hh36
        simp only [g55, Option.bind_some] at hh36
        have f56 := idxO_rng g55
        have f57 : (encT x52).getD (Int.toNat v14) [] = [(.bool x54)] := idxO_map _ g55
        cases c58 : x54
        · simp only [c58, cond_false] at hh36
          simp only [Option.bind_some, nextO_inl] at hh36
          try simp only [go_sem, c4, c21, f26, f27, c28, c31, c41, f45, f46, c47, c48, c51, f56, f57, c58]
          exact ih37 (v34, (IntKind.i64.wrap (v35 + 1))) _ hh36 ((Wk.forget (by simp [Le, LeE, LeH, get, envIds, hpIds, KeepH, D.ids, idsL, AO.ids, setL, base, encI_nil, encS_nil, encT_nil, encG_nil, encC_nil, encL_nil, encK_nil, encP_nil, mpS_nil, mpB_nil, encI_consE, encS_consE, encT_consE, encG_consE, encI_one, encS_one, encT_one, encI_snoc, encS_snoc, encT_snocE, encG_snocE, encC_snoc, encL_snoc, encK_snocE, encP_snocE, encI_set, encS_set, encT_setE, encG_setE, encC_setE, encK_setE, encP_setE, encI_len, encS_len, encT_len2, encG_len2, encC_len, encL_len, encK_len2, encP_len2, encW_len, dT_ids, dI_ids, dT_len, dI_len, List.length_set, encI_takeM, List.take_length, encSlT_nil, encSlT_consE, encSlT_len2, encSlT_snocE, c31, c51, c58])))
        simp only [c58, cond_true] at hh36
        simp only [Option.bind_some, nextO_inl] at hh36
        try simp only [go_sem, c4, c21, f26, f27, c28, c31, c41, f45, f46, c47, c48, c51, f56, f57, c58]
        exact ih37 (false, (IntKind.i64.wrap (v35 + 1))) _ hh36 ((Wk.forget (by simp [Le, LeE, LeH, get, envIds, hpIds, KeepH, D.ids, idsL, AO.ids, setL, base, encI_nil, encS_nil, encT_nil, encG_nil, encC_nil, encL_nil, encK_nil, encP_nil, mpS_nil, mpB_nil, encI_consE, encS_consE, encT_consE, encG_consE, encI_one, encS_one, encT_one, encI_snoc, encS_snoc, encT_snocE, encG_snocE, encC_snoc, encL_snoc, encK_snocE, encP_snocE, encI_set, encS_set, encT_setE, encG_setE, encC_setE, encK_setE, encP_setE, encI_len, encS_len, encT_len2, encG_len2, encC_len, encL_len, encK_len2, encP_len2, encW_len, dT_ids, dI_ids, dT_len, dI_len, List.length_set, encI_takeM, List.take_length, encSlT_nil, encSlT_consE, encSlT_len2, encSlT_snocE, c31, c51, c58])))
      simp only [c51, cond_true] at hh36
      simp only [Option.bind_some, nextO_inl] at hh36
      try simp only [go_sem, c4, c21, f26, f27, c28, c31, c41, f45, f46, c47, c48, c51]
      exact ih37 (v34, (IntKind.i64.wrap (v35 + 1))) _ hh36 ((Wk.forget (by simp [Le, LeE, LeH, get, envIds, hpIds, KeepH, D.ids, idsL, AO.ids, setL, base, encI_nil, encS_nil, encT_nil, encG_nil, encC_nil, encL_nil, encK_nil, encP_nil, mpS_nil, mpB_nil, encI_consE, encS_consE, encT_consE, encG_consE, encI_one, encS_one, encT_one, encI_snoc, encS_snoc, encT_snocE, encG_snocE, encC_snoc, encL_snoc, encK_snocE, encP_snocE, encI_set, encS_set, encT_setE, encG_setE, encC_setE, encK_setE, encP_setE, encI_len, encS_len, encT_len2, encG_len2, encC_len, encL_len, encK_len2, encP_len2, encW_len, dT_ids, dI_ids, dT_len, dI_len, List.length_set, encI_takeM, List.take_length, encSlT_nil, encSlT_consE, encSlT_len2, encSlT_snocE, c31, c51])))
    simp only [c48, cond_true] at hh36
    simp only [Option.bind_some, nextO_inl] at hh36
    try simp only [go_sem, c4, c21, f26, f27, c28, c31, c41, f45, f46, c47, c48]
    exact ih37 (v34, (IntKind.i64.wrap (v35 + 1))) _ hh36 ((Wk.forget (by simp [Le, LeE, LeH, get, envIds, hpIds, KeepH, D.ids, idsL, AO.ids, setL, base, encI_nil, encS_nil, encT_nil, encG_nil, encC_nil, encL_nil, encK_nil, encP_nil, mpS_nil, mpB_nil, encI_consE, encS_consE, encT_consE, encG_consE, encI_one, encS_one, encT_one, encI_snoc, encS_snoc, encT_snocE, encG_snocE, encC_snoc, encL_snoc, encK_snocE, encP_snocE, encI_set, encS_set, encT_setE, encG_setE, encC_setE, encK_setE, encP_setE, encI_len, encS_len, encT_len2, encG_len2, encC_len, encL_len, encK_len2, encP_len2, encW_len, dT_ids, dI_ids, dT_len, dI_len, List.length_set, encI_takeM, List.take_length, encSlT_nil, encSlT_consE, encSlT_len2, encSlT_snocE, c31])))
  simp only [c31, cond_true] at hh16
  simp only [Option.bind_some, nextO_inl] at hh16
  try simp only [go_sem, c4, c21, f26, f27, c28, c31]
  exact ih17 ((IntKind.i64.wrap (v14 - 1)), v15) _ hh16 ((Wk.forget (by simp [Le, LeE, LeH, get, envIds, hpIds, KeepH, D.ids, idsL, AO.ids, setL, base, encI_nil, encS_nil, encT_nil, encG_nil, encC_nil, encL_nil, encK_nil, encP_nil, mpS_nil, mpB_nil, encI_consE, encS_consE, encT_consE, encG_consE, encI_one, encS_one, encT_one, encI_snoc, encS_snoc, encT_snocE, encG_snocE, encC_snoc, encL_snoc, encK_snocE, encP_snocE, encI_set, encS_set, encT_setE, encG_setE, encC_setE, encK_setE, encP_setE, encI_len, encS_len, encT_len2, encG_len2, encC_len, encL_len, encK_len2, encP_len2, encW_len, dT_ids, dI_ids, dT_len, dI_len, List.length_set, encI_takeM, List.take_length, encSlT_nil, encSlT_consE, encSlT_len2, encSlT_snocE, c31])))
noncomputable def qQuot_L1 (a0 : List (List Int)) (x1 : List Int) (v9 : Int) : (List (List Int)) × Int → Option (((List (List Int)) × Int) ⊕ (((List (List Int)) × Int)))
  | (v18, v19) => Option.bind (idxO a0 v9) fun x25 => cond (decide (v19 < ((x25.length : Nat) : Int))) (Option.bind (idxO x1 v9) fun x30 => Option.bind (idxO x25 v19) fun x34 => Option.bind (idxO x1 x34) fun x38 => cond (decide (0 ≤ x30)) (cond (decide (0 ≤ x38)) (cond (decide (x30 = x38)) (some (Sum.inl (v18, (IntKind.i64.wrap (v19 + 1))))) (Option.bind (idxO v18 x30) fun x45 => Option.bind (qHas_v x45 x38) fun x49 => cond x49 (some (Sum.inl (v18, (IntKind.i64.wrap (v19 + 1))))) (Option.bind (qIns_v x45 x38) fun x52 => some (Sum.inl ((v18.set (Int.toNat x30) x52), (IntKind.i64.wrap (v19 + 1))))))) (some (Sum.inl (v18, (IntKind.i64.wrap (v19 + 1)))))) (some (Sum.inl (v18, (IntKind.i64.wrap (v19 + 1)))))) (some (Sum.inr (v18, v19)))
theorem qQuot_L1_eq (a0 : List (List Int)) (x1 : List Int) (v9 : Int) (v18 : List (List Int)) (v19 : Int) : qQuot_L1 a0 x1 v9 (v18, v19) = Option.bind (idxO a0 v9) fun x25 => cond (decide (v19 < ((x25.length : Nat) : Int))) (Option.bind (idxO x1 v9) fun x30 => Option.bind (idxO x25 v19) fun x34 => Option.bind (idxO x1 x34) fun x38 => cond (decide (0 ≤ x30)) (cond (decide (0 ≤ x38)) (cond (decide (x30 = x38)) (some (Sum.inl (v18, (IntKind.i64.wrap (v19 + 1))))) (Option.bind (idxO v18 x30) fun x45 => Option.bind (qHas_v x45 x38) fun x49 => cond x49 (some (Sum.inl (v18, (IntKind.i64.wrap (v19 + 1))))) (Option.bind (qIns_v x45 x38) fun x52 => some (Sum.inl ((v18.set (Int.toNat x30) x52), (IntKind.i64.wrap (v19 + 1))))))) (some (Sum.inl (v18, (IntKind.i64.wrap (v19 + 1)))))) (some (Sum.inl (v18, (IntKind.i64.wrap (v19 + 1)))))) (some (Sum.inr (v18, v19))) := rfl
noncomputable def qQuot_L2 (a0 : List (List Int)) (x1 : List Int) : (List (List Int)) × Int → Option (((List (List Int)) × Int) ⊕ (((List (List Int)) × Int)))
  | (v8, v9) => cond (decide (v9 < ((a0.length : Nat) : Int))) (Option.bind (loopO (qQuot_L1 a0 x1 v9) (v8, 0)) (fun (v54, v55) => some (Sum.inl (v54, (IntKind.i64.wrap (v9 + 1)))))) (some (Sum.inr (v8, v9)))
theorem qQuot_L2_eq (a0 : List (List Int)) (x1 : List Int) (v8 : List (List Int)) (v9 : Int) : qQuot_L2 a0 x1 (v8, v9) = cond (decide (v9 < ((a0.length : Nat) : Int))) (Option.bind (loopO (qQuot_L1 a0 x1 v9) (v8, 0)) (fun (v54, v55) => some (Sum.inl (v54, (IntKind.i64.wrap (v9 + 1)))))) (some (Sum.inr (v8, v9))) := rfl
noncomputable def qQuot_v (a0 : List (List Int)) (a1 : List Bool) : Option ((List (List Int)) × Int) :=
  Option.bind (qNames_v a0 a1) fun (x1, x2) => cond (decide (x2 = 0)) (cond (decide (a0.length < 10000000)) (Option.bind (loopO (qQuot_L2 a0 x1) ((List.replicate a0.length []), 0)) (fun (v56, v57) => some (v56, 0))) none) (some ([], x2))
theorem qQuot_vok (a0 : List (List Int)) (a1 : List Bool) (r : (List (List Int)) × Int) (hr : qQuot_v a0 a1 = some r) :
    ACalls Try.prog 20 [.p (.sl (encG a0)), .p (.sl (encT a1))] [] fun h d => h = [] ∧ d = .tup [.p (.sl (encG r.1)), .p (.int .i64 r.2)] := by
  refine ACalls_X Try.func20 rfl enters20 (by simp [Try.f20]) ?_
  unfold qQuot_v at hr
  rcases g3 : qNames_v a0 a1 with _ | ⟨x1, x2⟩
  · simp only [g3, Option.bind_none, reduceCtorEq] at hr
  simp only [g3, Option.bind_some] at hr
  try simp only [go_sem]
  refine Cc_of (qNames_vok a0 a1 _ g3) ?_
  rintro h' r ⟨rfl, rfl⟩
  cases c4 : decide (x2 = 0)
  · simp only [c4, cond_false] at hr
    obtain rfl := Option.some.inj hr
    try simp only [go_sem, c4]
    all_goals (try refine end_pure ?_)
    all_goals (try simp only [go_sem, c4])
    all_goals (try (first | rfl | exact ⟨rfl, rfl⟩ | (simp; done)))
  simp only [c4, cond_true] at hr
  cases c5 : decide (a0.length < 10000000)
  · simp only [c5, cond_false, Option.bind_none, reduceCtorEq] at hr
  simp only [c5, cond_true] at hr
  try simp only [go_sem, c4]
  refine Af_mkarr (n := ((a0.length : Nat) : Int)) rfl ti22 ti24 rfl rfl rfl (by have := of_decide_eq_true c5; omega) (by have := of_decide_eq_true c5; omega) (by have := of_decide_eq_true c5; omega) ?_
  rcases g14 : loopO (qQuot_L2 a0 x1) ((List.replicate a0.length []), 0) with _ | e13
  · simp only [g14, Option.bind_none, reduceCtorEq] at hr
  simp only [g14, Option.bind_some] at hr
  try simp only [go_sem, c4, encG_rep]
  refine X_loopO g14 (fun q : (List (List Int)) × Int => ⟨[(0, .p (.sl (encG a0))), (6, .p (.sl (encI x1))), (8, .ref 24 0 q.1.length q.1.length), (9, .p (.int .i64 q.2))], [(24, .arr 24 1 (encG q.1))], 84⟩) ((Wk.forget (by simp [Le, LeE, LeH, get, envIds, hpIds, KeepH, D.ids, idsL, AO.ids, setL, base, encI_nil, encS_nil, encT_nil, encG_nil, encC_nil, encL_nil, encK_nil, encP_nil, mpS_nil, mpB_nil, encI_consE, encS_consE, encT_consE, encG_consE, encI_one, encS_one, encT_one, encI_snoc, encS_snoc, encT_snocE, encG_snocE, encC_snoc, encL_snoc, encK_snocE, encP_snocE, encI_set, encS_set, encT_setE, encG_setE, encC_setE, encK_setE, encP_setE, encI_len, encS_len, encT_len2, encG_len2, encC_len, encL_len, encK_len2, encP_len2, encW_len, dT_ids, dI_ids, dT_len, dI_len, List.length_set, encI_takeM, List.take_length, encSlT_nil, encSlT_consE, encSlT_len2, encSlT_snocE]))) ?_
  rintro ⟨v8, v9⟩ m12 hh10 ih11
  rw [qQuot_L2_eq] at hh10
  cases c15 : decide (v9 < ((a0.length : Nat) : Int))
  · simp only [c15, cond_false] at hh10
    simp only [Option.bind_some, nextO_inr] at hh10
    obtain rfl := Option.some.inj hh10
    try dsimp only at hr
    obtain rfl := Option.some.inj hr
    try simp only [go_sem, c4, encG_rep, c15]
    all_goals (try refine end_pure ?_)
    all_goals (try simp only [go_sem, c4, encG_rep, c15])
    all_goals (try (first | rfl | exact ⟨rfl, rfl⟩ | (simp; done)))
  simp only [c15, cond_true] at hh10
  rcases g24 : loopO (qQuot_L1 a0 x1 v9) (v8, 0) with _ | e23
  · simp only [g24, Option.bind_none, reduceCtorEq] at hh10
  simp only [g24, Option.bind_some] at hh10
  try simp only [go_sem, c4, encG_rep, c15]
  refine X_loopO g24 (fun q : (List (List Int)) × Int => ⟨[(0, .p (.sl (encG a0))), (6, .p (.sl (encI x1))), (8, .ref 24 0 q.1.length q.1.length), (9, .p (.int .i64 v9)), (10, .p (.int .i64 q.2))], [(24, .arr 24 1 (encG q.1))], 84⟩) ((Wk.forget (by simp [Le, LeE, LeH, get, envIds, hpIds, KeepH, D.ids, idsL, AO.ids, setL, base, encI_nil, encS_nil, encT_nil, encG_nil, encC_nil, encL_nil, encK_nil, encP_nil, mpS_nil, mpB_nil, encI_consE, encS_consE, encT_consE, encG_consE, encI_one, encS_one, encT_one, encI_snoc, encS_snoc, encT_snocE, encG_snocE, encC_snoc, encL_snoc, encK_snocE, encP_snocE, encI_set, encS_set, encT_setE, encG_setE, encC_setE, encK_setE, encP_setE, encI_len, encS_len, encT_len2, encG_len2, encC_len, encL_len, encK_len2, encP_len2, encW_len, dT_ids, dI_ids, dT_len, dI_len, List.length_set, encI_takeM, List.take_length, encSlT_nil, encSlT_consE, encSlT_len2, encSlT_snocE]))) ?_
  rintro ⟨v18, v19⟩ m22 hh20 ih21
  rw [qQuot_L1_eq] at hh20
  rcases g26 : idxO a0 v9 with _ | x25
  · simp only [g26, Option.bind_none, reduceCtorEq] at hh20
  simp only [g26, Option.bind_some] at hh20
  have f27 := idxO_rng g26
  have f28 : (encG a0).getD (Int.toNat v9) [] = [(.sl (encI x25))] := idxO_map _ g26
  cases c29 : decide (v19 < ((x25.length : Nat) : Int))
  · simp only [c29, cond_false] at hh20
    simp only [Option.bind_some, nextO_inr] at hh20
    obtain rfl := Option.some.inj hh20
    try dsimp only at hh10
    simp only [Option.bind_some, nextO_inl] at hh10
    try simp only [go_sem, c4, encG_rep, c15, f27, f28, c29]
    exact ih11 (v18, (IntKind.i64.wrap (v9 + 1))) _ hh10 ((Wk.forget (by simp [Le, LeE, LeH, get, envIds, hpIds, KeepH, D.ids, idsL, AO.ids, setL, base, encI_nil, encS_nil, encT_nil, encG_nil, encC_nil, encL_nil, encK_nil, encP_nil, mpS_nil, mpB_nil, encI_consE, encS_consE, encT_consE, encG_consE, encI_one, encS_one, encT_one, encI_snoc, encS_snoc, encT_snocE, encG_snocE, encC_snoc, encL_snoc, encK_snocE, encP_snocE, encI_set, encS_set, encT_setE, encG_setE, encC_setE, encK_setE, encP_setE, encI_len, encS_len, encT_len2, encG_len2, encC_len, encL_len, encK_len2, encP_len2, encW_len, dT_ids, dI_ids, dT_len, dI_len, List.length_set, encI_takeM, List.take_length, encSlT_nil, encSlT_consE, encSlT_len2, encSlT_snocE])))
  simp only [c29, cond_true] at hh20
  try simp only [go_sem, c4, encG_rep, c15, f27, f28, c29]
  refine X_any0 mixed (p := [(0, 0), (1, 0), (2, 0), (3, 0), (4, 0), (5, 0), (6, 0), (7, 0), (8, 0), (9, 0), (10, 0), (11, 0), (12, 0), (13, 0), (14, 0), (15, 0)]) (by kernel_rfl) (by simp [LeH, get]) ?_
  rcases g31 : idxO x1 v9 with _ | x30
  · simp only [g31, Option.bind_none, reduceCtorEq] at hh20
  simp only [g31, Option.bind_some] at hh20
  have f32 := idxO_rng g31
  have f33 : (encI x1).getD (Int.toNat v9) [] = [(.int .i64 x30)] := idxO_map _ g31
  rcases g35 : idxO x25 v19 with _ | x34
  · simp only [g35, Option.bind_none, reduceCtorEq] at hh20
  simp only [g35, Option.bind_some] at hh20
  have f36 := idxO_rng g35
  have f37 : (encI x25).getD (Int.toNat v19) [] = [(.int .i64 x34)] := idxO_map _ g35
  rcases g39 : idxO x1 x34 with _ | x38
  · simp only [g39, Option.bind_none, reduceCtorEq] at hh20
  simp only [g39, Option.bind_some] at hh20
  have f40 := idxO_rng g39
  have f41 : (encI x1).getD (Int.toNat x34) [] = [(.int .i64 x38)] := idxO_map _ g39
  cases c42 : decide (0 ≤ x30)
  · simp only [c42, cond_false] at hh20
    simp only [Option.bind_some, nextO_inl] at hh20
    try simp only [go_sem, c4, encG_rep, c15, f27, f28, c29, f32, f33, f36, f37, f40, f41, c42]
    exact ih21 (v18, (IntKind.i64.wrap (v19 + 1))) _ hh20 ((Wk.forget (by simp [Le, LeE, LeH, get, envIds, hpIds, KeepH, D.ids, idsL, AO.ids, setL, base, encI_nil, encS_nil, encT_nil, encG_nil, encC_nil, encL_nil, encK_nil, encP_nil, mpS_nil, mpB_nil, encI_consE, encS_consE, encT_consE, encG_consE, encI_one, encS_one, encT_one, encI_snoc, encS_snoc, encT_snocE, encG_snocE, encC_snoc, encL_snoc, encK_snocE, encP_snocE, encI_set, encS_set, encT_setE, encG_setE, encC_setE, encK_setE, encP_setE, encI_len, encS_len, encT_len2, encG_len2, encC_len, encL_len, encK_len2, encP_len2, encW_len, dT_ids, dI_ids, dT_len, dI_len, List.length_set, encI_takeM, List.take_length, encSlT_nil, encSlT_consE, encSlT_len2, encSlT_snocE])))
  simp only [c42, cond_true] at hh20
  cases c43 : decide (0 ≤ x38)
  · simp only [c43, cond_false] at hh20
    simp only [Option.bind_some, nextO_inl] at hh20
    try simp only [go_sem, c4, encG_rep, c15, f27, f28, c29, f32, f33, f36, f37, f40, f41, c42, c43]
    exact ih21 (v18, (IntKind.i64.wrap (v19 + 1))) _ hh20 ((Wk.forget (by simp [Le, LeE, LeH, get, envIds, hpIds, KeepH, D.ids, idsL, AO.ids, setL, base, encI_nil, encS_nil, encT_nil, encG_nil, encC_nil, encL_nil, encK_nil, encP_nil, mpS_nil, mpB_nil, encI_consE, encS_consE, encT_consE, encG_consE, encI_one, encS_one, encT_one, encI_snoc, encS_snoc, encT_snocE, encG_snocE, encC_snoc, encL_snoc, encK_snocE, encP_snocE, encI_set, encS_set, encT_setE, encG_setE, encC_setE, encK_setE, encP_setE, encI_len, encS_len, encT_len2, encG_len2, encC_len, encL_len, encK_len2, encP_len2, encW_len, dT_ids, dI_ids, dT_len, dI_len, List.length_set, encI_takeM, List.take_length, encSlT_nil, encSlT_consE, encSlT_len2, encSlT_snocE])))
  simp only [c43, cond_true] at hh20
  cases c44 : decide (x30 = x38)
  · simp only [c44, cond_false] at hh20
    rcases g46 : idxO v18 x30 with _ | x45
    · simp only [g46, Option.bind_none, reduceCtorEq] at hh20
    simp only [g46, Option.bind_some] at hh20
    have f47 := idxO_rng g46
    have f48 : (encG v18).getD (Int.toNat x30) [] = [(.sl (encI x45))] := idxO_map _ g46
    rcases g50 : qHas_v x45 x38 with _ | x49
    · simp only [g50, Option.bind_none, reduceCtorEq] at hh20
    simp only [g50, Option.bind_some] at hh20
    try simp only [go_sem, c4, encG_rep, c15, f27, f28, c29, f32, f33, f36, f37, f40, f41, c42, c43, c44, f47, f48]
    refine Cc_of (qHas_vok x45 x38 _ g50) ?_
    rintro h' r ⟨rfl, rfl⟩
    cases c51 : x49
    · simp only [c51, cond_false] at hh20
      rcases g53 : qIns_v x45 x38 with _ | x52
      · simp only [g53, Option.bind_none, reduceCtorEq] at hh20
      simp only [g53, Option.bind_some] at hh20
      try simp only [go_sem, c4, encG_rep, c15, f27, f28, c29, f32, f33, f36, f37, f40, f41, c42, c43, c44, f47, f48, c51]
      refine Cc_of (qIns_vok x45 x38 _ g53) ?_
      rintro h' r ⟨rfl, rfl⟩
      simp only [Option.bind_some, nextO_inl] at hh20
      try simp only [go_sem, c4, encG_rep, c15, f27, f28, c29, f32, f33, f36, f37, f40, f41, c42, c43, c44, f47, f48, c51]
      exact ih21 ((v18.set (Int.toNat x30) x52), (IntKind.i64.wrap (v19 + 1))) _ hh20 ((Wk.forget (by simp [Le, LeE, LeH, get, envIds, hpIds, KeepH, D.ids, idsL, AO.ids, setL, base, encI_nil, encS_nil, encT_nil, encG_nil, encC_nil, encL_nil, encK_nil, encP_nil, mpS_nil, mpB_nil, encI_consE, encS_consE, encT_consE, encG_consE, encI_one, encS_one, encT_one, encI_snoc, encS_snoc, encT_snocE, encG_snocE, encC_snoc, encL_snoc, encK_snocE, encP_snocE, encI_set, encS_set, encT_setE, encG_setE, encC_setE, encK_setE, encP_setE, encI_len, encS_len, encT_len2, encG_len2, encC_len, encL_len, encK_len2, encP_len2, encW_len, dT_ids, dI_ids, dT_len, dI_len, List.length_set, encI_takeM, List.take_length, encSlT_nil, encSlT_consE, encSlT_len2, encSlT_snocE, c51])))
    simp only [c51, cond_true] at hh20
    simp only [Option.bind_some, nextO_inl] at hh20
    try simp only [go_sem, c4, encG_rep, c15, f27, f28, c29, f32, f33, f36, f37, f40, f41, c42, c43, c44, f47, f48, c51]
    exact ih21 (v18, (IntKind.i64.wrap (v19 + 1))) _ hh20 ((Wk.forget (by simp [Le, LeE, LeH, get, envIds, hpIds, KeepH, D.ids, idsL, AO.ids, setL, base, encI_nil, encS_nil, encT_nil, encG_nil, encC_nil, encL_nil, encK_nil, encP_nil, mpS_nil, mpB_nil, encI_consE, encS_consE, encT_consE, encG_consE, encI_one, encS_one, encT_one, encI_snoc, encS_snoc, encT_snocE, encG_snocE, encC_snoc, encL_snoc, encK_snocE, encP_snocE, encI_set, encS_set, encT_setE, encG_setE, encC_setE, encK_setE, encP_setE, encI_len, encS_len, encT_len2, encG_len2, encC_len, encL_len, encK_len2, encP_len2, encW_len, dT_ids, dI_ids, dT_len, dI_len, List.length_set, encI_takeM, List.take_length, encSlT_nil, encSlT_consE, encSlT_len2, encSlT_snocE, c51])))
  simp only [c44, cond_true] at hh20
  simp only [Option.bind_some, nextO_inl] at hh20
  try simp only [go_sem, c4, encG_rep, c15, f27, f28, c29, f32, f33, f36, f37, f40, f41, c42, c43, c44]
  exact ih21 (v18, (IntKind.i64.wrap (v19 + 1))) _ hh20 ((Wk.forget (by simp [Le, LeE, LeH, get, envIds, hpIds, KeepH, D.ids, idsL, AO.ids, setL, base, encI_nil, encS_nil, encT_nil, encG_nil, encC_nil, encL_nil, encK_nil, encP_nil, mpS_nil, mpB_nil, encI_consE, encS_consE, encT_consE, encG_consE, encI_one, encS_one, encT_one, encI_snoc, encS_snoc, encT_snocE, encG_snocE, encC_snoc, encL_snoc, encK_snocE, encP_snocE, encI_set, encS_set, encT_setE, encG_setE, encC_setE, encK_setE, encP_setE, encI_len, encS_len, encT_len2, encG_len2, encC_len, encL_len, encK_len2, encP_len2, encW_len, dT_ids, dI_ids, dT_len, dI_len, List.length_set, encI_takeM, List.take_length, encSlT_nil, encSlT_consE, encSlT_len2, encSlT_snocE])))
end Go.Am
end
section
namespace Go.Am
open Go Go.Proofs
set_option maxRecDepth 100000
set_option linter.unusedVariables false
set_option linter.unusedSimpArgs false
end Go.Am
end
section
namespace Go.Am
open Go Go.Proofs
set_option maxRecDepth 100000
set_option maxHeartbeats 2000000
set_option linter.unusedSimpArgs false
set_option linter.unusedVariables false
def GR (n v : Nat) (r : List Int) : Prop := r.Pairwise (· < ·) ∧ ∀ y ∈ r, 0 ≤ y ∧ y < (n : Int) ∧ y ≠ (v : Int)
theorem GR.ins {n v : Nat} {r : List Int} {x : Int} (h : GR n v r) (h0 : 0 ≤ x) (hb : x < (n : Int)) (hi : x ≠ (v : Int)) (hn : x ∉ r) : GR n v (insV r x) := by
  refine ⟨insV_asc r x h.1 hn, fun y hy => ?_⟩
  rcases (insV_mem r x y).1 hy with rfl | hy
  · exact ⟨h0, hb, hi⟩
  · exact h.2 y hy
theorem encG_setS (g : List (List Int)) (i : Nat) (r : List Int) : (encG g).set i [.sl (encI r)] = encG (g.set i r) := by simp [encG, List.map_set]
theorem encG_getS (g : List (List Int)) (i : Nat) (h : i < g.length) : (encG g).getD i [] = [.sl (encI (g.getD i []))] := by simp [encG, List.getD, h]
theorem graph_own (l : List Int) (at_ most : Nat) (hat : at_ < 100000) (hm : most ≤ 10) :
    ACalls Try.prog 13 [.ptr 1000000 0, .p (.int .i64 (most : Nat))] [(1000000, .box (tapeC l at_))]
      fun h r => ∃ at2 g, at2 ≤ at_ + 90 ∧ g.length ≤ most ∧ (∀ v, v < g.length → GR g.length v (g.getD v [])) ∧ h = [(1000000, .box (tapeC l at2)), (0, .arr 24 1 (encG g))] ∧ r = .ref 0 0 g.length g.length := by
  have hw1 : IntKind.i64.wrap ((most : Int) + 1) = ((most + 1 : Nat) : Int) := wrap_succ most (by omega)
  refine ACalls_X Try.func13 rfl enters13 (by simp [Try.f13]) ?_
  simp only [go_sem, hw1, tapeC]
  refine Cc_of ((next_ok l at_ ((most + 1 : Nat) : Int) (by omega) (in64_small _ (by omega) (by omega)))) ?_
  rintro h' r ⟨rfl, rfl⟩
  obtain ⟨n, hn, hnl⟩ := nextV_rng l at_ ((most + 1 : Nat) : Int) (by omega)
  have h0 : (0 : Int) ≤ ((n : Nat) : Int) := by omega
  have hle : ((n : Nat) : Int) ≤ ((n : Nat) : Int) := Int.le_refl _
  have hl8 : ((n : Nat) : Int) * 8 ≤ 140737488355328 := by omega
  have hl1 : ((n : Nat) : Int) ≤ 140737488355328 := by omega
  have hw2 : IntKind.i64.wrap (3 * (n : Int)) = ((3 * n : Nat) : Int) := by
    simp [IntKind.wrap, IntKind.bits, IntKind.signed]; omega
  have hw3 : IntKind.i64.wrap (((3 * n : Nat) : Int) + 1) = ((3 * n + 1 : Nat) : Int) := wrap_succ _ (by omega)
  simp only [go_sem, tapeC, hn, h0, hle, hl8, hl1, hw2, hw3]
  refine Af_mkarr (n := (n : Nat)) rfl ti22 ti24 rfl rfl rfl h0 (by omega) (by omega) ?_
  simp only [go_sem, tapeC, hn, h0, hle, hl8, hl1, hw2, hw3, Int.toNat_natCast]
  refine Cc_of ((next_ok l (at_ + 1) ((3 * n + 1 : Nat) : Int) (by omega) (in64_small _ (by omega) (by omega)))) ?_
  rintro h' r ⟨rfl, rfl⟩
  obtain ⟨k0, hk0, hkl⟩ := nextV_rng l (at_ + 1) ((3 * n + 1 : Nat) : Int) (by omega)
  simp only [go_sem, tapeC, hk0]
  refine X_loop_inv (fun b : Nat × Nat × List (List Int) => ⟨[(0, .ptr 1000000 0), (5, .p (.int .i64 (n : Nat))), (6, .ref 15 0 n n), (7, .p (.int .i64 (b.1 : Nat)))], [(15, .arr 24 1 (encG b.2.2)), (1000000, .box (tapeC l b.2.1))], 53⟩)
    (fun b => b.1 ≤ 3 * n ∧ b.2.1 + 2 * b.1 ≤ at_ + 72 ∧ b.2.2.length = n ∧ ∀ v, v < n → GR n v (b.2.2.getD v []) ∧ (b.2.2.getD v []).length + b.1 ≤ 30) (fun b => b.1) (k0, at_ + 1 + 1, List.replicate n []) ⟨by simp only; omega, by simp only; omega, by simp, fun v hv => ?_⟩ (Wk.forget (by simp [Le, LeE, LeH, get, envIds, hpIds, KeepH, D.ids, idsL, AO.ids, setL, base, tapeC, encG, encI])) ?_
  · have e : (List.replicate n ([] : List Int)).getD v [] = [] := by simp [List.getD, List.getElem?_replicate, hv]
    simp only [e]
    exact ⟨⟨List.Pairwise.nil, fun y hy => by cases hy⟩, by simp; omega⟩
  rintro ⟨i, a, g⟩ m ⟨hi, ha, hl, hg⟩ ih
  simp only at hi ha hl hg
  have hlG : (encG g).length = n := by simp [encG, hl]
  cases c1 : decide ((0 : Int) < (i : Nat))
  · simp only [go_sem, c1]
    refine end_own ?_
    simp only [go_sem, c1, tapeC, hlG]
    exact ⟨a, g, by omega, by omega, by rw [hl]; exact fun v hv => (hg v hv).1, rfl, by rw [hl]⟩
  · have hi0 : 0 < i := by have := of_decide_eq_true c1; omega
    have hn0 : 0 < n := by omega
    simp only [go_sem, c1, tapeC]
    refine Cc_of ((next_ok l a n (by omega) (in64_small _ (by omega) (by omega)))) ?_
    rintro h' r ⟨rfl, rfl⟩
    obtain ⟨x, hx, hxl⟩ := nextV_rng l a n (by omega)
    simp only [go_sem, tapeC, hx]
    refine Cc_of ((next_ok l (a + 1) n (by omega) (in64_small _ (by omega) (by omega)))) ?_
    rintro h' r ⟨rfl, rfl⟩
    obtain ⟨y, hy, hyl⟩ := nextV_rng l (a + 1) n (by omega)
    have hx0 : (0 : Int) ≤ (x : Int) ∧ (x : Int) < ((n : Nat) : Int) := by omega
    have hwk : IntKind.i64.wrap ((i : Int) - 1) = ((i - 1 : Nat) : Int) := by
      simp [IntKind.wrap, IntKind.bits, IntKind.signed]; omega
    have hf := encG_getS g x (by omega)
    have hgx := hg x (by omega)
    cases c2 : decide ((x : Int) = (y : Int))
    · simp only [go_sem, tapeC, hx, hy, c2, hx0, hf, hlG, Int.toNat_natCast]
      refine Cc_of ((has_ok (g.getD x []) (y : Nat) (by omega))) ?_
      rintro h' r ⟨rfl, rfl⟩
      cases c3 : decide ((y : Int) ∈ g.getD x [])
      · simp only [go_sem, c3, hx0, hf, hlG, Int.toNat_natCast]
        refine Cc_of ((insert_ok (g.getD x []) (y : Nat) (by omega))) ?_
        rintro h' r ⟨rfl, rfl⟩
        simp only [go_sem, c3, hx0, hf, hlG, hwk, Int.toNat_natCast, encG_setS]
        have hny : (y : Int) ∉ g.getD x [] := of_decide_eq_false c3
        have hxy : (y : Int) ≠ (x : Int) := fun h => of_decide_eq_false c2 h.symm
        have hf2 : (encG g)[x]?.getD [] = [.sl (encI (g.getD x []))] := hf
        refine ih (i - 1, a + 1 + 1, g.set x (insV (g.getD x []) (y : Nat))) _ ⟨by simp only; omega, by simp only; omega, by simp [hl], fun v hv => ?_⟩ (by simp only; omega) ?_
        · simp only
          by_cases e : v = x
          · subst e
            have e1 : (g.set v (insV (g.getD v []) (y : Nat))).getD v [] = insV (g.getD v []) (y : Nat) := by simp [List.getD, List.getElem?_set, hl, hv]
            rw [e1, insV_len]
            exact ⟨hgx.1.ins (by omega) (by omega) hxy hny, by omega⟩
          · have e1 : (g.set x (insV (g.getD x []) (y : Nat))).getD v [] = g.getD v [] := by simp [List.getD, List.getElem?_set, Ne.symm e]
            rw [e1]
            exact ⟨(hg v hv).1, by have := (hg v hv).2; omega⟩
        · exact (Wk.forget (by simp [Le, LeE, LeH, get, envIds, hpIds, KeepH, D.ids, idsL, AO.ids, setL, base, tapeC, hf2, encG_setS]))
      · simp only [go_sem, c3, hwk]
        refine ih (i - 1, a + 1 + 1, g) _ ⟨by simp only; omega, by simp only; omega, hl, fun v hv => ⟨(hg v hv).1, by have := (hg v hv).2; simp only; omega⟩⟩ (by simp only; omega) (Wk.forget (by simp [Le, LeE, LeH, get, envIds, hpIds, KeepH, D.ids, idsL, AO.ids, setL, base, tapeC]))
    · simp only [go_sem, tapeC, hx, hy, c2, hwk]
      refine ih (i - 1, a + 1 + 1, g) _ ⟨by simp only; omega, by simp only; omega, hl, fun v hv => ⟨(hg v hv).1, by have := (hg v hv).2; simp only; omega⟩⟩ (by simp only; omega) (Wk.forget (by simp [Le, LeE, LeH, get, envIds, hpIds, KeepH, D.ids, idsL, AO.ids, setL, base, tapeC]))
theorem graph_ok (l : List Int) (at_ most : Nat) (hat : at_ < 100000) (hm : most ≤ 10) :
    ACalls Try.prog 13 [.ptr 1000000 0, .p (.int .i64 (most : Nat))] [(1000000, .box (tapeC l at_))]
      fun h r => ∃ at2 g, at2 ≤ at_ + 90 ∧ g.length ≤ most ∧ (∀ v, v < g.length → GR g.length v (g.getD v [])) ∧ h = [(1000000, .box (tapeC l at2))] ∧ r = .p (.sl (encG g)) := by
  refine (graph_own l at_ most hat hm).seal ?_
  rintro h' r ⟨at2, g, h1, h2, hg, rfl, rfl⟩
  refine borDR_all ?_
  have h3 : (encG g).length = g.length := by simp [encG]
  have h4 : (encG g).take g.length = encG g := by rw [← h3]; exact List.take_length
  unfold tapeC
  simp only [go_sem, h3, h4, Rs.all, retD, List.map_cons, List.map_nil]
  exact ⟨at2, g, h1, h2, hg, rfl, rfl⟩
end Go.Am
end
section
namespace Go.Am
open Go Go.Proofs
set_option maxRecDepth 100000
set_option linter.unusedVariables false
theorem GR.okR {n v : Nat} {r : List Int} (h : GR n v r) : okR n v r := by
  intro i hi
  have e : ∀ j (hj : j < r.length), r.getD j 0 = r[j] := fun j hj => by simp [List.getD, hj]
  obtain ⟨h0, h1, h2⟩ := h.2 _ (List.getElem_mem hi)
  rw [← e i hi] at h0 h1 h2
  have h3 : i = 0 ∨ ¬ r.getD i 0 ≤ r.getD (i - 1) 0 := by
    rcases i with _ | i
    · exact .inl rfl
    · refine .inr ?_
      have := List.pairwise_iff_getElem.1 h.1 i (i + 1) (by omega) hi (by omega)
      rw [e (i + 1) hi, e (i + 1 - 1) (by omega)]
      simp only [Nat.add_sub_cancel]
      omega
  unfold okE
  rw [decide_eq_false (by omega), decide_eq_false (by omega), decide_eq_false h2]
  rcases h3 with h3 | h3
  · rw [decide_eq_true h3]; rfl
  · rw [decide_eq_false h3]; simp
theorem GR.check {g : List (List Int)} {sh : List Bool} (hn : g.length ≤ 24) (hl : sh.length = g.length) (hr : ∀ v, v < g.length → (g.getD v []).length ≤ 2000000) (h : ∀ v, v < g.length → GR g.length v (g.getD v [])) : cCheck_v g sh = some 0 := by
  rw [cCheck_eq g sh hr, if_neg (by omega), if_pos (fun v hv => decide_eq_true (h v hv).okR), if_pos hl]
end Go.Am
end
section
namespace Go.Am
open Go Go.Proofs
set_option maxRecDepth 100000
set_option linter.unusedVariables false
set_option linter.unusedSimpArgs false
structure Gok (g : List (List Int)) (sh : List Bool) : Prop where
  n24 : g.length ≤ 24
  shl : sh.length = g.length
  rng : ∀ v k, k < (g.getD v []).length → ∃ w : Nat, (g.getD v []).getD k 0 = (w : Int) ∧ w < g.length
  rl : ∀ v, (g.getD v []).length ≤ 100000
theorem Gok.mem {g : List (List Int)} {sh : List Bool} (h : Gok g sh) {v : Nat} {y : Int} (hy : y ∈ g.getD v []) : ∃ w : Nat, y = (w : Int) ∧ w < g.length := by
  obtain ⟨k, hk, rfl⟩ := List.mem_iff_getElem.1 hy
  have := h.rng v k hk
  rwa [getD_eq hk] at this
def scF (sh : List Bool) (s : List Int × List Bool) (y : Int) : List Int × List Bool :=
  if sh.getD y.toNat false = false ∧ s.2.getD y.toNat false = false then (s.1 ++ [y], s.2.set y.toNat true) else s
structure ScanR (sh : List Bool) (row : List Int) (s s' : List Int × List Bool) : Prop where
  len : s'.2.length = s.2.length
  mono : ∀ w, s.2.getD w false = true → s'.2.getD w false = true
  new : ∀ w : Nat, s'.2.getD w false = true → s.2.getD w false = true ∨ ((w : Int) ∈ row ∧ sh.getD w false = false ∧ (w : Int) ∈ s'.1)
  sub : ∀ x ∈ s.1, x ∈ s'.1
  add : ∀ x ∈ s'.1, x ∈ s.1 ∨ ∃ w : Nat, x = (w : Int) ∧ s'.2.getD w false = true
  all : ∀ w : Nat, (w : Int) ∈ row → sh.getD w false = false → s'.2.getD w false = true
  cnt : s'.1.length + s'.2.count false = s.1.length + s.2.count false
  tl : s'.1.length ≤ s.1.length + row.length
theorem scan_ok (sh : List Bool) : ∀ (row : List Int) (s : List Int × List Bool), (∀ y ∈ row, ∃ w : Nat, y = (w : Int) ∧ w < s.2.length) → ScanR sh row s (row.foldl (scF sh) s)
  | [], s, _ => ⟨rfl, fun _ h => h, fun _ h => .inl h, fun _ h => h, fun _ h => .inl h, (fun w h => by cases h), rfl, Nat.le_refl _⟩
  | y :: row, s, hr => by
    obtain ⟨w0, rfl, hw0⟩ := hr y (List.mem_cons_self)
    have hlen1 : (scF sh s (w0 : Int)).2.length = s.2.length := by unfold scF; split <;> simp
    have ih := scan_ok sh row (scF sh s (w0 : Int)) (fun y hy => by rw [hlen1]; exact hr y (List.mem_cons_of_mem _ hy))
    rw [List.foldl_cons]
    by_cases hc : sh.getD w0 false = false ∧ s.2.getD w0 false = false
    · have e : scF sh s (w0 : Int) = (s.1 ++ [(w0 : Int)], s.2.set w0 true) := by unfold scF; rw [Int.toNat_natCast, if_pos hc]
      have g0 : ∀ w, (s.2.set w0 true).getD w false = if w = w0 then true else s.2.getD w false := fun w => getD_setx _ _ _ _ _ hw0
      rw [e] at ih ⊢
      refine ⟨by rw [ih.len]; simp, fun w h => ih.mono w (by rw [g0]; split; rfl; exact h), fun w h => ?_, fun x hx => ih.sub x (by simp [hx]), fun x hx => ?_, fun w hw ho => ?_, ?_, ?_⟩
      · rcases ih.new w h with h1 | ⟨h1, h2, h3⟩
        · simp only at h1
          rw [g0] at h1
          by_cases e1 : w = w0
          · subst e1; exact .inr ⟨List.mem_cons_self, hc.1, ih.sub _ (by simp)⟩
          · rw [if_neg e1] at h1; exact .inl h1
        · exact .inr ⟨List.mem_cons_of_mem _ h1, h2, h3⟩
      · rcases ih.add x hx with h1 | h1
        · simp only [List.mem_append, List.mem_singleton] at h1
          rcases h1 with h1 | rfl
          · exact .inl h1
          · exact .inr ⟨w0, rfl, ih.mono w0 (by simp only; rw [g0, if_pos rfl])⟩
        · exact .inr h1
      · rcases List.mem_cons.1 hw with h1 | h1
        · have : w = w0 := by omega
          subst this
          exact ih.mono w (by simp only; rw [g0, if_pos rfl])
        · exact ih.all w h1 ho
      · rw [ih.cnt]
        simp only [List.length_append, List.length_cons, List.length_nil]
        rw [List.count_set hw0]
        have e2 : s.2[w0] = false := by have := hc.2; rwa [getD_eq hw0] at this
        rw [e2]
        have : 0 < s.2.count false := List.count_pos_iff.2 (by rw [← e2]; exact List.getElem_mem hw0)
        simp
        omega
      · have := ih.tl
        simp only [List.length_append, List.length_cons, List.length_nil] at this ⊢
        omega
    · have e : scF sh s (w0 : Int) = s := by unfold scF; rw [Int.toNat_natCast, if_neg hc]
      rw [e] at ih ⊢
      refine ⟨ih.len, ih.mono, fun w h => ?_, ih.sub, ih.add, fun w hw ho => ?_, ih.cnt, ?_⟩
      · rcases ih.new w h with h1 | ⟨h1, h2, h3⟩
        · exact .inl h1
        · exact .inr ⟨List.mem_cons_of_mem _ h1, h2, h3⟩
      · rcases List.mem_cons.1 hw with h1 | h1
        · have : w = w0 := by omega
          subst this
          refine ih.mono w ?_
          cases h9 : s.2.getD w false with
          | true => rfl
          | false => exact absurd ⟨ho, h9⟩ hc
        · exact ih.all w h1 ho
      · have := ih.tl
        simp only [List.length_cons]
        omega
structure SI (g : List (List Int)) (sh : List Bool) (v : Nat) (t : List Int) (m : List Bool) : Prop where
  mn : ∀ w, m.getD w false = true → w < g.length ∧ sh.getD w false = false ∧ Rch g sh v w
  tm : ∀ x ∈ t, ∃ w : Nat, x = (w : Int) ∧ m.getD w false = true
  mv : m.getD v false = true
  cl : ∀ u, m.getD u false = true → (u : Int) ∉ t → ∀ w, Ed g sh u w → m.getD w false = true
  ml : g.length ≤ m.length
theorem SI.step {g : List (List Int)} {sh : List Bool} {v u : Nat} {t t1 : List Int} {m : List Bool} (hg : Gok g sh) (h : SI g sh v t m) (hu : (u : Int) ∈ t) (h1 : ∀ x ∈ t, x = (u : Int) ∨ x ∈ t1) (h2 : ∀ x ∈ t1, x ∈ t) :
    ScanR sh (g.getD u []) (t1, m) ((g.getD u []).foldl (scF sh) (t1, m)) ∧ SI g sh v ((g.getD u []).foldl (scF sh) (t1, m)).1 ((g.getD u []).foldl (scF sh) (t1, m)).2 := by
  have hsc := scan_ok sh (g.getD u []) (t1, m) (fun y hy => by
    obtain ⟨w, e, hw⟩ := hg.mem hy
    exact ⟨w, e, Nat.lt_of_lt_of_le hw h.ml⟩)
  generalize (g.getD u []).foldl (scF sh) (t1, m) = s' at hsc ⊢
  obtain ⟨w0, hw0, hmu⟩ := h.tm _ hu
  have hw0' : w0 = u := by omega
  subst hw0'
  refine ⟨hsc, fun w hw => ?_, fun x hx => ?_, hsc.mono v h.mv, fun u2 hu2 hn w hw => ?_, by rw [hsc.len]; exact h.ml⟩
  · rcases hsc.new w hw with h3 | ⟨h3, h4, _⟩
    · exact h.mn w h3
    · obtain ⟨w2, e, hlt⟩ := hg.mem h3
      have : w2 = w := by omega
      subst this
      exact ⟨hlt, h4, (h.mn _ hmu).2.2.tail ⟨h3, h4⟩⟩
  · rcases hsc.add x hx with h3 | h3
    · obtain ⟨w, e, hw⟩ := h.tm x (h2 x h3)
      exact ⟨w, e, hsc.mono w hw⟩
    · exact h3
  · rcases hsc.new u2 hu2 with h3 | ⟨_, _, h5⟩
    · by_cases hin : (u2 : Int) ∈ t
      · rcases h1 _ hin with h4 | h4
        · have : u2 = w0 := by omega
          subst this
          exact hsc.all w hw.1 hw.2
        · exact absurd (hsc.sub _ h4) hn
      · exact hsc.mono w (h.cl u2 h3 hin w hw)
    · exact absurd h5 hn
theorem SI.done {g : List (List Int)} {sh : List Bool} {v : Nat} {m : List Bool} (h : SI g sh v [] m) (w : Nat) : m.getD w false = true ↔ Rch g sh v w := by
  constructor
  · exact fun hw => (h.mn w hw).2.2
  · intro hr
    induction hr with
    | refl => exact h.mv
    | tail _ e ih => exact h.cl _ ih (by simp) _ e
theorem SI.init {g : List (List Int)} {sh : List Bool} {v n : Nat} (hv : v < g.length) (hn : g.length ≤ n) (ho : sh.getD v false = false) : SI g sh v [(v : Int)] ((List.replicate n false).set v true) := by
  have g0 : ∀ w, ((List.replicate n false).set v true).getD w false = if w = v then true else false := fun w => by
    rw [getD_setx _ _ _ _ _ (by simp; omega)]
    split
    · rfl
    · simp only [List.getD, List.getElem?_replicate]; split <;> rfl
  refine ⟨fun w hw => ?_, fun x hx => ?_, by rw [g0, if_pos rfl], fun u hu hn2 => ?_, by simp; omega⟩
  · rw [g0] at hw
    split at hw
    · rename_i e; subst e; exact ⟨hv, ho, .refl _⟩
    · cases hw
  · simp at hx; exact ⟨v, hx, by rw [g0, if_pos rfl]⟩
  · rw [g0] at hu
    split at hu
    · rename_i e; subst e; exact absurd (by simp) hn2
    · cases hu
theorem foldl_take {α β : Type} (f : β → α → β) (l : List α) (i : Nat) (s : β) (d : α) (h : i < l.length) : (l.take (i + 1)).foldl f s = f ((l.take i).foldl f s) (l.getD i d) := by
  rw [take_snoc l i d h, List.foldl_append]; rfl
end Go.Am
end
section
namespace Go.Am
open Go Go.Proofs
set_option maxRecDepth 100000
set_option maxHeartbeats 2000000
set_option linter.unusedSimpArgs false
set_option linter.unusedVariables false
noncomputable def known05_v  : Option (Bool) :=
  Option.bind (cNames_v [[1], [0, 2], []] [false, false, false]) fun (x1, x2) => Option.bind (cOrd_v [[1], [0, 2], []] [false, false, false]) fun (x4, x5) => Option.bind (cQuot_v [[1], [0, 2], []] [false, false, false]) fun (x7, x8) => cond (decide (x2 = 0)) (cond (decide (x5 = 0)) (cond (decide (x8 = 0)) (Option.bind (sameI_v x1 [0, 0, 2]) fun x13 => cond x13 (Option.bind (sameI_v x4 [0, 2]) fun x16 => cond x16 (Option.bind (sameLs_v x7 [[2], [], []]) fun x19 => some x19) (some false)) (some false)) (some false)) (some false)) (some false)
theorem known05_vok  (r : Bool) (hr : known05_v  = some r) :
    ACalls Try.prog 12 [] [] fun h d => h = [] ∧ d = .p (.bool r) := by
  refine ACalls_X Try.func12 rfl enters12 (by simp [Try.f12]) ?_
  unfold known05_v at hr
  rcases g3 : cNames_v [[1], [0, 2], []] [false, false, false] with _ | ⟨x1, x2⟩
  · simp only [g3, Option.bind_none, reduceCtorEq] at hr
  simp only [g3, Option.bind_some] at hr
  try simp only [go_sem]
  refine Cc_of (cNames_vok [[1], [0, 2], []] [false, false, false] _ g3) ?_
  rintro h' r ⟨rfl, rfl⟩
  rcases g6 : cOrd_v [[1], [0, 2], []] [false, false, false] with _ | ⟨x4, x5⟩
  · simp only [g6, Option.bind_none, reduceCtorEq] at hr
  simp only [g6, Option.bind_some] at hr
  try simp only [go_sem]
  refine Cc_of (cOrd_vok [[1], [0, 2], []] [false, false, false] _ g6) ?_
  rintro h' r ⟨rfl, rfl⟩
  rcases g9 : cQuot_v [[1], [0, 2], []] [false, false, false] with _ | ⟨x7, x8⟩
  · simp only [g9, Option.bind_none, reduceCtorEq] at hr
  simp only [g9, Option.bind_some] at hr
  try simp only [go_sem]
  refine Cc_of (cQuot_vok [[1], [0, 2], []] [false, false, false] _ g9) ?_
  rintro h' r ⟨rfl, rfl⟩
  cases c10 : decide (x2 = 0)
  · simp only [c10, cond_false] at hr
    obtain rfl := Option.some.inj hr
    try simp only [go_sem, c10]
    all_goals (try refine end_pure ?_)
    all_goals (try simp only [go_sem, c10])
    all_goals (try (first | rfl | exact ⟨rfl, rfl⟩ | (simp; done)))
  simp only [c10, cond_true] at hr
  cases c11 : decide (x5 = 0)
  · simp only [c11, cond_false] at hr
    obtain rfl := Option.some.inj hr
    try simp only [go_sem, c10, c11]
    all_goals (try refine end_pure ?_)
    all_goals (try simp only [go_sem, c10, c11])
    all_goals (try (first | rfl | exact ⟨rfl, rfl⟩ | (simp; done)))
  simp only [c11, cond_true] at hr
  cases c12 : decide (x8 = 0)
  · simp only [c12, cond_false] at hr
    obtain rfl := Option.some.inj hr
    try simp only [go_sem, c10, c11, c12]
    all_goals (try refine end_pure ?_)
    all_goals (try simp only [go_sem, c10, c11, c12])
    all_goals (try (first | rfl | exact ⟨rfl, rfl⟩ | (simp; done)))
  simp only [c12, cond_true] at hr
  rcases g14 : sameI_v x1 [0, 0, 2] with _ | x13
  · simp only [g14, Option.bind_none, reduceCtorEq] at hr
  simp only [g14, Option.bind_some] at hr
  try simp only [go_sem, c10, c11, c12]
  refine Cc_bor rfl rfl (sameI_vok x1 [0, 0, 2] _ g14) (by simp [BorL, Bor, ev, get, List.take_of_length_le, encI_takeF, encS_takeF, encT_takeF, encG_takeF, encC_takeF, encL_takeF, encK_takeF, encP_takeF, encI_len, encS_len, encT_len2, encG_len2, encC_len, encL_len, encK_len2, encP_len2, encI_nil, encS_nil, encT_nil, encG_nil, encC_nil, encL_nil, encK_nil, encP_nil] <;> rfl) ?_
  rintro h' r ⟨rfl, rfl⟩
  refine ⟨rfl, rfl, ?_⟩
  cases c15 : x13
  · simp only [c15, cond_false] at hr
    obtain rfl := Option.some.inj hr
    try simp only [go_sem, c10, c11, c12, c15]
    all_goals (try refine end_pure ?_)
    all_goals (try simp only [go_sem, c10, c11, c12, c15])
    all_goals (try (first | rfl | exact ⟨rfl, rfl⟩ | (simp; done)))
  simp only [c15, cond_true] at hr
  rcases g17 : sameI_v x4 [0, 2] with _ | x16
  · simp only [g17, Option.bind_none, reduceCtorEq] at hr
  simp only [g17, Option.bind_some] at hr
  try simp only [go_sem, c10, c11, c12, c15]
  refine Cc_bor rfl rfl (sameI_vok x4 [0, 2] _ g17) (by simp [BorL, Bor, ev, get, List.take_of_length_le, encI_takeF, encS_takeF, encT_takeF, encG_takeF, encC_takeF, encL_takeF, encK_takeF, encP_takeF, encI_len, encS_len, encT_len2, encG_len2, encC_len, encL_len, encK_len2, encP_len2, encI_nil, encS_nil, encT_nil, encG_nil, encC_nil, encL_nil, encK_nil, encP_nil] <;> rfl) ?_
  rintro h' r ⟨rfl, rfl⟩
  refine ⟨rfl, rfl, ?_⟩
  cases c18 : x16
  · simp only [c18, cond_false] at hr
    obtain rfl := Option.some.inj hr
    try simp only [go_sem, c10, c11, c12, c15, c18]
    all_goals (try refine end_pure ?_)
    all_goals (try simp only [go_sem, c10, c11, c12, c15, c18])
    all_goals (try (first | rfl | exact ⟨rfl, rfl⟩ | (simp; done)))
  simp only [c18, cond_true] at hr
  rcases g20 : sameLs_v x7 [[2], [], []] with _ | x19
  · simp only [g20, Option.bind_none, reduceCtorEq] at hr
  simp only [g20, Option.bind_some] at hr
  try simp only [go_sem, c10, c11, c12, c15, c18]
  refine Cc_bor rfl rfl (sameLs_vok x7 [[2], [], []] _ g20) (by simp [BorL, Bor, ev, get, List.take_of_length_le, encI_takeF, encS_takeF, encT_takeF, encG_takeF, encC_takeF, encL_takeF, encK_takeF, encP_takeF, encI_len, encS_len, encT_len2, encG_len2, encC_len, encL_len, encK_len2, encP_len2, encI_nil, encS_nil, encT_nil, encG_nil, encC_nil, encL_nil, encK_nil, encP_nil] <;> rfl) ?_
  rintro h' r ⟨rfl, rfl⟩
  refine ⟨rfl, rfl, ?_⟩
  obtain rfl := Option.some.inj hr
  try simp only [go_sem, c10, c11, c12, c15, c18]
  all_goals (try refine end_pure ?_)
  all_goals (try simp only [go_sem, c10, c11, c12, c15, c18])
  all_goals (try (first | rfl | exact ⟨rfl, rfl⟩ | (simp; done)))
end Go.Am
end
section
namespace Go.Am
open Go Go.Proofs
set_option maxRecDepth 100000
set_option maxHeartbeats 2000000
set_option linter.unusedSimpArgs false
set_option linter.unusedVariables false
theorem encT_setS (l : List Bool) (i : Nat) (x : Bool) : (encT l).set i [.bool x] = encT (l.set i x) := by simp [encT, List.map_set]
theorem encT_lenS (l : List Bool) : (encT l).length = l.length := by simp [encT]
theorem shut_own (l : List Int) (at_ n : Nat) (hat : at_ < 100000) (hn : n ≤ 1000) :
    ACalls Try.prog 14 [.ptr 1000000 0, .p (.int .i64 (n : Nat))] [(1000000, .box (tapeC l at_))]
      fun h r => ∃ at2 sh, at2 ≤ at_ + 10 ∧ sh.length = n ∧ h = [(1000000, .box (tapeC l at2)), (0, .arr 4 1 (encT sh))] ∧ r = .ref 0 0 n n := by
  have h0 : (0 : Int) ≤ ((n : Nat) : Int) := by omega
  have hle : ((n : Nat) : Int) ≤ ((n : Nat) : Int) := Int.le_refl _
  have hl8 : ((n : Nat) : Int) * 1 ≤ 140737488355328 := by omega
  have hl1 : ((n : Nat) : Int) ≤ 140737488355328 := by omega
  refine ACalls_X Try.func14 rfl enters14 (by simp [Try.f14]) ?_
  simp only [go_sem, h0, hle, hl8, hl1, tapeC]
  refine Cc_of ((next_ok l at_ 3 (by omega) (in64_small _ (by omega) (by omega)))) ?_
  rintro h' r ⟨rfl, rfl⟩
  obtain ⟨i0, hi0, hil⟩ := nextV_rng l at_ 3 (by omega)
  simp only [go_sem, tapeC, hi0]
  refine X_loop_inv (fun b : Nat × Nat × List Bool => ⟨[(0, .ptr 1000000 0), (1, .p (.int .i64 (n : Nat))), (5, .ref 8 0 n n), (6, .p (.int .i64 (b.1 : Nat)))], [(8, .arr 4 1 (encT b.2.2)), (1000000, .box (tapeC l b.2.1))], 25⟩)
    (fun b => b.1 ≤ 3 ∧ b.2.1 + b.1 ≤ at_ + 5 ∧ b.2.2.length = n) (fun b => b.1) (i0, at_ + 1, List.replicate n false) ⟨by simp only; omega, by simp only; omega, by simp⟩ (Wk.forget (by simp [Le, LeE, LeH, get, envIds, hpIds, KeepH, D.ids, idsL, AO.ids, setL, base, tapeC])) ?_
  rintro ⟨i, a, sh⟩ m ⟨hi, ha, hl⟩ ih
  simp only at hi ha hl
  cases c1 : decide ((0 : Int) < (i : Nat))
  · simp only [go_sem, c1]
    refine end_own ?_
    simp only [go_sem, c1, tapeC, hl, encT_lenS]
    exact ⟨a, sh, by omega, hl, rfl⟩
  · cases c2 : decide ((0 : Int) < (n : Nat))
    · simp only [go_sem, c1, c2]
      refine end_own ?_
      simp only [go_sem, c1, c2, tapeC, hl, encT_lenS]
      exact ⟨a, sh, by omega, hl, rfl⟩
    · have hn0 : 0 < n := by have := of_decide_eq_true c2; omega
      have hi0 : 0 < i := by have := of_decide_eq_true c1; omega
      simp only [go_sem, c1, c2, tapeC]
      refine Cc_of ((next_ok l a n (by omega) (in64_small _ (by omega) (by omega)))) ?_
      rintro h' r ⟨rfl, rfl⟩
      obtain ⟨v, hv, hvl⟩ := nextV_rng l a n (by omega)
      have hv0 : (0 : Int) ≤ (v : Int) ∧ (v : Int) < ((n : Nat) : Int) := by omega
      have hwk : IntKind.i64.wrap ((i : Int) - 1) = ((i - 1 : Nat) : Int) := by
        simp [IntKind.wrap, IntKind.bits, IntKind.signed]; omega
      have hf := encT_get sh v (by omega)
      have hf2 : (encT sh)[v]?.getD [] = [.bool (sh.getD v false)] := hf
      simp only [go_sem, tapeC, hv, hv0, hl, encT_lenS, hwk, encT_setS, Int.toNat_natCast, hf]
      refine ih (i - 1, a + 1, sh.set v true) _ ⟨by simp only; omega, by simp only; omega, by simp [hl]⟩ (by simp only; omega) (Wk.forget (by simp [Le, LeE, LeH, get, envIds, hpIds, KeepH, D.ids, idsL, AO.ids, setL, base, tapeC, hf2, encT_setS]))
theorem shut_ok (l : List Int) (at_ n : Nat) (hat : at_ < 100000) (hn : n ≤ 1000) :
    ACalls Try.prog 14 [.ptr 1000000 0, .p (.int .i64 (n : Nat))] [(1000000, .box (tapeC l at_))]
      fun h r => ∃ at2 sh, at2 ≤ at_ + 10 ∧ sh.length = n ∧ h = [(1000000, .box (tapeC l at2))] ∧ r = .p (.sl (encT sh)) := by
  refine (shut_own l at_ n hat hn).seal ?_
  rintro h' r ⟨at2, sh, h1, h2, rfl, rfl⟩
  refine borDR_all ?_
  have h3 : (encT sh).length = n := by rw [encT_lenS, h2]
  have h4 : (encT sh).take n = encT sh := by rw [← h3]; exact List.take_length
  unfold tapeC
  simp only [go_sem, h3, h4, Rs.all, retD, List.map_cons, List.map_nil]
  exact ⟨at2, sh, h1, h2, rfl, rfl⟩
end Go.Am
end
section
namespace Go.Am
open Go Go.Proofs
set_option maxRecDepth 100000
set_option linter.unusedVariables false
set_option linter.unusedSimpArgs false
def GraphQ10 (l0 : List Int) (g : List (List Int)) (l : List Int) (a : Int) : Prop := (∃ k : Nat, a = (k : Int) ∧ k ≤ 1000) ∧ g.length ≤ 10 ∧ ∀ v, v < g.length → GR g.length v (g.getD v [])
theorem graph10 (l : List Int) : ACalls Try.prog 13 [.ptr 1000000 0, .p (.int .i64 10)] [(1000000, .box [.p (.sl (encI l)), .p (.int .i64 0)])]
    fun h r => ∃ (g : List (List Int)) (l' : List Int) (a : Int), GraphQ10 l g l' a ∧ h = [(1000000, .box [.p (.sl (encI l')), .p (.int .i64 a)])] ∧ r = .p (.sl (encG g)) := by
  refine (graph_ok l 0 10 (by omega) (by omega)).mono ?_
  rintro h r ⟨a2, g, h1, h2, h3, rfl, rfl⟩
  exact ⟨g, l, (a2 : Int), ⟨⟨a2, rfl, by omega⟩, h2, h3⟩, rfl, rfl⟩
theorem shut10 (l : List Int) (a : Int) {l0 : List Int} {g : List (List Int)} (hq : GraphQ10 l0 g l a) : ACalls Try.prog 14 [.ptr 1000000 0, .p (.int .i64 ((g.length : Nat) : Int))] [(1000000, .box [.p (.sl (encI l)), .p (.int .i64 a)])]
    fun h r => ∃ (sh : List Bool) (l' : List Int) (a' : Int), sh.length = g.length ∧ h = [(1000000, .box [.p (.sl (encI l')), .p (.int .i64 a')])] ∧ r = .p (.sl (encT sh)) := by
  obtain ⟨⟨k, rfl, hk⟩, hg, _⟩ := hq
  refine (shut_ok l k g.length (by omega) (by omega)).mono ?_
  rintro h r ⟨a2, sh, h1, h2, rfl, rfl⟩
  exact ⟨sh, l, (a2 : Int), h2, rfl, rfl⟩
end Go.Am
end
section
namespace Go.Am
open Go Go.Proofs
set_option maxRecDepth 100000
set_option linter.unusedVariables false
set_option linter.unusedSimpArgs false
def Gval (g : List (List Int)) : Prop := g.length ≤ 24 ∧ ∀ v, v < g.length → okR g.length v (g.getD v [])
theorem okR_at {n v : Nat} {r : List Int} (h : okR n v r) {i : Nat} (hi : i < r.length) : 0 ≤ r.getD i 0 ∧ r.getD i 0 < (n : Int) ∧ r.getD i 0 ≠ (v : Int) ∧ (0 < i → r.getD (i - 1) 0 < r.getD i 0) := by
  have := h i hi
  unfold okE at this
  simp only [Bool.and_eq_true, Bool.or_eq_true, Bool.not_eq_true', decide_eq_false_iff_not, decide_eq_true_eq] at this
  obtain ⟨⟨⟨h1, h2⟩, h3⟩, h4⟩ := this
  exact ⟨by omega, by omega, h3, fun h => by omega⟩
theorem okR_ge {n v : Nat} {r : List Int} (h : okR n v r) : ∀ i, i < r.length → (i : Int) ≤ r.getD i 0
  | 0, hi => by have := (okR_at h hi).1; omega
  | i + 1, hi => by
    have h1 := okR_ge h i (by omega)
    have h2 := (okR_at h hi).2.2.2 (by omega)
    have e : i + 1 - 1 = i := rfl
    rw [e] at h2
    omega
theorem okR_len {n v : Nat} {r : List Int} (h : okR n v r) : r.length ≤ n := by
  rcases Nat.eq_zero_or_pos r.length with h0 | h0
  · omega
  · have h1 := okR_ge h (r.length - 1) (by omega)
    have h2 := (okR_at h (i := r.length - 1) (by omega)).2.1
    omega
theorem Gval.ok {g : List (List Int)} {sh : List Bool} (h : Gval g) (hs : sh.length = g.length) : Gok g sh := by
  refine ⟨h.1, hs, fun v k hk => ?_, fun v => ?_⟩
  · by_cases hv : v < g.length
    · have := okR_at (h.2 v hv) hk
      exact ⟨((g.getD v []).getD k 0).toNat, by omega, by omega⟩
    · rw [List.getD, List.getElem?_eq_none (by omega)] at hk; exact absurd hk (Nat.not_lt_zero _)
  · by_cases hv : v < g.length
    · have := okR_len (h.2 v hv); have := h.1; omega
    · rw [List.getD, List.getElem?_eq_none (by omega)]; simp
theorem GR.val {g : List (List Int)} (hn : g.length ≤ 24) (h : ∀ v, v < g.length → GR g.length v (g.getD v [])) : Gval g := ⟨hn, fun v hv => (h v hv).okR⟩
theorem row_mem {g : List (List Int)} {r : List Int} (h : r ∈ g) : ∃ v, v < g.length ∧ g.getD v [] = r := by
  obtain ⟨v, hv, rfl⟩ := List.mem_iff_getElem.1 h
  exact ⟨v, hv, getD_eq hv⟩
theorem Gval.check {g : List (List Int)} {sh : List Bool} (h : Gval g) (hs : sh.length = g.length) : cCheck_v g sh = some 0 := by
  rw [cCheck_eq g sh (fun v hv => by have := okR_len (h.2 v hv); have := h.1; omega), if_neg (by have := h.1; omega), if_pos (fun v hv => decide_eq_true (h.2 v hv)), if_pos hs]
theorem Gval.names {g : List (List Int)} {sh : List Bool} (h : Gval g) (hs : sh.length = g.length) : cNames_v g sh = some (namesV g sh, 0) := by
  unfold cNames_v
  rw [if_pos (fun r hr => by
    obtain ⟨v, hv, rfl⟩ := row_mem hr
    have := okR_len (h.2 v hv); have := h.1; omega), h.check hs]
  rfl
end Go.Am
end
section
namespace Go.Am
open Go Go.Proofs
set_option maxRecDepth 100000
set_option linter.unusedVariables false
set_option linter.unusedSimpArgs false
theorem loopO_cnt {α σ ε : Type} {step : σ → Option (σ ⊕ ε)} (n : Nat) (S : α → Nat → σ) (out : α → ε) (I : Nat → α → Prop)
    (h : ∀ i a, i < n → I i a → ∃ a', step (S a i) = some (.inl (S a' (i + 1))) ∧ I (i + 1) a') (he : ∀ a, I n a → step (S a n) = some (.inr (out a))) (a0 : α) (h0 : I 0 a0) : ∃ a', loopO step (S a0 0) = some (out a') ∧ I n a' := by
  have key : ∀ m i a, i + m = n → I i a → ∃ a', loopO step (S a i) = some (out a') ∧ I n a' := by
    intro m
    induction m with
    | zero =>
      intro i a hi hI
      obtain rfl : i = n := by omega
      exact ⟨a, by rw [loopO_step, he a hI]; rfl, hI⟩
    | succ m ih =>
      intro i a hi hI
      obtain ⟨a', h1, h2⟩ := h i a (by omega) hI
      obtain ⟨a'', h3, h4⟩ := ih (i + 1) a' (by omega) h2
      exact ⟨a'', by rw [loopO_step, h1]; exact h3, h4⟩
  exact key n 0 a0 (by omega) h0
theorem sortV_asc (l : List Int) (h : l.Nodup) : (sortV l).Pairwise (· < ·) := by
  have h1 := foldl_insS_sorted l [] List.Pairwise.nil
  have h2 : (sortV l).Nodup := (sortV_perm l).nodup_iff.2 h
  exact (h1.and h2).imp fun h => by obtain ⟨h3, h4⟩ := h; omega
theorem sIndex_in (l : List Int) (x : Int) (hl : l.length ≤ 1000000) : ∃ j, sIndex_v l x = some j ∧ (0 ≤ j ↔ x ∈ l) := by
  unfold sIndex_v
  have h := loopO_for (step := sIndex_L1 l x) l.length (fun i => ((i : Nat) : Int)) (.inl ((l.length : Nat) : Int)) (fun i => if x = l.getD i 0 then some (.inr ((i : Nat) : Int)) else none) ?_ ?_
  · rw [show (0 : Int) = ((0 : Nat) : Int) from rfl, h, Option.bind_some]
    cases hf : (List.range l.length).findSome? (fun i => if x = l.getD i 0 then some (Sum.inr ((i : Nat) : Int)) else (none : Option (Int ⊕ Int))) with
    | none =>
      refine ⟨-1, rfl, by omega, fun hm => ?_⟩
      obtain ⟨i, hi, rfl⟩ := List.mem_iff_getElem.1 hm
      have := List.findSome?_eq_none_iff.1 hf i (by simpa using hi)
      rw [getD_eq hi, if_pos rfl] at this
      cases this
    | some e =>
      obtain ⟨i, hi, he⟩ := List.exists_of_findSome?_eq_some hf
      have hi : i < l.length := by simpa using hi
      split at he
      · rename_i hx
        cases he
        exact ⟨(i : Int), rfl, fun _ => by rw [hx, getD_eq hi]; exact List.getElem_mem hi, fun _ => by omega⟩
      · cases he
  · intro i hi _
    rw [sIndex_L1_eq, lt_c hi, cond_true, idxO_at l i 0 hi, Option.bind_some]
    by_cases hx : x = l.getD i 0
    · rw [decide_eq_true hx, cond_true, if_pos hx]
    · rw [decide_eq_false hx, cond_false, if_neg hx]; simp only; rw [wrap_sm (by omega)]
  · intro _
    rw [sIndex_L1_eq, lt_n, cond_false]
theorem sCont_at (l : List Int) (x : Int) (hl : l.length ≤ 1000000) : sCont_v l x = some (decide (x ∈ l)) := by
  obtain ⟨j, h1, h2⟩ := sIndex_in l x hl
  unfold sCont_v
  rw [h1, Option.bind_some]
  congr 1
  exact decide_eq_decide.2 h2
theorem Rch.lt {g : List (List Int)} {sh : List Bool} (hg : Gok g sh) {v w : Nat} (h : Rch g sh v w) (hv : v < g.length) : w < g.length := by
  cases h with
  | refl => exact hv
  | tail _ e =>
    obtain ⟨w2, e2, hw2⟩ := hg.mem e.1
    omega
theorem NmsOk.lt {g : List (List Int)} {sh : List Bool} (hg : Gok g sh) {l : List Int} (h : NmsOk g sh l) {v : Nat} (hv : v < g.length) : l.getD v (-1) < (g.length : Int) := by
  cases c : sh.getD v false with
  | true => rw [(h.2 v hv).2 c]; omega
  | false =>
    obtain ⟨_, y, e, h1, _⟩ := (h.2 v hv).1 c
    rw [e]
    have := h1.lt hg hv
    omega
def QE (g : List (List Int)) (nm : List Int) (a b : Int) : Prop := ∃ v k, v < g.length ∧ k < (g.getD v []).length ∧ nm.getD v (-1) = a ∧ nm.getD ((g.getD v []).getD k 0).toNat (-1) = b ∧ 0 ≤ a ∧ 0 ≤ b ∧ a ≠ b
def QEp (g : List (List Int)) (nm : List Int) (V K : Nat) (a b : Int) : Prop := ∃ v k, (v < V ∨ v = V ∧ k < K) ∧ v < g.length ∧ k < (g.getD v []).length ∧ nm.getD v (-1) = a ∧ nm.getD ((g.getD v []).getD k 0).toNat (-1) = b ∧ 0 ≤ a ∧ 0 ≤ b ∧ a ≠ b
def QIn (g : List (List Int)) (nm : List Int) (V K : Nat) (q : List (List Int)) : Prop := q.length = g.length ∧ ∀ a, a < g.length → (q.getD a []).Nodup ∧ ∀ b, b ∈ q.getD a [] ↔ QEp g nm V K (a : Int) b
theorem nodup_bound : ∀ (n : Nat) (l : List Int), l.Nodup → (∀ x ∈ l, 0 ≤ x ∧ x < (n : Int)) → l.length ≤ n
  | 0, l, _, h => by
    cases l with
    | nil => simp
    | cons x r => have := h x (by simp); omega
  | n + 1, l, hn, h => by
    have h1 := nodup_bound n (l.erase (n : Int)) (hn.erase _) (fun x hx => by
      have h2 := h x (List.mem_of_mem_erase hx)
      have h3 : x ≠ (n : Int) := ((List.Nodup.mem_erase_iff hn).1 hx).1
      omega)
    have h4 := List.length_erase (a := (n : Int)) (l := l)
    split at h4 <;> omega
theorem QIn.row {g : List (List Int)} {sh : List Bool} (hg : Gok g sh) {nm : List Int} (hn : NmsOk g sh nm) {V K : Nat} {q : List (List Int)} (h : QIn g nm V K q) {a : Nat} (ha : a < g.length) : (q.getD a []).length ≤ g.length - 1 := by
  obtain ⟨h1, h2⟩ := h.2 a ha
  have hb : ∀ x ∈ q.getD a [], (0 ≤ x ∧ x < (g.length : Int)) ∧ x ≠ (a : Int) := by
    intro x hx
    obtain ⟨v, k, _, hv, hk, _, h3, _, h4, h5⟩ := (h2 x).1 hx
    obtain ⟨w, e, hw⟩ := hg.rng v k hk
    rw [e, Int.toNat_natCast] at h3
    have := hn.lt hg hw
    exact ⟨⟨h4, by omega⟩, fun h => h5 h.symm⟩
  have h6 : ((a : Int) :: q.getD a []).length ≤ g.length := nodup_bound g.length _ (List.nodup_cons.2 ⟨fun hm => (hb _ hm).2 rfl, h1⟩) (fun x hx => by
    rcases List.mem_cons.1 hx with rfl | hx
    · omega
    · exact (hb x hx).1)
  simp only [List.length_cons] at h6
  omega
theorem QEp.succ {g : List (List Int)} {nm : List Int} {V K : Nat} (hV : V < g.length) (hK : K < (g.getD V []).length) (a b : Int) :
    QEp g nm V (K + 1) a b ↔ QEp g nm V K a b ∨ (nm.getD V (-1) = a ∧ nm.getD ((g.getD V []).getD K 0).toNat (-1) = b ∧ 0 ≤ a ∧ 0 ≤ b ∧ a ≠ b) := by
  constructor
  · rintro ⟨v, k, h1, h2⟩
    by_cases h3 : v = V ∧ k = K
    · obtain ⟨rfl, rfl⟩ := h3; exact .inr h2.2.2
    · exact .inl ⟨v, k, by omega, h2⟩
  · rintro (⟨v, k, h1, h2⟩ | h2)
    · exact ⟨v, k, by omega, h2⟩
    · exact ⟨V, K, by omega, hV, hK, h2⟩
theorem QEp.next {g : List (List Int)} {nm : List Int} {V : Nat} (a b : Int) : QEp g nm (V + 1) 0 a b ↔ QEp g nm V (g.getD V []).length a b := by
  constructor
  · rintro ⟨v, k, h1, h2⟩
    by_cases e : v = V
    · subst e; exact ⟨v, k, .inr ⟨rfl, h2.2.1⟩, h2⟩
    · exact ⟨v, k, by omega, h2⟩
  · rintro ⟨v, k, h1, h2⟩
    exact ⟨v, k, by omega, h2⟩
theorem quot_L2 {g : List (List Int)} {sh : List Bool} (hg : Gok g sh) {nm : List Int} (hn : NmsOk g sh nm) (V : Nat) (hV : V < g.length) (q : List (List Int)) (hq : QIn g nm V 0 q) :
    ∃ q', loopO (cQuot_L2 nm (V : Int) (g.getD V [])) (q, 0) = some (q', (((g.getD V []).length : Nat) : Int)) ∧ QIn g nm V (g.getD V []).length q' := by
  refine loopO_cnt (step := cQuot_L2 nm (V : Int) (g.getD V [])) (g.getD V []).length (fun q i => (q, ((i : Nat) : Int))) (fun q => (q, (((g.getD V []).length : Nat) : Int))) (fun K q => QIn g nm V K q) ?_ ?_ q hq
  · intro K q hK hI
    have hrl := hg.rl V
    have h24 := hg.n24
    obtain ⟨w, ew, hw⟩ := hg.rng V K hK
    have hwa := hn.lt hg hV
    have e3 : idxO nm (w : Int) = some (nm.getD w (-1)) := idxO_at nm w (-1) (by rw [hn.1]; exact hw)
    have step := QEp.succ (nm := nm) hV hK
    rw [ew, Int.toNat_natCast] at step
    try dsimp only
    rw [cQuot_L2_eq, lt_c hK, cond_true, idxO_at _ K 0 hK, Option.bind_some, idxO_at nm V (-1) (by rw [hn.1]; exact hV), Option.bind_some, ew, e3, Option.bind_some]
    have same : ¬ (0 ≤ nm.getD V (-1) ∧ 0 ≤ nm.getD w (-1) ∧ nm.getD V (-1) ≠ nm.getD w (-1)) → QIn g nm V (K + 1) q := fun hc => ⟨hI.1, fun a ha => ⟨(hI.2 a ha).1, fun b => by
      rw [(hI.2 a ha).2 b, step]
      constructor
      · exact .inl
      · rintro (h | ⟨h1, h2, h3⟩)
        · exact h
        · exact absurd (by rw [h1, h2]; exact h3) hc⟩⟩
    by_cases c1 : 0 ≤ nm.getD V (-1)
    rotate_left
    · rw [decide_eq_false c1, cond_false, wrap_sm (by omega)]
      exact ⟨q, rfl, same fun h => c1 h.1⟩
    rw [decide_eq_true c1, cond_true]
    by_cases c2 : 0 ≤ nm.getD w (-1)
    rotate_left
    · rw [decide_eq_false c2, cond_false, wrap_sm (by omega)]
      exact ⟨q, rfl, same fun h => c2 h.2.1⟩
    rw [decide_eq_true c2, cond_true]
    by_cases c3 : nm.getD V (-1) = nm.getD w (-1)
    · rw [decide_eq_true c3, cond_true, wrap_sm (by omega)]
      exact ⟨q, rfl, same fun h => h.2.2 c3⟩
    rw [decide_eq_false c3, cond_false]
    obtain ⟨a0, ha0⟩ : ∃ a0 : Nat, nm.getD V (-1) = (a0 : Int) := ⟨(nm.getD V (-1)).toNat, by omega⟩
    generalize hb0 : nm.getD w (-1) = b0 at *
    rw [ha0] at c1 c3 hwa step ⊢
    have ha1 : a0 < g.length := by omega
    have hrow := hI.row hg hn ha1
    rw [idxO_at q a0 [] (by rw [hI.1]; exact ha1), Option.bind_some, sCont_at _ _ (by omega), Option.bind_some]
    by_cases c4 : b0 ∈ q.getD a0 []
    · rw [decide_eq_true c4, cond_true, wrap_sm (by omega)]
      refine ⟨q, rfl, hI.1, fun a ha => ⟨(hI.2 a ha).1, fun b => ?_⟩⟩
      rw [(hI.2 a ha).2 b, step]
      constructor
      · exact .inl
      · rintro (h | ⟨h1, h2, h3⟩)
        · exact h
        · have : a = a0 := by omega
          subst this; subst h2
          exact ((hI.2 a ha).2 _).1 c4
    · rw [decide_eq_false c4, cond_false, decide_eq_true (by omega), cond_true, wrap_sm (by omega), Int.toNat_natCast]
      have gs : ∀ a, (q.set a0 (q.getD a0 [] ++ [b0])).getD a [] = if a = a0 then q.getD a0 [] ++ [b0] else q.getD a [] := fun a => getD_setx _ _ _ _ _ (by rw [hI.1]; exact ha1)
      refine ⟨_, rfl, by simp [hI.1], fun a ha => ?_⟩
      rw [gs]
      by_cases e : a = a0
      · subst e
        rw [if_pos rfl]
        refine ⟨?_, fun b => ?_⟩
        · rw [List.nodup_append]
          exact ⟨(hI.2 a ha).1, by simp, fun x hx y hy => by simp at hy; subst hy; rintro rfl; exact c4 hx⟩
        · rw [List.mem_append, (hI.2 a ha).2 b, step, List.mem_singleton]
          constructor
          · rintro (h | rfl)
            · exact .inl h
            · exact .inr ⟨rfl, rfl, c1, c2, c3⟩
          · rintro (h | ⟨_, h2, _⟩)
            · exact .inl h
            · exact .inr h2.symm
      · rw [if_neg e]
        refine ⟨(hI.2 a ha).1, fun b => ?_⟩
        rw [(hI.2 a ha).2 b, step]
        constructor
        · exact .inl
        · rintro (h | ⟨h1, _⟩)
          · exact h
          · omega
  · intro q _
    try dsimp only
    rw [cQuot_L2_eq, lt_n, cond_false]
theorem quot_L3 {g : List (List Int)} {sh : List Bool} (hg : Gok g sh) {nm : List Int} (hn : NmsOk g sh nm) : ∃ q, loopO (cQuot_L3 g nm) (List.replicate g.length [], 0) = some (q, ((g.length : Nat) : Int)) ∧ QIn g nm g.length 0 q := by
  refine loopO_cnt (step := cQuot_L3 g nm) g.length (fun q i => (q, ((i : Nat) : Int))) (fun q => (q, ((g.length : Nat) : Int))) (fun V q => QIn g nm V 0 q) ?_ ?_ (List.replicate g.length []) ?_
  · intro V q hV hI
    obtain ⟨q', h1, h2⟩ := quot_L2 hg hn V hV q hI
    have h24 := hg.n24
    try dsimp only
    rw [cQuot_L3_eq, lt_c hV, cond_true, idxO_at g V [] hV, Option.bind_some, h1, Option.bind_some]
    try dsimp only
    rw [wrap_sm (by omega)]
    exact ⟨q', rfl, h2.1, fun a ha => ⟨(h2.2 a ha).1, fun b => by rw [(h2.2 a ha).2 b, QEp.next]⟩⟩
  · intro q _
    try dsimp only
    rw [cQuot_L3_eq, lt_n, cond_false]
  · refine ⟨by simp, fun a ha => ?_⟩
    have e : (List.replicate g.length ([] : List Int)).getD a [] = [] := by simp [List.getD, List.getElem?_replicate, ha]
    rw [e]
    refine ⟨List.nodup_nil, fun b => ⟨fun h => (by cases h), ?_⟩⟩
    rintro ⟨v, k, h, _⟩
    omega
def QuoOk (g : List (List Int)) (nm : List Int) (q : List (List Int)) : Prop := q.length = g.length ∧ ∀ a, a < g.length → (q.getD a []).Pairwise (· < ·) ∧ ∀ b, b ∈ q.getD a [] ↔ QE g nm (a : Int) b
theorem quot_at {g : List (List Int)} {sh : List Bool} (hv : Gval g) (hs : sh.length = g.length) (h13 : g.length ≤ 24) : ∃ q, cQuot_v g sh = some (q, 0) ∧ QuoOk g (namesV g sh) q := by
  have hg := hv.ok hs
  have hn := namesV_ok g sh
  have h24 := hg.n24
  obtain ⟨q, h1, h2⟩ := quot_L3 hg hn
  have h3 : ∃ q', loopO (cQuot_L1 q) (q, 0) = some (q', ((q.length : Nat) : Int)) ∧ (q'.length = q.length ∧ ∀ a, a < q.length → q'.getD a [] = if a < q.length then sortV (q.getD a []) else q.getD a []) := by
    refine loopO_cnt (step := cQuot_L1 q) q.length (fun x i => (x, ((i : Nat) : Int))) (fun x => (x, ((q.length : Nat) : Int))) (fun i x => x.length = q.length ∧ ∀ a, a < q.length → x.getD a [] = if a < i then sortV (q.getD a []) else q.getD a []) ?_ ?_ q ⟨rfl, fun a _ => by rw [if_neg (by omega)]⟩
    · rintro i x hi ⟨hl, hx⟩
      have hxi := hx i hi
      rw [if_neg (by omega)] at hxi
      have hrow := h2.row hg hn (a := i) (by rw [h2.1] at hi; exact hi)
      have hql := h2.1
      try dsimp only
      rw [cQuot_L1_eq, lt_c hi, cond_true, idxO_at x i [] (by rw [hl]; exact hi), Option.bind_some, hxi, decide_eq_true (by omega), cond_true, wrap_sm (by omega), Int.toNat_natCast]
      refine ⟨_, rfl, by simp [hl], fun a ha => ?_⟩
      rw [getD_setx _ _ _ _ _ (by rw [hl]; exact hi)]
      by_cases e : a = i
      · subst e; rw [if_pos rfl, if_pos (by omega)]
      · rw [if_neg e, hx a ha]
        by_cases e2 : a < i
        · rw [if_pos e2, if_pos (by omega)]
        · rw [if_neg e2, if_neg (by omega)]
    · intro x _
      try dsimp only
      rw [cQuot_L1_eq, lt_n, cond_false]
  obtain ⟨q', h4, h5, h6⟩ := h3
  unfold cQuot_v
  rw [hv.names hs, Option.bind_some]
  try dsimp only
  rw [decide_eq_true rfl, cond_true, decide_eq_true (by omega), cond_true, h1, Option.bind_some]
  try dsimp only
  rw [h4, Option.bind_some]
  refine ⟨q', rfl, by rw [h5, h2.1], fun a ha => ?_⟩
  have e1 := h6 a (by rw [h2.1]; exact ha)
  rw [if_pos (by rw [h2.1]; exact ha)] at e1
  rw [e1]
  refine ⟨sortV_asc _ (h2.2 a ha).1, fun b => ?_⟩
  rw [(sortV_perm _).mem_iff, (h2.2 a ha).2 b]
  constructor
  · rintro ⟨v, k, _, h⟩; exact ⟨v, k, h⟩
  · rintro ⟨v, k, h⟩; exact ⟨v, k, .inl h.1, h⟩
end Go.Am
end
section
namespace Go.Am
open Go Go.Proofs
set_option maxRecDepth 100000
set_option linter.unusedVariables false
set_option linter.unusedSimpArgs false
theorem countP_one : ∀ (n v : Nat) (p p' : Nat → Bool), v < n → (∀ a, a ≠ v → p' a = p a) → p' v = false → (List.range n).countP p = (List.range n).countP p' + (if p v = true then 1 else 0)
  | 0, v, _, _, h, _, _ => by omega
  | n + 1, v, p, p', h, h1, h2 => by
    rw [List.range_succ, List.countP_append, List.countP_append]
    by_cases e : v = n
    · subst e
      have : (List.range v).countP p = (List.range v).countP p' := List.countP_congr fun a ha => by rw [h1 a (by have := List.mem_range.1 ha; omega)]
      rw [this]
      simp only [List.countP_cons, List.countP_nil, h2]
      cases p v <;> simp
    · rw [countP_one n v p p' (by omega) h1 h2]
      have : [n].countP p = [n].countP p' := by simp only [List.countP_cons, List.countP_nil]; rw [h1 n (fun h => e h.symm)]
      omega
theorem countP_lt {α : Type} {p q : α → Bool} : ∀ (l : List α), (∀ x ∈ l, p x = true → q x = true) → (∃ x ∈ l, q x = true ∧ p x = false) → l.countP p < l.countP q
  | [], _, ⟨x, h, _⟩ => by cases h
  | y :: r, h, ⟨x, hx, h1, h2⟩ => by
    have hm : r.countP p ≤ r.countP q := List.countP_mono_left fun x hx => h x (List.mem_cons_of_mem _ hx)
    simp only [List.countP_cons]
    rcases List.mem_cons.1 hx with rfl | hx
    · rw [h1, h2]; simp; omega
    · have ih := countP_lt r (fun x hx => h x (List.mem_cons_of_mem _ hx)) ⟨x, hx, h1, h2⟩
      cases c : p y with
      | false => simp; omega
      | true => rw [h y (List.mem_cons_self) c]; simp; omega
theorem NmsOk.name {g : List (List Int)} {sh : List Bool} (hg : Gok g sh) {nm : List Int} (hn : NmsOk g sh nm) {v : Nat} (hv : v < g.length) (h0 : 0 ≤ nm.getD v (-1)) :
    ∃ y : Nat, nm.getD v (-1) = (y : Int) ∧ y < g.length ∧ sh.getD v false = false ∧ sh.getD y false = false ∧ nm.getD y (-1) = (y : Int) ∧ y ≤ v ∧ Rch g sh v y ∧ Rch g sh y v := by
  have hvo : sh.getD v false = false := by
    cases c : sh.getD v false with
    | true => have := (hn.2 v hv).2 c; omega
    | false => rfl
  obtain ⟨_, y, e, h1, h2, h3⟩ := (hn.2 v hv).1 hvo
  have hy := h1.lt hg hv
  have hyo : sh.getD y false = false := by
    cases h1 with
    | refl => exact hvo
    | tail _ e => exact e.2
  refine ⟨y, e, hy, hvo, hyo, ?_, h3 v (.refl v) (.refl v), h1, h2⟩
  obtain ⟨_, h4⟩ := (hn.2 y hy).1 hyo
  have h5 : IsNm g sh y (y : Int) := ⟨y, rfl, .refl y, .refl y, fun z hz hz2 => h3 z (h1.trans hz) (hz2.trans h2)⟩
  exact h4.uniq h5
theorem NmsOk.same {g : List (List Int)} {sh : List Bool} {nm : List Int} (hn : NmsOk g sh nm) {v w : Nat} (hv : v < g.length) (hw : w < g.length) (hvo : sh.getD v false = false) (hwo : sh.getD w false = false) (h1 : Rch g sh v w) (h2 : Rch g sh w v) : nm.getD v (-1) = nm.getD w (-1) := by
  obtain ⟨_, y, e, a1, a2, a3⟩ := (hn.2 v hv).1 hvo
  have : IsNm g sh w (y : Int) := ⟨y, rfl, h2.trans a1, a2.trans h1, fun z b1 b2 => a3 z (h1.trans b1) (b2.trans h2)⟩
  rw [e]
  exact this.uniq ((hn.2 w hw).1 hwo).2
theorem QE.rch {g : List (List Int)} {sh : List Bool} (hg : Gok g sh) {nm : List Int} (hn : NmsOk g sh nm) {a b : Int} (h : QE g nm a b) :
    ∃ x y : Nat, a = (x : Int) ∧ b = (y : Int) ∧ x < g.length ∧ y < g.length ∧ nm.getD x (-1) = (x : Int) ∧ nm.getD y (-1) = (y : Int) ∧ sh.getD x false = false ∧ sh.getD y false = false ∧ Rch g sh x y ∧ ¬ Rch g sh y x := by
  obtain ⟨v, k, hv, hk, h1, h2, h3, h4, h5⟩ := h
  obtain ⟨w, ew, hw⟩ := hg.rng v k hk
  rw [ew, Int.toNat_natCast] at h2
  obtain ⟨x, ex, hx, hvo, hxo, hxx, _, vx, xv⟩ := hn.name hg hv (by rw [h1]; exact h3)
  obtain ⟨y, ey, hy, hwo, hyo, hyy, _, wy, yw⟩ := hn.name hg hw (by rw [h2]; exact h4)
  have he : Ed g sh v w := ⟨by rw [← ew, getD_eq hk]; exact List.getElem_mem hk, hwo⟩
  have hxy : Rch g sh x y := (xv.tail he).trans wy
  refine ⟨x, y, by rw [← h1, ex], by rw [← h2, ey], hx, hy, hxx, hyy, hxo, hyo, hxy, fun hyx => h5 ?_⟩
  have := hn.same hx hy hxo hyo hxy hyx
  rw [hxx, hyy] at this
  rw [← h1, ← h2, ex, ey, this]
def Avail (g : List (List Int)) (nm : List Int) (o : List Int) (y : Nat) : Prop := y < g.length ∧ nm.getD y (-1) = (y : Int) ∧ (y : Int) ∉ o ∧ ∀ a, QE g nm a (y : Int) → a ∈ o
def Greedy (g : List (List Int)) (nm : List Int) (o : List Int) : Prop := ∀ pre x suf, o = pre ++ x :: suf → ∃ y : Nat, x = (y : Int) ∧ Avail g nm pre y ∧ ∀ z, z < y → ¬ Avail g nm pre z
def OrdOk (g : List (List Int)) (nm : List Int) (o : List Int) : Prop := Greedy g nm o ∧ ∀ a, a < g.length → nm.getD a (-1) = (a : Int) → (a : Int) ∈ o
theorem Greedy.snoc {g : List (List Int)} {nm o : List Int} (h : Greedy g nm o) {y : Nat} (ha : Avail g nm o y) (hl : ∀ z, z < y → ¬ Avail g nm o z) : Greedy g nm (o ++ [(y : Int)]) := by
  intro pre x suf e
  rcases suf.eq_nil_or_concat with rfl | ⟨s, z, rfl⟩
  · have h1 := List.append_inj' e rfl
    obtain ⟨rfl, h2⟩ := h1
    have : x = (y : Int) := by simpa using h2.symm
    subst this
    exact ⟨y, rfl, ha, hl⟩
  · rw [List.concat_eq_append] at e
    have e2 : o ++ [(y : Int)] = (pre ++ x :: s) ++ [z] := by rw [e]; simp
    have h1 := List.append_inj' e2 rfl
    exact h pre x s h1.1
theorem Greedy.nodup {g : List (List Int)} {nm o : List Int} (h : Greedy g nm o) : o.Nodup := by
  suffices key : ∀ n, n ≤ o.length → (o.take n).Nodup by
    have := key o.length (Nat.le_refl _)
    rwa [List.take_length] at this
  intro n
  induction n with
  | zero => intro _; simp
  | succ n ih =>
    intro hn
    have e : o = o.take n ++ o[n] :: o.drop (n + 1) := by rw [List.getElem_cons_drop, List.take_append_drop]
    obtain ⟨y, e1, ⟨_, _, h2, _⟩, _⟩ := h _ _ _ e
    rw [List.take_succ_eq_append_getElem (by omega), List.nodup_append]
    exact ⟨ih (by omega), by simp, fun a ha b hb => by simp at hb; subst hb; rintro rfl; exact h2 (e1 ▸ ha)⟩
theorem Greedy.mem {g : List (List Int)} {nm o : List Int} (h : Greedy g nm o) {x : Int} (hx : x ∈ o) : ∃ y : Nat, x = (y : Int) ∧ y < g.length ∧ nm.getD y (-1) = (y : Int) := by
  obtain ⟨s, t, rfl⟩ := List.append_of_mem hx
  obtain ⟨y, e, h1, _⟩ := h s x t rfl
  exact ⟨y, e, h1.1, h1.2.1⟩
theorem Greedy.len {g : List (List Int)} {nm o : List Int} (h : Greedy g nm o) : o.length ≤ g.length := nodup_bound _ _ h.nodup fun x hx => by
  obtain ⟨y, e, h1, _⟩ := h.mem hx
  omega
noncomputable def inP (g : List (List Int)) (nm : List Int) (o : List Int) (w a : Nat) : Bool := open Classical in decide ((a : Int) ∉ o ∧ QE g nm (a : Int) (w : Int))
theorem inP_iff {g : List (List Int)} {nm o : List Int} {w a : Nat} : inP g nm o w a = true ↔ (a : Int) ∉ o ∧ QE g nm (a : Int) (w : Int) := by
  unfold inP; simp only [decide_eq_true_eq]
noncomputable def inC (g : List (List Int)) (nm : List Int) (o : List Int) (w : Nat) : Nat := (List.range g.length).countP (inP g nm o w)
theorem inC_le (g : List (List Int)) (nm o : List Int) (w : Nat) : inC g nm o w ≤ g.length := by
  unfold inC
  have := List.countP_le_length (p := inP g nm o w) (l := List.range g.length)
  rwa [List.length_range] at this
theorem inC_zero {g : List (List Int)} {sh : List Bool} (hg : Gok g sh) {nm : List Int} (hn : NmsOk g sh nm) {o : List Int} {w : Nat} : inC g nm o w = 0 ↔ ∀ a, QE g nm a (w : Int) → a ∈ o := by
  unfold inC
  rw [List.countP_eq_zero]
  constructor
  · intro h a ha
    obtain ⟨x, y, rfl, _, hx, _⟩ := ha.rch hg hn
    have := h x (by simpa using hx)
    rw [inP_iff] at this
    by_cases h2 : (x : Int) ∈ o
    · exact h2
    · exact absurd ⟨h2, ha⟩ this
  · intro h a _
    rw [inP_iff]
    rintro ⟨h1, h2⟩
    exact h1 (h _ h2)
open Classical in
theorem inC_snoc {g : List (List Int)} {nm o : List Int} {v w : Nat} (hv : v < g.length) (ho : (v : Int) ∉ o) : inC g nm o w = inC g nm (o ++ [(v : Int)]) w + (if QE g nm (v : Int) (w : Int) then 1 else 0) := by
  unfold inC
  rw [countP_one g.length v (inP g nm o w) (inP g nm (o ++ [(v : Int)]) w) hv ?_ ?_]
  · congr 1
    by_cases h : QE g nm (v : Int) (w : Int)
    · rw [if_pos h, if_pos (inP_iff.2 ⟨ho, h⟩)]
    · rw [if_neg h, if_neg (fun h2 => h (inP_iff.1 h2).2)]
  · intro a ha
    rw [Bool.eq_iff_iff, inP_iff, inP_iff]
    simp only [List.mem_append, List.mem_singleton, not_or]
    constructor
    · rintro ⟨⟨h1, _⟩, h2⟩; exact ⟨h1, h2⟩
    · rintro ⟨h1, h2⟩; exact ⟨⟨h1, by omega⟩, h2⟩
  · cases h : inP g nm (o ++ [(v : Int)]) w v with
    | false => rfl
    | true => exact absurd (by simp) (inP_iff.1 h).1
theorem ord_step (c : Int) (hc : c = 1 ∨ c = -1) {L : List Int → (List Int) × Int → Option (((List Int) × Int) ⊕ ((List Int) × Int))} (row bf : List Int) (n : Nat) (hb : bf.length = n) (hn : n ≤ 24) (hrow : row.Pairwise (· < ·)) (hrl : row.length ≤ 1000) (hr : ∀ y ∈ row, ∃ w : Nat, y = (w : Int) ∧ w < n) (hs : ∀ w, w < n → -1000 ≤ bf.getD w 0 ∧ bf.getD w 0 ≤ 1000)
    (h1 : ∀ (i w : Nat) x, i < row.length → row.getD i 0 = (w : Int) → w < x.length → L row (x, (i : Int)) = some (.inl (x.set w (IntKind.i64.wrap (x.getD w 0 + c)), IntKind.i64.wrap ((i : Int) + 1)))) (h2 : ∀ x, L row (x, (row.length : Int)) = some (.inr (x, (row.length : Int)))) :
    ∃ x, loopO (L row) (bf, 0) = some (x, ((row.length : Nat) : Int)) ∧ x.length = n ∧ ∀ w, w < n → x.getD w 0 = bf.getD w 0 + (if (w : Int) ∈ row then c else 0) := by
  have key : ∃ x, loopO (L row) (bf, 0) = some (x, ((row.length : Nat) : Int)) ∧ (x.length = n ∧ ∀ w, w < n → x.getD w 0 = bf.getD w 0 + (if (w : Int) ∈ row.take row.length then c else 0)) := by
    refine loopO_cnt (step := L row) row.length (fun x i => (x, ((i : Nat) : Int))) (fun x => (x, ((row.length : Nat) : Int))) (fun i x => x.length = n ∧ ∀ w, w < n → x.getD w 0 = bf.getD w 0 + (if (w : Int) ∈ row.take i then c else 0)) ?_ (fun x _ => h2 x) bf ⟨hb, fun w _ => by simp⟩
    rintro i x hi ⟨hl, hx⟩
    obtain ⟨w0, e0, hw0⟩ := hr (row.getD i 0) (by rw [getD_eq hi]; exact List.getElem_mem hi)
    have hnot : (w0 : Int) ∉ row.take i := by
      intro hm
      obtain ⟨j, hj, e⟩ := List.mem_iff_getElem.1 hm
      rw [List.length_take] at hj
      rw [List.getElem_take] at e
      have := List.pairwise_iff_getElem.1 hrow j i (by omega) hi (by omega)
      rw [getD_eq hi] at e0
      omega
    have hx0 := hx w0 hw0
    rw [if_neg hnot] at hx0
    have hs0 := hs w0 hw0
    rw [h1 i w0 x hi e0 (by omega), wrap_sm (by omega), wrap_i64_id (by rcases hc with rfl | rfl <;> omega) (by rcases hc with rfl | rfl <;> omega)]
    refine ⟨_, rfl, by simp [hl], fun w hw => ?_⟩
    rw [getD_setx _ _ _ _ _ (by omega), take_snoc row i 0 hi, e0]
    by_cases e : w = w0
    · subst e; rw [if_pos rfl, if_pos (by simp)]; omega
    · rw [if_neg e, hx w hw]
      have : (w : Int) ∈ row.take i ++ [(w0 : Int)] ↔ (w : Int) ∈ row.take i := by
        simp only [List.mem_append, List.mem_singleton]
        constructor
        · rintro (h | h)
          · exact h
          · omega
        · exact .inl
      simp only [this]
  rw [List.take_length] at key
  obtain ⟨x, k1, k2, k3⟩ := key
  exact ⟨x, k1, k2, k3⟩
def OP (nm bf o : List Int) (v : Nat) : Prop := 0 ≤ nm.getD v (-1) ∧ bf.getD (nm.getD v (-1)).toNat 0 = 0 ∧ nm.getD v (-1) ∉ o
instance (nm bf o : List Int) (v : Nat) : Decidable (OP nm bf o v) := inferInstanceAs (Decidable (_ ∧ _))
theorem findSome_range {β : Type} (f : Nat → Option β) (e : β) : ∀ (n v : Nat), v < n → (∀ u, u < v → f u = none) → f v = some e → (List.range n).findSome? f = some e
  | 0, v, h, _, _ => by omega
  | n + 1, v, h, h1, h2 => by
    rw [List.range_succ, List.findSome?_append]
    by_cases e1 : v = n
    · subst e1
      have : (List.range v).findSome? f = none := by rw [List.findSome?_eq_none_iff]; intro x hx; exact h1 x (by simpa using hx)
      rw [this]; simp [h2]
    · rw [findSome_range f e n v (by omega) h1 h2]; rfl
theorem ord_idx (nm bf o : List Int) (hl : nm.length ≤ 24) (ho : o.length ≤ 1000) (hb : ∀ v, v < nm.length → nm.getD v (-1) < (bf.length : Int)) :
    (g_slices_IndexFunc_v nm bf o = some (-1, bf, o) ∧ ∀ v, v < nm.length → ¬ OP nm bf o v) ∨ ∃ v, v < nm.length ∧ g_slices_IndexFunc_v nm bf o = some ((v : Int), bf, o) ∧ OP nm bf o v ∧ ∀ u, u < v → ¬ OP nm bf o u := by
  have hstep : ∀ v, v < nm.length → g_components_Order_1_v (nm.getD v (-1)) bf o = some (decide (OP nm bf o v), bf, o) := by
    intro v hv
    unfold g_components_Order_1_v
    by_cases c1 : 0 ≤ nm.getD v (-1)
    rotate_left
    · rw [decide_eq_false c1, cond_false, decide_eq_false (show ¬ OP nm bf o v from fun h => c1 h.1)]
    rw [decide_eq_true c1, cond_true]
    have hbv := hb v hv
    obtain ⟨a, ea⟩ : ∃ a : Nat, nm.getD v (-1) = (a : Int) := ⟨(nm.getD v (-1)).toNat, by omega⟩
    have hO : OP nm bf o v ↔ bf.getD a 0 = 0 ∧ (a : Int) ∉ o := by
      unfold OP
      rw [ea, Int.toNat_natCast]
      exact ⟨fun h => h.2, fun h => ⟨by omega, h⟩⟩
    rw [ea, idxO_at bf a 0 (by omega), Option.bind_some]
    by_cases c2 : bf.getD a 0 = 0
    · rw [decide_eq_true c2, cond_true, sCont_at _ _ (by omega), Option.bind_some]
      congr 2
      by_cases c3 : (a : Int) ∈ o
      · rw [decide_eq_true c3, decide_eq_false (fun h => (hO.1 h).2 c3)]; rfl
      · rw [decide_eq_false c3, decide_eq_true (hO.2 ⟨c2, c3⟩)]; rfl
    · rw [decide_eq_false c2, cond_false, decide_eq_false (fun h => c2 (hO.1 h).1)]
  have h := loopO_for (step := g_slices_IndexFunc_L1 nm) nm.length (fun i => (bf, o, ((i : Nat) : Int))) (.inl (bf, o, ((nm.length : Nat) : Int))) (fun i => if OP nm bf o i then some (.inr (((i : Nat) : Int), bf, o)) else none) ?_ ?_
  · unfold g_slices_IndexFunc_v
    rw [show (0 : Int) = ((0 : Nat) : Int) from rfl, h, Option.bind_some]
    by_cases hall : ∀ v, v < nm.length → ¬ OP nm bf o v
    · left
      have : (List.range nm.length).findSome? (fun i => if OP nm bf o i then some (Sum.inr (((i : Nat) : Int), bf, o)) else (none : Option ((List Int × List Int × Int) ⊕ (Int × List Int × List Int)))) = none := by
        rw [List.findSome?_eq_none_iff]
        intro x hx
        rw [if_neg (hall x (by simpa using hx))]
      rw [this]
      exact ⟨rfl, hall⟩
    · right
      have hex : ∃ v, v < nm.length ∧ OP nm bf o v := by
        rcases Classical.not_forall.1 hall with ⟨v, hv⟩
        exact ⟨v, by by_cases h1 : v < nm.length; exact h1; exact absurd (fun h => absurd h h1) hv, by by_cases h2 : OP nm bf o v; exact h2; exact absurd (fun _ => h2) hv⟩
      have hmin : ∀ n, (∃ v, v < n ∧ v < nm.length ∧ OP nm bf o v) → ∃ v, v < nm.length ∧ OP nm bf o v ∧ ∀ u, u < v → ¬ OP nm bf o u := by
        intro n
        induction n with
        | zero => rintro ⟨v, hv, _⟩; omega
        | succ n ih =>
          rintro ⟨v, hv, hvl, hP⟩
          by_cases hx : ∃ u, u < n ∧ u < nm.length ∧ OP nm bf o u
          · exact ih hx
          · refine ⟨v, hvl, hP, fun u hu h9 => hx ⟨u, by omega, by omega, h9⟩⟩
      obtain ⟨v0, hv0, hP0⟩ := hex
      obtain ⟨v, hv, hP, hm⟩ := hmin (v0 + 1) ⟨v0, by omega, hv0, hP0⟩
      refine ⟨v, hv, ?_, hP, hm⟩
      have : (List.range nm.length).findSome? (fun i => if OP nm bf o i then some (Sum.inr (((i : Nat) : Int), bf, o)) else (none : Option ((List Int × List Int × Int) ⊕ (Int × List Int × List Int)))) = some (Sum.inr (((v : Nat) : Int), bf, o)) := by
        exact findSome_range _ _ nm.length v hv (fun u hu => by rw [if_neg (hm u hu)]) (by rw [if_pos hP])
      rw [this]
      rfl
  · intro i hi _
    rw [g_slices_IndexFunc_L1_eq, lt_c hi, cond_true, idxO_at nm i (-1) hi, Option.bind_some, hstep i hi, Option.bind_some]
    dsimp only
    by_cases hP : OP nm bf o i
    · rw [decide_eq_true hP, cond_true, if_pos hP]
    · rw [decide_eq_false hP, cond_false, if_neg hP]; dsimp only; rw [wrap_sm (by omega)]
  · intro _
    rw [g_slices_IndexFunc_L1_eq, lt_n, cond_false]
end Go.Am
end
section
namespace Go.Am
open Go Go.Proofs
set_option maxRecDepth 100000
set_option linter.unusedVariables false
set_option linter.unusedSimpArgs false
theorem ord_L3 (row bf : List Int) (n : Nat) (hb : bf.length = n) (hn : n ≤ 24) (hrow : row.Pairwise (· < ·)) (hrl : row.length ≤ 1000) (hr : ∀ y ∈ row, ∃ w : Nat, y = (w : Int) ∧ w < n) (hs : ∀ w, w < n → -1000 ≤ bf.getD w 0 ∧ bf.getD w 0 ≤ 1000) :
    ∃ x, loopO (cOrd_L3 row) (bf, 0) = some (x, ((row.length : Nat) : Int)) ∧ x.length = n ∧ ∀ w, w < n → x.getD w 0 = bf.getD w 0 + (if (w : Int) ∈ row then 1 else 0) := by
  refine ord_step 1 (.inl rfl) (L := cOrd_L3) row bf n hb hn hrow hrl hr hs ?_ ?_
  · intro i w x hi e hw
    rw [cOrd_L3_eq, lt_c hi, cond_true, idxO_at row i 0 hi, Option.bind_some, e, idxO_at x w 0 hw, Option.bind_some, Int.toNat_natCast]
  · intro x
    rw [cOrd_L3_eq, lt_n, cond_false]
theorem ord_L1 (row bf : List Int) (n : Nat) (hb : bf.length = n) (hn : n ≤ 24) (hrow : row.Pairwise (· < ·)) (hrl : row.length ≤ 1000) (hr : ∀ y ∈ row, ∃ w : Nat, y = (w : Int) ∧ w < n) (hs : ∀ w, w < n → -1000 ≤ bf.getD w 0 ∧ bf.getD w 0 ≤ 1000) :
    ∃ x, loopO (cOrd_L1 row) (bf, 0) = some (x, ((row.length : Nat) : Int)) ∧ x.length = n ∧ ∀ w, w < n → x.getD w 0 = bf.getD w 0 + (if (w : Int) ∈ row then -1 else 0) := by
  refine ord_step (-1) (.inr rfl) (L := cOrd_L1) row bf n hb hn hrow hrl hr hs ?_ ?_
  · intro i w x hi e hw
    rw [cOrd_L1_eq, lt_c hi, cond_true, idxO_at row i 0 hi, Option.bind_some, e, idxO_at x w 0 hw, Option.bind_some, Int.toNat_natCast]
    rfl
  · intro x
    rw [cOrd_L1_eq, lt_n, cond_false]
theorem QuoOk.row {g : List (List Int)} {sh : List Bool} (hg : Gok g sh) {nm : List Int} (hn : NmsOk g sh nm) {q : List (List Int)} (h : QuoOk g nm q) {a : Nat} (ha : a < g.length) : (∀ y ∈ q.getD a [], ∃ w : Nat, y = (w : Int) ∧ w < g.length) ∧ (q.getD a []).length ≤ 24 := by
  have h1 : ∀ y ∈ q.getD a [], ∃ w : Nat, y = (w : Int) ∧ w < g.length := fun y hy => by
    obtain ⟨x, w, _, e, _, hw, _⟩ := (((h.2 a ha).2 y).1 hy).rch hg hn
    exact ⟨w, e, hw⟩
  refine ⟨h1, ?_⟩
  have := nodup_bound g.length (q.getD a []) ((h.2 a ha).1.imp (fun h => by omega)) (fun x hx => by obtain ⟨w, e, hw⟩ := h1 x hx; omega)
  have := hg.n24
  omega
theorem ord_L4 {g : List (List Int)} {sh : List Bool} (hg : Gok g sh) {nm : List Int} (hn : NmsOk g sh nm) {q : List (List Int)} (h : QuoOk g nm q) :
    ∃ x, loopO (cOrd_L4 q) (List.replicate g.length 0, 0) = some (x, ((q.length : Nat) : Int)) ∧ x.length = g.length ∧ ∀ w, w < g.length → x.getD w 0 = (inC g nm [] w : Int) := by
  have h24 := hg.n24
  have key : ∃ x, loopO (cOrd_L4 q) (List.replicate g.length 0, 0) = some (x, ((q.length : Nat) : Int)) ∧ (x.length = g.length ∧ ∀ w, w < g.length → x.getD w 0 = (((List.range q.length).countP (inP g nm [] w) : Nat) : Int)) := by
    refine loopO_cnt (step := cOrd_L4 q) q.length (fun x i => (x, ((i : Nat) : Int))) (fun x => (x, ((q.length : Nat) : Int))) (fun V x => x.length = g.length ∧ ∀ w, w < g.length → x.getD w 0 = (((List.range V).countP (inP g nm [] w) : Nat) : Int)) ?_ ?_ _ ?_
    · rintro V x hV ⟨hl, hx⟩
      have hV2 : V < g.length := by rw [h.1] at hV; exact hV
      obtain ⟨hr1, hr2⟩ := h.row hg hn hV2
      obtain ⟨x', e1, e2, e3⟩ := ord_L3 (q.getD V []) x g.length hl h24 (h.2 V hV2).1 (by omega) hr1 (fun w hw => by
        rw [hx w hw]
        have := List.countP_le_length (p := inP g nm [] w) (l := List.range V)
        rw [List.length_range] at this
        omega)
      try dsimp only
      rw [cOrd_L4_eq, lt_c hV, cond_true, idxO_at q V [] hV, Option.bind_some, e1, Option.bind_some]
      try dsimp only
      rw [wrap_sm (by omega)]
      refine ⟨x', rfl, e2, fun w hw => ?_⟩
      rw [e3 w hw, hx w hw, List.range_succ, List.countP_append]
      have hm : (w : Int) ∈ q.getD V [] ↔ inP g nm [] w V = true := by
        rw [(h.2 V hV2).2, inP_iff]; simp
      simp only [List.countP_cons, List.countP_nil, hm]
      split <;> simp
    · intro x _
      try dsimp only
      rw [cOrd_L4_eq, lt_n, cond_false]
    · refine ⟨by simp, fun w hw => ?_⟩
      simp [List.getD, List.getElem?_replicate, hw]
  obtain ⟨x, k1, k2, k3⟩ := key
  exact ⟨x, k1, k2, fun w hw => by rw [k3 w hw, h.1]; rfl⟩
noncomputable def rchB (g : List (List Int)) (sh : List Bool) (a w : Nat) : Bool := open Classical in decide (Rch g sh w a)
theorem rchB_iff {g : List (List Int)} {sh : List Bool} {a w : Nat} : rchB g sh a w = true ↔ Rch g sh w a := by unfold rchB; simp only [decide_eq_true_eq]
theorem QE.rank {g : List (List Int)} {sh : List Bool} (hg : Gok g sh) {nm : List Int} (hn : NmsOk g sh nm) {x y : Nat} (h : QE g nm (x : Int) (y : Int)) : (List.range g.length).countP (rchB g sh x) < (List.range g.length).countP (rchB g sh y) := by
  obtain ⟨x', y', e1, e2, hx, hy, _, _, _, _, h1, h2⟩ := h.rch hg hn
  obtain rfl : x = x' := by omega
  obtain rfl : y = y' := by omega
  refine countP_lt _ (fun w _ hw => rchB_iff.2 ((rchB_iff.1 hw).trans h1)) ⟨y, by simpa using hy, rchB_iff.2 (.refl y), ?_⟩
  cases c : rchB g sh x y with
  | false => rfl
  | true => exact absurd (rchB_iff.1 c) h2
theorem ord_L2 {g : List (List Int)} {sh : List Bool} (hg : Gok g sh) {nm : List Int} (hn : NmsOk g sh nm) {q : List (List Int)} (h : QuoOk g nm q) (bf : List Int) (hb : bf.length = g.length) (hbf : ∀ w, w < g.length → bf.getD w 0 = (inC g nm [] w : Int)) :
    ∃ o, loopO (cOrd_L2 q nm) (bf, []) = some (o, 0) ∧ OrdOk g nm o := by
  have h24 := hg.n24
  suffices key : ∃ e, loopO (cOrd_L2 q nm) (bf, []) = some e ∧ (e.2 = 0 ∧ OrdOk g nm e.1) by
    obtain ⟨⟨o, z⟩, k1, rfl, k2⟩ := key
    exact ⟨o, k1, k2⟩
  refine loopO_inv (step := cOrd_L2 q nm) (fun s => Greedy g nm s.2 ∧ s.1.length = g.length ∧ ∀ w, w < g.length → s.1.getD w 0 = (inC g nm s.2 w : Int)) (fun s => g.length + 1 - s.2.length) _ ?_ (bf, []) ⟨fun pre x suf e => by simp at e, hb, hbf⟩
  rintro ⟨bf, o⟩ ⟨hG, hb, hbf⟩
  dsimp only at hG hb hbf
  have hlo := hG.len
  have hOP : ∀ v, v < g.length → nm.getD v (-1) = (v : Int) → (OP nm bf o v ↔ Avail g nm o v) := by
    intro v hv e
    unfold OP Avail
    rw [e, Int.toNat_natCast, hbf v hv, ← inC_zero hg hn]
    constructor
    · rintro ⟨_, h2, h3⟩; exact ⟨hv, rfl, h3, by omega⟩
    · rintro ⟨_, _, h3, h4⟩; exact ⟨by omega, by omega, h3⟩
  rw [cOrd_L2_eq]
  rcases ord_idx nm bf o (by rw [hn.1]; exact h24) (by omega) (fun v hv => by rw [hb]; rw [hn.1] at hv; exact hn.lt hg hv) with ⟨e1, hnone⟩ | ⟨v, hv, e1, hP, hmin⟩
  · rw [e1, Option.bind_some]
    try dsimp only
    rw [decide_eq_true (by omega), cond_true]
    refine ⟨_, rfl, rfl, hG, ?_⟩
    have key : ∀ r a, a < g.length → nm.getD a (-1) = (a : Int) → (List.range g.length).countP (rchB g sh a) ≤ r → (a : Int) ∈ o := by
      intro r
      induction r with
      | zero =>
        intro a ha e hr
        have : 0 < (List.range g.length).countP (rchB g sh a) := List.countP_pos_iff.2 ⟨a, by simpa using ha, rchB_iff.2 (.refl a)⟩
        omega
      | succ r ih =>
        intro a ha e hr
        by_cases hm : (a : Int) ∈ o
        · exact hm
        · refine absurd ((hOP a ha e).2 ⟨ha, e, hm, fun p hp => ?_⟩) (hnone a (by rw [hn.1]; exact ha))
          obtain ⟨x, y, rfl, e2, hx, hy, hxx, _, _⟩ := hp.rch hg hn
          have := hp.rank hg hn
          exact ih x hx hxx (by omega)
    exact fun a ha e => key _ a ha e (Nat.le_refl _)
  · have hv2 : v < g.length := by rw [hn.1] at hv; exact hv
    obtain ⟨y, ey, hy, _, _, hyy, hyv, _, _⟩ := hn.name hg hv2 hP.1
    have hvy : y = v := by
      rcases Nat.lt_or_ge y v with h9 | h9
      · refine absurd ?_ (hmin y h9)
        unfold OP at hP ⊢
        rw [ey] at hP
        rw [hyy]
        exact hP
      · omega
    subst hvy
    have hA := (hOP y hv2 hyy).1 hP
    have hG2 := hG.snoc hA (fun z hz hAz => hmin z hz ((hOP z hAz.1 hAz.2.1).2 hAz))
    have hlo2 := hG2.len
    simp only [List.length_append, List.length_cons, List.length_nil] at hlo2
    obtain ⟨hr1, hr2⟩ := h.row hg hn hv2
    obtain ⟨x', e3, e4, e5⟩ := ord_L1 (q.getD y []) bf g.length hb h24 (h.2 y hv2).1 (by omega) hr1 (fun w hw => by rw [hbf w hw]; have := inC_le g nm o w; omega)
    rw [e1, Option.bind_some]
    try dsimp only
    rw [decide_eq_false (by omega), cond_false, idxO_at q y [] (by rw [h.1]; exact hv2), Option.bind_some, e3, Option.bind_some]
    try dsimp only
    rw [decide_eq_true (by omega), cond_true]
    refine ⟨_, rfl, ⟨hG2, e4, fun w hw => ?_⟩, ?_⟩
    · dsimp only
      rw [e5 w hw, hbf w hw, inC_snoc hv2 hA.2.2.1]
      have hm := (h.2 y hv2).2 (w : Int)
      by_cases c : QE g nm (y : Int) (w : Int)
      · rw [if_pos (hm.2 c), if_pos c]; omega
      · rw [if_neg (fun h9 => c (hm.1 h9)), if_neg c]; omega
    · dsimp only
      simp only [List.length_append, List.length_cons, List.length_nil]
      omega
theorem order_at {g : List (List Int)} {sh : List Bool} (hv : Gval g) (hs : sh.length = g.length) (h13 : g.length ≤ 24) : ∃ o, cOrd_v g sh = some (o, 0) ∧ OrdOk g (namesV g sh) o := by
  have hg := hv.ok hs
  have hn := namesV_ok g sh
  have h24 := hg.n24
  obtain ⟨q, h1, h2⟩ := quot_at hv hs h13
  obtain ⟨x, h3, h4, h5⟩ := ord_L4 hg hn h2
  obtain ⟨o, h6, h7⟩ := ord_L2 hg hn h2 x h4 h5
  unfold cOrd_v
  rw [h1, Option.bind_some]
  try dsimp only
  rw [show decide ((0 : Int) = 0) = true from rfl, cond_true, hv.names hs, Option.bind_some]
  try dsimp only
  rw [decide_eq_true (by omega), cond_true, h3, Option.bind_some]
  try dsimp only
  rw [h6, Option.bind_some]
  exact ⟨o, rfl, h7⟩
end Go.Am
end
section
namespace Go.Am
open Go Go.Proofs
set_option maxRecDepth 100000
set_option linter.unusedVariables false
set_option linter.unusedSimpArgs false
theorem ext_getD {α : Type} {a b : List α} (d : α) (hl : a.length = b.length) : a = b ↔ ∀ i, i < a.length → a.getD i d = b.getD i d := by
  constructor
  · rintro rfl _ _; rfl
  · intro h
    apply List.ext_getElem hl
    intro i h1 h2
    have := h i h1
    rwa [getD_eq h1, getD_eq h2] at this
theorem sameI_at (a b : List Int) (ha : a.length ≤ 1000000) : sameI_v a b = some (decide (a = b)) := by
  unfold sameI_v
  by_cases hl : a.length = b.length
  · rw [decide_eq_true (by omega), cond_true]
    have h := loopO_all (step := sameI_L1 a b) a.length (fun i => ((i : Nat) : Int)) (.inl ((a.length : Nat) : Int)) (.inr false) (fun i => decide (a.getD i 0 = b.getD i 0)) ?_ ?_
    · rw [show (0 : Int) = ((0 : Nat) : Int) from rfl, h, Option.bind_some]
      by_cases h2 : ∀ j, j < a.length → decide (a.getD j 0 = b.getD j 0) = true
      · rw [if_pos h2]; dsimp only; rw [decide_eq_true ((ext_getD 0 hl).2 fun i hi => of_decide_eq_true (h2 i hi))]
      · rw [if_neg h2]; dsimp only; rw [decide_eq_false (fun h3 => h2 fun i hi => decide_eq_true ((ext_getD 0 hl).1 h3 i hi))]
    · intro i hi _
      rw [sameI_L1_eq, lt_c hi, cond_true, idxO_at a i 0 hi, Option.bind_some, idxO_at b i 0 (by omega), Option.bind_some]
      by_cases c : a.getD i 0 = b.getD i 0
      · rw [decide_eq_true c, cond_true, wrap_sm (by omega)]; rfl
      · rw [decide_eq_false c, cond_false]; rfl
    · intro _
      rw [sameI_L1_eq, lt_n, cond_false]
  · rw [decide_eq_false (by omega), cond_false, decide_eq_false (fun h => hl (by rw [h]))]
theorem sameLs_at (a b : List (List Int)) (ha : a.length ≤ 1000000) (hr : ∀ i, i < a.length → (a.getD i []).length ≤ 1000000) : sameLs_v a b = some (decide (a = b)) := by
  unfold sameLs_v
  by_cases hl : a.length = b.length
  · rw [decide_eq_true (by omega), cond_true]
    have h := loopO_all (step := sameLs_L1 a b) a.length (fun i => ((i : Nat) : Int)) (.inl ((a.length : Nat) : Int)) (.inr false) (fun i => decide (a.getD i [] = b.getD i [])) ?_ ?_
    · rw [show (0 : Int) = ((0 : Nat) : Int) from rfl, h, Option.bind_some]
      by_cases h2 : ∀ j, j < a.length → decide (a.getD j [] = b.getD j []) = true
      · rw [if_pos h2]; dsimp only; rw [decide_eq_true ((ext_getD [] hl).2 fun i hi => of_decide_eq_true (h2 i hi))]
      · rw [if_neg h2]; dsimp only; rw [decide_eq_false (fun h3 => h2 fun i hi => decide_eq_true ((ext_getD [] hl).1 h3 i hi))]
    · intro i hi _
      rw [sameLs_L1_eq, lt_c hi, cond_true, idxO_at a i [] hi, Option.bind_some, idxO_at b i [] (by omega), Option.bind_some, sameI_at _ _ (hr i hi), Option.bind_some]
      by_cases c : a.getD i [] = b.getD i []
      · rw [decide_eq_true c, cond_true, wrap_sm (by omega)]; rfl
      · rw [decide_eq_false c, cond_false]; rfl
    · intro _
      rw [sameLs_L1_eq, lt_n, cond_false]
  · rw [decide_eq_false (by omega), cond_false, decide_eq_false (fun h => hl (by rw [h]))]
def gK : List (List Int) := [[1], [0, 2], []]
def sK : List Bool := [false, false, false]
theorem gK_val : Gval gK := ⟨by decide, by decide⟩
theorem rchK2 {z : Nat} (h : Rch gK sK 2 z) : z = 2 := by
  generalize h2 : 2 = u at h
  induction h with
  | refl => rfl
  | tail _ e ih =>
    subst h2
    rw [ih] at e
    have h1 := e.1
    simp [gK, List.getD] at h1
theorem nmK : namesV gK sK = [0, 0, 2] := by
  refine namesV_eq ⟨rfl, ?_⟩
  have e01 : Rch gK sK 0 1 := (Rch.refl 0).tail ⟨by decide, by decide⟩
  have e10 : Rch gK sK 1 0 := (Rch.refl 1).tail ⟨by decide, by decide⟩
  intro v hv
  have hv3 : v < 3 := hv
  match v, hv3 with
  | 0, _ => exact ⟨fun _ => ⟨by decide, 0, rfl, .refl 0, .refl 0, fun z _ _ => Nat.zero_le z⟩, fun h => by cases h⟩
  | 1, _ => exact ⟨fun _ => ⟨by decide, 0, rfl, e10, e01, fun z _ _ => Nat.zero_le z⟩, fun h => by cases h⟩
  | 2, _ => exact ⟨fun _ => ⟨by decide, 2, rfl, .refl 2, .refl 2, fun z h _ => by rw [rchK2 h]; exact Nat.le_refl _⟩, fun h => by cases h⟩
theorem qeK (a b : Int) : QE gK [0, 0, 2] a b ↔ a = 0 ∧ b = 2 := by
  constructor
  · rintro ⟨v, k, hv, hk, h1, h2, h3, h4, h5⟩
    have hv3 : v < 3 := hv
    match v, hv3 with
    | 0, _ =>
      have hk1 : k < 1 := hk
      obtain rfl : k = 0 := by omega
      simp [gK, List.getD] at h1 h2
      omega
    | 1, _ =>
      have hk1 : k < 2 := hk
      match k, hk1 with
      | 0, _ => simp [gK, List.getD] at h1 h2; omega
      | 1, _ => simp [gK, List.getD] at h1 h2; omega
    | 2, _ => have hk1 : k < 0 := hk; omega
  · rintro ⟨rfl, rfl⟩
    exact ⟨1, 1, by decide, by decide, by decide, by decide, by decide, by decide, by decide⟩
theorem quoK {q : List (List Int)} (h : QuoOk gK [0, 0, 2] q) : q = [[2], [], []] := by
  obtain ⟨h1, h2⟩ := h
  match q, h1 with
  | [a, b, c], _ =>
    have ha := h2 0 (by decide)
    have hb := h2 1 (by decide)
    have hc := h2 2 (by decide)
    simp only [qeK] at ha hb hc
    have eb : b = [] := List.eq_nil_iff_forall_not_mem.2 fun x hx => by have := (hb.2 x).1 hx; omega
    have ec : c = [] := List.eq_nil_iff_forall_not_mem.2 fun x hx => by have := (hc.2 x).1 hx; omega
    have ea : a = [2] := by
      have hm : ∀ x, x ∈ a ↔ x = 2 := fun x => by have := ha.2 x; simp only [List.getD_cons_zero] at this; rw [this]; simp
      have hp := ha.1
      simp only [List.getD_cons_zero] at hp
      match a with
      | [] => exact absurd ((hm 2).2 rfl) (by simp)
      | [x] => rw [(hm x).1 (by simp)]
      | x :: y :: r =>
        have e1 := (hm x).1 (by simp)
        have e2 := (hm y).1 (by simp)
        have := (List.pairwise_cons.1 hp).1 y (by simp)
        omega
    rw [ea, eb, ec]
theorem ordK {o : List Int} (h : OrdOk gK [0, 0, 2] o) : o = [0, 2] := by
  obtain ⟨hG, hA⟩ := h
  have h0 := hA 0 (by decide) (by decide)
  have h2 := hA 2 (by decide) (by decide)
  have hnd := hG.nodup
  have hel : ∀ x ∈ o, x = 0 ∨ x = 2 := fun x hx => by
    obtain ⟨y, rfl, hy, e⟩ := hG.mem hx
    have hy3 : y < 3 := hy
    match y, hy3 with
    | 0, _ => exact .inl rfl
    | 1, _ => simp [List.getD] at e
    | 2, _ => exact .inr rfl
  match o with
  | [] => simp at h0
  | [x] => simp at h0 h2; omega
  | [x, y] =>
    obtain ⟨z, rfl, hz, _⟩ := hG [] x [y] rfl
    have hx := hel (z : Int) (by simp)
    have hy := hel y (by simp)
    have hz2 : (z : Int) ≠ 2 := fun e => by
      have := hz.2.2.2 0 ((qeK 0 z).2 ⟨rfl, e⟩)
      simp at this
    have hne : (z : Int) ≠ y := fun e => by subst e; simp at hnd
    have e1 : (z : Int) = 0 := by omega
    have e2 : y = 2 := by omega
    rw [e1, e2]
  | x :: y :: w :: r =>
    have hx := hel x (by simp)
    have hy := hel y (by simp)
    have hw := hel w (by simp)
    simp only [List.nodup_cons, List.mem_cons, not_or] at hnd
    omega
theorem known05_at : known05_v = some true := by
  obtain ⟨q, h1, h2⟩ := quot_at gK_val (sh := sK) rfl (by decide)
  obtain ⟨o, h3, h4⟩ := order_at gK_val (sh := sK) rfl (by decide)
  have h5 := gK_val.names (sh := sK) rfl
  rw [nmK] at h2 h4 h5
  rw [quoK h2] at h1
  rw [ordK h4] at h3
  unfold known05_v
  have h1' : cQuot_v [[1], [0, 2], []] [false, false, false] = some ([[2], [], []], 0) := h1
  have h3' : cOrd_v [[1], [0, 2], []] [false, false, false] = some ([0, 2], 0) := h3
  have h5' : cNames_v [[1], [0, 2], []] [false, false, false] = some ([0, 0, 2], 0) := h5
  rw [h5', Option.bind_some]
  dsimp only
  rw [h3', Option.bind_some]
  dsimp only
  rw [h1', Option.bind_some]
  dsimp only
  rw [sameI_at _ _ (by decide), sameI_at _ _ (by decide), sameLs_at _ _ (by decide) (by decide)]
  rfl
theorem known05_ok : ACalls Try.prog 12 [] [] fun h d => h = [] ∧ d = .p (.bool true) := known05_vok true known05_at
end Go.Am
end
section
namespace Go.Am
open Go Go.Proofs
set_option maxRecDepth 100000
set_option linter.unusedVariables false
set_option linter.unusedSimpArgs false
theorem reach_L1 (g : List (List Int)) (sh : List Bool) (u : Nat) (hu : u < g.length) (t : List Int) (m : List Bool) (hm : m.length = sh.length) (hr : ∀ y ∈ g.getD u [], ∃ w : Nat, y = (w : Int) ∧ w < sh.length) (hl : (g.getD u []).length ≤ 100000) (hb : t.length + m.count false ≤ 100) :
    loopO (qReach_L1 g sh (u : Int)) (t, m, 0) = some (((g.getD u []).foldl (scF sh) (t, m)).1, ((g.getD u []).foldl (scF sh) (t, m)).2, (((g.getD u []).length : Nat) : Int)) := by
  have hg : idxO g (u : Int) = some (g.getD u []) := idxO_at g u [] hu
  generalize g.getD u [] = row at hr hl hg ⊢
  have hr' : ∀ y ∈ row, ∃ w : Nat, y = (w : Int) ∧ w < (t, m).2.length := fun y hy => by
    obtain ⟨w, e, hw⟩ := hr y hy; exact ⟨w, e, by simp only; omega⟩
  have h := loopO_thru (step := qReach_L1 g sh (u : Int)) row.length (fun i => (((row.take i).foldl (scF sh) (t, m)).1, ((row.take i).foldl (scF sh) (t, m)).2, ((i : Nat) : Int)))
    ((row.foldl (scF sh) (t, m)).1, (row.foldl (scF sh) (t, m)).2, ((row.length : Nat) : Int)) ?_ ?_
  · simpa using h
  · intro i hi
    have hsc := scan_ok sh (row.take i) (t, m) (fun y hy => hr' y (List.mem_of_mem_take hy))
    have e1 := foldl_take (scF sh) row i (t, m) 0 hi
    rw [e1]
    generalize (row.take i).foldl (scF sh) (t, m) = s at hsc ⊢
    have l1 := hsc.len
    have l2 := hsc.cnt
    simp only at l1 l2
    obtain ⟨w, ew, hw⟩ := hr (row.getD i 0) (by rw [getD_eq hi]; exact List.getElem_mem hi)
    rw [qReach_L1_eq, hg, Option.bind_some, lt_c hi, cond_true, idxO_at row i 0 hi, Option.bind_some, ew, idxO_at sh w false hw, Option.bind_some]
    unfold scF
    rw [Int.toNat_natCast]
    cases c1 : sh.getD w false
    · rw [cond_false, idxO_at s.2 w false (by omega), Option.bind_some]
      cases c2 : s.2.getD w false
      · rw [cond_false, decide_eq_true (by omega), cond_true, wrap_sm (by omega)]; simp
      · rw [cond_true, wrap_sm (by omega)]; simp
    · rw [cond_true, wrap_sm (by omega)]; simp
  · simp only [List.take_length]
    rw [qReach_L1_eq, hg, Option.bind_some, lt_n, cond_false]
theorem reach_L2 {g : List (List Int)} {sh : List Bool} (hg : Gok g sh) {v : Nat} (t : List Int) (m : List Bool) (hm : m.length = g.length) (h : SI g sh v t m) (hb : t.length + m.count false ≤ 30) :
    ∃ m', loopO (qReach_L2 g sh) (t, m) = some m' ∧ m'.length = g.length ∧ SI g sh v [] m' := by
  refine loopO_inv (step := qReach_L2 g sh) (fun s => s.2.length = g.length ∧ SI g sh v s.1 s.2 ∧ s.1.length + s.2.count false ≤ 30) (fun s => s.1.length + s.2.count false) _ ?_ (t, m) ⟨hm, h, hb⟩
  clear h hb hm t m
  rintro ⟨t, m⟩ ⟨hm, h, hb⟩
  simp only at hm h hb
  rcases t with _ | ⟨x, t1⟩
  · exact ⟨_, qReach_L2_nil g sh m, hm, h⟩
  obtain ⟨u, rfl, hmu⟩ := h.tm x (by simp)
  have hu := (h.mn u hmu).1
  obtain ⟨hsc, hsi⟩ := h.step hg (t1 := t1) (u := u) (by simp) (fun x hx => by simpa using hx) (fun x hx => by simp [hx])
  simp only [List.length_cons] at hb
  have hc := hsc.cnt
  simp only at hc
  rw [qReach_L2_cons, reach_L1 g sh u hu t1 m (by rw [hm, hg.shl]) (fun y hy => by rw [hg.shl]; exact hg.mem hy) (hg.rl u) (by omega), Option.bind_some]
  refine ⟨_, rfl, ⟨by simp only; rw [hsc.len]; exact hm, hsi, ?_⟩, ?_⟩
  · dsimp only; omega
  · dsimp only; simp only [List.length_cons]; omega
theorem reach_at {g : List (List Int)} {sh : List Bool} (hg : Gok g sh) (v : Nat) (hv : v < g.length) : ∃ m, qReach_v g sh (v : Int) = some m ∧ m.length = g.length ∧ ∀ w, m.getD w false = true ↔ sh.getD v false = false ∧ Rch g sh v w := by
  unfold qReach_v
  have h24 := hg.n24
  rw [decide_eq_true (by omega), cond_true, idxO_at sh v false (by rw [hg.shl]; exact hv), Option.bind_some]
  have r0 : ∀ w, (List.replicate g.length false).getD w false = false := fun w => by simp only [List.getD, List.getElem?_replicate]; split <;> rfl
  cases c : sh.getD v false
  · rw [cond_false, idxO_at _ v false (by simp; omega), Option.bind_some, Int.toNat_natCast]
    obtain ⟨m', h1, h2, h3⟩ := reach_L2 hg [(v : Int)] ((List.replicate g.length false).set v true) (by simp) (SI.init hv (Nat.le_refl _) c) (by
      have := List.count_le_length (a := false) (l := (List.replicate g.length false).set v true)
      simp only [List.length_set, List.length_replicate] at this
      simp only [List.length_cons, List.length_nil]; omega)
    rw [h1]
    exact ⟨m', rfl, h2, fun w => by rw [h3.done w]; simp⟩
  · exact ⟨_, rfl, by simp, fun w => by rw [r0]; simp⟩
theorem qVal_row (g : List (List Int)) (v : Nat) (hv : v < g.length) (hr : (g.getD v []).length ≤ 2000000) : loopO (qVal_L1 g (v : Int)) 0 = some (if okR g.length v (g.getD v []) then .inl (((g.getD v []).length : Nat) : Int) else .inr false) := by
  have hg : idxO g (v : Int) = some (g.getD v []) := idxO_at g v [] hv
  generalize g.getD v [] = r at hr hg ⊢
  have h := loopO_all (step := qVal_L1 g (v : Int)) r.length (fun i => ((i : Nat) : Int)) (.inl ((r.length : Nat) : Int)) (.inr false) (okE g.length v r) ?_ ?_
  · simpa [okR] using h
  · intro i hi _
    rw [qVal_L1_eq, hg, Option.bind_some, lt_c hi, cond_true, idxO_at r i 0 hi, Option.bind_some]
    unfold okE
    cases c1 : decide (r.getD i 0 < 0)
    · cases c2 : decide ((g.length : Int) ≤ r.getD i 0)
      · cases c3 : decide (r.getD i 0 = (v : Int))
        · rcases i with _ | i
          · have c4 : decide (0 < (((0 : Nat) : Int))) = false := by decide
            simp only [cond_false, c4]
            rw [wrap_sm (by omega)]
            simp
          · have c4 : decide (0 < (((i + 1 : Nat) : Int))) = true := decide_eq_true (by omega)
            have e1 : IntKind.i64.wrap (((i + 1 : Nat) : Int) - 1) = ((i : Nat) : Int) := by
              simp [IntKind.wrap, IntKind.bits, IntKind.signed]; omega
            simp only [cond_false, cond_true, c4, e1]
            rw [idxO_at r i 0 (by omega), Option.bind_some, wrap_sm (by omega)]
            have e2 : i + 1 - 1 = i := rfl
            rw [e2]
            cases c5 : decide (r.getD (i + 1) 0 ≤ r.getD i 0) <;> simp
        · simp
      · simp
    · simp
  · intro _
    rw [qVal_L1_eq, hg, Option.bind_some, lt_n, cond_false]
theorem qVal_at (g : List (List Int)) (hr : ∀ v, v < g.length → (g.getD v []).length ≤ 2000000) : qVal_v g = some (decide (g.length ≤ 24 ∧ ∀ v, v < g.length → okR g.length v (g.getD v []))) := by
  unfold qVal_v
  by_cases h1 : 24 < ((g.length : Nat) : Int)
  · rw [decide_eq_true h1, cond_true, decide_eq_false (by omega)]
  · rw [decide_eq_false h1, cond_false]
    have h := loopO_all (step := qVal_L2 g) g.length (fun i => ((i : Nat) : Int)) (.inl ((g.length : Nat) : Int)) (.inr false) (fun v => decide (okR g.length v (g.getD v []))) ?_ ?_
    · rw [show (0 : Int) = ((0 : Nat) : Int) from rfl, h, Option.bind_some]
      by_cases h2 : ∀ v, v < g.length → decide (okR g.length v (g.getD v [])) = true
      · rw [if_pos h2, decide_eq_true ⟨by omega, fun v hv => of_decide_eq_true (h2 v hv)⟩]
      · rw [if_neg h2, decide_eq_false (fun h3 => h2 fun v hv => decide_eq_true (h3.2 v hv))]
    · intro v hv _
      rw [qVal_L2_eq, lt_c hv, cond_true, qVal_row g v hv (hr v hv), Option.bind_some]
      by_cases h2 : okR g.length v (g.getD v [])
      · rw [if_pos h2, if_pos (decide_eq_true h2)]; simp only; rw [wrap_sm (by omega)]
      · rw [if_neg h2, if_neg (by rw [decide_eq_false h2]; simp)]
    · intro _
      rw [qVal_L2_eq, lt_n, cond_false]
theorem qChk_cCheck (g : List (List Int)) (sh : List Bool) (hr : ∀ v, v < g.length → (g.getD v []).length ≤ 2000000) : qChk_v g sh = cCheck_v g sh := by
  unfold qChk_v
  rw [qVal_at g hr, Option.bind_some, cCheck_eq g sh hr]
  by_cases h1 : 24 < g.length
  · rw [if_pos h1, decide_eq_false (by omega), cond_false]
  · rw [if_neg h1]
    by_cases h2 : ∀ v, v < g.length → okR g.length v (g.getD v [])
    · rw [decide_eq_true ⟨by omega, h2⟩, cond_true, if_pos (fun v hv => decide_eq_true (h2 v hv))]
      by_cases h3 : sh.length = g.length
      · rw [if_pos h3, decide_eq_true (by omega), cond_true]
      · rw [if_neg h3, decide_eq_false (by omega), cond_false]
    · rw [decide_eq_false (fun h => h2 h.2), cond_false, if_neg (fun h => h2 fun v hv => of_decide_eq_true (h v hv))]
theorem check_zero {g : List (List Int)} {sh : List Bool} (hr : ∀ v, v < g.length → (g.getD v []).length ≤ 2000000) (h : cCheck_v g sh = some 0) : Gval g ∧ sh.length = g.length := by
  rw [cCheck_eq g sh hr] at h
  have h := Option.some.inj h
  split at h
  · cases h
  rename_i h1
  split at h
  case isFalse => cases h
  rename_i h2
  split at h
  case isFalse => cases h
  rename_i h3
  exact ⟨⟨by omega, fun v hv => of_decide_eq_true (h2 v hv)⟩, h3⟩
theorem check_some (g : List (List Int)) (sh : List Bool) (hr : ∀ v, v < g.length → (g.getD v []).length ≤ 2000000) : ∃ e, cCheck_v g sh = some e := ⟨_, cCheck_eq g sh hr⟩
def RsOk (g : List (List Int)) (sh : List Bool) (n : Nat) (rs : List (List Bool)) : Prop := rs.length = n ∧ ∀ v, v < n → (rs.getD v []).length = g.length ∧ ∀ w, (rs.getD v []).getD w false = true ↔ sh.getD v false = false ∧ Rch g sh v w
theorem qNames_L3_at {g : List (List Int)} {sh : List Bool} (hg : Gok g sh) : ∃ rs, loopO (qNames_L3 g sh) ([], 0) = some (rs, ((g.length : Nat) : Int)) ∧ RsOk g sh g.length rs := by
  have h24 := hg.n24
  refine loopO_cnt (step := qNames_L3 g sh) g.length (fun rs i => (rs, ((i : Nat) : Int))) (fun rs => (rs, ((g.length : Nat) : Int))) (fun i rs => RsOk g sh i rs) ?_ ?_ [] ⟨rfl, fun v hv => absurd hv (Nat.not_lt_zero _)⟩
  · rintro i rs hi ⟨hl, hI⟩
    obtain ⟨m, h1, h2, h3⟩ := reach_at hg i hi
    try dsimp only
    rw [qNames_L3_eq, lt_c hi, cond_true, h1, Option.bind_some, decide_eq_true (by omega), cond_true, wrap_sm (by omega)]
    refine ⟨_, rfl, by simp [hl], fun v hv => ?_⟩
    by_cases e : v = i
    · have e2 : (rs ++ [m]).getD v [] = m := by rw [List.getD, List.getElem?_append_right (by omega), show v - rs.length = 0 by omega]; rfl
      rw [e2, e]; exact ⟨h2, h3⟩
    · have e2 : (rs ++ [m]).getD v [] = rs.getD v [] := by rw [List.getD, List.getElem?_append_left (by omega)]; rfl
      rw [e2]; exact hI v (by omega)
  · intro rs _
    try dsimp only
    rw [qNames_L3_eq, lt_n, cond_false]
def Mu (g : List (List Int)) (sh : List Bool) (v u : Nat) : Prop := (sh.getD v false = false ∧ Rch g sh v u) ∧ (sh.getD u false = false ∧ Rch g sh u v)
theorem qNames_L1_at {g : List (List Int)} {sh : List Bool} (hg : Gok g sh) {rs : List (List Bool)} (hrs : RsOk g sh g.length rs) (V : Nat) (hV : V < g.length) (o : List Int) (ho : o.length = g.length) :
    ∃ x j, loopO (qNames_L1 rs (V : Int)) (o.set V (-1), 0) = some (o.set V x, j) ∧ ((x = -1 ∧ ∀ u, u ≤ V → ¬ Mu g sh V u) ∨ ∃ u : Nat, x = (u : Int) ∧ u ≤ V ∧ Mu g sh V u ∧ ∀ z, z < u → ¬ Mu g sh V z) := by
  have h24 := hg.n24
  have hlV := (hrs.2 V hV).1
  suffices key : ∃ e, loopO (qNames_L1 rs (V : Int)) (o.set V (-1), 0) = some e ∧ ∃ x, e.1 = o.set V x ∧ ((x = -1 ∧ ∀ u, u ≤ V → ¬ Mu g sh V u) ∨ ∃ u : Nat, x = (u : Int) ∧ u ≤ V ∧ Mu g sh V u ∧ ∀ z, z < u → ¬ Mu g sh V z) by
    obtain ⟨⟨o', j⟩, h1, x, h2, h3⟩ := key
    dsimp only at h2
    exact ⟨x, j, by rw [h1, h2], h3⟩
  refine loopO_inv (step := qNames_L1 rs (V : Int)) (fun s => ∃ (w : Nat) (x : Int), s = (o.set V x, (w : Int)) ∧ w ≤ V + 1 ∧ ((x = -1 ∧ ∀ u, u < w → ¬ Mu g sh V u) ∨ ∃ u : Nat, x = (u : Int) ∧ u < w ∧ Mu g sh V u ∧ ∀ z, z < u → ¬ Mu g sh V z)) (fun s => V + 1 - s.2.toNat) _ ?_ _ ⟨0, -1, rfl, by omega, .inl ⟨rfl, fun u hu => absurd hu (Nat.not_lt_zero _)⟩⟩
  rintro _ ⟨w, x, rfl, hw, hx⟩
  have hget : (o.set V x).getD V 0 = x := by rw [getD_setx _ _ _ _ _ (by omega), if_pos rfl]
  have hset : ∀ y, (o.set V x).set V y = o.set V y := fun y => by simp
  rw [qNames_L1_eq]
  by_cases c1 : (w : Int) ≤ (V : Int)
  rotate_left
  · rw [decide_eq_false c1, cond_false]
    refine ⟨_, rfl, x, rfl, ?_⟩
    rcases hx with ⟨rfl, h⟩ | ⟨u, rfl, h1, h2⟩
    · exact .inl ⟨rfl, fun u hu => h u (by omega)⟩
    · exact .inr ⟨u, rfl, by omega, h2⟩
  rw [decide_eq_true c1, cond_true, idxO_at (o.set V x) V 0 (by simp; omega), Option.bind_some, hget]
  rcases hx with ⟨rfl, h⟩ | ⟨u, rfl, h1, h2⟩
  rotate_left
  · rw [decide_eq_false (by omega), cond_false]
    exact ⟨_, rfl, _, rfl, .inr ⟨u, rfl, by omega, h2⟩⟩
  have hwl : w < g.length := by omega
  have hlw := (hrs.2 w hwl).1
  have ew : IntKind.i64.wrap ((w : Int) + 1) = ((w + 1 : Nat) : Int) := wrap_sm (by omega)
  rw [decide_eq_true (show (-1 : Int) < 0 by omega), cond_true, idxO_at rs V [] (by rw [hrs.1]; exact hV), Option.bind_some, idxO_at _ w false (by omega), Option.bind_some]
  have hM : Mu g sh V w ↔ (rs.getD V []).getD w false = true ∧ (rs.getD w []).getD V false = true := by
    rw [(hrs.2 V hV).2 w, (hrs.2 w hwl).2 V]; rfl
  have hno : ¬ Mu g sh V w → ∃ (w_1 : Nat) (x : Int), (o.set V (-1), ((w + 1 : Nat) : Int)) = (o.set V x, (w_1 : Int)) ∧ w_1 ≤ V + 1 ∧ ((x = -1 ∧ ∀ u, u < w_1 → ¬ Mu g sh V u) ∨ ∃ u : Nat, x = (u : Int) ∧ u < w_1 ∧ Mu g sh V u ∧ ∀ z, z < u → ¬ Mu g sh V z) := fun hn =>
    ⟨w + 1, -1, rfl, by omega, .inl ⟨rfl, fun u hu => by
      rcases Nat.lt_succ_iff_lt_or_eq.1 hu with h3 | rfl
      · exact h u h3
      · exact hn⟩⟩
  cases c2 : (rs.getD V []).getD w false
  · rw [cond_false, ew]
    exact ⟨_, rfl, hno (fun hm => by have := (hM.1 hm).1; rw [c2] at this; cases this), by dsimp only; omega⟩
  · rw [cond_true, idxO_at rs w [] (by rw [hrs.1]; exact hwl), Option.bind_some, idxO_at _ V false (by omega), Option.bind_some]
    cases c3 : (rs.getD w []).getD V false
    · rw [cond_false, ew]
      exact ⟨_, rfl, hno (fun hm => by have := (hM.1 hm).2; rw [c3] at this; cases this), by dsimp only; omega⟩
    · rw [cond_true, ew, Int.toNat_natCast, hset]
      exact ⟨_, rfl, ⟨w + 1, (w : Int), rfl, by omega, .inr ⟨w, rfl, by omega, hM.2 ⟨c2, c3⟩, h⟩⟩, by dsimp only; omega⟩
theorem qNames_at {g : List (List Int)} {sh : List Bool} (hv : Gval g) (hs : sh.length = g.length) : qNames_v g sh = some (namesV g sh, 0) := by
  have hg := hv.ok hs
  have h24 := hg.n24
  have hn := namesV_ok g sh
  obtain ⟨rs, h1, hrs⟩ := qNames_L3_at hg
  have h2 : ∃ o, loopO (qNames_L2 g rs) (List.replicate g.length 0, 0) = some (o, ((g.length : Nat) : Int)) ∧ (o.length = g.length ∧ ∀ v, v < g.length → o.getD v (-1) = (namesV g sh).getD v (-1)) := by
    refine loopO_cnt (step := qNames_L2 g rs) g.length (fun o i => (o, ((i : Nat) : Int))) (fun o => (o, ((g.length : Nat) : Int))) (fun i o => o.length = g.length ∧ ∀ v, v < i → o.getD v (-1) = (namesV g sh).getD v (-1)) ?_ ?_ _ ⟨by simp, fun v hv => absurd hv (Nat.not_lt_zero _)⟩
    · rintro V o hV ⟨hl, hI⟩
      obtain ⟨x, j, e1, e2⟩ := qNames_L1_at hg hrs V hV o hl
      try dsimp only
      rw [qNames_L2_eq, lt_c hV, cond_true, idxO_at o V 0 (by omega), Option.bind_some, Int.toNat_natCast, e1, Option.bind_some]
      try dsimp only
      rw [wrap_sm (by omega)]
      refine ⟨_, rfl, by simp [hl], fun v hvi => ?_⟩
      rw [getD_setx _ _ _ _ _ (by omega)]
      by_cases e : v = V
      · subst e
        rw [if_pos rfl]
        cases c : sh.getD v false with
        | true =>
          rw [(hn.2 v hV).2 c]
          rcases e2 with ⟨rfl, _⟩ | ⟨u, _, _, h4, _⟩
          · rfl
          · have := h4.1.1; rw [c] at this; cases this
        | false =>
          rcases e2 with ⟨rfl, h4⟩ | ⟨u, rfl, h3, h4, h5⟩
          · exact absurd ⟨⟨c, .refl v⟩, c, .refl v⟩ (h4 v (Nat.le_refl _))
          · refine IsNm.uniq (g := g) (sh := sh) (v := v) ⟨u, rfl, h4.1.2, h4.2.2, fun z hz hz2 => ?_⟩ ((hn.2 v hV).1 c).2
            rcases Nat.lt_or_ge z u with h6 | h6
            · have hzo : sh.getD z false = false := by
                cases hz with
                | refl => exact c
                | tail _ e => exact e.2
              exact absurd ⟨⟨c, hz⟩, hzo, hz2⟩ (h5 z h6)
            · exact h6
      · rw [if_neg e]; exact hI v (by omega)
    · intro o _
      try dsimp only
      rw [qNames_L2_eq, lt_n, cond_false]
  obtain ⟨o, h3, h4, h5⟩ := h2
  have heq : o = namesV g sh := (ext_getD (-1) (by rw [h4, hn.1])).2 fun i hi => h5 i (by omega)
  unfold qNames_v
  rw [qChk_cCheck g sh (fun v h => by have := okR_len (hv.2 v h); omega), hv.check hs, Option.bind_some, show decide ((0 : Int) = 0) = true from rfl, cond_true, h1, Option.bind_some]
  try dsimp only
  rw [decide_eq_true (by omega), cond_true, h3, Option.bind_some]
  try dsimp only
  rw [heq]
theorem asc_eq {a b : List Int} (ha : a.Pairwise (· < ·)) (hb : b.Pairwise (· < ·)) (h : ∀ x, x ∈ a ↔ x ∈ b) : a = b :=
  asc_uniq (ha.imp fun h => by omega) (hb.imp fun h => by omega) ((List.perm_ext_iff_of_nodup (ha.imp fun h => by omega) (hb.imp fun h => by omega)).2 h)
theorem QuoOk.uniq {g : List (List Int)} {nm : List Int} {q r : List (List Int)} (hq : QuoOk g nm q) (hr : QuoOk g nm r) : q = r := by
  refine (ext_getD [] (by rw [hq.1, hr.1])).2 fun i hi => ?_
  rw [hq.1] at hi
  exact asc_eq (hq.2 i hi).1 (hr.2 i hi).1 fun x => by rw [(hq.2 i hi).2, (hr.2 i hi).2]
end Go.Am
end
section
namespace Go.Am
open Go Go.Proofs
set_option maxRecDepth 100000
set_option linter.unusedVariables false
set_option linter.unusedSimpArgs false
def QIs (g : List (List Int)) (nm : List Int) (V K : Nat) (q : List (List Int)) : Prop := q.length = g.length ∧ ∀ a, a < g.length → (q.getD a []).Pairwise (· < ·) ∧ ∀ b, b ∈ q.getD a [] ↔ QEp g nm V K (a : Int) b
theorem QIs.row {g : List (List Int)} {sh : List Bool} (hg : Gok g sh) {nm : List Int} (hn : NmsOk g sh nm) {V K : Nat} {q : List (List Int)} (h : QIs g nm V K q) {a : Nat} (ha : a < g.length) : (q.getD a []).length ≤ g.length - 1 :=
  QIn.row hg hn (V := V) (K := K) (q := q) ⟨h.1, fun a ha => ⟨(h.2 a ha).1.imp fun h => by omega, (h.2 a ha).2⟩⟩ ha
theorem qquot_L1 {g : List (List Int)} {sh : List Bool} (hg : Gok g sh) {nm : List Int} (hn : NmsOk g sh nm) (V : Nat) (hV : V < g.length) (q : List (List Int)) (hq : QIs g nm V 0 q) :
    ∃ q', loopO (qQuot_L1 g nm (V : Int)) (q, 0) = some (q', (((g.getD V []).length : Nat) : Int)) ∧ QIs g nm V (g.getD V []).length q' := by
  have hgV : idxO g (V : Int) = some (g.getD V []) := idxO_at g V [] hV
  refine loopO_cnt (step := qQuot_L1 g nm (V : Int)) (g.getD V []).length (fun q i => (q, ((i : Nat) : Int))) (fun q => (q, (((g.getD V []).length : Nat) : Int))) (fun K q => QIs g nm V K q) ?_ ?_ q hq
  · intro K q hK hI
    have hrl := hg.rl V
    have h24 := hg.n24
    obtain ⟨w, ew, hw⟩ := hg.rng V K hK
    have hwa := hn.lt hg hV
    have e3 : idxO nm (w : Int) = some (nm.getD w (-1)) := idxO_at nm w (-1) (by rw [hn.1]; exact hw)
    have step := QEp.succ (nm := nm) hV hK
    rw [ew, Int.toNat_natCast] at step
    have e4 : idxO (g.getD V []) (K : Int) = some (w : Int) := by rw [idxO_at _ K 0 hK, ew]
    try dsimp only
    rw [qQuot_L1_eq, hgV, Option.bind_some, lt_c hK, cond_true, idxO_at nm V (-1) (by rw [hn.1]; exact hV), Option.bind_some, e4, Option.bind_some, e3, Option.bind_some]
    have same : ¬ (0 ≤ nm.getD V (-1) ∧ 0 ≤ nm.getD w (-1) ∧ nm.getD V (-1) ≠ nm.getD w (-1)) → QIs g nm V (K + 1) q := fun hc => ⟨hI.1, fun a ha => ⟨(hI.2 a ha).1, fun b => by
      rw [(hI.2 a ha).2 b, step]
      constructor
      · exact .inl
      · rintro (h | ⟨h1, h2, h3⟩)
        · exact h
        · exact absurd (by rw [h1, h2]; exact h3) hc⟩⟩
    by_cases c1 : 0 ≤ nm.getD V (-1)
    rotate_left
    · rw [decide_eq_false c1, cond_false, wrap_sm (by omega)]
      exact ⟨q, rfl, same fun h => c1 h.1⟩
    rw [decide_eq_true c1, cond_true]
    by_cases c2 : 0 ≤ nm.getD w (-1)
    rotate_left
    · rw [decide_eq_false c2, cond_false, wrap_sm (by omega)]
      exact ⟨q, rfl, same fun h => c2 h.2.1⟩
    rw [decide_eq_true c2, cond_true]
    by_cases c3 : nm.getD V (-1) = nm.getD w (-1)
    · rw [decide_eq_true c3, cond_true, wrap_sm (by omega)]
      exact ⟨q, rfl, same fun h => h.2.2 c3⟩
    rw [decide_eq_false c3, cond_false]
    obtain ⟨a0, ha0⟩ : ∃ a0 : Nat, nm.getD V (-1) = (a0 : Int) := ⟨(nm.getD V (-1)).toNat, by omega⟩
    generalize hb0 : nm.getD w (-1) = b0 at *
    rw [ha0] at c1 c3 hwa step ⊢
    have ha1 : a0 < g.length := by omega
    have hrow := hI.row hg hn ha1
    have eh : qHas_v (q.getD a0 []) b0 = some (decide (b0 ∈ q.getD a0 [])) := by unfold qHas_v; rw [if_pos (by omega)]
    have ei : qIns_v (q.getD a0 []) b0 = some (insV (q.getD a0 []) b0) := by unfold qIns_v; rw [if_pos (by omega)]
    rw [idxO_at q a0 [] (by rw [hI.1]; exact ha1), Option.bind_some, eh, Option.bind_some]
    by_cases c4 : b0 ∈ q.getD a0 []
    · rw [decide_eq_true c4, cond_true, wrap_sm (by omega)]
      refine ⟨q, rfl, hI.1, fun a ha => ⟨(hI.2 a ha).1, fun b => ?_⟩⟩
      rw [(hI.2 a ha).2 b, step]
      constructor
      · exact .inl
      · rintro (h | ⟨h1, h2, h3⟩)
        · exact h
        · have : a = a0 := by omega
          subst this; subst h2
          exact ((hI.2 a ha).2 _).1 c4
    · rw [decide_eq_false c4, cond_false, ei, Option.bind_some, wrap_sm (by omega), Int.toNat_natCast]
      have gs : ∀ a, (q.set a0 (insV (q.getD a0 []) b0)).getD a [] = if a = a0 then insV (q.getD a0 []) b0 else q.getD a [] := fun a => getD_setx _ _ _ _ _ (by rw [hI.1]; exact ha1)
      refine ⟨_, rfl, by simp [hI.1], fun a ha => ?_⟩
      rw [gs]
      by_cases e : a = a0
      · subst e
        rw [if_pos rfl]
        refine ⟨insV_asc _ _ (hI.2 a ha).1 c4, fun b => ?_⟩
        rw [insV_mem, (hI.2 a ha).2 b, step]
        constructor
        · rintro (rfl | h)
          · exact .inr ⟨rfl, rfl, c1, c2, c3⟩
          · exact .inl h
        · rintro (h | ⟨_, h2, _⟩)
          · exact .inr h
          · exact .inl h2.symm
      · rw [if_neg e]
        refine ⟨(hI.2 a ha).1, fun b => ?_⟩
        rw [(hI.2 a ha).2 b, step]
        constructor
        · exact .inl
        · rintro (h | ⟨h1, _⟩)
          · exact h
          · omega
  · intro q _
    try dsimp only
    rw [qQuot_L1_eq, hgV, Option.bind_some, lt_n, cond_false]
theorem qquot_at {g : List (List Int)} {sh : List Bool} (hv : Gval g) (hs : sh.length = g.length) : ∃ q, qQuot_v g sh = some (q, 0) ∧ QuoOk g (namesV g sh) q := by
  have hg := hv.ok hs
  have hn := namesV_ok g sh
  have h24 := hg.n24
  have h1 : ∃ q, loopO (qQuot_L2 g (namesV g sh)) (List.replicate g.length [], 0) = some (q, ((g.length : Nat) : Int)) ∧ QIs g (namesV g sh) g.length 0 q := by
    refine loopO_cnt (step := qQuot_L2 g (namesV g sh)) g.length (fun q i => (q, ((i : Nat) : Int))) (fun q => (q, ((g.length : Nat) : Int))) (fun V q => QIs g (namesV g sh) V 0 q) ?_ ?_ (List.replicate g.length []) ?_
    · intro V q hV hI
      obtain ⟨q', h1, h2⟩ := qquot_L1 hg hn V hV q hI
      try dsimp only
      rw [qQuot_L2_eq, lt_c hV, cond_true, h1, Option.bind_some]
      try dsimp only
      rw [wrap_sm (by omega)]
      exact ⟨q', rfl, h2.1, fun a ha => ⟨(h2.2 a ha).1, fun b => by rw [(h2.2 a ha).2 b, QEp.next]⟩⟩
    · intro q _
      try dsimp only
      rw [qQuot_L2_eq, lt_n, cond_false]
    · refine ⟨by simp, fun a ha => ?_⟩
      have e : (List.replicate g.length ([] : List Int)).getD a [] = [] := by simp [List.getD, List.getElem?_replicate, ha]
      rw [e]
      refine ⟨List.Pairwise.nil, fun b => ⟨fun h => (by cases h), ?_⟩⟩
      rintro ⟨v, k, h, _⟩
      omega
  obtain ⟨q, h2, h3⟩ := h1
  unfold qQuot_v
  rw [qNames_at hv hs, Option.bind_some]
  try dsimp only
  rw [show decide ((0 : Int) = 0) = true from rfl, cond_true, decide_eq_true (by omega), cond_true, h2, Option.bind_some]
  refine ⟨q, rfl, h3.1, fun a ha => ⟨(h3.2 a ha).1, fun b => ?_⟩⟩
  rw [(h3.2 a ha).2 b]
  constructor
  · rintro ⟨v, k, _, h⟩; exact ⟨v, k, h⟩
  · rintro ⟨v, k, h⟩; exact ⟨v, k, .inl h.1, h⟩
def RA (g : List (List Int)) (sh : List Bool) (nm o : List Int) (v : Nat) : Prop := v < g.length ∧ nm.getD v (-1) = (v : Int) ∧ (v : Int) ∉ o ∧ ∀ w : Nat, w < g.length → nm.getD w (-1) = (w : Int) → w ≠ v → (w : Int) ∉ o → ¬ Rch g sh w v
theorem Greedy.pred {g : List (List Int)} {nm o : List Int} (h : Greedy g nm o) {a b : Int} (hb : b ∈ o) (hQ : QE g nm a b) : a ∈ o := by
  obtain ⟨s, t, rfl⟩ := List.append_of_mem hb
  obtain ⟨y, e, hA, _⟩ := h s b t rfl
  subst e
  exact List.mem_append_left _ (hA.2.2.2 a hQ)
theorem RA.iff {g : List (List Int)} {sh : List Bool} (hg : Gok g sh) {nm : List Int} (hn : NmsOk g sh nm) {o : List Int} (hG : Greedy g nm o) (v : Nat) : RA g sh nm o v ↔ Avail g nm o v := by
  constructor
  · rintro ⟨h1, h2, h3, h4⟩
    refine ⟨h1, h2, h3, fun a ha => ?_⟩
    obtain ⟨x, y, rfl, ey, hx, _, hxx, _, _, _, h5, h6⟩ := ha.rch hg hn
    have : v = y := by omega
    subst this
    by_cases hm : (x : Int) ∈ o
    · exact hm
    · refine absurd h5 (h4 x hx hxx ?_ hm)
      rintro rfl
      exact h6 (.refl x)
  · rintro ⟨h1, h2, h3, h4⟩
    refine ⟨h1, h2, h3, fun w hw hww hne hwo hr => ?_⟩
    obtain ⟨_, _, _, hwopen, _⟩ := hn.name hg hw (by omega)
    have key : ∀ u, Rch g sh w u → u < g.length ∧ sh.getD u false = false ∧ ((nm.getD u (-1) = (v : Int) ∨ nm.getD u (-1) ∈ o) → (w = v ∨ (w : Int) ∈ o)) := by
      intro u hu
      induction hu with
      | refl =>
        refine ⟨hw, hwopen, ?_⟩
        rw [hww]
        rintro (h | h)
        · exact .inl (by omega)
        · exact .inr h
      | tail hr' e ih =>
        rename_i p u
        obtain ⟨hp, hpo, ih⟩ := ih
        obtain ⟨u2, eu, hu2⟩ := hg.mem e.1
        have : u = u2 := by omega
        subst this
        refine ⟨hu2, e.2, fun h => ih ?_⟩
        by_cases hsame : nm.getD p (-1) = nm.getD u (-1)
        · rw [hsame]; exact h
        · obtain ⟨k, hk, ek⟩ := List.mem_iff_getElem.1 e.1
          have hQ : QE g nm (nm.getD p (-1)) (nm.getD u (-1)) := ⟨p, k, hp, hk, rfl, by rw [getD_eq hk, ek, Int.toNat_natCast], ((hn.2 p hp).1 hpo).1, ((hn.2 u hu2).1 e.2).1, hsame⟩
          rcases h with h | h
          · rw [h] at hQ
            exact .inr (h4 _ hQ)
          · exact .inr (hG.pred h hQ)
    rcases (key v hr).2.2 (.inl h2) with h | h
    · exact hne h
    · exact hwo h
theorem qord_L1 {g : List (List Int)} {sh : List Bool} (hg : Gok g sh) {nm : List Int} (hn : NmsOk g sh nm) {o : List Int} (ho : o.length ≤ 1000) (v : Nat) (hv : v < g.length) :
    ∃ b, loopO (qOrd_L1 g sh nm o (v : Int)) (true, 0) = some (b, ((g.length : Nat) : Int)) ∧ (b = true ↔ ∀ w : Nat, w < g.length → nm.getD w (-1) = (w : Int) → w ≠ v → (w : Int) ∉ o → ¬ Rch g sh w v) := by
  have h24 := hg.n24
  refine loopO_cnt (step := qOrd_L1 g sh nm o (v : Int)) g.length (fun b i => (b, ((i : Nat) : Int))) (fun b => (b, ((g.length : Nat) : Int))) (fun i b => b = true ↔ ∀ w : Nat, w < i → nm.getD w (-1) = (w : Int) → w ≠ v → (w : Int) ∉ o → ¬ Rch g sh w v) ?_ ?_ true ⟨fun _ w hw => absurd hw (Nat.not_lt_zero _), fun _ => rfl⟩
  · intro i b hi hI
    have eh : qHas_v o (i : Int) = some (decide ((i : Int) ∈ o)) := by unfold qHas_v; rw [if_pos (by omega)]
    obtain ⟨m, h1, h2, h3⟩ := reach_at hg i hi
    have ew : IntKind.i64.wrap ((i : Int) + 1) = ((i + 1 : Nat) : Int) := wrap_sm (by omega)
    have keep : ¬ (nm.getD i (-1) = (i : Int) ∧ i ≠ v ∧ (i : Int) ∉ o ∧ Rch g sh i v) → (b = true ↔ ∀ w : Nat, w < i + 1 → nm.getD w (-1) = (w : Int) → w ≠ v → (w : Int) ∉ o → ¬ Rch g sh w v) := by
      intro hc
      rw [hI]
      constructor
      · intro h w hw a1 a2 a3 a4
        rcases Nat.lt_succ_iff_lt_or_eq.1 hw with h5 | rfl
        · exact h w h5 a1 a2 a3 a4
        · exact hc ⟨a1, a2, a3, a4⟩
      · intro h w hw; exact h w (by omega)
    try dsimp only
    rw [qOrd_L1_eq, lt_c hi, cond_true, idxO_at nm i (-1) (by rw [hn.1]; exact hi), Option.bind_some]
    by_cases c1 : nm.getD i (-1) = (i : Int)
    rotate_left
    · rw [decide_eq_false c1, cond_false, ew]
      exact ⟨b, rfl, keep fun h => c1 h.1⟩
    rw [decide_eq_true c1, cond_true]
    by_cases c2 : (i : Int) = (v : Int)
    · rw [decide_eq_true c2, cond_true, ew]
      exact ⟨b, rfl, keep fun h => h.2.1 (by omega)⟩
    rw [decide_eq_false c2, cond_false, eh, Option.bind_some]
    by_cases c3 : (i : Int) ∈ o
    · rw [decide_eq_true c3, cond_true, ew]
      exact ⟨b, rfl, keep fun h => h.2.2.1 c3⟩
    rw [decide_eq_false c3, cond_false, h1, Option.bind_some, idxO_at m v false (by omega), Option.bind_some]
    cases c4 : m.getD v false
    · rw [cond_false, ew]
      refine ⟨b, rfl, keep fun h => ?_⟩
      obtain ⟨_, _, _, hio, _⟩ := hn.name hg hi (by omega)
      have := (h3 v).2 ⟨hio, h.2.2.2⟩
      rw [c4] at this; cases this
    · rw [cond_true, ew]
      refine ⟨false, rfl, fun h => (by cases h), fun h => ?_⟩
      exact absurd ((h3 v).1 c4).2 (h i (by omega) c1 (by omega) c3)
  · intro b _
    try dsimp only
    rw [qOrd_L1_eq, lt_n, cond_false]
theorem qord_L2 {g : List (List Int)} {sh : List Bool} (hg : Gok g sh) {nm : List Int} (hn : NmsOk g sh nm) {o : List Int} (ho : o.length ≤ 1000) :
    ∃ x, loopO (qOrd_L2 g sh nm o) (IntKind.i64.wrap (((g.length : Nat) : Int) - 1), -1) = some (-1, x) ∧ ((x = -1 ∧ ∀ v, ¬ RA g sh nm o v) ∨ ∃ v : Nat, x = (v : Int) ∧ RA g sh nm o v ∧ ∀ z, z < v → ¬ RA g sh nm o z) := by
  have h24 := hg.n24
  have key : ∃ x, loopO (qOrd_L2 g sh nm o) (((g.length : Nat) : Int) - 1 - ((0 : Nat) : Int), -1) = some (-1, x) ∧ ((x = -1 ∧ ∀ v, g.length - g.length ≤ v → ¬ RA g sh nm o v) ∨ ∃ v : Nat, x = (v : Int) ∧ RA g sh nm o v ∧ ∀ z, g.length - g.length ≤ z → z < v → ¬ RA g sh nm o z) := by
    refine loopO_cnt (step := qOrd_L2 g sh nm o) g.length (fun x i => (((g.length : Nat) : Int) - 1 - ((i : Nat) : Int), x)) (fun x => (-1, x)) (fun i x => (x = -1 ∧ ∀ v, g.length - i ≤ v → ¬ RA g sh nm o v) ∨ ∃ v : Nat, x = (v : Int) ∧ RA g sh nm o v ∧ ∀ z, g.length - i ≤ z → z < v → ¬ RA g sh nm o z) ?_ ?_ (-1) (.inl ⟨rfl, fun v hv h => by have := h.1; omega⟩)
    · intro i x hi hI
      obtain ⟨v, ev, hvn⟩ : ∃ v : Nat, ((g.length : Nat) : Int) - 1 - ((i : Nat) : Int) = (v : Int) ∧ v + i + 1 = g.length := ⟨g.length - 1 - i, by omega, by omega⟩
      have e2 : ((g.length : Nat) : Int) - 1 - ((i + 1 : Nat) : Int) = (v : Int) - 1 := by omega
      have ew : IntKind.i64.wrap ((v : Int) - 1) = (v : Int) - 1 := wrap_i64_id (by omega) (by omega)
      have eh : qHas_v o (v : Int) = some (decide ((v : Int) ∈ o)) := by unfold qHas_v; rw [if_pos (by omega)]
      have hvl : v < g.length := by omega
      have hk : g.length - (i + 1) = v := by omega
      have hk2 : g.length - i = v + 1 := by omega
      rw [hk2] at hI
      have keep : ¬ RA g sh nm o v → ((x = -1 ∧ ∀ v', g.length - (i + 1) ≤ v' → ¬ RA g sh nm o v') ∨ ∃ v' : Nat, x = (v' : Int) ∧ RA g sh nm o v' ∧ ∀ z, g.length - (i + 1) ≤ z → z < v' → ¬ RA g sh nm o z) := by
        intro hc
        rw [hk]
        rcases hI with ⟨h1, h2⟩ | ⟨u, h1, h2, h3⟩
        · refine .inl ⟨h1, fun z hz => ?_⟩
          rcases Nat.lt_or_ge v z with h4 | h4
          · exact h2 z (by omega)
          · have : z = v := by omega
            rw [this]; exact hc
        · refine .inr ⟨u, h1, h2, fun z hz hzu => ?_⟩
          rcases Nat.lt_or_ge v z with h4 | h4
          · exact h3 z (by omega) hzu
          · have : z = v := by omega
            rw [this]; exact hc
      try dsimp only
      rw [ev, e2, qOrd_L2_eq, decide_eq_true (by omega), cond_true, idxO_at nm v (-1) (by rw [hn.1]; exact hvl), Option.bind_some]
      by_cases c1 : nm.getD v (-1) = (v : Int)
      rotate_left
      · rw [decide_eq_false c1, cond_false, ew]
        exact ⟨x, rfl, keep fun h => c1 h.2.1⟩
      rw [decide_eq_true c1, cond_true, eh, Option.bind_some]
      by_cases c2 : (v : Int) ∈ o
      · rw [decide_eq_true c2, cond_true, ew]
        exact ⟨x, rfl, keep fun h => h.2.2.1 c2⟩
      obtain ⟨b, h1, h2⟩ := qord_L1 hg hn ho v hvl
      rw [decide_eq_false c2, cond_false, h1, Option.bind_some]
      try dsimp only
      cases b
      · rw [cond_false, ew]
        exact ⟨x, rfl, keep fun h => by have := h2.2 h.2.2.2; cases this⟩
      · rw [cond_true, ew]
        refine ⟨(v : Int), rfl, .inr ⟨v, rfl, ⟨hvl, c1, c2, h2.1 rfl⟩, fun z hz hzv => by omega⟩⟩
    · intro x _
      try dsimp only
      have e : ((g.length : Nat) : Int) - 1 - ((g.length : Nat) : Int) = -1 := by omega
      rw [e, qOrd_L2_eq]
      rfl
  obtain ⟨x, h1, h2⟩ := key
  have e0 : IntKind.i64.wrap (((g.length : Nat) : Int) - 1) = ((g.length : Nat) : Int) - 1 - ((0 : Nat) : Int) := by rw [wrap_i64_id (by omega) (by omega)]; omega
  refine ⟨x, by rw [e0]; exact h1, ?_⟩
  rcases h2 with ⟨a, b⟩ | ⟨v, a, b, c⟩
  · exact .inl ⟨a, fun v => b v (by omega)⟩
  · exact .inr ⟨v, a, b, fun z hz => c z (by omega) hz⟩
theorem Greedy.full {g : List (List Int)} {sh : List Bool} (hg : Gok g sh) {nm : List Int} (hn : NmsOk g sh nm) {o : List Int} (hG : Greedy g nm o) (h : ∀ v, ¬ Avail g nm o v) : OrdOk g nm o := by
  refine ⟨hG, ?_⟩
  have key : ∀ r a, a < g.length → nm.getD a (-1) = (a : Int) → (List.range g.length).countP (rchB g sh a) ≤ r → (a : Int) ∈ o := by
    intro r
    induction r with
    | zero =>
      intro a ha e hr
      have : 0 < (List.range g.length).countP (rchB g sh a) := List.countP_pos_iff.2 ⟨a, by simpa using ha, rchB_iff.2 (.refl a)⟩
      omega
    | succ r ih =>
      intro a ha e hr
      by_cases hm : (a : Int) ∈ o
      · exact hm
      · refine absurd ⟨ha, e, hm, fun p hp => ?_⟩ (h a)
        obtain ⟨x, y, rfl, e2, hx, hy, hxx, _, _⟩ := hp.rch hg hn
        have := hp.rank hg hn
        exact ih x hx hxx (by omega)
  exact fun a ha e => key _ a ha e (Nat.le_refl _)
theorem qord_at {g : List (List Int)} {sh : List Bool} (hv : Gval g) (hs : sh.length = g.length) : ∃ o, qOrd_v g sh = some (o, 0) ∧ OrdOk g (namesV g sh) o := by
  have hg := hv.ok hs
  have hn := namesV_ok g sh
  have h24 := hg.n24
  have key : ∃ e, loopO (qOrd_L3 g sh (namesV g sh)) [] = some e ∧ (e.2 = 0 ∧ OrdOk g (namesV g sh) e.1) := by
    generalize namesV g sh = nm at hn ⊢
    refine loopO_inv (step := qOrd_L3 g sh nm) (fun o => Greedy g nm o) (fun o => g.length + 1 - o.length) _ ?_ [] (fun pre x suf e => by simp at e)
    intro o hG
    have hlo := hG.len
    obtain ⟨x, h1, h2⟩ := qord_L2 hg hn (o := o) (by omega)
    rw [qOrd_L3_eq, h1, Option.bind_some]
    try dsimp only
    rcases h2 with ⟨rfl, h3⟩ | ⟨v, rfl, h3, h4⟩
    · refine ⟨_, rfl, rfl, hG.full hg hn fun v hA => h3 v ((RA.iff hg hn hG v).2 hA)⟩
    · have hG2 := hG.snoc ((RA.iff hg hn hG v).1 h3) (fun z hz hA => h4 z hz ((RA.iff hg hn hG z).2 hA))
      have hlo2 := hG2.len
      simp only [List.length_append, List.length_cons, List.length_nil] at hlo2
      rw [decide_eq_false (by omega), cond_false, decide_eq_true (by omega), cond_true]
      exact ⟨_, rfl, hG2, by simp only [List.length_append, List.length_cons, List.length_nil]; omega⟩
  obtain ⟨⟨o, z⟩, h1, rfl, h2⟩ := key
  unfold qOrd_v
  rw [qNames_at hv hs, Option.bind_some]
  try dsimp only
  rw [show decide ((0 : Int) = 0) = true from rfl, cond_true, h1, Option.bind_some]
  exact ⟨o, rfl, h2⟩
theorem OrdOk.uniq {g : List (List Int)} {nm : List Int} {o p : List Int} (ho : OrdOk g nm o) (hp : OrdOk g nm p) : o = p := by
  have hl : o.length = p.length := by
    have h1 : o.Perm p := (List.perm_ext_iff_of_nodup ho.1.nodup hp.1.nodup).2 fun x => by
      constructor
      · intro hx
        obtain ⟨y, rfl, hy, hyy⟩ := ho.1.mem hx
        exact hp.2 y hy hyy
      · intro hx
        obtain ⟨y, rfl, hy, hyy⟩ := hp.1.mem hx
        exact ho.2 y hy hyy
    exact h1.length_eq
  have key : ∀ n, n ≤ o.length → o.take n = p.take n := by
    intro n
    induction n with
    | zero => intro _; simp
    | succ n ih =>
      intro hn
      have ih := ih (by omega)
      have eo : o = o.take n ++ o[n] :: o.drop (n + 1) := by rw [List.getElem_cons_drop, List.take_append_drop]
      have ep : p = p.take n ++ p[n] :: p.drop (n + 1) := by rw [List.getElem_cons_drop, List.take_append_drop]
      obtain ⟨x, ex, hxA, hxl⟩ := ho.1 _ _ _ eo
      obtain ⟨y, ey, hyA, hyl⟩ := hp.1 _ _ _ ep
      rw [ih] at hxA hxl
      have : x = y := by
        rcases Nat.lt_trichotomy x y with h | h | h
        · exact absurd hxA (hyl x h)
        · exact h
        · exact absurd hyA (hxl y h)
      rw [List.take_succ_eq_append_getElem (by omega), List.take_succ_eq_append_getElem (by omega), ih, ex, ey, this]
  have := key o.length (Nat.le_refl _)
  rw [List.take_length, hl, List.take_length] at this
  exact this
theorem comp_same (g : List (List Int)) (sh : List Bool) (hl : g.length ≤ 2000000) (hr : ∀ v, v < g.length → (g.getD v []).length ≤ 2000000) :
    ∃ a b c, (cNames_v g sh = some a ∧ qNames_v g sh = some a) ∧ (cOrd_v g sh = some b ∧ qOrd_v g sh = some b) ∧ (cQuot_v g sh = some c ∧ qQuot_v g sh = some c) ∧ a.1.length ≤ 24 ∧ b.1.length ≤ 24 ∧ c.1.length ≤ 24 ∧ ∀ i, i < c.1.length → (c.1.getD i []).length ≤ 24 := by
  have hrow : ∀ r ∈ g, r.length ≤ 2000000 := fun r hm => by obtain ⟨v, hv, rfl⟩ := row_mem hm; exact hr v hv
  obtain ⟨e, he⟩ := check_some g sh hr
  by_cases h0 : e = 0
  · subst h0
    obtain ⟨hv, hs⟩ := check_zero hr he
    have hg := hv.ok hs
    have hn := namesV_ok g sh
    have h24 := hg.n24
    obtain ⟨o, o1, o2⟩ := order_at hv hs h24
    obtain ⟨o', p1, p2⟩ := qord_at hv hs
    obtain ⟨q, q1, q2⟩ := quot_at hv hs h24
    obtain ⟨q', r1, r2⟩ := qquot_at hv hs
    have e1 := p2.uniq o2
    have e2 := r2.uniq q2
    subst e1; subst e2
    refine ⟨_, _, _, ⟨hv.names hs, qNames_at hv hs⟩, ⟨o1, p1⟩, ⟨q1, r1⟩, by dsimp only; rw [hn.1]; omega, by dsimp only; have := o2.1.len; omega, by dsimp only; rw [q2.1]; omega, fun i hi => ?_⟩
    dsimp only at hi ⊢
    exact (q2.row hg hn (by rw [← q2.1]; exact hi)).2
  · have hc : cNames_v g sh = some ([], e) := by unfold cNames_v; rw [if_pos hrow, he]; simp [h0]
    have hq : qNames_v g sh = some ([], e) := by unfold qNames_v; rw [qChk_cCheck g sh hr, he, Option.bind_some, decide_eq_false h0, cond_false]
    have hcq : cQuot_v g sh = some ([], e) := by unfold cQuot_v; rw [hc, Option.bind_some]; dsimp only; rw [decide_eq_false h0, cond_false]
    refine ⟨([], e), ([], e), ([], e), ⟨hc, hq⟩, ⟨?_, ?_⟩, ⟨hcq, ?_⟩, by simp, by simp, by simp, fun i hi => by simp at hi⟩
    · unfold cOrd_v; rw [hcq, Option.bind_some]; dsimp only; rw [decide_eq_false h0, cond_false]
    · unfold qOrd_v; rw [hq, Option.bind_some]; dsimp only; rw [decide_eq_false h0, cond_false]
    · unfold qQuot_v; rw [hq, Option.bind_some]; dsimp only; rw [decide_eq_false h0, cond_false]
end Go.Am
end
section
namespace Go.Am
open Go Go.Proofs
set_option maxRecDepth 100000
set_option maxHeartbeats 2000000
set_option linter.unusedSimpArgs false
set_option linter.unusedVariables false
structure FinB where
  i : Nat
  g : List (List Int)
  sh : List Bool
  l : List Int
  a : Int
theorem lawFinds_ok (g0 : List (List Int)) (sh0 : List Bool) (l : List Int) (hl : g0.length ≤ 2000000) (hr : ∀ v, v < g0.length → (g0.getD v []).length ≤ 2000000) :
    ACalls Try.prog 3 [.p (.sl (encG g0)), .p (.sl (encT sh0)), .p (.sl (encI l))] [] fun h d => h = [] ∧ d = .p (.bool true) := by
  refine ACalls_X Try.func3 rfl enters3 (by simp [Try.f3]) ?_
  simp only [go_sem]
  refine Cc_of known05_ok ?_
  rintro h' r ⟨rfl, rfl⟩
  simp only [go_sem]
  refine X_loop_inv (fun b : FinB => ⟨[(0, .p (.sl (encG b.g))), (1, .p (.sl (encT b.sh))), (7, .ptr 25 0), (8, .p (.int .i64 (b.i : Nat)))], [(25, .box [.p (.sl (encI b.l)), .p (.int .i64 b.a)])], 105⟩)
    (fun b => b.i ≤ 2 ∧ (b.i ≤ 1 → b.a = 0) ∧ b.g.length ≤ 2000000 ∧ ∀ v, v < b.g.length → (b.g.getD v []).length ≤ 2000000) (fun b => 2 - b.i) ⟨0, g0, sh0, l, 0⟩ ⟨by simp only; omega, fun _ => rfl, hl, hr⟩ (Wk.forget (by simp [Le, LeE, LeH, get, envIds, hpIds, KeepH, D.ids, idsL, AO.ids, setL, base])) ?_
  rintro ⟨i, g, sh, l, a⟩ m ⟨hi, ha, hl, hr⟩ ih
  simp only at hi ha hl hr
  have hw : IntKind.i64.wrap ((i : Int) + 1) = ((i + 1 : Nat) : Int) := wrap_sm (by omega)
  cases c1 : decide ((i : Int) < 2)
  · simp only [go_sem, c1]
    all_goals (try refine end_pure ?_)
    all_goals (try simp only [go_sem, c1])
  · have hi2 : i < 2 := by have := of_decide_eq_true c1; omega
    cases c2 : decide ((i : Int) = 1)
    · simp only [go_sem, c1, c2]
      obtain ⟨a1, b1, d1, ⟨n1, n2⟩, ⟨o1, o2⟩, ⟨q1, q2⟩, l1, l2, l3, l4⟩ := comp_same g sh hl hr
      have s1 : sameI_v a1.1 a1.1 = some true := by rw [sameI_at _ _ (by omega), decide_eq_true rfl]
      have s2 : sameI_v b1.1 b1.1 = some true := by rw [sameI_at _ _ (by omega), decide_eq_true rfl]
      have s3 : sameLs_v d1.1 d1.1 = some true := by rw [sameLs_at _ _ (by omega) (fun i hi => by have := l4 i hi; omega), decide_eq_true rfl]
      refine Cc_of ((cNames_vok g sh a1 n1)) ?_
      rintro h' r ⟨rfl, rfl⟩
      simp only [go_sem]
      refine Cc_of ((qNames_vok g sh a1 n2)) ?_
      rintro h' r ⟨rfl, rfl⟩
      simp only [go_sem]
      refine Cc_of ((cOrd_vok g sh b1 o1)) ?_
      rintro h' r ⟨rfl, rfl⟩
      simp only [go_sem]
      refine Cc_of ((qOrd_vok g sh b1 o2)) ?_
      rintro h' r ⟨rfl, rfl⟩
      simp only [go_sem]
      refine Cc_of ((cQuot_vok g sh d1 q1)) ?_
      rintro h' r ⟨rfl, rfl⟩
      simp only [go_sem]
      refine Cc_of ((qQuot_vok g sh d1 q2)) ?_
      rintro h' r ⟨rfl, rfl⟩
      simp only [go_sem, eq_self]
      refine Cc_of ((sameI_vok a1.1 a1.1 true s1)) ?_
      rintro h' r ⟨rfl, rfl⟩
      simp only [go_sem, eq_self]
      refine Cc_of ((sameI_vok b1.1 b1.1 true s2)) ?_
      rintro h' r ⟨rfl, rfl⟩
      simp only [go_sem, eq_self]
      refine Cc_of ((sameLs_vok d1.1 d1.1 true s3)) ?_
      rintro h' r ⟨rfl, rfl⟩
      simp only [go_sem, eq_self]
      simp only [go_sem, eq_self, hw]
      exact ih ⟨i + 1, g, sh, l, a⟩ _ ⟨by simp only; omega, fun h => ha (by simp only at h; omega), hl, hr⟩ (by simp only; omega) (Wk.forget (by simp [Le, LeE, LeH, get, envIds, hpIds, KeepH, D.ids, idsL, AO.ids, setL, base]))
    · obtain rfl := ha (by omega)
      simp only [go_sem, c1, c2]
      refine Cc_of (graph10 l) ?_
      rintro h' r ⟨g, l', a, hq, rfl, rfl⟩
      simp only [go_sem]
      refine Cc_of (shut10 l' a hq) ?_
      rintro h' r ⟨sh, l9, a2, hs, rfl, rfl⟩
      simp only [go_sem]
      have hv : Gval g := GR.val (by have := hq.2.1; omega) hq.2.2
      have hl : g.length ≤ 2000000 := by have := hq.2.1; omega
      have hr : ∀ v, v < g.length → (g.getD v []).length ≤ 2000000 := fun v hvn => by have := okR_len (hv.2 v hvn); omega
      obtain ⟨a1, b1, d1, ⟨n1, n2⟩, ⟨o1, o2⟩, ⟨q1, q2⟩, l1, l2, l3, l4⟩ := comp_same g sh hl hr
      have s1 : sameI_v a1.1 a1.1 = some true := by rw [sameI_at _ _ (by omega), decide_eq_true rfl]
      have s2 : sameI_v b1.1 b1.1 = some true := by rw [sameI_at _ _ (by omega), decide_eq_true rfl]
      have s3 : sameLs_v d1.1 d1.1 = some true := by rw [sameLs_at _ _ (by omega) (fun i hi => by have := l4 i hi; omega), decide_eq_true rfl]
      refine Cc_of ((cNames_vok g sh a1 n1)) ?_
      rintro h' r ⟨rfl, rfl⟩
      simp only [go_sem]
      refine Cc_of ((qNames_vok g sh a1 n2)) ?_
      rintro h' r ⟨rfl, rfl⟩
      simp only [go_sem]
      refine Cc_of ((cOrd_vok g sh b1 o1)) ?_
      rintro h' r ⟨rfl, rfl⟩
      simp only [go_sem]
      refine Cc_of ((qOrd_vok g sh b1 o2)) ?_
      rintro h' r ⟨rfl, rfl⟩
      simp only [go_sem]
      refine Cc_of ((cQuot_vok g sh d1 q1)) ?_
      rintro h' r ⟨rfl, rfl⟩
      simp only [go_sem]
      refine Cc_of ((qQuot_vok g sh d1 q2)) ?_
      rintro h' r ⟨rfl, rfl⟩
      simp only [go_sem, eq_self]
      refine Cc_of ((sameI_vok a1.1 a1.1 true s1)) ?_
      rintro h' r ⟨rfl, rfl⟩
      simp only [go_sem, eq_self]
      refine Cc_of ((sameI_vok b1.1 b1.1 true s2)) ?_
      rintro h' r ⟨rfl, rfl⟩
      simp only [go_sem, eq_self]
      refine Cc_of ((sameLs_vok d1.1 d1.1 true s3)) ?_
      rintro h' r ⟨rfl, rfl⟩
      simp only [go_sem, eq_self]
      simp only [go_sem, eq_self, hw]
      exact ih ⟨i + 1, g, sh, l9, a2⟩ _ ⟨by simp only; omega, fun h => by simp only at h; have := of_decide_eq_true c2; omega, hl, hr⟩ (by simp only; omega) (Wk.forget (by simp [Le, LeE, LeH, get, envIds, hpIds, KeepH, D.ids, idsL, AO.ids, setL, base]))
end Go.Am
end
