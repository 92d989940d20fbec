/- Texts of this proof, what it rests on, merged: part F. -/
import Derived.Test.YtacfhnpmlpaojaaSeE
section
namespace Go.Am
open Go Go.Proofs
set_option maxRecDepth 100000
set_option linter.unusedVariables false
set_option linter.unusedSimpArgs false
theorem putS_cons (p : List UInt8 × Int) (r : List (List UInt8 × Int)) (k : List UInt8) (v : Int) : putS (p :: r) k v = if p.1 = k then (k, v) :: r else p :: putS r k v := rfl
theorem getS_putS (m : List (List UInt8 × Int)) (k : List UInt8) (v : Int) (x : List UInt8) : getS (putS m k v) x = if x = k then some v else getS m x := by
  induction m with
  | nil =>
    have : putS [] k v = [(k, v)] := rfl
    rw [this, getS_cons]
    by_cases h : x = k
    · rw [if_pos h, if_pos h.symm]
    · rw [if_neg h, if_neg (Ne.symm h)]
  | cons p r ih =>
    rw [putS_cons, getS_cons]
    by_cases h : p.1 = k
    · rw [if_pos h, getS_cons]
      by_cases h2 : x = k
      · rw [if_pos h2, if_pos h2.symm]
      · rw [if_neg h2, if_neg (Ne.symm h2), if_neg (fun e => h2 (by rw [← e, ← h]))]
    · rw [if_neg h, getS_cons, ih]
      by_cases h2 : p.1 = x
      · rw [if_pos h2, if_pos h2, if_neg (fun e => h (by rw [h2, e]))]
      · rw [if_neg h2, if_neg h2]
theorem BI.block {b : Bdr} (h : BI b) (d : Dc) : BI (b.blockV d).2 := by
  unfold Bdr.blockV
  split
  · exact h
  · split
    · exact h
    · rename_i h1 h2
      have hl : b.bl.length < 24 := by have := h.nb; omega
      refine ⟨by simp; omega, by simp [h.nn], fun x i hx => ?_, h.ms, fun i => ?_, h.ns, h.nba, h.sl, h.np, h.bas, h.sps, h.pls⟩
      · simp only [getS_putS] at hx
        split at hx
        · cases hx; exact ⟨_, rfl, by simp⟩
        · obtain ⟨n, h3, h4⟩ := h.mb x i hx
          exact ⟨n, h3, by simp; omega⟩
      · simp only [List.getD, List.getElem?_append]
        split
        · have := h.row i; simpa [List.getD] using this
        · rcases hj : i - b.nx.length with _ | j <;> simp
theorem BI.lane {b : Bdr} (h : BI b) (x y : List UInt8) : BI (b.laneV x y).2 := by
  unfold Bdr.laneV
  split
  · rename_i i j h1 h2
    split
    · exact h
    · split
      · exact h
      · split
        · exact h
        · rename_i h3 h4 h5
          obtain ⟨n, rfl, hn⟩ := h.mb x i h1
          refine ⟨h.nb, by simp [h.nn], h.mb, h.ms, fun k => ?_, h.ns, h.nba, h.sl, h.np, h.bas, h.sps, h.pls⟩
          simp only [Int.toNat_natCast] at h5 ⊢
          have hr := h.row n
          have hrk := h.row k
          simp only [List.getD, List.getElem?_set]
          split
          · rename_i e
            subst e
            split
            · simp only [Option.getD_some, List.length_append, List.length_cons, List.length_nil]
              simp only [List.getD] at h5 hr
              omega
            · simp
          · simpa [List.getD] using hrk
  · exact h
theorem BI.lanes : ∀ {l : List (List UInt8)} {b : Bdr}, BI b → BI (b.lanesV l).2
  | [], b, h => h
  | [x], b, h => h
  | x :: y :: r, b, h => by
    simp only [Bdr.lanesV]
    split
    · exact BI.lanes (h.lane x y)
    · exact h.lane x y
theorem BI.spur {b : Bdr} (h : BI b) (d : Dc) : BI (b.spurV d).2 := by
  unfold Bdr.spurV
  split
  · exact h
  · split
    · split
      · exact h
      · split
        · exact h
        · split
          · exact h
          · rename_i h1 h2 h3
            simp only [decide_eq_true_eq] at h1 h2
            have h4 := h.ns
            have h5 := h.sl
            refine ⟨h.nb, h.nn, h.mb, fun x i hx => ?_, h.row, by simp; omega, by simp [h.nba], by simp only [List.length_append, List.length_cons, List.length_nil]; omega, h.np, fun x hx => ?_, fun s hs => ?_, fun p hp => ?_⟩
            simp only [getS_putS] at hx
            split at hx
            · cases hx; exact ⟨_, rfl, by simp⟩
            · obtain ⟨n, h6, h7⟩ := h.ms x i hx
              exact ⟨n, h6, by simp; omega⟩
            · rcases List.mem_append.1 hx with hx | hx
              · exact h.bas x hx
              · simp only [List.mem_singleton] at hx
                subst hx
                omega
            · rcases List.mem_append.1 hs with hs | hs
              · exact h.sps s hs
              · simp only [List.mem_singleton] at hs
                subst hs
                simp only
                omega
            · obtain ⟨⟨n, h6, h7⟩, h8⟩ := h.pls p hp
              exact ⟨⟨n, h6, by simp; omega⟩, h8⟩
    · exact h
theorem BI.robot {b : Bdr} (h : BI b) (d : Dc) : BI (b.robotV d).2 := by
  unfold Bdr.robotV
  split
  · exact h
  · rename_i i hi
    split
    · exact h
    split
    · exact h
    split
    · exact h
    split
    · exact h
    split
    · exact h
    rename_i h1 h2 h3 h4 h5
    obtain ⟨n, rfl, hn⟩ := h.ms _ _ hi
    simp only [decide_eq_true_eq, Int.toNat_natCast] at h2 h3
    have hs := h.sps (b.sp.getD n spr0) (getD_mem b.sp n spr0 hn)
    refine ⟨h.nb, h.nn, h.mb, h.ms, h.row, h.ns, h.nba, h.sl, ?_, h.bas, h.sps, fun p hp => ?_⟩
    · have := h.np
      simp
      omega
    · rcases List.mem_append.1 hp with hp | hp
      · exact h.pls p hp
      · simp only [List.mem_singleton] at hp
        subst hp
        exact ⟨⟨n, rfl, hn⟩, by omega, by omega⟩
theorem BI.config {b : Bdr} (h : BI b) (d : Dc) : BI (b.configV d).2 := by
  unfold Bdr.configV
  repeat' split
  all_goals first | exact h | skip
  exact ⟨h.nb, h.nn, h.mb, h.ms, h.row, h.ns, h.nba, h.sl, h.np, h.bas, h.sps, h.pls⟩
theorem BI.add {b : Bdr} (h : BI b) (d : Dc) : BI (b.addV d).2 := by
  unfold Bdr.addV
  repeat' split
  · exact h
  · exact h.block d
  · exact h.lanes
  · exact h.robot d
  · exact h.config d
  · exact h.spur d
theorem valid_shape {d : Dc} (h : validV d = true) : (1 ≤ d.word ∧ d.word ≤ 6) ∧ (d.nums.length : Int) = (shapeV d.word).2 ∧ (shapeV d.word).1 ≤ (d.names.length : Int) := by
  simp only [validV, Bool.and_eq_true, decide_eq_true_eq, Bool.or_eq_true] at h
  obtain ⟨h1, h2, h3, _⟩ := h
  exact ⟨h1, h2, by omega⟩
set_option maxHeartbeats 2000000 in
theorem add_ok (b : Bdr) (k : Nat) (d : Dc) (h : BI b) (hd : d.names.length ≤ 10000000 ∧ d.nums.length ≤ 10000000) :
    ACalls Try.prog 51 [.ptr 1000000 0, d.d] (b.h k) fun h r => ∃ k', h = (b.addV d).2.h k' ∧ r = .p (.int .i64 (b.addV d).1) := by
  have v := valid_ok d hd
  have v1 := fun h1 h2 => block_ok b k d h1 h2 h.nb (by rw [h.nn]; exact h.nb)
  have v5 := fun h1 h2 => robot_ok b k d h1 h2 h.np h.ms
  have v6 := config_ok b k d
  have v3 := fun h1 h2 => spur_ok b k d h1 h2 h.ns (by rw [h.nba]; exact h.ns) ⟨h.sl.1, by have := h.sl.2; have := h.ns; omega⟩
  have hs := @valid_shape d
  unfold Dc.d at v v1 v5 v6 v3 ⊢
  refine ACalls_X Try.func51 rfl enters51 (by simp [Try.f51]) ?_
  rw [Bdr.h_eq b k]
  simp only [go_sem]
  refine Cc_of v ?_
  rintro h' r ⟨rfl, rfl⟩
  cases c0 : validV d
  · have hv : b.addV d = (20, b) := by unfold Bdr.addV; rw [if_pos c0]
    simp only [go_sem, c0, hv]
    first | exact ⟨k, rfl, rfl⟩ | exact ⟨k, rfl⟩
  have hs := hs c0
  cases c1 : decide (d.word = 1)
  rotate_left
  · have e1 : d.word = 1 := of_decide_eq_true c1
    rw [e1] at hs
    simp [shapeV] at hs
    simp only [go_sem, c0, c1]
    refine Cc_of (v1 (by omega) (by omega)) ?_
    rintro h' r ⟨k', rfl, rfl⟩
    have hv : b.addV d = b.blockV d := by unfold Bdr.addV; simp only [c0, c1, Bool.true_eq_false, if_false, if_true]
    rw [hv]
    simp only [go_sem, Bdr.h_eq (b.blockV d).2 k']
    first | exact ⟨k', rfl, rfl⟩ | exact ⟨k', rfl⟩
  cases c2 : decide (d.word = 2)
  rotate_left
  · have hv : b.addV d = b.lanesV d.names := by unfold Bdr.addV; simp only [c0, c1, c2, Bool.true_eq_false, Bool.false_eq_true, if_false, if_true]
    rw [hv]
    have e1 : d.word = 2 := of_decide_eq_true c2
    rw [e1] at hs
    simp [shapeV] at hs
    simp only [go_sem, c0, c1, c2]
    refine X_loop_inv (fun q : Nat × Bdr × Nat => ⟨[(0, .ptr 1000000 0), (3, .ptr 3 0), (4, .p (.int .i64 0)), (5, .p (.int .i64 (q.1 : Nat)))], (3, .box [.p (.int .i64 d.word), .p (.int .i64 d.line), .p (.sl (encS d.names)), .p (.sl (encI d.nums))]) :: q.2.1.h q.2.2, 55⟩)
      (fun q => 1 ≤ q.1 ∧ q.1 ≤ d.names.length ∧ BI q.2.1 ∧ b.lanesV d.names = q.2.1.lanesV (d.names.drop (q.1 - 1))) (fun q => d.names.length - q.1) (1, b, k) ⟨Nat.le_refl _, by omega, h, by simp⟩ (Wk.forget (by simp [Le, LeE, LeH, get, envIds, hpIds, KeepH, D.ids, idsL, AO.ids, setL, base, Bdr.h_eq])) ?_
    rintro ⟨i, b', k'⟩ n ⟨hi1, hi, hB, he⟩ ih
    dsimp only at hi1 hi hB he
    simp only [go_sem, Bdr.h_eq b' k', encS_len]
    refine Cn_split (fun h2 => ?_) (fun h2 => ?_)
    · have hlt : i < d.names.length := by simp at h2; omega
      have hw := wrap_succ i (by omega)
      have hp : IntKind.i64.wrap ((i : Int) - 1) = ((i - 1 : Nat) : Int) := by rw [IntKind.wrap_i64]; omega
      have g1 := encS_get d.names (i - 1) (by omega)
      have g2 := encS_get d.names i hlt
      have r1 : (0 : Int) ≤ ((i - 1 : Nat) : Int) ∧ ((i - 1 : Nat) : Int) < (d.names.length : Int) := by omega
      have r2 : (0 : Int) ≤ (i : Int) ∧ (i : Int) < (d.names.length : Int) := by omega
      have hdr : d.names.drop (i - 1) = d.names.getD (i - 1) [] :: d.names.getD i [] :: d.names.drop (i + 1) := by
        have a1 : d.names.drop (i - 1) = d.names[i - 1] :: d.names.drop (i - 1 + 1) := List.drop_eq_getElem_cons (by omega)
        have a2 : d.names.drop i = d.names[i] :: d.names.drop (i + 1) := List.drop_eq_getElem_cons hlt
        rw [a1, show i - 1 + 1 = i by omega, a2]
        simp [List.getD, hlt, show i - 1 < d.names.length by omega]
      have hdr2 : d.names.drop i = d.names.getD i [] :: d.names.drop (i + 1) := by
        rw [List.drop_eq_getElem_cons hlt]; simp [List.getD, hlt]
      rw [hdr] at he
      simp only [go_sem, Bdr.h_eq b' k', encS_len]
      refine X_any [(3, .box [.p (.int .i64 d.word), .p (.int .i64 d.line), .p (.sl (encS d.names)), .p (.sl (encI d.nums))])] mixed (p := [(0, 0), (1, 0), (2, 0), (3, 0), (4, 0), (5, 0), (6, 0), (7, 0), (8, 0), (9, 0), (10, 0), (11, 0), (12, 2), (13, 0)]) (by kernel_rfl) (by simp [LeH, get]) ?_
      simp only [go_sem, Bdr.h_eq b' k', encS_len, hp, r1, r2, Int.toNat_natCast, g1, g2]
      refine Gh_of (lane_ok b' k' (d.names.getD (i - 1) []) (d.names.getD i []) (by rw [hB.nn]; exact hB.mb) (fun i => by have := hB.row i; omega)) ?_
      rintro h' r ⟨k2, rfl, rfl⟩
      have hBl := hB.lane (d.names.getD (i - 1) []) (d.names.getD i [])
      generalize hL : b'.laneV (d.names.getD (i - 1) []) (d.names.getD i []) = L at *
      obtain ⟨e, b2⟩ := L
      simp only at hBl
      simp only [Bdr.lanesV, hL] at he
      cases c3 : decide (e = 0)
      · have c3' : ¬ e = 0 := of_decide_eq_false c3
        rw [if_neg c3'] at he
        rw [he]
        simp only [go_sem, Bdr.h_eq b2 k2, c3]
        first | exact ⟨k2, rfl, rfl⟩ | exact ⟨k2, rfl⟩
      · have c3' : e = 0 := of_decide_eq_true c3
        rw [if_pos c3'] at he
        simp only [go_sem, Bdr.h_eq b2 k2, c3, hw]
        refine ih (i + 1, b2, k2) _ ⟨by omega, hlt, hBl, ?_⟩ (by simp; omega) ?_
        · simp only [Nat.add_sub_cancel]; rw [hdr2]; exact he
        · (refine Wk.forget ?_; simp [Le, LeE, LeH, get, envIds, hpIds, KeepH, D.ids, idsL, AO.ids, setL, base, Bdr.h_eq]; done)
    · have : i = d.names.length := by simp at h2; omega
      simp only [go_sem, Bdr.h_eq b' k']
      have hd2 : d.names.drop (i - 1) = [d.names.getD (i - 1) []] := by
        rw [List.drop_eq_getElem_cons (by omega), List.drop_of_length_le (by omega)]
        simp [List.getD, show i - 1 < d.names.length by omega]
      rw [hd2] at he
      rw [he]
      first | exact ⟨k', rfl, rfl⟩ | exact ⟨k', rfl⟩
  cases c5 : decide (d.word = 5)
  rotate_left
  · have e1 : d.word = 5 := of_decide_eq_true c5
    rw [e1] at hs
    simp [shapeV] at hs
    simp only [go_sem, c0, c1, c2, c5]
    refine Cc_of (v5 (by omega) (by omega)) ?_
    rintro h' r ⟨k', rfl, rfl⟩
    have hv : b.addV d = b.robotV d := by unfold Bdr.addV; simp only [c0, c1, c2, c5, Bool.true_eq_false, Bool.false_eq_true, if_false, if_true]
    rw [hv]
    simp only [go_sem, Bdr.h_eq (b.robotV d).2 k']
    first | exact ⟨k', rfl, rfl⟩ | exact ⟨k', rfl⟩
  cases c6 : decide (d.word = 6)
  rotate_left
  · have e1 : d.word = 6 := of_decide_eq_true c6
    rw [e1] at hs
    simp [shapeV] at hs
    simp only [go_sem, c0, c1, c2, c5, c6]
    refine Cc_of (v6 (by omega)) ?_
    rintro h' r ⟨k', rfl, rfl⟩
    have hv : b.addV d = b.configV d := by unfold Bdr.addV; simp only [c0, c1, c2, c5, c6, Bool.true_eq_false, Bool.false_eq_true, if_false, if_true]
    rw [hv]
    simp only [go_sem, Bdr.h_eq (b.configV d).2 k']
    first | exact ⟨k', rfl, rfl⟩ | exact ⟨k', rfl⟩
  · have n1 : ¬ d.word = 1 := of_decide_eq_false c1
    have n2 : ¬ d.word = 2 := of_decide_eq_false c2
    have n5 : ¬ d.word = 5 := of_decide_eq_false c5
    have n6 : ¬ d.word = 6 := of_decide_eq_false c6
    have e1 : d.word = 3 ∨ d.word = 4 := by omega
    simp only [shapeV, n1, n2, e1, if_false, if_true] at hs
    simp only [go_sem, c0, c1, c2, c5, c6]
    refine Cc_of (v3 (by omega) (by omega)) ?_
    rintro h' r ⟨k', rfl, rfl⟩
    have hv : b.addV d = b.spurV d := by unfold Bdr.addV; simp only [c0, c1, c2, c5, c6, Bool.true_eq_false, Bool.false_eq_true, if_false, if_true]
    rw [hv]
    simp only [go_sem, Bdr.h_eq (b.spurV d).2 k']
    first | exact ⟨k', rfl, rfl⟩ | exact ⟨k', rfl⟩
end Go.Am
end
section
namespace Go.Am
open Go Go.Proofs
set_option maxRecDepth 100000
set_option maxHeartbeats 2000000
set_option linter.unusedSimpArgs false
set_option linter.unusedVariables false
noncomputable def s_cmp_isNaN_v (a0 : Int) : Option (Bool) :=
  some (!decide (a0 = a0))
theorem s_cmp_isNaN_vok (a0 : Int) (r : Bool) (hr : s_cmp_isNaN_v a0 = some r) :
    ACalls Try.prog 128 [.p (.int .i64 a0)] [] fun h d => h = [] ∧ d = .p (.bool r) := by
  refine ACalls_X Try.func128 rfl enters128 (by simp [Try.f128]) ?_
  unfold s_cmp_isNaN_v at hr
  obtain rfl := Option.some.inj hr
  try simp only [go_sem]
  all_goals (try refine end_pure ?_)
  all_goals (try simp only [go_sem])
  all_goals (try (first | rfl | exact ⟨rfl, rfl⟩ | (simp; done)))
noncomputable def s_cmp_Less_v (a0 : Int) (a1 : Int) : Option (Bool) :=
  Option.bind (s_cmp_isNaN_v a0) fun x1 => cond x1 (Option.bind (s_cmp_isNaN_v a1) fun x4 => cond x4 (some (decide (a0 < a1))) (some true)) (some (decide (a0 < a1)))
theorem s_cmp_Less_vok (a0 : Int) (a1 : Int) (r : Bool) (hr : s_cmp_Less_v a0 a1 = some r) :
    ACalls Try.prog 105 [.p (.int .i64 a0), .p (.int .i64 a1)] [] fun h d => h = [] ∧ d = .p (.bool r) := by
  refine ACalls_X Try.func105 rfl enters105 (by simp [Try.f105]) ?_
  unfold s_cmp_Less_v at hr
  rcases g2 : s_cmp_isNaN_v a0 with _ | x1
  · simp only [g2, Option.bind_none, reduceCtorEq] at hr
  simp only [g2, Option.bind_some] at hr
  try simp only [go_sem]
  refine Cc_of (s_cmp_isNaN_vok a0 _ g2) ?_
  rintro h' r ⟨rfl, rfl⟩
  cases c3 : x1
  · simp only [c3, cond_false] at hr
    obtain rfl := Option.some.inj hr
    try simp only [go_sem, c3]
    all_goals (try refine end_pure ?_)
    all_goals (try simp only [go_sem, c3])
    all_goals (try (first | rfl | exact ⟨rfl, rfl⟩ | (simp; done)))
  simp only [c3, cond_true] at hr
  rcases g5 : s_cmp_isNaN_v a1 with _ | x4
  · simp only [g5, Option.bind_none, reduceCtorEq] at hr
  simp only [g5, Option.bind_some] at hr
  try simp only [go_sem, c3]
  refine Cc_of (s_cmp_isNaN_vok a1 _ g5) ?_
  rintro h' r ⟨rfl, rfl⟩
  cases c6 : x4
  · simp only [c6, cond_false] at hr
    obtain rfl := Option.some.inj hr
    try simp only [go_sem, c3, c6]
    all_goals (try refine end_pure ?_)
    all_goals (try simp only [go_sem, c3, c6])
    all_goals (try (first | rfl | exact ⟨rfl, rfl⟩ | (simp; done)))
  simp only [c6, cond_true] at hr
  obtain rfl := Option.some.inj hr
  try simp only [go_sem, c3, c6]
  all_goals (try refine end_pure ?_)
  all_goals (try simp only [go_sem, c3, c6])
  all_goals (try (first | rfl | exact ⟨rfl, rfl⟩ | (simp; done)))
noncomputable def isort_L1 (a1 : Int) : (List Int) × Int → Option (((List Int) × Int) ⊕ (((List Int) × Int)))
  | (v13, v14) => cond (decide (a1 < v14)) (Option.bind (idxO v13 v14) fun x21 => Option.bind (idxO v13 (IntKind.i64.wrap (v14 - 1))) fun x25 => Option.bind (s_cmp_Less_v x21 x25) fun x29 => cond x29 (Option.bind (idxO (v13.set (Int.toNat v14) x25) (IntKind.i64.wrap (v14 - 1))) fun x32 => some (Sum.inl (((v13.set (Int.toNat v14) x25).set (Int.toNat (IntKind.i64.wrap (v14 - 1))) x21), (IntKind.i64.wrap (v14 - 1))))) (some (Sum.inr (v13, v14)))) (some (Sum.inr (v13, v14)))
theorem isort_L1_eq (a1 : Int) (v13 : List Int) (v14 : Int) : isort_L1 a1 (v13, v14) = cond (decide (a1 < v14)) (Option.bind (idxO v13 v14) fun x21 => Option.bind (idxO v13 (IntKind.i64.wrap (v14 - 1))) fun x25 => Option.bind (s_cmp_Less_v x21 x25) fun x29 => cond x29 (Option.bind (idxO (v13.set (Int.toNat v14) x25) (IntKind.i64.wrap (v14 - 1))) fun x32 => some (Sum.inl (((v13.set (Int.toNat v14) x25).set (Int.toNat (IntKind.i64.wrap (v14 - 1))) x21), (IntKind.i64.wrap (v14 - 1))))) (some (Sum.inr (v13, v14)))) (some (Sum.inr (v13, v14))) := rfl
noncomputable def isort_L2 (a1 : Int) (a2 : Int) : (List Int) × Int → Option (((List Int) × Int) ⊕ (((List Int) × Int)))
  | (v3, v4) => cond (decide (v4 < a2)) (Option.bind (loopO (isort_L1 a1) (v3, v4)) (fun (v36, v37) => some (Sum.inl (v36, (IntKind.i64.wrap (v4 + 1)))))) (some (Sum.inr (v3, v4)))
theorem isort_L2_eq (a1 : Int) (a2 : Int) (v3 : List Int) (v4 : Int) : isort_L2 a1 a2 (v3, v4) = cond (decide (v4 < a2)) (Option.bind (loopO (isort_L1 a1) (v3, v4)) (fun (v36, v37) => some (Sum.inl (v36, (IntKind.i64.wrap (v4 + 1)))))) (some (Sum.inr (v3, v4))) := rfl
noncomputable def isort_v (a0 : List Int) (a1 : Int) (a2 : Int) : Option ((List Int)) :=
  Option.bind (loopO (isort_L2 a1 a2) (a0, (IntKind.i64.wrap (a1 + 1)))) (fun (v38, v39) => some v38)
theorem isort_vok (a0 : List Int) (a1 : Int) (a2 : Int) (r : (List Int)) (hr : isort_v a0 a1 a2 = some r) :
    ACalls Try.prog 99 [.ref 1000000 0 a0.length a0.length, .p (.int .i64 a1), .p (.int .i64 a2)] [(1000000, .arr 3 1 (encI a0))] fun h d => h = [(1000000, .arr 3 1 (encI r))] ∧ d = .tup [] := by
  refine ACalls_X Try.func99 rfl enters99 (by simp [Try.f99]) ?_
  unfold isort_v at hr
  rcases g9 : loopO (isort_L2 a1 a2) (a0, (IntKind.i64.wrap (a1 + 1))) with _ | e8
  · simp only [g9, Option.bind_none, reduceCtorEq] at hr
  simp only [g9, Option.bind_some] at hr
  try simp only [go_sem]
  refine X_loopO g9 (fun q : (List Int) × Int => ⟨[(0, .ref 1000000 0 q.1.length q.1.length), (1, .p (.int .i64 a1)), (2, .p (.int .i64 a2)), (6, .p (.int .i64 q.2))], [(1000000, .arr 3 1 (encI q.1))], 49⟩) ((Wk.forget (by simp [Le, LeE, LeH, get, envIds, hpIds, KeepH, D.ids, idsL, AO.ids, setL, base, encI_nil, encS_nil, encT_nil, encG_nil, encC_nil, encL_nil, encK_nil, encP_nil, mpS_nil, mpB_nil, encI_consE, encS_consE, encT_consE, encG_consE, encI_one, encS_one, encT_one, encI_snoc, encS_snoc, encT_snocE, encG_snocE, encC_snoc, encL_snoc, encK_snocE, encP_snocE, encI_set, encS_set, encT_setE, encG_setE, encC_setE, encK_setE, encP_setE, encI_len, encS_len, encT_len2, encG_len2, encC_len, encL_len, encK_len2, encP_len2]))) ?_
  rintro ⟨v3, v4⟩ m7 hh5 ih6
  rw [isort_L2_eq] at hh5
  cases c10 : decide (v4 < a2)
  · simp only [c10, cond_false] at hh5
    simp only [Option.bind_some, nextO_inr] at hh5
    obtain rfl := Option.some.inj hh5
    try dsimp only at hr
    obtain rfl := Option.some.inj hr
    try simp only [go_sem, c10]
    all_goals (try refine end_own ?_)
    all_goals (try simp only [go_sem, c10])
    all_goals (try (first | rfl | exact ⟨rfl, rfl⟩ | (simp; done)))
  simp only [c10, cond_true] at hh5
  rcases g19 : loopO (isort_L1 a1) (v3, v4) with _ | e18
  · simp only [g19, Option.bind_none, reduceCtorEq] at hh5
  simp only [g19, Option.bind_some] at hh5
  try simp only [go_sem, c10]
  refine X_loopO g19 (fun q : (List Int) × Int => ⟨[(0, .ref 1000000 0 q.1.length q.1.length), (1, .p (.int .i64 a1)), (2, .p (.int .i64 a2)), (6, .p (.int .i64 v4)), (7, .p (.int .i64 q.2))], [(1000000, .arr 3 1 (encI q.1))], 49⟩) ((Wk.forget (by simp [Le, LeE, LeH, get, envIds, hpIds, KeepH, D.ids, idsL, AO.ids, setL, base, encI_nil, encS_nil, encT_nil, encG_nil, encC_nil, encL_nil, encK_nil, encP_nil, mpS_nil, mpB_nil, encI_consE, encS_consE, encT_consE, encG_consE, encI_one, encS_one, encT_one, encI_snoc, encS_snoc, encT_snocE, encG_snocE, encC_snoc, encL_snoc, encK_snocE, encP_snocE, encI_set, encS_set, encT_setE, encG_setE, encC_setE, encK_setE, encP_setE, encI_len, encS_len, encT_len2, encG_len2, encC_len, encL_len, encK_len2, encP_len2]))) ?_
  rintro ⟨v13, v14⟩ m17 hh15 ih16
  rw [isort_L1_eq] at hh15
  try simp only [go_sem, c10]
  refine X_any0 mixed (p := [(0, 0), (1, 0), (2, 0), (3, 0), (4, 0), (5, 0), (6, 0), (7, 0), (8, 0), (9, 0), (10, 0), (11, 0), (12, 0), (13, 2), (14, 0)]) (by kernel_rfl) (by simp [LeH, get]) ?_
  cases c20 : decide (a1 < v14)
  · simp only [c20, cond_false] at hh15
    simp only [Option.bind_some, nextO_inr] at hh15
    obtain rfl := Option.some.inj hh15
    try dsimp only at hh5
    simp only [Option.bind_some, nextO_inl] at hh5
    try simp only [go_sem, c10, c20]
    exact ih6 (v13, (IntKind.i64.wrap (v4 + 1))) _ hh5 ((Wk.forget (by simp [Le, LeE, LeH, get, envIds, hpIds, KeepH, D.ids, idsL, AO.ids, setL, base, encI_nil, encS_nil, encT_nil, encG_nil, encC_nil, encL_nil, encK_nil, encP_nil, mpS_nil, mpB_nil, encI_consE, encS_consE, encT_consE, encG_consE, encI_one, encS_one, encT_one, encI_snoc, encS_snoc, encT_snocE, encG_snocE, encC_snoc, encL_snoc, encK_snocE, encP_snocE, encI_set, encS_set, encT_setE, encG_setE, encC_setE, encK_setE, encP_setE, encI_len, encS_len, encT_len2, encG_len2, encC_len, encL_len, encK_len2, encP_len2])))
  simp only [c20, cond_true] at hh15
  rcases g22 : idxO v13 v14 with _ | x21
  · simp only [g22, Option.bind_none, reduceCtorEq] at hh15
  simp only [g22, Option.bind_some] at hh15
  have f23 := idxO_rng g22
  have f24 : (encI v13).getD (Int.toNat v14) [] = [(.int .i64 x21)] := idxO_map _ g22
  rcases g26 : idxO v13 (IntKind.i64.wrap (v14 - 1)) with _ | x25
  · simp only [g26, Option.bind_none, reduceCtorEq] at hh15
  simp only [g26, Option.bind_some] at hh15
  have f27 := idxO_rng g26
  have f28 : (encI v13).getD (Int.toNat (IntKind.i64.wrap (v14 - 1))) [] = [(.int .i64 x25)] := idxO_map _ g26
  rcases g30 : s_cmp_Less_v x21 x25 with _ | x29
  · simp only [g30, Option.bind_none, reduceCtorEq] at hh15
  simp only [g30, Option.bind_some] at hh15
  try simp only [go_sem, c10, c20, f23, f24, f27, f28]
  refine Gh_of (s_cmp_Less_vok x21 x25 _ g30) ?_
  rintro h' r ⟨rfl, rfl⟩
  cases c31 : x29
  · simp only [c31, cond_false] at hh15
    simp only [Option.bind_some, nextO_inr] at hh15
    obtain rfl := Option.some.inj hh15
    try dsimp only at hh5
    simp only [Option.bind_some, nextO_inl] at hh5
    try simp only [go_sem, c10, c20, f23, f24, f27, f28, c31]
    exact ih6 (v13, (IntKind.i64.wrap (v4 + 1))) _ hh5 ((Wk.forget (by simp [Le, LeE, LeH, get, envIds, hpIds, KeepH, D.ids, idsL, AO.ids, setL, base, encI_nil, encS_nil, encT_nil, encG_nil, encC_nil, encL_nil, encK_nil, encP_nil, mpS_nil, mpB_nil, encI_consE, encS_consE, encT_consE, encG_consE, encI_one, encS_one, encT_one, encI_snoc, encS_snoc, encT_snocE, encG_snocE, encC_snoc, encL_snoc, encK_snocE, encP_snocE, encI_set, encS_set, encT_setE, encG_setE, encC_setE, encK_setE, encP_setE, encI_len, encS_len, encT_len2, encG_len2, encC_len, encL_len, encK_len2, encP_len2, c31])))
  simp only [c31, cond_true] at hh15
  try simp only [go_sem, c10, c20, f23, f24, f27, f28, c31]
  refine X_any0 mixed (p := [(0, 0), (1, 0), (2, 0), (3, 0), (4, 0), (5, 0), (6, 0), (7, 0), (8, 0), (9, 0), (10, 0), (11, 0), (12, 0), (13, 0), (14, 0), (15, 4), (16, 4), (17, 4)]) (by kernel_rfl) (by simp [LeH, get]) ?_
  rcases g33 : idxO (v13.set (Int.toNat v14) x25) (IntKind.i64.wrap (v14 - 1)) with _ | x32
  · simp only [g33, Option.bind_none, reduceCtorEq] at hh15
  simp only [g33, Option.bind_some] at hh15
  have f34 := idxO_rng g33
  have f35 : (encI (v13.set (Int.toNat v14) x25)).getD (Int.toNat (IntKind.i64.wrap (v14 - 1))) [] = [(.int .i64 x32)] := idxO_map _ g33
  simp only [Option.bind_some, nextO_inl] at hh15
  try simp only [go_sem, c10, c20, f23, f24, f27, f28, c31, f34, f35]
  exact ih16 (((v13.set (Int.toNat v14) x25).set (Int.toNat (IntKind.i64.wrap (v14 - 1))) x21), (IntKind.i64.wrap (v14 - 1))) _ hh15 ((Wk.forget (by simp [Le, LeE, LeH, get, envIds, hpIds, KeepH, D.ids, idsL, AO.ids, setL, base, encI_nil, encS_nil, encT_nil, encG_nil, encC_nil, encL_nil, encK_nil, encP_nil, mpS_nil, mpB_nil, encI_consE, encS_consE, encT_consE, encG_consE, encI_one, encS_one, encT_one, encI_snoc, encS_snoc, encT_snocE, encG_snocE, encC_snoc, encL_snoc, encK_snocE, encP_snocE, encI_set, encS_set, encT_setE, encG_setE, encC_setE, encK_setE, encP_setE, encI_len, encS_len, encT_len2, encG_len2, encC_len, encL_len, encK_len2, encP_len2, c31])))
noncomputable def s_netmap_Build_1_v (a0 : Spr) : Option (Bool) :=
  some a0.depot
theorem s_netmap_Build_1_vok (a0 : Spr) (r : Bool) (hr : s_netmap_Build_1_v a0 = some r) :
    ACalls Try.prog 53 [.agg [.p (.str a0.name), .p (.bool a0.depot), .p (.int .i64 a0.inn), .p (.int .i64 a0.out), .p (.int .i64 a0.slots), .p (.int .i64 a0.base)]] [] fun h d => h = [] ∧ d = .p (.bool r) := by
  refine ACalls_X Try.func53 rfl enters53 (by simp [Try.f53]) ?_
  unfold s_netmap_Build_1_v at hr
  obtain rfl := Option.some.inj hr
  try simp only [go_sem]
  all_goals (try refine end_pure ?_)
  all_goals (try simp only [go_sem])
  all_goals (try (first | rfl | exact ⟨rfl, rfl⟩ | (simp; done)))
noncomputable def s_slices_IndexFunc_L1 (a0 : List Spr) : Int → Option ((Int) ⊕ (Int ⊕ Int))
  | v2 => cond (decide (v2 < ((a0.length : Nat) : Int))) (Option.bind (idxO a0 v2) fun x9 => Option.bind (s_netmap_Build_1_v (⟨x9.name, x9.depot, x9.inn, x9.out, x9.slots, x9.base⟩ : Spr)) fun x13 => cond x13 (some (Sum.inr (.inr (v2)))) (some (Sum.inl (IntKind.i64.wrap (v2 + 1))))) (some (Sum.inr (.inl v2)))
theorem s_slices_IndexFunc_L1_eq (a0 : List Spr) (v2 : Int) : s_slices_IndexFunc_L1 a0 v2 = cond (decide (v2 < ((a0.length : Nat) : Int))) (Option.bind (idxO a0 v2) fun x9 => Option.bind (s_netmap_Build_1_v (⟨x9.name, x9.depot, x9.inn, x9.out, x9.slots, x9.base⟩ : Spr)) fun x13 => cond x13 (some (Sum.inr (.inr (v2)))) (some (Sum.inl (IntKind.i64.wrap (v2 + 1))))) (some (Sum.inr (.inl v2))) := rfl
noncomputable def s_slices_IndexFunc_v (a0 : List Spr) : Option (Int) :=
  Option.bind (loopO (s_slices_IndexFunc_L1 a0) 0) (fun | .inl v16 => some (-1) | .inr (r17) => some r17)
theorem s_slices_IndexFunc_vok (a0 : List Spr) (r : Int) (hr : s_slices_IndexFunc_v a0 = some r) :
    ACalls Try.prog 59 [.p (.sl (encP a0)), .fn 53 []] [] fun h d => h = [] ∧ d = .p (.int .i64 r) := by
  refine ACalls_X Try.func59 rfl enters59 (by simp [Try.f59]) ?_
  unfold s_slices_IndexFunc_v at hr
  rcases g7 : loopO (s_slices_IndexFunc_L1 a0) 0 with _ | e6
  · simp only [g7, Option.bind_none, reduceCtorEq] at hr
  simp only [g7, Option.bind_some] at hr
  try simp only [go_sem]
  refine X_loopO g7 (fun q : Int => ⟨[(0, .p (.sl (encP a0))), (1, .fn 53 []), (7, .p (.int .i64 ((a0.length : Nat) : Int))), (8, .p (.int .i64 q))], [], 19⟩) ((Wk.forget (by simp [Le, LeE, LeH, get, envIds, hpIds, KeepH, D.ids, idsL, AO.ids, setL, base, encI_nil, encS_nil, encT_nil, encG_nil, encC_nil, encL_nil, encK_nil, encP_nil, mpS_nil, mpB_nil, encI_consE, encS_consE, encT_consE, encG_consE, encI_one, encS_one, encT_one, encI_snoc, encS_snoc, encT_snocE, encG_snocE, encC_snoc, encL_snoc, encK_snocE, encP_snocE, encI_set, encS_set, encT_setE, encG_setE, encC_setE, encK_setE, encP_setE, encI_len, encS_len, encT_len2, encG_len2, encC_len, encL_len, encK_len2, encP_len2]))) ?_
  rintro v2 m5 hh3 ih4
  rw [s_slices_IndexFunc_L1_eq] at hh3
  cases c8 : decide (v2 < ((a0.length : Nat) : Int))
  · simp only [c8, cond_false] at hh3
    simp only [Option.bind_some, nextO_inr] at hh3
    obtain rfl := Option.some.inj hh3
    try dsimp only at hr
    obtain rfl := Option.some.inj hr
    try simp only [go_sem, c8]
    all_goals (try refine end_pure ?_)
    all_goals (try simp only [go_sem, c8])
    all_goals (try (first | rfl | exact ⟨rfl, rfl⟩ | (simp; done)))
  simp only [c8, cond_true] at hh3
  rcases g10 : idxO a0 v2 with _ | x9
  · simp only [g10, Option.bind_none, reduceCtorEq] at hh3
  simp only [g10, Option.bind_some] at hh3
  have f11 := idxO_rng g10
  have f12 : (encP a0).getD (Int.toNat v2) [] = [(.str x9.name), (.bool x9.depot), (.int .i64 x9.inn), (.int .i64 x9.out), (.int .i64 x9.slots), (.int .i64 x9.base)] := idxO_map _ g10
  rcases g14 : s_netmap_Build_1_v (⟨x9.name, x9.depot, x9.inn, x9.out, x9.slots, x9.base⟩ : Spr) with _ | x13
  · simp only [g14, Option.bind_none, reduceCtorEq] at hh3
  simp only [g14, Option.bind_some] at hh3
  try simp only [go_sem, c8, f11, f12]
  refine Cc_of (s_netmap_Build_1_vok (⟨x9.name, x9.depot, x9.inn, x9.out, x9.slots, x9.base⟩ : Spr) _ g14) ?_
  rintro h' r ⟨rfl, rfl⟩
  cases c15 : x13
  · simp only [c15, cond_false] at hh3
    simp only [Option.bind_some, nextO_inl] at hh3
    try simp only [go_sem, c8, f11, f12, c15]
    exact ih4 (IntKind.i64.wrap (v2 + 1)) _ hh3 ((Wk.forget (by simp [Le, LeE, LeH, get, envIds, hpIds, KeepH, D.ids, idsL, AO.ids, setL, base, encI_nil, encS_nil, encT_nil, encG_nil, encC_nil, encL_nil, encK_nil, encP_nil, mpS_nil, mpB_nil, encI_consE, encS_consE, encT_consE, encG_consE, encI_one, encS_one, encT_one, encI_snoc, encS_snoc, encT_snocE, encG_snocE, encC_snoc, encL_snoc, encK_snocE, encP_snocE, encI_set, encS_set, encT_setE, encG_setE, encC_setE, encK_setE, encP_setE, encI_len, encS_len, encT_len2, encG_len2, encC_len, encL_len, encK_len2, encP_len2, c15])))
  simp only [c15, cond_true] at hh3
  simp only [Option.bind_some, nextO_inr] at hh3
  obtain rfl := Option.some.inj hh3
  try dsimp only at hr
  obtain rfl := Option.some.inj hr
  try simp only [go_sem, c8, f11, f12, c15]
  all_goals (try refine end_pure ?_)
  all_goals (try simp only [go_sem, c8, f11, f12, c15])
  all_goals (try (first | rfl | exact ⟨rfl, rfl⟩ | (simp; done)))
noncomputable def cfDepot_v (a0 : List Spr) : Option (Bool) :=
  Option.bind (s_slices_IndexFunc_v a0) fun x1 => some (decide (0 ≤ x1))
theorem cfDepot_vok (a0 : List Spr) (r : Bool) (hr : cfDepot_v a0 = some r) :
    ACalls Try.prog 52 [.p (.sl (encP a0)), .fn 53 []] [] fun h d => h = [] ∧ d = .p (.bool r) := by
  refine ACalls_X Try.func52 rfl enters52 (by simp [Try.f52]) ?_
  unfold cfDepot_v at hr
  rcases g2 : s_slices_IndexFunc_v a0 with _ | x1
  · simp only [g2, Option.bind_none, reduceCtorEq] at hr
  simp only [g2, Option.bind_some] at hr
  try simp only [go_sem]
  refine Cc_of (s_slices_IndexFunc_vok a0 _ g2) ?_
  rintro h' r ⟨rfl, rfl⟩
  obtain rfl := Option.some.inj hr
  try simp only [go_sem]
  all_goals (try refine end_pure ?_)
  all_goals (try simp only [go_sem])
  all_goals (try (first | rfl | exact ⟨rfl, rfl⟩ | (simp; done)))
end Go.Am
end
section
namespace Go.Am
open Go Go.Proofs
set_option maxRecDepth 100000
set_option linter.unusedVariables false
set_option linter.unusedSimpArgs false
def insS : List Int → Int → List Int
  | [], x => [x]
  | y :: r, x => if x < y then x :: y :: r else y :: insS r x
def sortV (l : List Int) : List Int := l.foldl insS []
theorem insS_len (l : List Int) (x : Int) : (insS l x).length = l.length + 1 := by
  induction l with
  | nil => rfl
  | cons y r ih => simp only [insS]; split <;> simp [ih]
theorem foldl_insS_len (l p : List Int) : (l.foldl insS p).length = p.length + l.length := by
  induction l generalizing p with
  | nil => simp
  | cons x r ih => simp only [List.foldl_cons, ih, insS_len, List.length_cons]; omega
theorem sortV_len (l : List Int) : (sortV l).length = l.length := by simp [sortV, foldl_insS_len]
theorem insS_mem (l : List Int) (x y : Int) : y ∈ insS l x ↔ y = x ∨ y ∈ l := by
  induction l with
  | nil => simp [insS]
  | cons z r ih =>
    simp only [insS]
    split
    · simp
    · simp only [List.mem_cons, ih]
      constructor
      · rintro (h | h | h) <;> simp [h]
      · rintro (h | h | h) <;> simp [h]
theorem insS_sorted (l : List Int) (x : Int) (h : l.Pairwise (· ≤ ·)) : (insS l x).Pairwise (· ≤ ·) := by
  induction l with
  | nil => simp [insS]
  | cons y r ih =>
    obtain ⟨h1, h2⟩ := List.pairwise_cons.1 h
    simp only [insS]
    split
    · refine List.pairwise_cons.2 ⟨fun z hz => ?_, h⟩
      rcases List.mem_cons.1 hz with rfl | hz
      · omega
      · have := h1 z hz; omega
    · refine List.pairwise_cons.2 ⟨fun z hz => ?_, ih h2⟩
      rcases (insS_mem r x z).1 hz with rfl | hz
      · omega
      · exact h1 z hz
theorem insS_snoc_lt (p : List Int) (y x : Int) (h : x < y) : insS (p ++ [y]) x = insS p x ++ [y] := by
  induction p with
  | nil => simp [insS, h]
  | cons z r ih =>
    simp only [List.cons_append, insS]
    split
    · rfl
    · rw [ih]; rfl
theorem insS_snoc_ge (p : List Int) (y x : Int) (hs : (p ++ [y]).Pairwise (· ≤ ·)) (h : ¬ x < y) : insS (p ++ [y]) x = p ++ [y, x] := by
  induction p with
  | nil => simp [insS, h]
  | cons z r ih =>
    simp only [List.cons_append, List.pairwise_cons] at hs
    have := hs.1 y (by simp)
    simp only [List.cons_append, insS]
    rw [if_neg (by omega), ih hs.2]
theorem set_mid {α : Type} (p q : List α) (x y : α) : (p ++ x :: q).set p.length y = p ++ y :: q := by
  induction p with
  | nil => rfl
  | cons z r ih => simp [ih]
theorem less_v (a b : Int) : s_cmp_Less_v a b = some (decide (a < b)) := by
  unfold s_cmp_Less_v s_cmp_isNaN_v
  simp
theorem isort_in (l : List Int) : ∀ (n : Nat) (p : List Int) (x : Int) (q : List Int), p.length = n → p.Pairwise (· ≤ ·) → n < 10000000 → ∃ j, loopO (isort_L1 0) (p ++ x :: q, (n : Int)) = some (insS p x ++ q, j)
  | 0, p, x, q, hp, _, _ => by
    obtain rfl : p = [] := List.eq_nil_of_length_eq_zero hp
    refine ⟨0, ?_⟩
    rw [loopO_step, isort_L1_eq]
    simp [insS, nextO]
  | n + 1, p, x, q, hp, hs, hn => by
    obtain ⟨r, y, rfl⟩ : ∃ r y, p = r ++ [y] := by
      rcases List.eq_nil_or_concat p with h | ⟨r, y, h⟩
      · subst h; simp at hp
      · exact ⟨r, y, by simpa using h⟩
    have hr : r.length = n := by simpa using hp
    have hw : IntKind.i64.wrap (((n + 1 : Nat) : Int) - 1) = (n : Int) := by rw [IntKind.wrap_i64]; omega
    have i1 : idxO ((r ++ [y]) ++ x :: q) ((n + 1 : Nat) : Int) = some x := by
      rw [idxO_nat]; simp [← hr, List.getElem?_append]
    have i2 : idxO ((r ++ [y]) ++ x :: q) (n : Int) = some y := by
      rw [idxO_nat]; simp [← hr, List.getElem?_append]
    have s1 : ((r ++ [y]) ++ x :: q).set (n + 1) y = r ++ y :: y :: q := by
      have := set_mid (r ++ [y]) q x y
      rw [show (r ++ [y]).length = n + 1 by simp [hr]] at this
      rw [this]; simp
    have i3 : idxO (((r ++ [y]) ++ x :: q).set (n + 1) y) (n : Int) = some y := by
      rw [s1, idxO_nat]; simp [← hr, List.getElem?_append]
    have s2 : (((r ++ [y]) ++ x :: q).set (n + 1) y).set n x = r ++ x :: (y :: q) := by
      rw [s1, ← hr]; exact set_mid r (y :: q) y x
    rw [loopO_step, isort_L1_eq]
    have c1 : decide ((0 : Int) < ((n + 1 : Nat) : Int)) = true := decide_eq_true (by omega)
    rw [c1, cond_true, i1, Option.bind_some, hw, i2, Option.bind_some, less_v, Option.bind_some]
    by_cases hxy : x < y
    · have c2 : decide (x < y) = true := by simpa using hxy
      rw [c2, cond_true, show Int.toNat ((n + 1 : Nat) : Int) = n + 1 from rfl, i3, Option.bind_some, Option.bind_some, nextO_inl, show Int.toNat (n : Int) = n from rfl, s2]
      have hs2 : r.Pairwise (· ≤ ·) := (List.pairwise_append.1 hs).1
      obtain ⟨j, hj⟩ := isort_in l n r x (y :: q) hr hs2 (by omega)
      refine ⟨j, ?_⟩
      rw [hj, insS_snoc_lt _ _ _ hxy]
      simp
    · have c2 : decide (x < y) = false := by simpa using hxy
      rw [c2, cond_false, Option.bind_some, nextO_inr]
      refine ⟨((n + 1 : Nat) : Int), ?_⟩
      rw [insS_snoc_ge _ _ _ hs hxy]
      simp
theorem isort_out : ∀ (q p : List Int), p.Pairwise (· ≤ ·) → p.length + q.length < 10000000 → ∃ j, loopO (isort_L2 0 ((p.length + q.length : Nat) : Int)) (p ++ q, (p.length : Int)) = some (q.foldl insS p, j)
  | [], p, hs, hn => by
    rw [loopO_step, isort_L2_eq]
    simp [nextO]
  | x :: q, p, hs, hn => by
    have hl : p.length + (x :: q).length = (insS p x).length + q.length := by rw [insS_len]; simp; omega
    rw [loopO_step, isort_L2_eq]
    have c1 : decide ((p.length : Int) < ((p.length + (x :: q).length : Nat) : Int)) = true := decide_eq_true (by simp only [List.length_cons]; omega)
    obtain ⟨j, hj⟩ := isort_in [] p.length p x q rfl hs (by simp at hn; omega)
    have hw : IntKind.i64.wrap ((p.length : Int) + 1) = ((insS p x).length : Int) := by rw [IntKind.wrap_i64, insS_len]; simp at hn; omega
    rw [c1, cond_true, hj, Option.bind_some, Option.bind_some, nextO_inl, hw, hl]
    obtain ⟨j2, hj2⟩ := isort_out q (insS p x) (insS_sorted p x hs) (by rw [insS_len]; simp at hn; omega)
    exact ⟨j2, by rw [hj2]; rfl⟩
theorem isort_short (l : List Int) (hl : l.length < 10000000) : isort_v l 0 (l.length : Int) = some (sortV l) := by
  unfold isort_v
  cases l with
  | nil =>
    rw [loopO_step, isort_L2_eq]
    simp [nextO, sortV, IntKind.wrap_i64]
  | cons x r =>
    have hw : IntKind.i64.wrap (0 + 1) = (([x] : List Int).length : Int) := by rw [IntKind.wrap_i64]; simp
    obtain ⟨j, hj⟩ := isort_out r [x] (by simp) (by simp at hl ⊢; omega)
    rw [hw, show ((x :: r).length : Int) = (([x] : List Int).length + r.length : Nat) by simp; omega, show x :: r = [x] ++ r from rfl, hj]
    rfl
end Go.Am
end
section
namespace Go.Am
open Go Go.Proofs
set_option maxRecDepth 100000
set_option linter.unusedVariables false
set_option linter.unusedSimpArgs false
set_option maxHeartbeats 1000000
theorem len64_ok (n : Nat) (hn : n ≤ 12) : ACalls Try.prog 109 [.p (.int .u64 n)] [] fun h r => h = [] ∧ ∃ m : Int, r = .p (.int .i64 m) := by
  have c1 : decide ((4294967296 : Int) ≤ (n : Int)) = false := by simp; omega
  have c2 : decide ((65536 : Int) ≤ (n : Int)) = false := by simp; omega
  have c3 : decide ((256 : Int) ≤ (n : Int)) = false := by simp; omega
  have w1 : IntKind.u8.wrap (n : Int) = (n : Int) := by simp only [IntKind.wrap, IntKind.signed, IntKind.bits]; first | omega | (simp; omega)
  have r1 : (0 : Int) ≤ (n : Int) ∧ (n : Int) < 256 := by omega
  refine ACalls_X Try.func109 rfl enters109 (by simp [Try.f109]) ?_
  simp only [go_sem, c1, c2, c3, w1]
  refine ⟨by simp; omega, ?_⟩
  exact ⟨_, rfl⟩
theorem len_ok (n : Nat) (hn : n ≤ 12) : ACalls Try.prog 77 [.p (.int .u64 n)] [] fun h r => h = [] ∧ ∃ m : Int, r = .p (.int .i64 m) := by
  refine ACalls_X Try.func77 rfl enters77 (by simp [Try.f77]) ?_
  simp only [go_sem]
  refine Cc_of (len64_ok n hn) ?_
  rintro h' r ⟨rfl, m, rfl⟩
  simp only [go_sem]
  exact ⟨m, rfl⟩
theorem pdq_short (l : List Int) (hl : l.length ≤ 12) (m : Int) : ACalls Try.prog 76 [.ref 1000000 0 l.length l.length, .p (.int .i64 0), .p (.int .i64 l.length), .p (.int .i64 m)] [(1000000, .arr 3 1 (encI l))]
    fun h r => h = [(1000000, .arr 3 1 (encI (sortV l)))] ∧ r = .tup [] := by
  have w1 : IntKind.i64.wrap ((l.length : Int) - 0) = (l.length : Int) := by rw [IntKind.wrap_i64]; omega
  have c1 : decide ((l.length : Int) ≤ 12) = true := by simp; omega
  refine ACalls_X Try.func76 rfl enters76 (by simp [Try.f76]) ?_
  simp only [go_sem]
  refine X_loop 1 ?_
  rw [L_succ]
  refine ⟨_, Wk.refl _, ?_⟩
  simp only [go_sem, w1, c1, encI_len]
  refine Cc_own rfl rfl ?_
  simp only [go_sem, callD_eq]
  refine Kc_of (isort_vok l 0 l.length _ (isort_short l (by omega))) ?_
  rintro h' r ⟨rfl, rfl⟩
  simp only [go_sem]
  all_goals (try refine end_own ?_)
  all_goals (try simp only [go_sem])
theorem sort_own (l : List Int) (hl : l.length ≤ 12) : ACalls Try.prog 49 [.ref 1000000 0 l.length l.length] [(1000000, .arr 3 1 (encI l))] fun h r => h = [(1000000, .arr 3 1 (encI (sortV l)))] ∧ r = .tup [] := by
  have w1 : IntKind.u64.wrap (l.length : Int) = (l.length : Int) := by simp only [IntKind.wrap, IntKind.signed, IntKind.bits]; first | omega | (simp; omega)
  refine ACalls_X Try.func49 rfl enters49 (by simp [Try.f49]) ?_
  simp only [go_sem, encI_len, w1]
  refine Cc_of (len_ok l.length hl) ?_
  rintro h' r ⟨rfl, m, rfl⟩
  simp only [go_sem, encI_len]
  refine Cc_own rfl rfl ?_
  simp only [go_sem, callD_eq]
  refine Kc_of (pdq_short l hl m) ?_
  rintro h' r ⟨rfl, rfl⟩
  simp only [go_sem]
  all_goals (try refine end_own ?_)
  all_goals (try simp only [go_sem])
end Go.Am
end
section
namespace Go.Am
open Go Go.Proofs
set_option maxRecDepth 100000
set_option linter.unusedVariables false
set_option linter.unusedSimpArgs false
theorem sort_row (rows : List (List Int)) (i k : Nat) (hi : i < rows.length) (hl : (rows.getD i []).length ≤ 12) :
    ACalls Try.prog 49 [.nr 1000000 i (rows.getD i []).length k] [(1000000, .nst 24 3 1 k (encR rows) none)] fun h r => h = [(1000000, .nst 24 3 1 k (encR (rows.set i (sortV (rows.getD i [])))) none)] ∧ r = .tup [] := by
  have hg : (encR rows)[i]? = some (encI (rows.getD i [])) := by simp [encR, List.getD, hi]
  refine (ACalls_row (ps := []) hg (encI_len _).symm (sort_own (rows.getD i []) hl) (R' := fun es r => es = encI (sortV (rows.getD i [])) ∧ r = .tup []) ?_).mono ?_
  · rintro h' r ⟨rfl, rfl⟩
    exact ⟨_, rfl, by rw [encI_len, sortV_len], .inl rfl, rfl, rfl⟩
  · rintro h' r ⟨es', rfl, _, rfl, rfl⟩
    exact ⟨by rw [encR_set], rfl⟩
def nt0 : Nt := ⟨[], [], [], [], 0, 0, 0, 0⟩
def Bdr.init : Bdr := ⟨[], [], [], 4, 2, 1, 8, [], [], [], 0, [], false⟩
def addsV : Bdr → List Dc → Option (Int × Int) × Bdr
  | b, [] => (none, b)
  | b, d :: r => if (b.addV d).1 = 0 then addsV (b.addV d).2 r else (some (d.line, (b.addV d).1), b)
def spB (n : Int) (sp : List Spr) (ba : List Int) : List Spr := List.zipWith (fun s x => { s with base := n + x }) sp ba
def plB (sp : List Spr) (p : Int × Int) : Int := (sp.getD p.1.toNat spr0).base + p.2 - 1
def Bdr.net (b : Bdr) : Nt := ⟨b.bl, b.nx.map sortV, spB b.bl.length b.sp b.ba, b.pl.map (plB (spB b.bl.length b.sp b.ba)), b.cq, b.ca, b.cd, b.cp⟩
def nbuildV (d : List Dc) : Nt × Int × Int := match addsV Bdr.init d with
  | (some (l, e), _) => (nt0, l, e)
  | (none, b) => if decide (b.bl.length = 0) = true then (nt0, 0, 15) else if b.sp.any (·.depot) = false then (nt0, 0, 16) else (b.net, 0, 0)
def Bdr.lbox (b : Bdr) : List D := [.ref 901 0 b.bl.length b.bl.length, .nref 902 b.nx.length, .ref 903 0 b.sp.length b.sp.length, .cl [], .p (.int .i64 b.cq), .p (.int .i64 b.ca), .p (.int .i64 b.cd), .p (.int .i64 b.cp),
  .mv 14, .mv 15, .ref 906 0 b.ba.length b.ba.length, .p (.int .i64 b.sl), .ref 907 0 b.pl.length b.pl.length, .p (.bool b.cf)]
def Bdr.lh (b : Bdr) (k : Nat) : Hp := [(17, .box b.lbox), (901, .arr 74 3 (encK b.bl)), (902, .nst 24 3 1 k (encR b.nx) none), (903, .arr 61 6 (encP b.sp)),
  (14, .mp (mpS b.mb)), (15, .mp (mpS b.ms)), (906, .arr 3 1 (encI b.ba)), (907, .arr 98 2 (encQ b.pl))]
theorem Bdr.lh_eq (b : Bdr) (k : Nat) : b.lh k = [(17, .box [.ref 901 0 b.bl.length b.bl.length, .nref 902 b.nx.length, .ref 903 0 b.sp.length b.sp.length, .cl [], .p (.int .i64 b.cq), .p (.int .i64 b.ca), .p (.int .i64 b.cd), .p (.int .i64 b.cp),
  .mv 14, .mv 15, .ref 906 0 b.ba.length b.ba.length, .p (.int .i64 b.sl), .ref 907 0 b.pl.length b.pl.length, .p (.bool b.cf)]), (901, .arr 74 3 (encK b.bl)), (902, .nst 24 3 1 k (encR b.nx) none), (903, .arr 61 6 (encP b.sp)),
  (14, .mp (mpS b.mb)), (15, .mp (mpS b.ms)), (906, .arr 3 1 (encI b.ba)), (907, .arr 98 2 (encQ b.pl))] := rfl
theorem BI.init : BI Bdr.init := by
  refine ⟨by simp [Bdr.init], rfl, fun x i h => ?_, fun x i h => ?_, fun i => by simp [Bdr.init], by simp [Bdr.init], rfl, by simp [Bdr.init], by simp [Bdr.init], by simp [Bdr.init], by simp [Bdr.init], by simp [Bdr.init]⟩ <;> simp [Bdr.init, getS] at h
theorem BI.adds : ∀ (l : List Dc) {b : Bdr}, BI b → BI (addsV b l).2
  | [], b, h => h
  | d :: r, b, h => by
    simp only [addsV]
    split
    · exact BI.adds r (h.add d)
    · exact h
theorem encC_dget (l : List Dc) (i : Nat) (h : i < l.length) : (encC l).getD i [] = [.int .i64 (l.getD i dc0).word, .int .i64 (l.getD i dc0).line, .sl (encS (l.getD i dc0).names), .sl (encI (l.getD i dc0).nums)] := by simp [encC, List.getD, h]
theorem cf_any (l : List Spr) (hl : l.length < 10000000) : cfDepot_v l = some (l.any (·.depot)) := by
  have h := loopO_for (step := s_slices_IndexFunc_L1 l) l.length (fun i => (i : Int)) (Sum.inl (l.length : Int)) (fun i => if (l.getD i spr0).depot = true then some (Sum.inr (i : Int)) else none)
    (fun i hi _ => by
      have hx : idxO l (i : Int) = some (l.getD i spr0) := by rw [idxO_nat]; simp [List.getD, hi]
      rw [s_slices_IndexFunc_L1_eq, decide_eq_true (by omega : (i : Int) < ((l.length : Nat) : Int)), cond_true, hx, Option.bind_some]
      simp only [s_netmap_Build_1_v, Option.bind_some]
      cases c : (l.getD i spr0).depot
      · simp [wrap_succ i (by omega)]
      · simp)
    (fun _ => by rw [s_slices_IndexFunc_L1_eq, decide_eq_false (by omega : ¬ ((l.length : Nat) : Int) < ((l.length : Nat) : Int)), cond_false])
  unfold cfDepot_v s_slices_IndexFunc_v
  rw [show ((0 : Nat) : Int) = 0 from rfl] at h
  rw [h]
  cases hf : (List.range l.length).findSome? (fun i => if (l.getD i spr0).depot = true then some (Sum.inr (i : Int) : Int ⊕ Int) else none) with
  | none =>
    rw [List.findSome?_eq_none_iff] at hf
    have : l.any (·.depot) = false := by
      rw [List.any_eq_false]
      intro x hx
      obtain ⟨i, hi, rfl⟩ := List.getElem_of_mem hx
      have := hf i (by simpa using hi)
      simp [List.getD, hi] at this
      simpa using this
    simp [this]
  | some e =>
    obtain ⟨i, hi, he⟩ := List.exists_of_findSome?_eq_some hf
    simp only [List.mem_range] at hi
    split at he
    · rename_i hd
      cases he
      have : l.any (·.depot) = true := List.any_eq_true.2 ⟨l.getD i spr0, getD_mem l i spr0 hi, hd⟩
      simp [this]
    · cases he
def sB (n : Int) (sp : List Spr) (ba : List Int) (i : Nat) : List Spr := spB n (sp.take i) (ba.take i) ++ sp.drop i
theorem spB_len (n : Int) (sp : List Spr) (ba : List Int) (h : ba.length = sp.length) : (spB n sp ba).length = sp.length := by simp [spB, h]
theorem sB_len (n : Int) (sp : List Spr) (ba : List Int) (i : Nat) (h : ba.length = sp.length) (hi : i ≤ sp.length) : (sB n sp ba i).length = sp.length := by
  simp only [sB, List.length_append, List.length_drop]
  rw [spB_len _ _ _ (by simp [h]), List.length_take]
  omega
theorem sB_at (n : Int) (sp : List Spr) (ba : List Int) (i : Nat) (h : ba.length = sp.length) (hi : i < sp.length) : (sB n sp ba i).getD i spr0 = sp.getD i spr0 := by
  have hl : (spB n (sp.take i) (ba.take i)).length = i := by rw [spB_len _ _ _ (by simp [h]), List.length_take]; omega
  simp only [sB, List.getD]
  rw [List.getElem?_append_right (by omega), hl, List.getElem?_drop]
  simp
theorem sB_set (n : Int) (sp : List Spr) (ba : List Int) (i : Nat) (h : ba.length = sp.length) (hi : i < sp.length) : (sB n sp ba i).set i { sp.getD i spr0 with base := n + ba.getD i 0 } = sB n sp ba (i + 1) := by
  have hl : (spB n (sp.take i) (ba.take i)).length = i := by rw [spB_len _ _ _ (by simp [h]), List.length_take]; omega
  have hd : sp.drop i = sp.getD i spr0 :: sp.drop (i + 1) := by rw [List.drop_eq_getElem_cons hi]; simp [List.getD, hi]
  have ht : sp.take (i + 1) = sp.take i ++ [sp.getD i spr0] := by rw [List.take_add_one]; simp [List.getD, hi]
  have hb : ba.take (i + 1) = ba.take i ++ [ba.getD i 0] := by rw [List.take_add_one]; simp [List.getD, h, hi]
  unfold sB
  rw [List.set_append_right _ _ (by omega), hl, Nat.sub_self, hd, List.set_cons_zero, ht, hb]
  unfold spB
  rw [List.zipWith_append (by simp [h])]
  simp
def smallD (d : List Dc) : Prop := d.length < 10000000 ∧ ∀ x ∈ d, x.names.length ≤ 10000000 ∧ x.nums.length ≤ 10000000
set_option maxHeartbeats 4000000 in
theorem nbuild_ok (d : List Dc) (hd : smallD d) : ACalls Try.prog 27 [.p (.sl (encC d))] [] fun h r => h = [] ∧ r = .tup [.agg (nbuildV d).1.cs, .p (.int .i64 (nbuildV d).2.1), .p (.int .i64 (nbuildV d).2.2)] := by
  obtain ⟨hd1, hd2⟩ := hd
  refine ACalls_X Try.func27 rfl enters27 (by simp [Try.f27]) ?_
  simp only [go_sem, KK.fit]
  refine X_loop_inv (fun q : Nat × Bdr × Nat => ⟨[(2, .ptr 2 0), (5, .ptr 17 0), (23, .p (.sl (encC d))), (24, .p (.int .i64 d.length)), (25, .p (.int .i64 (q.1 : Nat)))], (2, .box [.cl [], .cl [], .cl [], .cl [], .p (.int .i64 0), .p (.int .i64 0), .p (.int .i64 0), .p (.int .i64 0)]) :: q.2.1.lh q.2.2, 139⟩)
    (fun q => q.1 ≤ d.length ∧ BI q.2.1 ∧ addsV Bdr.init d = addsV q.2.1 (d.drop q.1)) (fun q => d.length - q.1) (0, Bdr.init, 0) ⟨Nat.zero_le _, BI.init, by simp⟩
    ((Wk.nilBox (id := 17) (j := 0) (q := 901) (sz := 3) 74 rfl rfl rfl (by decide)).trans ((Wk.nilBoxN (id := 17) (j := 1) (q := 902) (sz := 1) 24 3 rfl rfl rfl (by decide)).trans
      ((Wk.nilBox (id := 17) (j := 2) (q := 903) (sz := 6) 61 rfl rfl rfl (by decide)).trans ((Wk.nilBox (id := 17) (j := 10) (q := 906) (sz := 1) 3 rfl rfl rfl (by decide)).trans
      ((Wk.nilBox (id := 17) (j := 12) (q := 907) (sz := 2) 98 rfl rfl rfl (by decide)).trans (Wk.forget (by simp [Le, LeE, LeH, get, envIds, hpIds, KeepH, D.ids, idsL, AO.ids, setL, base, Bdr.lh_eq, Bdr.init, encK, encP, encI, encR, encQ, mpS, encC_len]))))))) ?_
  rintro ⟨i, b, k⟩ n ⟨hi, hB, he⟩ ih
  dsimp only at hi hB he
  simp only [go_sem, Bdr.lh_eq]
  refine Cn_split (fun h2 => ?_) (fun h2 => ?_)
  · have hlt : i < d.length := by simp at h2; omega
    have hw := wrap_succ i (by omega)
    have hg := encC_dget d i hlt
    have r1 : (0 : Int) ≤ (i : Int) ∧ (i : Int) < (d.length : Int) := by omega
    have hdr : d.drop i = d.getD i dc0 :: d.drop (i + 1) := by
      rw [List.drop_eq_getElem_cons hlt]; simp [List.getD, hlt]
    have hx := hd2 (d.getD i dc0) (getD_mem d i dc0 hlt)
    rw [hdr] at he
    generalize d.getD i dc0 = x at *
    simp only [go_sem, Bdr.lh_eq, encC_len, Int.toNat_natCast, r1, hg]
    refine Cc_of (add_ok b k x hB hx) ?_
    rintro h' r ⟨k2, rfl, rfl⟩
    have hB2 := hB.add x
    simp only [addsV] at he
    cases c1 : decide ((b.addV x).1 = 0)
    · have c1' : ¬ (b.addV x).1 = 0 := of_decide_eq_false c1
      rw [if_neg c1'] at he
      simp only [go_sem, Bdr.h_eq (b.addV x).2 k2, c1]
      refine X_any [(7, .box [.p (.int .i64 x.word), .p (.int .i64 x.line), .p (.sl (encS x.names)), .p (.sl (encI x.nums))])] mixed (p := [(0, 0), (1, 0), (2, 0), (3, 0), (4, 2), (5, 0), (6, 0)]) (by kernel_rfl) (by simp [LeH, get]) ?_
      simp only [go_sem]
      refine end_pure ?_
      simp only [go_sem]
      unfold nbuildV
      rw [he]
      rfl
    · have c1' : (b.addV x).1 = 0 := of_decide_eq_true c1
      rw [if_pos c1'] at he
      simp only [go_sem, Bdr.h_eq (b.addV x).2 k2, c1, hw]
      refine ih (i + 1, (b.addV x).2, k2) _ ⟨hlt, hB2, he⟩ (by simp; omega) ?_
      (refine Wk.forget ?_; simp [Le, LeE, LeH, get, envIds, hpIds, KeepH, D.ids, idsL, AO.ids, setL, base, Bdr.lh_eq]; done)
  · have : i = d.length := by simp at h2; omega
    subst this
    rw [List.drop_length] at he
    simp only [addsV] at he
    have hv : nbuildV d = if decide (b.bl.length = 0) = true then (nt0, 0, 15) else if b.sp.any (·.depot) = false then (nt0, 0, 16) else (b.net, 0, 0) := by
      unfold nbuildV; rw [he]
    rw [hv]
    have hc : decide ((b.bl.length : Int) = 0) = decide (b.bl.length = 0) := by
      by_cases h : b.bl.length = 0 <;> simp [h]
    cases c1 : decide (b.bl.length = 0)
    rotate_left
    · simp only [go_sem, encK_len, hc, c1]
      refine end_pure ?_
      simp only [go_sem]
      rfl
    simp only [go_sem, encK_len, hc, c1]
    refine Cc_bor rfl rfl (cfDepot_vok b.sp _ (cf_any b.sp (by have := hB.ns; omega))) (by simp [BorL, Bor, ev, get, List.take_of_length_le, encI_takeF, encS_takeF, encT_takeF, encG_takeF, encC_takeF, encL_takeF, encK_takeF, encP_takeF, encI_len, encS_len, encT_len2, encG_len2, encC_len, encL_len, encK_len2, encP_len2, encI_nil, encS_nil, encT_nil, encG_nil, encC_nil, encL_nil, encK_nil, encP_nil]) ?_
    rintro h' r ⟨rfl, rfl⟩
    refine ⟨rfl, rfl, ?_⟩
    cases c2 : b.sp.any (·.depot)
    · simp only [go_sem, c2]
      refine end_pure ?_
      simp only [go_sem]
      rfl
    simp only [go_sem, c2]
    have hnb := hB.nb
    have hns := hB.ns
    have hba := hB.nba
    refine X_loop_inv (fun i : Nat => ⟨[(2, .ptr 2 0), (5, .ptr 17 0), (60, .p (.int .i64 b.sp.length)), (61, .p (.int .i64 (i : Nat)))], (2, .box [.cl [], .cl [], .cl [], .cl [], .p (.int .i64 0), .p (.int .i64 0), .p (.int .i64 0), .p (.int .i64 0)]) :: ({ b with sp := sB b.bl.length b.sp b.ba i } : Bdr).lh k, 139⟩)
      (fun i => i ≤ b.sp.length) (fun i => b.sp.length - i) 0 (Nat.zero_le _) (Wk.forget (by simp [Le, LeE, LeH, get, envIds, hpIds, KeepH, D.ids, idsL, AO.ids, setL, base, Bdr.lh_eq, sB, spB, encP_len2])) ?_
    rintro i m hi ih2
    have hl := sB_len b.bl.length b.sp b.ba i hba hi
    simp only [go_sem, Bdr.lh_eq, hl]
    refine Cn_split (fun h3 => ?_) (fun h3 => ?_)
    · have hlt : i < b.sp.length := by simp at h3; omega
      have hw := wrap_succ i (by omega)
      have g1 := encP_get (sB b.bl.length b.sp b.ba i) i (by omega)
      rw [sB_at _ _ _ _ hba hlt] at g1
      have g2 := encI_get b.ba i (by omega)
      have hbb := hB.bas (b.ba.getD i 0) (getD_mem b.ba i 0 (by omega))
      have w1 : IntKind.i64.wrap ((b.bl.length : Int) + b.ba.getD i 0) = (b.bl.length : Int) + b.ba.getD i 0 := by rw [IntKind.wrap_i64]; omega
      have r1 : (0 : Int) ≤ (i : Int) ∧ (i : Int) < (b.sp.length : Int) := by omega
      have hs := sB_set b.bl.length b.sp b.ba i hba hlt
      simp only [go_sem, Bdr.lh_eq, hl]
      refine X_any0 mixed (p := [(0, 0), (1, 0), (2, 0), (3, 0), (4, 0), (5, 0), (6, 0), (7, 0), (8, 0), (9, 0), (10, 0), (11, 0), (12, 0), (13, 0), (14, 0), (15, 0), (16, 0), (17, 0), (18, 0), (19, 0), (20, 0), (21, 0), (22, 3)]) (by kernel_rfl) (by simp [LeH, get]) ?_
      simp only [go_sem, hba, r1, encI_len, encK_len, encP_len2, Int.toNat_natCast, g1, g2, w1, hl, hw]
      refine ih2 (i + 1) _ hlt (by omega) ?_
      rw [← hs]
      (refine Wk.forget ?_; simp [Le, LeE, LeH, get, envIds, hpIds, KeepH, D.ids, idsL, AO.ids, setL, base, Bdr.lh_eq, encP_setE, encP_len2, hl, hba]; done)
    obtain rfl : i = b.sp.length := by simp at h3; omega
    have hsB : sB b.bl.length b.sp b.ba b.sp.length = spB b.bl.length b.sp b.ba := by
      unfold sB
      rw [List.drop_length, List.append_nil, List.take_length, ← hba, List.take_length]
    rw [hsB] at hl ⊢
    have hnp := hB.np
    simp only [go_sem, Bdr.lh_eq, encQ_len]
    refine X_loop_inv (fun i : Nat => ⟨[(2, .ptr 2 0), (5, .ptr 17 0), (90, .ref 907 0 b.pl.length b.pl.length), (91, .p (.int .i64 b.pl.length)), (92, .p (.int .i64 (i : Nat)))], [(2, .box [.cl [], .cl [], .cl [], .cl [], .p (.int .i64 0), .p (.int .i64 0), .p (.int .i64 0), .p (.int .i64 0)]),
        (17, .box [.ref 901 0 b.bl.length b.bl.length, .nref 902 b.nx.length, .ref 903 0 b.sp.length b.sp.length, .ref 904 0 i i, .p (.int .i64 b.cq), .p (.int .i64 b.ca), .p (.int .i64 b.cd), .p (.int .i64 b.cp),
          .mv 14, .mv 15, .ref 906 0 b.ba.length b.ba.length, .p (.int .i64 b.sl), .ref 907 0 b.pl.length b.pl.length, .p (.bool b.cf)]), (901, .arr 74 3 (encK b.bl)), (902, .nst 24 3 1 k (encR b.nx) none), (903, .arr 61 6 (encP (spB b.bl.length b.sp b.ba))),
        (14, .mp (mpS b.mb)), (15, .mp (mpS b.ms)), (906, .arr 3 1 (encI b.ba)), (904, .arr 3 1 (encI ((b.pl.take i).map (plB (spB b.bl.length b.sp b.ba))))), (907, .arr 98 2 (encQ b.pl))], 139⟩)
      (fun i => i ≤ b.pl.length) (fun i => b.pl.length - i) 0 (Nat.zero_le _) ((Wk.nilBox (id := 17) (j := 3) (q := 904) (sz := 1) 3 rfl rfl rfl (by decide)).trans (Wk.forget (by simp [Le, LeE, LeH, get, envIds, hpIds, KeepH, D.ids, idsL, AO.ids, setL, base, encI, encQ_len, hl]))) ?_
    rintro i m hi ih3
    simp only [go_sem]
    refine Cn_split (fun h3 => ?_) (fun h3 => ?_)
    · have hlt : i < b.pl.length := by simp at h3; omega
      have hw := wrap_succ i (by omega)
      have g1 : (encQ b.pl).getD i [] = [.int .i64 (b.pl.getD i (0, 0)).1, .int .i64 (b.pl.getD i (0, 0)).2] := by simp [encQ, List.getD, hlt]
      have r1 : (0 : Int) ≤ (i : Int) ∧ (i : Int) < (b.pl.length : Int) := by omega
      obtain ⟨⟨j, hj, hjl⟩, hp2⟩ := hB.pls (b.pl.getD i (0, 0)) (getD_mem b.pl i (0, 0) hlt)
      have r2 : (0 : Int) ≤ (j : Int) ∧ (j : Int) < (b.sp.length : Int) := by omega
      have g2 := encP_get (spB b.bl.length b.sp b.ba) j (by omega)
      have hbs : 0 ≤ ((spB b.bl.length b.sp b.ba).getD j spr0).base ∧ ((spB b.bl.length b.sp b.ba).getD j spr0).base ≤ 48 := by
        have := hB.bas (b.ba.getD j 0) (getD_mem b.ba j 0 (by omega))
        have e : ((spB b.bl.length b.sp b.ba).getD j spr0).base = b.bl.length + b.ba.getD j 0 := by
          simp [spB, List.getD, List.getElem?_zipWith, hjl, show j < b.ba.length by omega]
        omega
      have hpl : plB (spB b.bl.length b.sp b.ba) (b.pl.getD i (0, 0)) = ((spB b.bl.length b.sp b.ba).getD j spr0).base + (b.pl.getD i (0, 0)).2 - 1 := by
        unfold plB
        rw [hj]
        rfl
      have htk : (b.pl.take (i + 1)).map (plB (spB b.bl.length b.sp b.ba)) = (b.pl.take i).map (plB (spB b.bl.length b.sp b.ba)) ++ [plB (spB b.bl.length b.sp b.ba) (b.pl.getD i (0, 0))] := by
        rw [List.take_add_one, List.map_append]; congr 1; simp [List.getD, hlt]
      rw [hj] at g1
      generalize (spB b.bl.length b.sp b.ba).getD j spr0 = sj at *
      generalize b.pl.getD i (0, 0) = pi at *
      have w1 : IntKind.i64.wrap (IntKind.i64.wrap (sj.base + pi.2) - 1) = sj.base + pi.2 - 1 := by rw [IntKind.wrap_i64, IntKind.wrap_i64]; omega
      simp only [go_sem, encQ_len, r1, Int.toNat_natCast, g1]
      refine X_any [(17, .box [.ref 901 0 b.bl.length b.bl.length, .nref 902 b.nx.length, .ref 903 0 b.sp.length b.sp.length, .ref 904 0 i i, .p (.int .i64 b.cq), .p (.int .i64 b.ca), .p (.int .i64 b.cd), .p (.int .i64 b.cp),
          .mv 14, .mv 15, .ref 906 0 b.ba.length b.ba.length, .p (.int .i64 b.sl), .ref 907 0 b.pl.length b.pl.length, .p (.bool b.cf)]), (11, .box [.p (.int .i64 j), .p (.int .i64 pi.2)]), (903, .arr 61 6 (encP (spB b.bl.length b.sp b.ba)))] mixed (p := [(0, 0), (1, 0), (2, 0), (3, 0), (4, 0), (5, 0), (6, 0), (7, 0), (8, 0), (9, 0), (10, 0), (11, 0), (12, 0), (13, 0), (14, 0), (15, 0), (16, 0), (17, 0), (18, 0), (19, 0), (20, 1), (21, 2), (22, 0), (23, 0), (24, 0), (25, 3)]) (by kernel_rfl) (by simp [LeH, get]) ?_
      simp only [go_sem, hl, r2, Int.toNat_natCast, encP_len2, g2, w1, encI_len, List.length_map, List.length_take, Nat.min_eq_left hi]
      refine ⟨⟨wid1 _ _ rfl, by omega⟩, ?_⟩
      simp only [go_sem, hw]
      refine ih3 (i + 1) _ hlt (by omega) ?_
      rw [htk, hpl]
      (refine Wk.forget ?_; simp [Le, LeE, LeH, get, envIds, hpIds, KeepH, D.ids, idsL, AO.ids, setL, base, encI_snoc, Nat.min_eq_left hi]; done)
    obtain rfl : i = b.pl.length := by simp at h3; omega
    rw [List.take_length]
    have hnn := hB.nn
    simp only [go_sem, encR_len]
    refine X_loop_inv (fun q : Nat × List (List Int) => ⟨[(2, .ptr 2 0), (5, .ptr 17 0), (126, .nref 902 b.nx.length), (127, .p (.int .i64 b.nx.length)), (128, .p (.int .i64 (q.1 : Nat)))], [(2, .box [.cl [], .cl [], .cl [], .cl [], .p (.int .i64 0), .p (.int .i64 0), .p (.int .i64 0), .p (.int .i64 0)]),
        (17, .box [.ref 901 0 b.bl.length b.bl.length, .nref 902 b.nx.length, .ref 903 0 b.sp.length b.sp.length, .ref 904 0 b.pl.length b.pl.length, .p (.int .i64 b.cq), .p (.int .i64 b.ca), .p (.int .i64 b.cd), .p (.int .i64 b.cp),
          .mv 14, .mv 15, .ref 906 0 b.ba.length b.ba.length, .p (.int .i64 b.sl), .ref 907 0 b.pl.length b.pl.length, .p (.bool b.cf)]), (901, .arr 74 3 (encK b.bl)), (902, .nst 24 3 1 k (encR q.2) none), (903, .arr 61 6 (encP (spB b.bl.length b.sp b.ba))),
        (14, .mp (mpS b.mb)), (15, .mp (mpS b.ms)), (906, .arr 3 1 (encI b.ba)), (904, .arr 3 1 (encI (b.pl.map (plB (spB b.bl.length b.sp b.ba))))), (907, .arr 98 2 (encQ b.pl))], 139⟩)
      (fun q => q.1 ≤ b.nx.length ∧ q.2 = (b.nx.take q.1).map sortV ++ b.nx.drop q.1) (fun q => b.nx.length - q.1) (0, b.nx) ⟨Nat.zero_le _, by simp⟩ (Wk.forget (by simp [Le, LeE, LeH, get, envIds, hpIds, KeepH, D.ids, idsL, AO.ids, setL, base])) ?_
    rintro ⟨i, rows⟩ m ⟨hi, hrw⟩ ih4
    dsimp only at hi hrw
    have hrl : rows.length = b.nx.length := by rw [hrw]; simp; omega
    simp only [go_sem]
    refine Cn_split (fun h3 => ?_) (fun h3 => ?_)
    · have hlt : i < b.nx.length := by simp at h3; omega
      have hw := wrap_succ i (by omega)
      have r1 : (0 : Int) ≤ (i : Int) ∧ (i : Int) < (b.nx.length : Int) := by omega
      have hat : rows.getD i [] = b.nx.getD i [] := by
        rw [hrw]
        simp only [List.getD]
        rw [List.getElem?_append_right (by simp; omega), List.getElem?_drop]
        simp [Nat.min_eq_left hi]
      have hset : rows.set i (sortV (rows.getD i [])) = (b.nx.take (i + 1)).map sortV ++ b.nx.drop (i + 1) := by
        rw [hat, hrw, List.set_append_right _ _ (by simp; omega)]
        have hdr : b.nx.drop i = b.nx.getD i [] :: b.nx.drop (i + 1) := by rw [List.drop_eq_getElem_cons hlt]; simp [List.getD, hlt]
        rw [hdr, show i - ((b.nx.take i).map sortV).length = 0 by simp; omega, List.set_cons_zero, List.take_add_one, List.map_append]
        simp [List.getD, hlt]
      have hrow := hB.row i
      simp only [go_sem, r1, Int.toNat_natCast, encR_len, encR_get, encI_len, hrl]
      refine Cc_own rfl rfl ?_
      simp only [go_sem, callD_eq]
      refine Kc_of (sort_row rows i k (by omega) (by rw [hat]; omega)) ?_
      rintro h' r ⟨rfl, rfl⟩
      simp only [go_sem, hw]
      refine ih4 (i + 1, _) _ ⟨hlt, hset⟩ (by simp; omega) ?_
      (refine Wk.forget ?_; simp [Le, LeE, LeH, get, envIds, hpIds, KeepH, D.ids, idsL, AO.ids, setL, base]; done)
    obtain rfl : i = b.nx.length := by simp at h3; omega
    rw [List.take_length, List.drop_length, List.append_nil] at hrw
    subst hrw
    simp only [go_sem]
    refine end_pure ?_
    simp only [go_sem, encK_len, encP_len2, encI_len, hl, encR_len, List.length_map]
    have e1 : List.take b.sp.length (encP (spB b.bl.length b.sp b.ba)) = encP (spB b.bl.length b.sp b.ba) := List.take_of_length_le (by rw [encP_len2, hl]; exact Nat.le_refl _)
    have e2 : List.take b.pl.length (encI (b.pl.map (plB (spB b.bl.length b.sp b.ba)))) = encI (b.pl.map (plB (spB b.bl.length b.sp b.ba))) := List.take_of_length_le (by simp [encI])
    have e3 : (encR (b.nx.map sortV)).map (fun r => [Pd.sl r]) = encG (b.nx.map sortV) := by simp [encR, encG]
    rw [e1, e2, e3]
    simp [c1]
    rfl
end Go.Am
end
section
namespace Go.Am
open Go Go.Proofs
set_option maxRecDepth 100000
set_option maxHeartbeats 2000000
set_option linter.unusedSimpArgs false
set_option linter.unusedVariables false
noncomputable def has_L1 (a0 : List Int) (a1 : Int) : Int → Option ((Int) ⊕ (Int ⊕ Bool))
  | v2 => cond (decide (v2 < ((a0.length : Nat) : Int))) (Option.bind (idxO a0 v2) fun x9 => cond (decide (x9 = a1)) (some (Sum.inr (.inr (true)))) (some (Sum.inl (IntKind.i64.wrap (v2 + 1))))) (some (Sum.inr (.inl v2)))
theorem has_L1_eq (a0 : List Int) (a1 : Int) (v2 : Int) : has_L1 a0 a1 v2 = cond (decide (v2 < ((a0.length : Nat) : Int))) (Option.bind (idxO a0 v2) fun x9 => cond (decide (x9 = a1)) (some (Sum.inr (.inr (true)))) (some (Sum.inl (IntKind.i64.wrap (v2 + 1))))) (some (Sum.inr (.inl v2))) := rfl
noncomputable def has_v (a0 : List Int) (a1 : Int) : Option (Bool) :=
  Option.bind (loopO (has_L1 a0 a1) 0) (fun | .inl v14 => some false | .inr (r15) => some r15)
noncomputable def insert_L1 (a0 : List Int) (a1 : Int) : (List Int) × Bool × Int → Option (((List Int) × Bool × Int) ⊕ (((List Int) × Bool × Int)))
  | (v6, v7, v8) => cond (decide (v8 < ((a0.length : Nat) : Int))) (cond v7 (Option.bind (idxO a0 v8) fun x26 => cond (decide (v6.length + 1 < 10000000)) (some (Sum.inl ((v6 ++ [x26]), true, (IntKind.i64.wrap (v8 + 1))))) none) (Option.bind (idxO a0 v8) fun x18 => cond (decide (a1 < x18)) (cond (decide (v6.length + 1 < 10000000)) (cond (decide ((v6 ++ [a1]).length + 1 < 10000000)) (some (Sum.inl (((v6 ++ [a1]) ++ [x18]), true, (IntKind.i64.wrap (v8 + 1))))) none) none) (cond (decide (v6.length + 1 < 10000000)) (some (Sum.inl ((v6 ++ [x18]), false, (IntKind.i64.wrap (v8 + 1))))) none))) (some (Sum.inr (v6, v7, v8)))
theorem insert_L1_eq (a0 : List Int) (a1 : Int) (v6 : List Int) (v7 : Bool) (v8 : Int) : insert_L1 a0 a1 (v6, v7, v8) = cond (decide (v8 < ((a0.length : Nat) : Int))) (cond v7 (Option.bind (idxO a0 v8) fun x26 => cond (decide (v6.length + 1 < 10000000)) (some (Sum.inl ((v6 ++ [x26]), true, (IntKind.i64.wrap (v8 + 1))))) none) (Option.bind (idxO a0 v8) fun x18 => cond (decide (a1 < x18)) (cond (decide (v6.length + 1 < 10000000)) (cond (decide ((v6 ++ [a1]).length + 1 < 10000000)) (some (Sum.inl (((v6 ++ [a1]) ++ [x18]), true, (IntKind.i64.wrap (v8 + 1))))) none) none) (cond (decide (v6.length + 1 < 10000000)) (some (Sum.inl ((v6 ++ [x18]), false, (IntKind.i64.wrap (v8 + 1))))) none))) (some (Sum.inr (v6, v7, v8))) := rfl
noncomputable def insert_v (a0 : List Int) (a1 : Int) : Option ((List Int)) :=
  Option.bind (loopO (insert_L1 a0 a1) ([], false, 0)) (fun (v32, v33, v34) => cond v33 (some v32) (cond (decide (v32.length + 1 < 10000000)) (some (v32 ++ [a1])) none))
end Go.Am
end
section
namespace Go.Am
open Go Go.Proofs
set_option maxRecDepth 100000
set_option maxHeartbeats 2000000
set_option linter.unusedSimpArgs false
set_option linter.unusedVariables false
noncomputable def rblock_L1 (a0 : Nt) (a1 : List UInt8) : Int → Option ((Int) ⊕ (Int ⊕ Int))
  | v2 => cond (decide (v2 < ((a0.blocks.length : Nat) : Int))) (Option.bind (idxO a0.blocks v2) fun x9 => cond (decide (x9.name = a1)) (some (Sum.inr (.inr (v2)))) (some (Sum.inl (IntKind.i64.wrap (v2 + 1))))) (some (Sum.inr (.inl v2)))
theorem rblock_L1_eq (a0 : Nt) (a1 : List UInt8) (v2 : Int) : rblock_L1 a0 a1 v2 = cond (decide (v2 < ((a0.blocks.length : Nat) : Int))) (Option.bind (idxO a0.blocks v2) fun x9 => cond (decide (x9.name = a1)) (some (Sum.inr (.inr (v2)))) (some (Sum.inl (IntKind.i64.wrap (v2 + 1))))) (some (Sum.inr (.inl v2))) := rfl
noncomputable def rblock_v (a0 : Nt) (a1 : List UInt8) : Option (Int) :=
  Option.bind (loopO (rblock_L1 a0 a1) 0) (fun | .inl v14 => some (-1) | .inr (r15) => some r15)
noncomputable def rspur_L1 (a0 : Nt) (a1 : List UInt8) : Int → Option ((Int) ⊕ (Int ⊕ Int))
  | v2 => cond (decide (v2 < ((a0.spurs.length : Nat) : Int))) (Option.bind (idxO a0.spurs v2) fun x9 => cond (decide (x9.name = a1)) (some (Sum.inr (.inr (v2)))) (some (Sum.inl (IntKind.i64.wrap (v2 + 1))))) (some (Sum.inr (.inl v2)))
theorem rspur_L1_eq (a0 : Nt) (a1 : List UInt8) (v2 : Int) : rspur_L1 a0 a1 v2 = cond (decide (v2 < ((a0.spurs.length : Nat) : Int))) (Option.bind (idxO a0.spurs v2) fun x9 => cond (decide (x9.name = a1)) (some (Sum.inr (.inr (v2)))) (some (Sum.inl (IntKind.i64.wrap (v2 + 1))))) (some (Sum.inr (.inl v2))) := rfl
noncomputable def rspur_v (a0 : Nt) (a1 : List UInt8) : Option (Int) :=
  Option.bind (loopO (rspur_L1 a0 a1) 0) (fun | .inl v14 => some (-1) | .inr (r15) => some r15)
noncomputable def rconfigured_v (a0 : Cfg4) : Option (Bool) :=
  cond (decide (1 ≤ a0.cq)) (cond (decide (a0.cq ≤ 8)) (cond (decide (0 ≤ a0.ca)) (cond (decide (a0.ca ≤ 4)) (cond (decide (0 ≤ a0.cd)) (cond (decide (a0.cd ≤ 3)) (cond (decide (1 ≤ a0.cp)) (some (decide (a0.cp ≤ 16))) (some false)) (some false)) (some false)) (some false)) (some false)) (some false)) (some false)
noncomputable def rbBlock_v (a0 : List Blk) (a1 : List (List Int)) (a2 : List Spr) (a3 : List Int) (a4 : Int) (a5 : Int) (a6 : Int) (a7 : Int) (a8 : Bool) (a9 : Dc) : Option (Int × (List Blk) × (List (List Int)) × (List Spr) × (List Int) × Int × Int × Int × Int × Bool) :=
  Option.bind (idxO a9.names 0) fun x1 => Option.bind (rblock_v (⟨a0, a1, a2, a3, a4, a5, a6, a7⟩ : Nt) x1) fun x5 => cond (decide (0 ≤ x5)) (some (8, a0, a1, a2, a3, a4, a5, a6, a7, a8)) (Option.bind (rspur_v (⟨a0, a1, a2, a3, a4, a5, a6, a7⟩ : Nt) x1) fun x8 => cond (decide (0 ≤ x8)) (some (8, a0, a1, a2, a3, a4, a5, a6, a7, a8)) (cond (decide (((a0.length : Nat) : Int) = 24)) (some (14, a0, a1, a2, a3, a4, a5, a6, a7, a8)) (Option.bind (idxO a9.nums 0) fun x12 => Option.bind (idxO a9.nums 1) fun x16 => cond (decide (a0.length + 1 < 10000000)) (cond (decide (a1.length + 1 < 10000000)) (some (0, (a0 ++ [(⟨x1, x12, x16⟩ : Blk)]), (a1 ++ [[]]), a2, a3, a4, a5, a6, a7, a8)) none) none)))
noncomputable def rbLane_L1 (a0 : List Blk) (a2 : List Spr) (a3 : List Int) (a4 : Int) (a5 : Int) (a6 : Int) (a7 : Int) (a8 : Bool) (a9 : Dc) : (List (List Int)) × Int → Option (((List (List Int)) × Int) ⊕ (((List (List Int)) × Int) ⊕ (Int × (List Blk) × (List (List Int)) × (List Spr) × (List Int) × Int × Int × Int × Int × Bool)))
  | (v3, v4) => cond (decide ((IntKind.i64.wrap (v4 + 1)) < ((a9.names.length : Nat) : Int))) (Option.bind (idxO a9.names v4) fun x11 => Option.bind (idxO a9.names (IntKind.i64.wrap (v4 + 1))) fun x15 => Option.bind (rblock_v (⟨a0, v3, a2, a3, a4, a5, a6, a7⟩ : Nt) x11) fun x19 => Option.bind (rblock_v (⟨a0, v3, a2, a3, a4, a5, a6, a7⟩ : Nt) x15) fun x21 => cond (decide (x19 < 0)) (some (Sum.inr (.inr ((9, a0, v3, a2, a3, a4, a5, a6, a7, a8))))) (cond (decide (x21 < 0)) (some (Sum.inr (.inr ((9, a0, v3, a2, a3, a4, a5, a6, a7, a8))))) (cond (decide (x19 = x21)) (some (Sum.inr (.inr ((10, a0, v3, a2, a3, a4, a5, a6, a7, a8))))) (Option.bind (idxO v3 x19) fun x26 => Option.bind (has_v x26 x21) fun x30 => cond x30 (some (Sum.inr (.inr ((11, a0, v3, a2, a3, a4, a5, a6, a7, a8))))) (cond (decide (((x26.length : Nat) : Int) = 4)) (some (Sum.inr (.inr ((14, a0, v3, a2, a3, a4, a5, a6, a7, a8))))) (Option.bind (insert_v x26 x21) fun x34 => some (Sum.inl ((v3.set (Int.toNat x19) x34), (IntKind.i64.wrap (v4 + 1)))))))))) (some (Sum.inr (.inl (v3, v4))))
theorem rbLane_L1_eq (a0 : List Blk) (a2 : List Spr) (a3 : List Int) (a4 : Int) (a5 : Int) (a6 : Int) (a7 : Int) (a8 : Bool) (a9 : Dc) (v3 : List (List Int)) (v4 : Int) : rbLane_L1 a0 a2 a3 a4 a5 a6 a7 a8 a9 (v3, v4) = cond (decide ((IntKind.i64.wrap (v4 + 1)) < ((a9.names.length : Nat) : Int))) (Option.bind (idxO a9.names v4) fun x11 => Option.bind (idxO a9.names (IntKind.i64.wrap (v4 + 1))) fun x15 => Option.bind (rblock_v (⟨a0, v3, a2, a3, a4, a5, a6, a7⟩ : Nt) x11) fun x19 => Option.bind (rblock_v (⟨a0, v3, a2, a3, a4, a5, a6, a7⟩ : Nt) x15) fun x21 => cond (decide (x19 < 0)) (some (Sum.inr (.inr ((9, a0, v3, a2, a3, a4, a5, a6, a7, a8))))) (cond (decide (x21 < 0)) (some (Sum.inr (.inr ((9, a0, v3, a2, a3, a4, a5, a6, a7, a8))))) (cond (decide (x19 = x21)) (some (Sum.inr (.inr ((10, a0, v3, a2, a3, a4, a5, a6, a7, a8))))) (Option.bind (idxO v3 x19) fun x26 => Option.bind (has_v x26 x21) fun x30 => cond x30 (some (Sum.inr (.inr ((11, a0, v3, a2, a3, a4, a5, a6, a7, a8))))) (cond (decide (((x26.length : Nat) : Int) = 4)) (some (Sum.inr (.inr ((14, a0, v3, a2, a3, a4, a5, a6, a7, a8))))) (Option.bind (insert_v x26 x21) fun x34 => some (Sum.inl ((v3.set (Int.toNat x19) x34), (IntKind.i64.wrap (v4 + 1)))))))))) (some (Sum.inr (.inl (v3, v4)))) := rfl
noncomputable def rbLane_v (a0 : List Blk) (a1 : List (List Int)) (a2 : List Spr) (a3 : List Int) (a4 : Int) (a5 : Int) (a6 : Int) (a7 : Int) (a8 : Bool) (a9 : Dc) : Option (Int × (List Blk) × (List (List Int)) × (List Spr) × (List Int) × Int × Int × Int × Int × Bool) :=
  Option.bind (loopO (rbLane_L1 a0 a2 a3 a4 a5 a6 a7 a8 a9) (a1, 0)) (fun | .inl (v36, v37) => some (0, a0, v36, a2, a3, a4, a5, a6, a7, a8) | .inr (r38) => some r38)
noncomputable def rbSpur_v (a0 : List Blk) (a1 : List (List Int)) (a2 : List Spr) (a3 : List Int) (a4 : Int) (a5 : Int) (a6 : Int) (a7 : Int) (a8 : Bool) (a9 : Dc) : Option (Int × (List Blk) × (List (List Int)) × (List Spr) × (List Int) × Int × Int × Int × Int × Bool) :=
  Option.bind (idxO a9.names 1) fun x1 => Option.bind (idxO a9.names 2) fun x5 => Option.bind (rblock_v (⟨a0, a1, a2, a3, a4, a5, a6, a7⟩ : Nt) x1) fun x9 => Option.bind (rblock_v (⟨a0, a1, a2, a3, a4, a5, a6, a7⟩ : Nt) x5) fun x11 => Option.bind (idxO a9.names 0) fun x13 => Option.bind (rblock_v (⟨a0, a1, a2, a3, a4, a5, a6, a7⟩ : Nt) x13) fun x17 => cond (decide (0 ≤ x17)) (some (8, a0, a1, a2, a3, a4, a5, a6, a7, a8)) (Option.bind (rspur_v (⟨a0, a1, a2, a3, a4, a5, a6, a7⟩ : Nt) x13) fun x20 => cond (decide (0 ≤ x20)) (some (8, a0, a1, a2, a3, a4, a5, a6, a7, a8)) (cond (decide (x9 < 0)) (some (9, a0, a1, a2, a3, a4, a5, a6, a7, a8)) (cond (decide (x11 < 0)) (some (9, a0, a1, a2, a3, a4, a5, a6, a7, a8)) (Option.bind (idxO a9.nums 0) fun x25 => cond (decide (x25 < 1)) (some (12, a0, a1, a2, a3, a4, a5, a6, a7, a8)) (cond (decide (4 < x25)) (some (12, a0, a1, a2, a3, a4, a5, a6, a7, a8)) (cond (decide (((a2.length : Nat) : Int) = 6)) (some (14, a0, a1, a2, a3, a4, a5, a6, a7, a8)) (cond (decide (a2.length + 1 < 10000000)) (some (0, a0, a1, (a2 ++ [(⟨x13, decide (a9.word = 4), x9, x11, x25, 0⟩ : Spr)]), a3, a4, a5, a6, a7, a8)) none)))))))
noncomputable def rbRobot_v (a0 : List Blk) (a1 : List (List Int)) (a2 : List Spr) (a3 : List Int) (a4 : Int) (a5 : Int) (a6 : Int) (a7 : Int) (a8 : Bool) (a9 : Dc) : Option (Int × (List Blk) × (List (List Int)) × (List Spr) × (List Int) × Int × Int × Int × Int × Bool) :=
  Option.bind (idxO a9.names 0) fun x1 => Option.bind (rspur_v (⟨a0, a1, a2, a3, a4, a5, a6, a7⟩ : Nt) x1) fun x5 => cond (decide (x5 < 0)) (some (9, a0, a1, a2, a3, a4, a5, a6, a7, a8)) (Option.bind (idxO a2 x5) fun x8 => cond x8.depot (Option.bind (idxO a9.nums 0) fun x13 => cond (decide (x13 < 1)) (some (12, a0, a1, a2, a3, a4, a5, a6, a7, a8)) (cond (decide (x8.slots < x13)) (some (12, a0, a1, a2, a3, a4, a5, a6, a7, a8)) (Option.bind (has_v a3 (IntKind.i64.wrap ((IntKind.i64.wrap (x5 * 8)) + x13))) fun x19 => cond x19 (some (13, a0, a1, a2, a3, a4, a5, a6, a7, a8)) (cond (decide (((a3.length : Nat) : Int) = 8)) (some (14, a0, a1, a2, a3, a4, a5, a6, a7, a8)) (cond (decide (a3.length + 1 < 10000000)) (some (0, a0, a1, a2, (a3 ++ [(IntKind.i64.wrap ((IntKind.i64.wrap (x5 * 8)) + x13))]), a4, a5, a6, a7, a8)) none))))) (some (9, a0, a1, a2, a3, a4, a5, a6, a7, a8)))
noncomputable def rbConfig_v (a0 : List Blk) (a1 : List (List Int)) (a2 : List Spr) (a3 : List Int) (a4 : Int) (a5 : Int) (a6 : Int) (a7 : Int) (a8 : Bool) (a9 : Dc) : Option (Int × (List Blk) × (List (List Int)) × (List Spr) × (List Int) × Int × Int × Int × Int × Bool) :=
  cond a8 (some (11, a0, a1, a2, a3, a4, a5, a6, a7, true)) (Option.bind (idxO a9.nums 0) fun x2 => Option.bind (idxO a9.nums 1) fun x6 => Option.bind (idxO a9.nums 2) fun x10 => Option.bind (idxO a9.nums 3) fun x14 => Option.bind (rconfigured_v (⟨x2, x6, x10, x14⟩ : Cfg4)) fun x18 => cond x18 (some (0, a0, a1, a2, a3, x2, x6, x10, x14, true)) (some (19, a0, a1, a2, a3, a4, a5, a6, a7, false)))
end Go.Am
end
section
namespace Go.Am
open Go Go.Proofs
set_option maxRecDepth 100000
set_option maxHeartbeats 2000000
set_option linter.unusedSimpArgs false
set_option linter.unusedVariables false
noncomputable def fname_v (l : List UInt8) : Option Bool := some (nameB l)
theorem fname_vok (l : List UInt8) (r : Bool) (h : fname_v l = some r) : ACalls Try.prog 63 [.p (.str l)] [] fun h d => h = [] ∧ d = .p (.bool r) := by cases h; exact name1_ok l
noncomputable def rname_v (l : List UInt8) : Option Bool := some (nameB l)
noncomputable def r02_shape_v (a0 : Int) : Option (Int × Int) :=
  cond (decide (a0 = 1)) (some (1, 2)) (cond (decide (a0 = 2)) (some (2, 0)) (cond (decide (a0 = 3)) (some (3, 1)) (cond (decide (a0 = 4)) (some (3, 1)) (cond (decide (a0 = 5)) (some (1, 1)) (some (0, 4))))))
noncomputable def r02_Valid_L1 (a0 : Dc) : Int → Option ((Int) ⊕ (Int ⊕ Bool))
  | v18 => cond (decide (v18 < ((a0.nums.length : Nat) : Int))) (Option.bind (idxO a0.nums v18) fun x25 => cond (decide (x25 < (-9999))) (some (Sum.inr (.inr (false)))) (cond (decide (9999 < x25)) (some (Sum.inr (.inr (false)))) (some (Sum.inl (IntKind.i64.wrap (v18 + 1)))))) (some (Sum.inr (.inl v18)))
theorem r02_Valid_L1_eq (a0 : Dc) (v18 : Int) : r02_Valid_L1 a0 v18 = cond (decide (v18 < ((a0.nums.length : Nat) : Int))) (Option.bind (idxO a0.nums v18) fun x25 => cond (decide (x25 < (-9999))) (some (Sum.inr (.inr (false)))) (cond (decide (9999 < x25)) (some (Sum.inr (.inr (false)))) (some (Sum.inl (IntKind.i64.wrap (v18 + 1)))))) (some (Sum.inr (.inl v18))) := rfl
noncomputable def r02_Valid_L2 (a0 : Dc) : Int → Option ((Int) ⊕ (Int ⊕ Bool))
  | v10 => cond (decide (v10 < ((a0.names.length : Nat) : Int))) (Option.bind (idxO a0.names v10) fun x33 => Option.bind (rname_v x33) fun x37 => cond x37 (some (Sum.inl (IntKind.i64.wrap (v10 + 1)))) (some (Sum.inr (.inr (false))))) (some (Sum.inr (.inl v10)))
theorem r02_Valid_L2_eq (a0 : Dc) (v10 : Int) : r02_Valid_L2 a0 v10 = cond (decide (v10 < ((a0.names.length : Nat) : Int))) (Option.bind (idxO a0.names v10) fun x33 => Option.bind (rname_v x33) fun x37 => cond x37 (some (Sum.inl (IntKind.i64.wrap (v10 + 1)))) (some (Sum.inr (.inr (false))))) (some (Sum.inr (.inl v10))) := rfl
noncomputable def r02_Valid_v (a0 : Dc) : Option (Bool) :=
  cond (decide (a0.word < 1)) (some false) (cond (decide (6 < a0.word)) (some false) (Option.bind (r02_shape_v a0.word) fun (x3, x4) => cond (decide (((a0.nums.length : Nat) : Int) = x4)) (cond (decide (((a0.names.length : Nat) : Int) < x3)) (some false) (cond (decide (x3 < ((a0.names.length : Nat) : Int))) (cond (decide (a0.word = 2)) (Option.bind (loopO (r02_Valid_L2 a0) 0) (fun | .inl v90 => Option.bind (loopO (r02_Valid_L1 a0) 0) (fun | .inl v105 => some true | .inr (r106) => some r106) | .inr (r107) => some r107)) (some false)) (Option.bind (loopO (r02_Valid_L2 a0) 0) (fun | .inl v40 => Option.bind (loopO (r02_Valid_L1 a0) 0) (fun | .inl v55 => some true | .inr (r56) => some r56) | .inr (r57) => some r57)))) (some false)))
noncomputable def r03_builder_one_v (a0 : List Blk) (a1 : List (List Int)) (a2 : List Spr) (a3 : List Int) (a4 : Int) (a5 : Int) (a6 : Int) (a7 : Int) (a8 : Bool) (a9 : Dc) : Option (Int × (List Blk) × (List (List Int)) × (List Spr) × (List Int) × Int × Int × Int × Int × Bool) :=
  Option.bind (r02_Valid_v (⟨a9.word, a9.line, a9.names, a9.nums⟩ : Dc)) fun x1 => cond x1 (cond (decide (a9.word = 1)) (Option.bind (rbBlock_v a0 a1 a2 a3 a4 a5 a6 a7 a8 (⟨a9.word, a9.line, a9.names, a9.nums⟩ : Dc)) fun (x64, x65, x66, x67, x68, x69, x70, x71, x72, x73) => some (x64, x65, x66, x67, x68, x69, x70, x71, x72, x73)) (cond (decide (a9.word = 2)) (Option.bind (rbLane_v a0 a1 a2 a3 a4 a5 a6 a7 a8 (⟨a9.word, a9.line, a9.names, a9.nums⟩ : Dc)) fun (x53, x54, x55, x56, x57, x58, x59, x60, x61, x62) => some (x53, x54, x55, x56, x57, x58, x59, x60, x61, x62)) (cond (decide (a9.word = 3)) (Option.bind (rbSpur_v a0 a1 a2 a3 a4 a5 a6 a7 a8 (⟨a9.word, a9.line, a9.names, a9.nums⟩ : Dc)) fun (x42, x43, x44, x45, x46, x47, x48, x49, x50, x51) => some (x42, x43, x44, x45, x46, x47, x48, x49, x50, x51)) (cond (decide (a9.word = 4)) (Option.bind (rbSpur_v a0 a1 a2 a3 a4 a5 a6 a7 a8 (⟨a9.word, a9.line, a9.names, a9.nums⟩ : Dc)) fun (x31, x32, x33, x34, x35, x36, x37, x38, x39, x40) => some (x31, x32, x33, x34, x35, x36, x37, x38, x39, x40)) (cond (decide (a9.word = 5)) (Option.bind (rbRobot_v a0 a1 a2 a3 a4 a5 a6 a7 a8 (⟨a9.word, a9.line, a9.names, a9.nums⟩ : Dc)) fun (x20, x21, x22, x23, x24, x25, x26, x27, x28, x29) => some (x20, x21, x22, x23, x24, x25, x26, x27, x28, x29)) (Option.bind (rbConfig_v a0 a1 a2 a3 a4 a5 a6 a7 a8 (⟨a9.word, a9.line, a9.names, a9.nums⟩ : Dc)) fun (x9, x10, x11, x12, x13, x14, x15, x16, x17, x18) => some (x9, x10, x11, x12, x13, x14, x15, x16, x17, x18))))))) (some (20, a0, a1, a2, a3, a4, a5, a6, a7, a8))
noncomputable def rBuild_L3 (a0 : List Dc) : (List Blk) × (List (List Int)) × (List Spr) × (List Int) × Int × Int × Int × Int × Bool × Int → Option (((List Blk) × (List (List Int)) × (List Spr) × (List Int) × Int × Int × Int × Int × Bool × Int) ⊕ (((List Blk) × (List (List Int)) × (List Spr) × (List Int) × Int × Int × Int × Int × Bool × Int) ⊕ (Nt × Int × Int)))
  | (v11, v12, v13, v14, v15, v16, v17, v18, v19, v20) => cond (decide (v20 < ((a0.length : Nat) : Int))) (Option.bind (idxO a0 v20) fun x97 => Option.bind (r03_builder_one_v v11 v12 v13 v14 v15 v16 v17 v18 v19 (⟨x97.word, x97.line, x97.names, x97.nums⟩ : Dc)) fun (x101, x102, x103, x104, x105, x106, x107, x108, x109, x110) => cond (decide (x101 = 0)) (some (Sum.inl (x102, x103, x104, x105, x106, x107, x108, x109, x110, (IntKind.i64.wrap (v20 + 1))))) (some (Sum.inr (.inr (((⟨[], [], [], [], 0, 0, 0, 0⟩ : Nt), x97.line, x101)))))) (some (Sum.inr (.inl (v11, v12, v13, v14, v15, v16, v17, v18, v19, v20))))
theorem rBuild_L3_eq (a0 : List Dc) (v11 : List Blk) (v12 : List (List Int)) (v13 : List Spr) (v14 : List Int) (v15 : Int) (v16 : Int) (v17 : Int) (v18 : Int) (v19 : Bool) (v20 : Int) : rBuild_L3 a0 (v11, v12, v13, v14, v15, v16, v17, v18, v19, v20) = cond (decide (v20 < ((a0.length : Nat) : Int))) (Option.bind (idxO a0 v20) fun x97 => Option.bind (r03_builder_one_v v11 v12 v13 v14 v15 v16 v17 v18 v19 (⟨x97.word, x97.line, x97.names, x97.nums⟩ : Dc)) fun (x101, x102, x103, x104, x105, x106, x107, x108, x109, x110) => cond (decide (x101 = 0)) (some (Sum.inl (x102, x103, x104, x105, x106, x107, x108, x109, x110, (IntKind.i64.wrap (v20 + 1))))) (some (Sum.inr (.inr (((⟨[], [], [], [], 0, 0, 0, 0⟩ : Nt), x97.line, x101)))))) (some (Sum.inr (.inl (v11, v12, v13, v14, v15, v16, v17, v18, v19, v20)))) := rfl
noncomputable def mk_SameInts_L1 (a0 : List Int) (a1 : List Int) : Int → Option ((Int) ⊕ (Int ⊕ Bool))
  | v3 => cond (decide (v3 < ((a0.length : Nat) : Int))) (Option.bind (idxO a0 v3) fun x10 => Option.bind (idxO a1 v3) fun x14 => cond (decide (x10 = x14)) (some (Sum.inl (IntKind.i64.wrap (v3 + 1)))) (some (Sum.inr (.inr (false))))) (some (Sum.inr (.inl v3)))
theorem mk_SameInts_L1_eq (a0 : List Int) (a1 : List Int) (v3 : Int) : mk_SameInts_L1 a0 a1 v3 = cond (decide (v3 < ((a0.length : Nat) : Int))) (Option.bind (idxO a0 v3) fun x10 => Option.bind (idxO a1 v3) fun x14 => cond (decide (x10 = x14)) (some (Sum.inl (IntKind.i64.wrap (v3 + 1)))) (some (Sum.inr (.inr (false))))) (some (Sum.inr (.inl v3))) := rfl
noncomputable def mk_SameInts_v (a0 : List Int) (a1 : List Int) : Option (Bool) :=
  cond (decide (((a0.length : Nat) : Int) = ((a1.length : Nat) : Int))) (Option.bind (loopO (mk_SameInts_L1 a0 a1) 0) (fun | .inl v19 => some true | .inr (r20) => some r20)) (some false)
theorem mk_SameInts_vok (a0 : List Int) (a1 : List Int) (r : Bool) (hr : mk_SameInts_v a0 a1 = some r) :
    ACalls Try.prog 21 [.p (.sl (encI a0)), .p (.sl (encI a1))] [] fun h d => h = [] ∧ d = .p (.bool r) := by
  refine ACalls_X Try.func21 rfl enters21 (by simp [Try.f21]) ?_
  unfold mk_SameInts_v at hr
  cases c1 : decide (((a0.length : Nat) : Int) = ((a1.length : Nat) : Int))
  · simp only [c1, cond_false] at hr
    obtain rfl := Option.some.inj hr
    try simp only [go_sem, c1]
    all_goals (try refine end_pure ?_)
    all_goals (try simp only [go_sem, c1])
    all_goals (try (first | rfl | exact ⟨rfl, rfl⟩ | (simp; done)))
  simp only [c1, cond_true] at hr
  rcases g8 : loopO (mk_SameInts_L1 a0 a1) 0 with _ | e7
  · simp only [g8, Option.bind_none, reduceCtorEq] at hr
  simp only [g8, Option.bind_some] at hr
  try simp only [go_sem, c1]
  refine X_loopO g8 (fun q : Int => ⟨[(0, .p (.sl (encI a0))), (1, .p (.sl (encI a1))), (5, .p (.int .i64 q))], [], 26⟩) ((Wk.forget (by simp [Le, LeE, LeH, get, envIds, hpIds, KeepH, D.ids, idsL, AO.ids, setL, base, encI_nil, encS_nil, encT_nil, encG_nil, encC_nil, encL_nil, encK_nil, encP_nil, mpS_nil, mpB_nil, encI_consE, encS_consE, encT_consE, encG_consE, encI_one, encS_one, encT_one, encI_snoc, encS_snoc, encT_snocE, encG_snocE, encC_snoc, encL_snoc, encK_snocE, encP_snocE, encI_set, encS_set, encT_setE, encG_setE, encC_setE, encK_setE, encP_setE, encI_len, encS_len, encT_len2, encG_len2, encC_len, encL_len, encK_len2, encP_len2]))) ?_
  rintro v3 m6 hh4 ih5
  rw [mk_SameInts_L1_eq] at hh4
  cases c9 : decide (v3 < ((a0.length : Nat) : Int))
  · simp only [c9, cond_false] at hh4
    simp only [Option.bind_some, nextO_inr] at hh4
    obtain rfl := Option.some.inj hh4
    try dsimp only at hr
    obtain rfl := Option.some.inj hr
    try simp only [go_sem, c1, c9]
    all_goals (try refine end_pure ?_)
    all_goals (try simp only [go_sem, c1, c9])
    all_goals (try (first | rfl | exact ⟨rfl, rfl⟩ | (simp; done)))
  simp only [c9, cond_true] at hh4
  try simp only [go_sem, c1, c9]
  refine X_any0 mixed (p := [(0, 0), (1, 0), (2, 0), (3, 0), (4, 0), (5, 0), (6, 0), (7, 0), (8, 0)]) (by kernel_rfl) (by simp [LeH, get]) ?_
  rcases g11 : idxO a0 v3 with _ | x10
  · simp only [g11, Option.bind_none, reduceCtorEq] at hh4
  simp only [g11, Option.bind_some] at hh4
  have f12 := idxO_rng g11
  have f13 : (encI a0).getD (Int.toNat v3) [] = [(.int .i64 x10)] := idxO_map _ g11
  rcases g15 : idxO a1 v3 with _ | x14
  · simp only [g15, Option.bind_none, reduceCtorEq] at hh4
  simp only [g15, Option.bind_some] at hh4
  have f16 := idxO_rng g15
  have f17 : (encI a1).getD (Int.toNat v3) [] = [(.int .i64 x14)] := idxO_map _ g15
  cases c18 : decide (x10 = x14)
  · simp only [c18, cond_false] at hh4
    simp only [Option.bind_some, nextO_inr] at hh4
    obtain rfl := Option.some.inj hh4
    try dsimp only at hr
    obtain rfl := Option.some.inj hr
    try simp only [go_sem, c1, c9, f12, f13, f16, f17, c18]
    all_goals (try refine end_pure ?_)
    all_goals (try simp only [go_sem, c1, c9, f12, f13, f16, f17, c18])
    all_goals (try (first | rfl | exact ⟨rfl, rfl⟩ | (simp; done)))
  simp only [c18, cond_true] at hh4
  simp only [Option.bind_some, nextO_inl] at hh4
  try simp only [go_sem, c1, c9, f12, f13, f16, f17, c18]
  exact ih5 (IntKind.i64.wrap (v3 + 1)) _ hh4 ((Wk.forget (by simp [Le, LeE, LeH, get, envIds, hpIds, KeepH, D.ids, idsL, AO.ids, setL, base, encI_nil, encS_nil, encT_nil, encG_nil, encC_nil, encL_nil, encK_nil, encP_nil, mpS_nil, mpB_nil, encI_consE, encS_consE, encT_consE, encG_consE, encI_one, encS_one, encT_one, encI_snoc, encS_snoc, encT_snocE, encG_snocE, encC_snoc, encL_snoc, encK_snocE, encP_snocE, encI_set, encS_set, encT_setE, encG_setE, encC_setE, encK_setE, encP_setE, encI_len, encS_len, encT_len2, encG_len2, encC_len, encL_len, encK_len2, encP_len2])))
noncomputable def mk_SameLists_L1 (a0 : List (List Int)) (a1 : List (List Int)) : Int → Option ((Int) ⊕ (Int ⊕ Bool))
  | v3 => cond (decide (v3 < ((a0.length : Nat) : Int))) (Option.bind (idxO a0 v3) fun x10 => Option.bind (idxO a1 v3) fun x14 => Option.bind (mk_SameInts_v x10 x14) fun x18 => cond x18 (some (Sum.inl (IntKind.i64.wrap (v3 + 1)))) (some (Sum.inr (.inr (false))))) (some (Sum.inr (.inl v3)))
theorem mk_SameLists_L1_eq (a0 : List (List Int)) (a1 : List (List Int)) (v3 : Int) : mk_SameLists_L1 a0 a1 v3 = cond (decide (v3 < ((a0.length : Nat) : Int))) (Option.bind (idxO a0 v3) fun x10 => Option.bind (idxO a1 v3) fun x14 => Option.bind (mk_SameInts_v x10 x14) fun x18 => cond x18 (some (Sum.inl (IntKind.i64.wrap (v3 + 1)))) (some (Sum.inr (.inr (false))))) (some (Sum.inr (.inl v3))) := rfl
noncomputable def mk_SameLists_v (a0 : List (List Int)) (a1 : List (List Int)) : Option (Bool) :=
  cond (decide (((a0.length : Nat) : Int) = ((a1.length : Nat) : Int))) (Option.bind (loopO (mk_SameLists_L1 a0 a1) 0) (fun | .inl v21 => some true | .inr (r22) => some r22)) (some false)
theorem mk_SameLists_vok (a0 : List (List Int)) (a1 : List (List Int)) (r : Bool) (hr : mk_SameLists_v a0 a1 = some r) :
    ACalls Try.prog 22 [.p (.sl (encG a0)), .p (.sl (encG a1))] [] fun h d => h = [] ∧ d = .p (.bool r) := by
  refine ACalls_X Try.func22 rfl enters22 (by simp [Try.f22]) ?_
  unfold mk_SameLists_v at hr
  cases c1 : decide (((a0.length : Nat) : Int) = ((a1.length : Nat) : Int))
  · simp only [c1, cond_false] at hr
    obtain rfl := Option.some.inj hr
    try simp only [go_sem, c1]
    all_goals (try refine end_pure ?_)
    all_goals (try simp only [go_sem, c1])
    all_goals (try (first | rfl | exact ⟨rfl, rfl⟩ | (simp; done)))
  simp only [c1, cond_true] at hr
  rcases g8 : loopO (mk_SameLists_L1 a0 a1) 0 with _ | e7
  · simp only [g8, Option.bind_none, reduceCtorEq] at hr
  simp only [g8, Option.bind_some] at hr
  try simp only [go_sem, c1]
  refine X_loopO g8 (fun q : Int => ⟨[(0, .p (.sl (encG a0))), (1, .p (.sl (encG a1))), (5, .p (.int .i64 q))], [], 27⟩) ((Wk.forget (by simp [Le, LeE, LeH, get, envIds, hpIds, KeepH, D.ids, idsL, AO.ids, setL, base, encI_nil, encS_nil, encT_nil, encG_nil, encC_nil, encL_nil, encK_nil, encP_nil, mpS_nil, mpB_nil, encI_consE, encS_consE, encT_consE, encG_consE, encI_one, encS_one, encT_one, encI_snoc, encS_snoc, encT_snocE, encG_snocE, encC_snoc, encL_snoc, encK_snocE, encP_snocE, encI_set, encS_set, encT_setE, encG_setE, encC_setE, encK_setE, encP_setE, encI_len, encS_len, encT_len2, encG_len2, encC_len, encL_len, encK_len2, encP_len2]))) ?_
  rintro v3 m6 hh4 ih5
  rw [mk_SameLists_L1_eq] at hh4
  cases c9 : decide (v3 < ((a0.length : Nat) : Int))
  · simp only [c9, cond_false] at hh4
    simp only [Option.bind_some, nextO_inr] at hh4
    obtain rfl := Option.some.inj hh4
    try dsimp only at hr
    obtain rfl := Option.some.inj hr
    try simp only [go_sem, c1, c9]
    all_goals (try refine end_pure ?_)
    all_goals (try simp only [go_sem, c1, c9])
    all_goals (try (first | rfl | exact ⟨rfl, rfl⟩ | (simp; done)))
  simp only [c9, cond_true] at hh4
  try simp only [go_sem, c1, c9]
  refine X_any0 mixed (p := [(0, 0), (1, 0), (2, 0), (3, 0), (4, 0), (5, 0), (6, 0), (7, 0), (8, 2), (9, 0)]) (by kernel_rfl) (by simp [LeH, get]) ?_
  rcases g11 : idxO a0 v3 with _ | x10
  · simp only [g11, Option.bind_none, reduceCtorEq] at hh4
  simp only [g11, Option.bind_some] at hh4
  have f12 := idxO_rng g11
  have f13 : (encG a0).getD (Int.toNat v3) [] = [(.sl (encI x10))] := idxO_map _ g11
  rcases g15 : idxO a1 v3 with _ | x14
  · simp only [g15, Option.bind_none, reduceCtorEq] at hh4
  simp only [g15, Option.bind_some] at hh4
  have f16 := idxO_rng g15
  have f17 : (encG a1).getD (Int.toNat v3) [] = [(.sl (encI x14))] := idxO_map _ g15
  rcases g19 : mk_SameInts_v x10 x14 with _ | x18
  · simp only [g19, Option.bind_none, reduceCtorEq] at hh4
  simp only [g19, Option.bind_some] at hh4
  try simp only [go_sem, c1, c9, f12, f13, f16, f17]
  refine Gh_of (mk_SameInts_vok x10 x14 _ g19) ?_
  rintro h' r ⟨rfl, rfl⟩
  cases c20 : x18
  · simp only [c20, cond_false] at hh4
    simp only [Option.bind_some, nextO_inr] at hh4
    obtain rfl := Option.some.inj hh4
    try dsimp only at hr
    obtain rfl := Option.some.inj hr
    try simp only [go_sem, c1, c9, f12, f13, f16, f17, c20]
    all_goals (try refine end_pure ?_)
    all_goals (try simp only [go_sem, c1, c9, f12, f13, f16, f17, c20])
    all_goals (try (first | rfl | exact ⟨rfl, rfl⟩ | (simp; done)))
  simp only [c20, cond_true] at hh4
  simp only [Option.bind_some, nextO_inl] at hh4
  try simp only [go_sem, c1, c9, f12, f13, f16, f17, c20]
  exact ih5 (IntKind.i64.wrap (v3 + 1)) _ hh4 ((Wk.forget (by simp [Le, LeE, LeH, get, envIds, hpIds, KeepH, D.ids, idsL, AO.ids, setL, base, encI_nil, encS_nil, encT_nil, encG_nil, encC_nil, encL_nil, encK_nil, encP_nil, mpS_nil, mpB_nil, encI_consE, encS_consE, encT_consE, encG_consE, encI_one, encS_one, encT_one, encI_snoc, encS_snoc, encT_snocE, encG_snocE, encC_snoc, encL_snoc, encK_snocE, encP_snocE, encI_set, encS_set, encT_setE, encG_setE, encC_setE, encK_setE, encP_setE, encI_len, encS_len, encT_len2, encG_len2, encC_len, encL_len, encK_len2, encP_len2, c20])))
noncomputable def netmap_within_v (a0 : Int) (a1 : Int) (a2 : Int) : Option (Bool) :=
  cond (decide (a1 ≤ a0)) (some (decide (a0 ≤ a2))) (some false)
theorem netmap_within_vok (a0 : Int) (a1 : Int) (a2 : Int) (r : Bool) (hr : netmap_within_v a0 a1 a2 = some r) :
    ACalls Try.prog 61 [.p (.int .i64 a0), .p (.int .i64 a1), .p (.int .i64 a2)] [] fun h d => h = [] ∧ d = .p (.bool r) := by
  refine ACalls_X Try.func61 rfl enters61 (by simp [Try.f61]) ?_
  unfold netmap_within_v at hr
  cases c1 : decide (a1 ≤ a0)
  · simp only [c1, cond_false] at hr
    obtain rfl := Option.some.inj hr
    try simp only [go_sem, c1]
    all_goals (try refine end_pure ?_)
    all_goals (try simp only [go_sem, c1])
    all_goals (try (first | rfl | exact ⟨rfl, rfl⟩ | (simp; done)))
  simp only [c1, cond_true] at hr
  obtain rfl := Option.some.inj hr
  try simp only [go_sem, c1]
  all_goals (try refine end_pure ?_)
  all_goals (try simp only [go_sem, c1])
  all_goals (try (first | rfl | exact ⟨rfl, rfl⟩ | (simp; done)))
noncomputable def netmap_validConfig_v (a0 : Cfg4) : Option (Bool) :=
  Option.bind (netmap_within_v a0.cq 1 8) fun x1 => cond x1 (Option.bind (netmap_within_v a0.ca 0 4) fun x4 => cond x4 (Option.bind (netmap_within_v a0.cd 0 3) fun x7 => cond x7 (Option.bind (netmap_within_v a0.cp 1 16) fun x10 => some x10) (some false)) (some false)) (some false)
theorem netmap_validConfig_vok (a0 : Cfg4) (r : Bool) (hr : netmap_validConfig_v a0 = some r) :
    ACalls Try.prog 62 [.agg [.p (.int .i64 a0.cq), .p (.int .i64 a0.ca), .p (.int .i64 a0.cd), .p (.int .i64 a0.cp)]] [] fun h d => h = [] ∧ d = .p (.bool r) := by
  refine ACalls_X Try.func62 rfl enters62 (by simp [Try.f62]) ?_
  unfold netmap_validConfig_v at hr
  rcases g2 : netmap_within_v a0.cq 1 8 with _ | x1
  · simp only [g2, Option.bind_none, reduceCtorEq] at hr
  simp only [g2, Option.bind_some] at hr
  try simp only [go_sem]
  refine Cc_of (netmap_within_vok a0.cq 1 8 _ g2) ?_
  rintro h' r ⟨rfl, rfl⟩
  cases c3 : x1
  · simp only [c3, cond_false] at hr
    obtain rfl := Option.some.inj hr
    try simp only [go_sem, c3]
    all_goals (try refine end_pure ?_)
    all_goals (try simp only [go_sem, c3])
    all_goals (try (first | rfl | exact ⟨rfl, rfl⟩ | (simp; done)))
  simp only [c3, cond_true] at hr
  rcases g5 : netmap_within_v a0.ca 0 4 with _ | x4
  · simp only [g5, Option.bind_none, reduceCtorEq] at hr
  simp only [g5, Option.bind_some] at hr
  try simp only [go_sem, c3]
  refine Cc_of (netmap_within_vok a0.ca 0 4 _ g5) ?_
  rintro h' r ⟨rfl, rfl⟩
  cases c6 : x4
  · simp only [c6, cond_false] at hr
    obtain rfl := Option.some.inj hr
    try simp only [go_sem, c3, c6]
    all_goals (try refine end_pure ?_)
    all_goals (try simp only [go_sem, c3, c6])
    all_goals (try (first | rfl | exact ⟨rfl, rfl⟩ | (simp; done)))
  simp only [c6, cond_true] at hr
  rcases g8 : netmap_within_v a0.cd 0 3 with _ | x7
  · simp only [g8, Option.bind_none, reduceCtorEq] at hr
  simp only [g8, Option.bind_some] at hr
  try simp only [go_sem, c3, c6]
  refine Cc_of (netmap_within_vok a0.cd 0 3 _ g8) ?_
  rintro h' r ⟨rfl, rfl⟩
  cases c9 : x7
  · simp only [c9, cond_false] at hr
    obtain rfl := Option.some.inj hr
    try simp only [go_sem, c3, c6, c9]
    all_goals (try refine end_pure ?_)
    all_goals (try simp only [go_sem, c3, c6, c9])
    all_goals (try (first | rfl | exact ⟨rfl, rfl⟩ | (simp; done)))
  simp only [c9, cond_true] at hr
  rcases g11 : netmap_within_v a0.cp 1 16 with _ | x10
  · simp only [g11, Option.bind_none, reduceCtorEq] at hr
  simp only [g11, Option.bind_some] at hr
  try simp only [go_sem, c3, c6, c9]
  refine Cc_of (netmap_within_vok a0.cp 1 16 _ g11) ?_
  rintro h' r ⟨rfl, rfl⟩
  obtain rfl := Option.some.inj hr
  try simp only [go_sem, c3, c6, c9]
  all_goals (try refine end_pure ?_)
  all_goals (try simp only [go_sem, c3, c6, c9])
  all_goals (try (first | rfl | exact ⟨rfl, rfl⟩ | (simp; done)))
noncomputable def netmap_validNext_L1 (a0 : List Int) (a1 : Int) (a2 : Int) : Int × Int → Option ((Int × Int) ⊕ ((Int × Int) ⊕ Bool))
  | (v3, v4) => cond (decide (v3 < ((a0.length : Nat) : Int))) (Option.bind (idxO a0 v3) fun x11 => cond (decide (x11 ≤ v4)) (some (Sum.inr (.inr (false)))) (cond (decide (a2 ≤ x11)) (some (Sum.inr (.inr (false)))) (cond (decide (x11 = a1)) (some (Sum.inr (.inr (false)))) (some (Sum.inl ((IntKind.i64.wrap (v3 + 1)), x11)))))) (some (Sum.inr (.inl (v3, v4))))
theorem netmap_validNext_L1_eq (a0 : List Int) (a1 : Int) (a2 : Int) (v3 : Int) (v4 : Int) : netmap_validNext_L1 a0 a1 a2 (v3, v4) = cond (decide (v3 < ((a0.length : Nat) : Int))) (Option.bind (idxO a0 v3) fun x11 => cond (decide (x11 ≤ v4)) (some (Sum.inr (.inr (false)))) (cond (decide (a2 ≤ x11)) (some (Sum.inr (.inr (false)))) (cond (decide (x11 = a1)) (some (Sum.inr (.inr (false)))) (some (Sum.inl ((IntKind.i64.wrap (v3 + 1)), x11)))))) (some (Sum.inr (.inl (v3, v4)))) := rfl
noncomputable def netmap_validNext_v (a0 : List Int) (a1 : Int) (a2 : Int) : Option (Bool) :=
  Option.bind (loopO (netmap_validNext_L1 a0 a1 a2) (0, (-1))) (fun | .inl (v18, v19) => some (decide (((a0.length : Nat) : Int) ≤ 4)) | .inr (r20) => some r20)
theorem netmap_validNext_vok (a0 : List Int) (a1 : Int) (a2 : Int) (r : Bool) (hr : netmap_validNext_v a0 a1 a2 = some r) :
    ACalls Try.prog 64 [.p (.sl (encI a0)), .p (.int .i64 a1), .p (.int .i64 a2)] [] fun h d => h = [] ∧ d = .p (.bool r) := by
  refine ACalls_X Try.func64 rfl enters64 (by simp [Try.f64]) ?_
  unfold netmap_validNext_v at hr
  rcases g9 : loopO (netmap_validNext_L1 a0 a1 a2) (0, (-1)) with _ | e8
  · simp only [g9, Option.bind_none, reduceCtorEq] at hr
  simp only [g9, Option.bind_some] at hr
  try simp only [go_sem]
  refine X_loopO g9 (fun q : Int × Int => ⟨[(0, .p (.sl (encI a0))), (1, .p (.int .i64 a1)), (2, .p (.int .i64 a2)), (7, .p (.int .i64 q.2)), (10, .p (.sl (encI a0))), (11, .p (.int .i64 ((a0.length : Nat) : Int))), (12, .p (.int .i64 q.1))], [], 34⟩) ((Wk.forget (by simp [Le, LeE, LeH, get, envIds, hpIds, KeepH, D.ids, idsL, AO.ids, setL, base, encI_nil, encS_nil, encT_nil, encG_nil, encC_nil, encL_nil, encK_nil, encP_nil, mpS_nil, mpB_nil, encI_consE, encS_consE, encT_consE, encG_consE, encI_one, encS_one, encT_one, encI_snoc, encS_snoc, encT_snocE, encG_snocE, encC_snoc, encL_snoc, encK_snocE, encP_snocE, encI_set, encS_set, encT_setE, encG_setE, encC_setE, encK_setE, encP_setE, encI_len, encS_len, encT_len2, encG_len2, encC_len, encL_len, encK_len2, encP_len2]))) ?_
  rintro ⟨v3, v4⟩ m7 hh5 ih6
  rw [netmap_validNext_L1_eq] at hh5
  cases c10 : decide (v3 < ((a0.length : Nat) : Int))
  · simp only [c10, cond_false] at hh5
    simp only [Option.bind_some, nextO_inr] at hh5
    obtain rfl := Option.some.inj hh5
    try dsimp only at hr
    obtain rfl := Option.some.inj hr
    try simp only [go_sem, c10]
    all_goals (try refine end_pure ?_)
    all_goals (try simp only [go_sem, c10])
    all_goals (try (first | rfl | exact ⟨rfl, rfl⟩ | (simp; done)))
  simp only [c10, cond_true] at hh5
  rcases g12 : idxO a0 v3 with _ | x11
  · simp only [g12, Option.bind_none, reduceCtorEq] at hh5
  simp only [g12, Option.bind_some] at hh5
  have f13 := idxO_rng g12
  have f14 : (encI a0).getD (Int.toNat v3) [] = [(.int .i64 x11)] := idxO_map _ g12
  cases c15 : decide (x11 ≤ v4)
  · simp only [c15, cond_false] at hh5
    cases c16 : decide (a2 ≤ x11)
    · simp only [c16, cond_false] at hh5
      cases c17 : decide (x11 = a1)
      · simp only [c17, cond_false] at hh5
        simp only [Option.bind_some, nextO_inl] at hh5
        try simp only [go_sem, c10, f13, f14, c15, c16, c17]
        exact ih6 ((IntKind.i64.wrap (v3 + 1)), x11) _ hh5 ((Wk.forget (by simp [Le, LeE, LeH, get, envIds, hpIds, KeepH, D.ids, idsL, AO.ids, setL, base, encI_nil, encS_nil, encT_nil, encG_nil, encC_nil, encL_nil, encK_nil, encP_nil, mpS_nil, mpB_nil, encI_consE, encS_consE, encT_consE, encG_consE, encI_one, encS_one, encT_one, encI_snoc, encS_snoc, encT_snocE, encG_snocE, encC_snoc, encL_snoc, encK_snocE, encP_snocE, encI_set, encS_set, encT_setE, encG_setE, encC_setE, encK_setE, encP_setE, encI_len, encS_len, encT_len2, encG_len2, encC_len, encL_len, encK_len2, encP_len2])))
      simp only [c17, cond_true] at hh5
      simp only [Option.bind_some, nextO_inr] at hh5
      obtain rfl := Option.some.inj hh5
      try dsimp only at hr
      obtain rfl := Option.some.inj hr
      try simp only [go_sem, c10, f13, f14, c15, c16, c17]
      all_goals (try refine end_pure ?_)
      all_goals (try simp only [go_sem, c10, f13, f14, c15, c16, c17])
      all_goals (try (first | rfl | exact ⟨rfl, rfl⟩ | (simp; done)))
    simp only [c16, cond_true] at hh5
    simp only [Option.bind_some, nextO_inr] at hh5
    obtain rfl := Option.some.inj hh5
    try dsimp only at hr
    obtain rfl := Option.some.inj hr
    try simp only [go_sem, c10, f13, f14, c15, c16]
    all_goals (try refine end_pure ?_)
    all_goals (try simp only [go_sem, c10, f13, f14, c15, c16])
    all_goals (try (first | rfl | exact ⟨rfl, rfl⟩ | (simp; done)))
  simp only [c15, cond_true] at hh5
  simp only [Option.bind_some, nextO_inr] at hh5
  obtain rfl := Option.some.inj hh5
  try dsimp only at hr
  obtain rfl := Option.some.inj hr
  try simp only [go_sem, c10, f13, f14, c15]
  all_goals (try refine end_pure ?_)
  all_goals (try simp only [go_sem, c10, f13, f14, c15])
  all_goals (try (first | rfl | exact ⟨rfl, rfl⟩ | (simp; done)))
noncomputable def netmap_Valid_L1 (a0 : Nt) : (List (Int × Bool)) × Int → Option (((List (Int × Bool)) × Int) ⊕ (((List (Int × Bool)) × Int)))
  | (v37, v38) => cond (decide (v38 < ((a0.robots.length : Nat) : Int))) (Option.bind (idxO a0.robots v38) fun x45 => some (Sum.inl ((delB v37 x45), (IntKind.i64.wrap (v38 + 1))))) (some (Sum.inr (v37, v38)))
theorem netmap_Valid_L1_eq (a0 : Nt) (v37 : List (Int × Bool)) (v38 : Int) : netmap_Valid_L1 a0 (v37, v38) = cond (decide (v38 < ((a0.robots.length : Nat) : Int))) (Option.bind (idxO a0.robots v38) fun x45 => some (Sum.inl ((delB v37 x45), (IntKind.i64.wrap (v38 + 1))))) (some (Sum.inr (v37, v38))) := rfl
noncomputable def netmap_Valid_L2 (a0 : Nt) : (List (Int × Bool)) × Bool × Int → Option (((List (Int × Bool)) × Bool × Int) ⊕ (((List (Int × Bool)) × Bool × Int)))
  | (v54, v55, v56) => cond (decide (v56 < ((a0.robots.length : Nat) : Int))) (Option.bind (idxO a0.robots v56) fun x63 => cond v55 (some (Sum.inl ((delB v54 x63), ((getB v54 x63).getD false), (IntKind.i64.wrap (v56 + 1))))) (some (Sum.inl ((delB v54 x63), false, (IntKind.i64.wrap (v56 + 1)))))) (some (Sum.inr (v54, v55, v56)))
theorem netmap_Valid_L2_eq (a0 : Nt) (v54 : List (Int × Bool)) (v55 : Bool) (v56 : Int) : netmap_Valid_L2 a0 (v54, v55, v56) = cond (decide (v56 < ((a0.robots.length : Nat) : Int))) (Option.bind (idxO a0.robots v56) fun x63 => cond v55 (some (Sum.inl ((delB v54 x63), ((getB v54 x63).getD false), (IntKind.i64.wrap (v56 + 1))))) (some (Sum.inl ((delB v54 x63), false, (IntKind.i64.wrap (v56 + 1)))))) (some (Sum.inr (v54, v55, v56))) := rfl
noncomputable def netmap_Valid_L3 (x71 : Spr) : (List (Int × Bool)) × Int × Int → Option (((List (Int × Bool)) × Int × Int) ⊕ (((List (Int × Bool)) × Int × Int)))
  | (v91, v92, v93) => cond (decide (v92 < x71.slots)) (cond x71.depot (some (Sum.inl ((putB v91 v93 true), (IntKind.i64.wrap (v92 + 1)), (IntKind.i64.wrap (v93 + 1))))) (some (Sum.inl (v91, (IntKind.i64.wrap (v92 + 1)), (IntKind.i64.wrap (v93 + 1)))))) (some (Sum.inr (v91, v92, v93)))
theorem netmap_Valid_L3_eq (x71 : Spr) (v91 : List (Int × Bool)) (v92 : Int) (v93 : Int) : netmap_Valid_L3 x71 (v91, v92, v93) = cond (decide (v92 < x71.slots)) (cond x71.depot (some (Sum.inl ((putB v91 v93 true), (IntKind.i64.wrap (v92 + 1)), (IntKind.i64.wrap (v93 + 1))))) (some (Sum.inl (v91, (IntKind.i64.wrap (v92 + 1)), (IntKind.i64.wrap (v93 + 1)))))) (some (Sum.inr (v91, v92, v93))) := rfl
noncomputable def netmap_Valid_L4 (a0 : Nt) : (List (List UInt8 × Int)) × (List (Int × Bool)) × Int × Int → Option (((List (List UInt8 × Int)) × (List (Int × Bool)) × Int × Int) ⊕ (((List (List UInt8 × Int)) × (List (Int × Bool)) × Int × Int) ⊕ Bool))
  | (v24, v25, v26, v27) => cond (decide (v27 < ((a0.spurs.length : Nat) : Int))) (Option.bind (idxO a0.spurs v27) fun x71 => Option.bind (fname_v x71.name) fun x75 => cond x75 (Option.bind (netmap_within_v x71.inn 0 (IntKind.i64.wrap (((a0.blocks.length : Nat) : Int) - 1))) fun x78 => cond x78 (Option.bind (netmap_within_v x71.out 0 (IntKind.i64.wrap (((a0.blocks.length : Nat) : Int) - 1))) fun x81 => cond x81 (Option.bind (netmap_within_v x71.slots 1 4) fun x84 => cond x84 (cond (decide (x71.base = v26)) (Option.bind (loopO (netmap_Valid_L3 x71) (v25, 0, v26)) (fun (v101, v102, v103) => some (Sum.inl ((putS v24 x71.name (IntKind.i64.wrap (((getS v24 x71.name).getD 0) + 1))), v101, v103, (IntKind.i64.wrap (v27 + 1)))))) (some (Sum.inr (.inr (false))))) (some (Sum.inr (.inr (false))))) (some (Sum.inr (.inr (false))))) (some (Sum.inr (.inr (false))))) (some (Sum.inr (.inr (false))))) (some (Sum.inr (.inl (v24, v25, v26, v27))))
theorem netmap_Valid_L4_eq (a0 : Nt) (v24 : List (List UInt8 × Int)) (v25 : List (Int × Bool)) (v26 : Int) (v27 : Int) : netmap_Valid_L4 a0 (v24, v25, v26, v27) = cond (decide (v27 < ((a0.spurs.length : Nat) : Int))) (Option.bind (idxO a0.spurs v27) fun x71 => Option.bind (fname_v x71.name) fun x75 => cond x75 (Option.bind (netmap_within_v x71.inn 0 (IntKind.i64.wrap (((a0.blocks.length : Nat) : Int) - 1))) fun x78 => cond x78 (Option.bind (netmap_within_v x71.out 0 (IntKind.i64.wrap (((a0.blocks.length : Nat) : Int) - 1))) fun x81 => cond x81 (Option.bind (netmap_within_v x71.slots 1 4) fun x84 => cond x84 (cond (decide (x71.base = v26)) (Option.bind (loopO (netmap_Valid_L3 x71) (v25, 0, v26)) (fun (v101, v102, v103) => some (Sum.inl ((putS v24 x71.name (IntKind.i64.wrap (((getS v24 x71.name).getD 0) + 1))), v101, v103, (IntKind.i64.wrap (v27 + 1)))))) (some (Sum.inr (.inr (false))))) (some (Sum.inr (.inr (false))))) (some (Sum.inr (.inr (false))))) (some (Sum.inr (.inr (false))))) (some (Sum.inr (.inr (false))))) (some (Sum.inr (.inl (v24, v25, v26, v27)))) := rfl
noncomputable def netmap_Valid_L5 (a0 : Nt) : (List (List UInt8 × Int)) × Int → Option (((List (List UInt8 × Int)) × Int) ⊕ (((List (List UInt8 × Int)) × Int) ⊕ Bool))
  | (v12, v13) => cond (decide (v13 < ((a0.blocks.length : Nat) : Int))) (Option.bind (idxO a0.blocks v13) fun x146 => Option.bind (fname_v x146.name) fun x150 => cond x150 (Option.bind (netmap_within_v x146.x (-9999) 9999) fun x153 => cond x153 (Option.bind (netmap_within_v x146.y (-9999) 9999) fun x156 => cond x156 (Option.bind (idxO a0.next v13) fun x159 => Option.bind (netmap_validNext_v x159 v13 ((a0.blocks.length : Nat) : Int)) fun x163 => cond x163 (some (Sum.inl ((putS v12 x146.name (IntKind.i64.wrap (((getS v12 x146.name).getD 0) + 1))), (IntKind.i64.wrap (v13 + 1))))) (some (Sum.inr (.inr (false))))) (some (Sum.inr (.inr (false))))) (some (Sum.inr (.inr (false))))) (some (Sum.inr (.inr (false))))) (some (Sum.inr (.inl (v12, v13))))
theorem netmap_Valid_L5_eq (a0 : Nt) (v12 : List (List UInt8 × Int)) (v13 : Int) : netmap_Valid_L5 a0 (v12, v13) = cond (decide (v13 < ((a0.blocks.length : Nat) : Int))) (Option.bind (idxO a0.blocks v13) fun x146 => Option.bind (fname_v x146.name) fun x150 => cond x150 (Option.bind (netmap_within_v x146.x (-9999) 9999) fun x153 => cond x153 (Option.bind (netmap_within_v x146.y (-9999) 9999) fun x156 => cond x156 (Option.bind (idxO a0.next v13) fun x159 => Option.bind (netmap_validNext_v x159 v13 ((a0.blocks.length : Nat) : Int)) fun x163 => cond x163 (some (Sum.inl ((putS v12 x146.name (IntKind.i64.wrap (((getS v12 x146.name).getD 0) + 1))), (IntKind.i64.wrap (v13 + 1))))) (some (Sum.inr (.inr (false))))) (some (Sum.inr (.inr (false))))) (some (Sum.inr (.inr (false))))) (some (Sum.inr (.inr (false))))) (some (Sum.inr (.inl (v12, v13)))) := rfl
noncomputable def netmap_Valid_v (a0 : Nt) : Option (Bool) :=
  Option.bind (netmap_within_v ((a0.blocks.length : Nat) : Int) 1 24) fun x1 => cond x1 (cond (decide (((a0.next.length : Nat) : Int) = ((a0.blocks.length : Nat) : Int))) (cond (decide (6 < ((a0.spurs.length : Nat) : Int))) (some false) (cond (decide (8 < ((a0.robots.length : Nat) : Int))) (some false) (Option.bind (netmap_validConfig_v (⟨a0.cq, a0.ca, a0.cd, a0.cp⟩ : Cfg4)) fun x7 => cond x7 (Option.bind (loopO (netmap_Valid_L5 a0) ([], 0)) (fun | .inl (v166, v167) => Option.bind (loopO (netmap_Valid_L4 a0) (v166, [], ((a0.blocks.length : Nat) : Int), 0)) (fun | .inl (v252, v253, v254, v255) => cond (decide (0 < ((v253.length : Nat) : Int))) (Option.bind (loopO (netmap_Valid_L2 a0) (v253, decide (((v252.length : Nat) : Int) = (IntKind.i64.wrap (((a0.blocks.length : Nat) : Int) + ((a0.spurs.length : Nat) : Int)))), 0)) (fun (v290, v291, v292) => some v291)) (Option.bind (loopO (netmap_Valid_L1 a0) (v253, 0)) (fun (v271, v272) => some false)) | .inr (r293) => some r293) | .inr (r294) => some r294)) (some false)))) (some false)) (some false)
theorem netmap_Valid_vok (a0 : Nt) (r : Bool) (hr : netmap_Valid_v a0 = some r) :
    ACalls Try.prog 34 [.agg [.p (.sl (encK a0.blocks)), .p (.sl (encG a0.next)), .p (.sl (encP a0.spurs)), .p (.sl (encI a0.robots)), .p (.int .i64 a0.cq), .p (.int .i64 a0.ca), .p (.int .i64 a0.cd), .p (.int .i64 a0.cp)]] [] fun h d => h = [] ∧ d = .p (.bool r) := by
  refine ACalls_X Try.func34 rfl enters34 (by simp [Try.f34]) ?_
  unfold netmap_Valid_v at hr
  rcases g2 : netmap_within_v ((a0.blocks.length : Nat) : Int) 1 24 with _ | x1
  · simp only [g2, Option.bind_none, reduceCtorEq] at hr
  simp only [g2, Option.bind_some] at hr
  try simp only [go_sem]
  refine Cc_of (netmap_within_vok ((a0.blocks.length : Nat) : Int) 1 24 _ g2) ?_
  rintro h' r ⟨rfl, rfl⟩
  cases c3 : x1
  · simp only [c3, cond_false] at hr
    obtain rfl := Option.some.inj hr
    try simp only [go_sem, c3]
    all_goals (try refine end_pure ?_)
    all_goals (try simp only [go_sem, c3])
    all_goals (try (first | rfl | exact ⟨rfl, rfl⟩ | (simp; done)))
  simp only [c3, cond_true] at hr
  cases c4 : decide (((a0.next.length : Nat) : Int) = ((a0.blocks.length : Nat) : Int))
  · simp only [c4, cond_false] at hr
    obtain rfl := Option.some.inj hr
    try simp only [go_sem, c3, c4]
    all_goals (try refine end_pure ?_)
    all_goals (try simp only [go_sem, c3, c4])
    all_goals (try (first | rfl | exact ⟨rfl, rfl⟩ | (simp; done)))
  simp only [c4, cond_true] at hr
  cases c5 : decide (6 < ((a0.spurs.length : Nat) : Int))
  · simp only [c5, cond_false] at hr
    cases c6 : decide (8 < ((a0.robots.length : Nat) : Int))
    · simp only [c6, cond_false] at hr
      rcases g8 : netmap_validConfig_v (⟨a0.cq, a0.ca, a0.cd, a0.cp⟩ : Cfg4) with _ | x7
      · simp only [g8, Option.bind_none, reduceCtorEq] at hr
      simp only [g8, Option.bind_some] at hr
      try simp only [go_sem, c3, c4, c5, c6]
      refine Cc_of (netmap_validConfig_vok (⟨a0.cq, a0.ca, a0.cd, a0.cp⟩ : Cfg4) _ g8) ?_
      rintro h' r ⟨rfl, rfl⟩
      cases c9 : x7
      · simp only [c9, cond_false] at hr
        obtain rfl := Option.some.inj hr
        try simp only [go_sem, c3, c4, c5, c6, c9]
        all_goals (try refine end_pure ?_)
        all_goals (try simp only [go_sem, c3, c4, c5, c6, c9])
        all_goals (try (first | rfl | exact ⟨rfl, rfl⟩ | (simp; done)))
      simp only [c9, cond_true] at hr
      rcases g18 : loopO (netmap_Valid_L5 a0) ([], 0) with _ | e17
      · simp only [g18, Option.bind_none, reduceCtorEq] at hr
      simp only [g18, Option.bind_some] at hr
      try simp only [go_sem, c3, c4, c5, c6, c9]
      refine X_loopO g18 (fun q : (List (List UInt8 × Int)) × Int => ⟨[(1, .ptr 1 0), (3, .mv 45), (47, .p (.sl (encK a0.blocks))), (48, .p (.int .i64 ((a0.blocks.length : Nat) : Int))), (49, .p (.int .i64 q.2))], [(1, .box [.p (.sl (encK a0.blocks)), .p (.sl (encG a0.next)), .p (.sl (encP a0.spurs)), .p (.sl (encI a0.robots)), .p (.int .i64 a0.cq), .p (.int .i64 a0.ca), .p (.int .i64 a0.cd), .p (.int .i64 a0.cp)]), (45, .mp (mpS q.1))], 185⟩) ((Wk.forget (by simp [Le, LeE, LeH, get, envIds, hpIds, KeepH, D.ids, idsL, AO.ids, setL, base, encI_nil, encS_nil, encT_nil, encG_nil, encC_nil, encL_nil, encK_nil, encP_nil, mpS_nil, mpB_nil, encI_consE, encS_consE, encT_consE, encG_consE, encI_one, encS_one, encT_one, encI_snoc, encS_snoc, encT_snocE, encG_snocE, encC_snoc, encL_snoc, encK_snocE, encP_snocE, encI_set, encS_set, encT_setE, encG_setE, encC_setE, encK_setE, encP_setE, encI_len, encS_len, encT_len2, encG_len2, encC_len, encL_len, encK_len2, encP_len2, c3, c9]))) ?_
      rintro ⟨v12, v13⟩ m16 hh14 ih15
      rw [netmap_Valid_L5_eq] at hh14
      cases c19 : decide (v13 < ((a0.blocks.length : Nat) : Int))
      · simp only [c19, cond_false] at hh14
        simp only [Option.bind_some, nextO_inr] at hh14
        obtain rfl := Option.some.inj hh14
        try dsimp only at hr
        rcases g32 : loopO (netmap_Valid_L4 a0) (v12, [], ((a0.blocks.length : Nat) : Int), 0) with _ | e31
        · simp only [g32, Option.bind_none, reduceCtorEq] at hr
        simp only [g32, Option.bind_some] at hr
        try simp only [go_sem, c3, c4, c5, c6, c9, c19]
        refine X_loopO g32 (fun q : (List (List UInt8 × Int)) × (List (Int × Bool)) × Int × Int => ⟨[(1, .ptr 1 0), (3, .mv 45), (6, .p (.int .i64 q.2.2.1)), (7, .mv 92), (94, .p (.sl (encP a0.spurs))), (95, .p (.int .i64 ((a0.spurs.length : Nat) : Int))), (96, .p (.int .i64 q.2.2.2))], [(1, .box [.p (.sl (encK a0.blocks)), .p (.sl (encG a0.next)), .p (.sl (encP a0.spurs)), .p (.sl (encI a0.robots)), .p (.int .i64 a0.cq), .p (.int .i64 a0.ca), .p (.int .i64 a0.cd), .p (.int .i64 a0.cp)]), (45, .mp (mpS q.1)), (92, .mp (mpB q.2.1))], 185⟩) ((Wk.forget (by simp [Le, LeE, LeH, get, envIds, hpIds, KeepH, D.ids, idsL, AO.ids, setL, base, encI_nil, encS_nil, encT_nil, encG_nil, encC_nil, encL_nil, encK_nil, encP_nil, mpS_nil, mpB_nil, encI_consE, encS_consE, encT_consE, encG_consE, encI_one, encS_one, encT_one, encI_snoc, encS_snoc, encT_snocE, encG_snocE, encC_snoc, encL_snoc, encK_snocE, encP_snocE, encI_set, encS_set, encT_setE, encG_setE, encC_setE, encK_setE, encP_setE, encI_len, encS_len, encT_len2, encG_len2, encC_len, encL_len, encK_len2, encP_len2, c3, c9]))) ?_
        rintro ⟨v24, v25, v26, v27⟩ m30 hh28 ih29
        rw [netmap_Valid_L4_eq] at hh28
        cases c33 : decide (v27 < ((a0.spurs.length : Nat) : Int))
        · simp only [c33, cond_false] at hh28
          simp only [Option.bind_some, nextO_inr] at hh28
          obtain rfl := Option.some.inj hh28
          try dsimp only at hr
          try simp only [go_sem, c3, c4, c5, c6, c9, c19, c33]
          refine Af_maplen rfl rfl rfl rfl mp112 rfl rfl ?_
          cases c34 : decide (0 < ((v25.length : Nat) : Int))
          · simp only [c34, cond_false] at hr
            rcases g43 : loopO (netmap_Valid_L1 a0) (v25, 0) with _ | e42
            · simp only [g43, Option.bind_none, reduceCtorEq] at hr
            simp only [g43, Option.bind_some] at hr
            try simp only [go_sem, c3, c4, c5, c6, c9, c19, c33, c34]
            refine X_loopO g43 (fun q : (List (Int × Bool)) × Int => ⟨[(7, .mv 92), (10, .p (.bool false)), (169, .p (.sl (encI a0.robots))), (170, .p (.int .i64 ((a0.robots.length : Nat) : Int))), (171, .p (.int .i64 q.2))], [(92, .mp (mpB q.1))], 185⟩) ((Wk.forget (by simp [Le, LeE, LeH, get, envIds, hpIds, KeepH, D.ids, idsL, AO.ids, setL, base, encI_nil, encS_nil, encT_nil, encG_nil, encC_nil, encL_nil, encK_nil, encP_nil, mpS_nil, mpB_nil, encI_consE, encS_consE, encT_consE, encG_consE, encI_one, encS_one, encT_one, encI_snoc, encS_snoc, encT_snocE, encG_snocE, encC_snoc, encL_snoc, encK_snocE, encP_snocE, encI_set, encS_set, encT_setE, encG_setE, encC_setE, encK_setE, encP_setE, encI_len, encS_len, encT_len2, encG_len2, encC_len, encL_len, encK_len2, encP_len2, c3, c9]))) ?_
            rintro ⟨v37, v38⟩ m41 hh39 ih40
            rw [netmap_Valid_L1_eq] at hh39
            cases c44 : decide (v38 < ((a0.robots.length : Nat) : Int))
            · simp only [c44, cond_false] at hh39
              simp only [Option.bind_some, nextO_inr] at hh39
              obtain rfl := Option.some.inj hh39
              try dsimp only at hr
              obtain rfl := Option.some.inj hr
              try simp only [go_sem, c3, c4, c5, c6, c9, c19, c33, c34, c44]
              all_goals (try refine end_pure ?_)
              all_goals (try simp only [go_sem, c3, c4, c5, c6, c9, c19, c33, c34, c44])
              all_goals (try (first | rfl | exact ⟨rfl, rfl⟩ | (simp; done)))
            simp only [c44, cond_true] at hh39
            rcases g46 : idxO a0.robots v38 with _ | x45
            · simp only [g46, Option.bind_none, reduceCtorEq] at hh39
            simp only [g46, Option.bind_some] at hh39
            have f47 := idxO_rng g46
            have f48 : (encI a0.robots).getD (Int.toNat v38) [] = [(.int .i64 x45)] := idxO_map _ g46
            try simp only [go_sem, c3, c4, c5, c6, c9, c19, c33, c34, c44, f47, f48]
            refine Af_mapdel rfl rfl rfl rfl mp112 rfl rfl rfl rfl (mfit_B _ _) ?_
            simp only [Option.bind_some, nextO_inl] at hh39
            try simp only [go_sem, c3, c4, c5, c6, c9, c19, c33, c34, c44, f47, f48]
            exact ih40 ((delB v37 x45), (IntKind.i64.wrap (v38 + 1))) _ hh39 ((Wk.forget (by simp [Le, LeE, LeH, get, envIds, hpIds, KeepH, D.ids, idsL, AO.ids, setL, base, encI_nil, encS_nil, encT_nil, encG_nil, encC_nil, encL_nil, encK_nil, encP_nil, mpS_nil, mpB_nil, encI_consE, encS_consE, encT_consE, encG_consE, encI_one, encS_one, encT_one, encI_snoc, encS_snoc, encT_snocE, encG_snocE, encC_snoc, encL_snoc, encK_snocE, encP_snocE, encI_set, encS_set, encT_setE, encG_setE, encC_setE, encK_setE, encP_setE, encI_len, encS_len, encT_len2, encG_len2, encC_len, encL_len, encK_len2, encP_len2, c3, c9])))
          simp only [c34, cond_true] at hr
          try simp only [go_sem, c3, c4, c5, c6, c9, c19, c33, c34]
          refine Af_maplen rfl rfl rfl rfl mp91 rfl rfl ?_
          rcases g61 : loopO (netmap_Valid_L2 a0) (v25, decide (((v24.length : Nat) : Int) = (IntKind.i64.wrap (((a0.blocks.length : Nat) : Int) + ((a0.spurs.length : Nat) : Int)))), 0) with _ | e60
          · simp only [g61, Option.bind_none, reduceCtorEq] at hr
          simp only [g61, Option.bind_some] at hr
          try simp only [go_sem, c3, c4, c5, c6, c9, c19, c33, c34]
          refine X_loopO g61 (fun q : (List (Int × Bool)) × Bool × Int => ⟨[(7, .mv 92), (10, .p (.bool q.2.1)), (169, .p (.sl (encI a0.robots))), (170, .p (.int .i64 ((a0.robots.length : Nat) : Int))), (171, .p (.int .i64 q.2.2))], [(92, .mp (mpB q.1))], 185⟩) ((Wk.forget (by simp [Le, LeE, LeH, get, envIds, hpIds, KeepH, D.ids, idsL, AO.ids, setL, base, encI_nil, encS_nil, encT_nil, encG_nil, encC_nil, encL_nil, encK_nil, encP_nil, mpS_nil, mpB_nil, encI_consE, encS_consE, encT_consE, encG_consE, encI_one, encS_one, encT_one, encI_snoc, encS_snoc, encT_snocE, encG_snocE, encC_snoc, encL_snoc, encK_snocE, encP_snocE, encI_set, encS_set, encT_setE, encG_setE, encC_setE, encK_setE, encP_setE, encI_len, encS_len, encT_len2, encG_len2, encC_len, encL_len, encK_len2, encP_len2, c3, c9]))) ?_
          rintro ⟨v54, v55, v56⟩ m59 hh57 ih58
          rw [netmap_Valid_L2_eq] at hh57
          cases c62 : decide (v56 < ((a0.robots.length : Nat) : Int))
          · simp only [c62, cond_false] at hh57
            simp only [Option.bind_some, nextO_inr] at hh57
            obtain rfl := Option.some.inj hh57
            try dsimp only at hr
            obtain rfl := Option.some.inj hr
            try simp only [go_sem, c3, c4, c5, c6, c9, c19, c33, c34, c62]
            all_goals (try refine end_pure ?_)
            all_goals (try simp only [go_sem, c3, c4, c5, c6, c9, c19, c33, c34, c62])
            all_goals (try (first | rfl | exact ⟨rfl, rfl⟩ | (simp; done)))
          simp only [c62, cond_true] at hh57
          rcases g64 : idxO a0.robots v56 with _ | x63
          · simp only [g64, Option.bind_none, reduceCtorEq] at hh57
          simp only [g64, Option.bind_some] at hh57
          have f65 := idxO_rng g64
          have f66 : (encI a0.robots).getD (Int.toNat v56) [] = [(.int .i64 x63)] := idxO_map _ g64
          cases c67 : v55
          · simp only [c67, cond_false] at hh57
            try simp only [go_sem, c3, c4, c5, c6, c9, c19, c33, c34, c62, f65, f66, c67]
            refine Af_mapdel rfl rfl rfl rfl mp112 rfl rfl rfl rfl (mfit_B _ _) ?_
            simp only [Option.bind_some, nextO_inl] at hh57
            try simp only [go_sem, c3, c4, c5, c6, c9, c19, c33, c34, c62, f65, f66, c67]
            exact ih58 ((delB v54 x63), false, (IntKind.i64.wrap (v56 + 1))) _ hh57 ((Wk.forget (by simp [Le, LeE, LeH, get, envIds, hpIds, KeepH, D.ids, idsL, AO.ids, setL, base, encI_nil, encS_nil, encT_nil, encG_nil, encC_nil, encL_nil, encK_nil, encP_nil, mpS_nil, mpB_nil, encI_consE, encS_consE, encT_consE, encG_consE, encI_one, encS_one, encT_one, encI_snoc, encS_snoc, encT_snocE, encG_snocE, encC_snoc, encL_snoc, encK_snocE, encP_snocE, encI_set, encS_set, encT_setE, encG_setE, encC_setE, encK_setE, encP_setE, encI_len, encS_len, encT_len2, encG_len2, encC_len, encL_len, encK_len2, encP_len2, c3, c9, c67])))
          simp only [c67, cond_true] at hh57
          try simp only [go_sem, c3, c4, c5, c6, c9, c19, c33, c34, c62, f65, f66, c67]
          refine Af_mapdel rfl rfl rfl rfl mp112 rfl rfl rfl rfl (mfit_B _ _) ?_
          simp only [Option.bind_some, nextO_inl] at hh57
          try simp only [go_sem, c3, c4, c5, c6, c9, c19, c33, c34, c62, f65, f66, c67]
          exact ih58 ((delB v54 x63), ((getB v54 x63).getD false), (IntKind.i64.wrap (v56 + 1))) _ hh57 ((Wk.forget (by simp [Le, LeE, LeH, get, envIds, hpIds, KeepH, D.ids, idsL, AO.ids, setL, base, encI_nil, encS_nil, encT_nil, encG_nil, encC_nil, encL_nil, encK_nil, encP_nil, mpS_nil, mpB_nil, encI_consE, encS_consE, encT_consE, encG_consE, encI_one, encS_one, encT_one, encI_snoc, encS_snoc, encT_snocE, encG_snocE, encC_snoc, encL_snoc, encK_snocE, encP_snocE, encI_set, encS_set, encT_setE, encG_setE, encC_setE, encK_setE, encP_setE, encI_len, encS_len, encT_len2, encG_len2, encC_len, encL_len, encK_len2, encP_len2, c3, c9, c67])))
        simp only [c33, cond_true] at hh28
        rcases g72 : idxO a0.spurs v27 with _ | x71
        · simp only [g72, Option.bind_none, reduceCtorEq] at hh28
        simp only [g72, Option.bind_some] at hh28
        have f73 := idxO_rng g72
        have f74 : (encP a0.spurs).getD (Int.toNat v27) [] = [(.str x71.name), (.bool x71.depot), (.int .i64 x71.inn), (.int .i64 x71.out), (.int .i64 x71.slots), (.int .i64 x71.base)] := idxO_map _ g72
        rcases g76 : fname_v x71.name with _ | x75
        · simp only [g76, Option.bind_none, reduceCtorEq] at hh28
        simp only [g76, Option.bind_some] at hh28
        try simp only [go_sem, c3, c4, c5, c6, c9, c19, c33, f73, f74]
        refine Cc_of (fname_vok x71.name _ g76) ?_
        rintro h' r ⟨rfl, rfl⟩
        cases c77 : x75
        · simp only [c77, cond_false] at hh28
          simp only [Option.bind_some, nextO_inr] at hh28
          obtain rfl := Option.some.inj hh28
          try dsimp only at hr
          obtain rfl := Option.some.inj hr
          try simp only [go_sem, c3, c4, c5, c6, c9, c19, c33, f73, f74, c77]
          all_goals (try refine end_pure ?_)
          all_goals (try simp only [go_sem, c3, c4, c5, c6, c9, c19, c33, f73, f74, c77])
          all_goals (try (first | rfl | exact ⟨rfl, rfl⟩ | (simp; done)))
        simp only [c77, cond_true] at hh28
        rcases g79 : netmap_within_v x71.inn 0 (IntKind.i64.wrap (((a0.blocks.length : Nat) : Int) - 1)) with _ | x78
        · simp only [g79, Option.bind_none, reduceCtorEq] at hh28
        simp only [g79, Option.bind_some] at hh28
        try simp only [go_sem, c3, c4, c5, c6, c9, c19, c33, f73, f74, c77]
        refine Cc_of (netmap_within_vok x71.inn 0 (IntKind.i64.wrap (((a0.blocks.length : Nat) : Int) - 1)) _ g79) ?_
        rintro h' r ⟨rfl, rfl⟩
        cases c80 : x78
        · simp only [c80, cond_false] at hh28
          simp only [Option.bind_some, nextO_inr] at hh28
          obtain rfl := Option.some.inj hh28
          try dsimp only at hr
          obtain rfl := Option.some.inj hr
          try simp only [go_sem, c3, c4, c5, c6, c9, c19, c33, f73, f74, c77, c80]
          all_goals (try refine end_pure ?_)
          all_goals (try simp only [go_sem, c3, c4, c5, c6, c9, c19, c33, f73, f74, c77, c80])
          all_goals (try (first | rfl | exact ⟨rfl, rfl⟩ | (simp; done)))
        simp only [c80, cond_true] at hh28
        rcases g82 : netmap_within_v x71.out 0 (IntKind.i64.wrap (((a0.blocks.length : Nat) : Int) - 1)) with _ | x81
        · simp only [g82, Option.bind_none, reduceCtorEq] at hh28
        simp only [g82, Option.bind_some] at hh28
        try simp only [go_sem, c3, c4, c5, c6, c9, c19, c33, f73, f74, c77, c80]
        refine Cc_of (netmap_within_vok x71.out 0 (IntKind.i64.wrap (((a0.blocks.length : Nat) : Int) - 1)) _ g82) ?_
        rintro h' r ⟨rfl, rfl⟩
        cases c83 : x81
        · simp only [c83, cond_false] at hh28
          simp only [Option.bind_some, nextO_inr] at hh28
          obtain rfl := Option.some.inj hh28
          try dsimp only at hr
          obtain rfl := Option.some.inj hr
          try simp only [go_sem, c3, c4, c5, c6, c9, c19, c33, f73, f74, c77, c80, c83]
          all_goals (try refine end_pure ?_)
          all_goals (try simp only [go_sem, c3, c4, c5, c6, c9, c19, c33, f73, f74, c77, c80, c83])
          all_goals (try (first | rfl | exact ⟨rfl, rfl⟩ | (simp; done)))
        simp only [c83, cond_true] at hh28
        rcases g85 : netmap_within_v x71.slots 1 4 with _ | x84
        · simp only [g85, Option.bind_none, reduceCtorEq] at hh28
        simp only [g85, Option.bind_some] at hh28
        try simp only [go_sem, c3, c4, c5, c6, c9, c19, c33, f73, f74, c77, c80, c83]
        refine Cc_of (netmap_within_vok x71.slots 1 4 _ g85) ?_
        rintro h' r ⟨rfl, rfl⟩
        cases c86 : x84
        · simp only [c86, cond_false] at hh28
          simp only [Option.bind_some, nextO_inr] at hh28
          obtain rfl := Option.some.inj hh28
          try dsimp only at hr
          obtain rfl := Option.some.inj hr
          try simp only [go_sem, c3, c4, c5, c6, c9, c19, c33, f73, f74, c77, c80, c83, c86]
          all_goals (try refine end_pure ?_)
          all_goals (try simp only [go_sem, c3, c4, c5, c6, c9, c19, c33, f73, f74, c77, c80, c83, c86])
          all_goals (try (first | rfl | exact ⟨rfl, rfl⟩ | (simp; done)))
        simp only [c86, cond_true] at hh28
        cases c87 : decide (x71.base = v26)
        · simp only [c87, cond_false] at hh28
          simp only [Option.bind_some, nextO_inr] at hh28
          obtain rfl := Option.some.inj hh28
          try dsimp only at hr
          obtain rfl := Option.some.inj hr
          try simp only [go_sem, c3, c4, c5, c6, c9, c19, c33, f73, f74, c77, c80, c83, c86, c87]
          all_goals (try refine end_pure ?_)
          all_goals (try simp only [go_sem, c3, c4, c5, c6, c9, c19, c33, f73, f74, c77, c80, c83, c86, c87])
          all_goals (try (first | rfl | exact ⟨rfl, rfl⟩ | (simp; done)))
        simp only [c87, cond_true] at hh28
        rcases g98 : loopO (netmap_Valid_L3 x71) (v25, 0, v26) with _ | e97
        · simp only [g98, Option.bind_none, reduceCtorEq] at hh28
        simp only [g98, Option.bind_some] at hh28
        try simp only [go_sem, c3, c4, c5, c6, c9, c19, c33, f73, f74, c77, c80, c83, c86, c87]
        refine X_loopO g98 (fun q : (List (Int × Bool)) × Int × Int => ⟨[(1, .ptr 1 0), (3, .mv 45), (6, .p (.int .i64 q.2.2)), (7, .mv 92), (9, .ptr 9 0), (94, .p (.sl (encP a0.spurs))), (95, .p (.int .i64 ((a0.spurs.length : Nat) : Int))), (96, .p (.int .i64 v27)), (142, .p (.int .i64 x71.slots)), (143, .p (.int .i64 q.2.1))], [(1, .box [.p (.sl (encK a0.blocks)), .p (.sl (encG a0.next)), .p (.sl (encP a0.spurs)), .p (.sl (encI a0.robots)), .p (.int .i64 a0.cq), .p (.int .i64 a0.ca), .p (.int .i64 a0.cd), .p (.int .i64 a0.cp)]), (9, .box [.p (.str x71.name), .p (.bool x71.depot), .p (.int .i64 x71.inn), .p (.int .i64 x71.out), .p (.int .i64 x71.slots), .p (.int .i64 x71.base)]), (45, .mp (mpS (putS v24 x71.name (IntKind.i64.wrap (((getS v24 x71.name).getD 0) + 1))))), (92, .mp (mpB q.1))], 185⟩) ((Wk.forget (by simp [Le, LeE, LeH, get, envIds, hpIds, KeepH, D.ids, idsL, AO.ids, setL, base, encI_nil, encS_nil, encT_nil, encG_nil, encC_nil, encL_nil, encK_nil, encP_nil, mpS_nil, mpB_nil, encI_consE, encS_consE, encT_consE, encG_consE, encI_one, encS_one, encT_one, encI_snoc, encS_snoc, encT_snocE, encG_snocE, encC_snoc, encL_snoc, encK_snocE, encP_snocE, encI_set, encS_set, encT_setE, encG_setE, encC_setE, encK_setE, encP_setE, encI_len, encS_len, encT_len2, encG_len2, encC_len, encL_len, encK_len2, encP_len2, c3, c9, c77, c80, c83, c86]))) ?_
        rintro ⟨v91, v92, v93⟩ m96 hh94 ih95
        rw [netmap_Valid_L3_eq] at hh94
        cases c99 : decide (v92 < x71.slots)
        · simp only [c99, cond_false] at hh94
          simp only [Option.bind_some, nextO_inr] at hh94
          obtain rfl := Option.some.inj hh94
          try dsimp only at hh28
          simp only [Option.bind_some, nextO_inl] at hh28
          try simp only [go_sem, c3, c4, c5, c6, c9, c19, c33, f73, f74, c77, c80, c83, c86, c87, c99]
          exact ih29 ((putS v24 x71.name (IntKind.i64.wrap (((getS v24 x71.name).getD 0) + 1))), v91, v93, (IntKind.i64.wrap (v27 + 1))) _ hh28 ((Wk.forget (by simp [Le, LeE, LeH, get, envIds, hpIds, KeepH, D.ids, idsL, AO.ids, setL, base, encI_nil, encS_nil, encT_nil, encG_nil, encC_nil, encL_nil, encK_nil, encP_nil, mpS_nil, mpB_nil, encI_consE, encS_consE, encT_consE, encG_consE, encI_one, encS_one, encT_one, encI_snoc, encS_snoc, encT_snocE, encG_snocE, encC_snoc, encL_snoc, encK_snocE, encP_snocE, encI_set, encS_set, encT_setE, encG_setE, encC_setE, encK_setE, encP_setE, encI_len, encS_len, encT_len2, encG_len2, encC_len, encL_len, encK_len2, encP_len2, c3, c9, c77, c80, c83, c86])))
        simp only [c99, cond_true] at hh94
        cases c100 : x71.depot
        · simp only [c100, cond_false] at hh94
          simp only [Option.bind_some, nextO_inl] at hh94
          try simp only [go_sem, c3, c4, c5, c6, c9, c19, c33, f73, f74, c77, c80, c83, c86, c87, c99, c100]
          exact ih95 (v91, (IntKind.i64.wrap (v92 + 1)), (IntKind.i64.wrap (v93 + 1))) _ hh94 ((Wk.forget (by simp [Le, LeE, LeH, get, envIds, hpIds, KeepH, D.ids, idsL, AO.ids, setL, base, encI_nil, encS_nil, encT_nil, encG_nil, encC_nil, encL_nil, encK_nil, encP_nil, mpS_nil, mpB_nil, encI_consE, encS_consE, encT_consE, encG_consE, encI_one, encS_one, encT_one, encI_snoc, encS_snoc, encT_snocE, encG_snocE, encC_snoc, encL_snoc, encK_snocE, encP_snocE, encI_set, encS_set, encT_setE, encG_setE, encC_setE, encK_setE, encP_setE, encI_len, encS_len, encT_len2, encG_len2, encC_len, encL_len, encK_len2, encP_len2, c3, c9, c77, c80, c83, c86, c100])))
        simp only [c100, cond_true] at hh94
        simp only [Option.bind_some, nextO_inl] at hh94
        try simp only [go_sem, c3, c4, c5, c6, c9, c19, c33, f73, f74, c77, c80, c83, c86, c87, c99, c100]
        exact ih95 ((putB v91 v93 true), (IntKind.i64.wrap (v92 + 1)), (IntKind.i64.wrap (v93 + 1))) _ hh94 ((Wk.forget (by simp [Le, LeE, LeH, get, envIds, hpIds, KeepH, D.ids, idsL, AO.ids, setL, base, encI_nil, encS_nil, encT_nil, encG_nil, encC_nil, encL_nil, encK_nil, encP_nil, mpS_nil, mpB_nil, encI_consE, encS_consE, encT_consE, encG_consE, encI_one, encS_one, encT_one, encI_snoc, encS_snoc, encT_snocE, encG_snocE, encC_snoc, encL_snoc, encK_snocE, encP_snocE, encI_set, encS_set, encT_setE, encG_setE, encC_setE, encK_setE, encP_setE, encI_len, encS_len, encT_len2, encG_len2, encC_len, encL_len, encK_len2, encP_len2, c3, c9, c77, c80, c83, c86, c100])))
      simp only [c19, cond_true] at hh14
      rcases g147 : idxO a0.blocks v13 with _ | x146
      · simp only [g147, Option.bind_none, reduceCtorEq] at hh14
      simp only [g147, Option.bind_some] at hh14
      have f148 := idxO_rng g147
      have f149 : (encK a0.blocks).getD (Int.toNat v13) [] = [(.str x146.name), (.int .i64 x146.x), (.int .i64 x146.y)] := idxO_map _ g147
      try simp only [go_sem, c3, c4, c5, c6, c9, c19, f148, f149]
      refine X_any0 mixed (p := [(0, 0), (1, 0), (2, 2), (3, 0), (4, 0), (5, 0), (6, 0), (7, 2), (8, 0), (9, 0), (10, 0), (11, 0), (12, 0), (13, 2), (14, 0), (15, 0), (16, 0), (17, 0), (18, 0), (19, 0), (20, 0), (21, 0), (22, 0), (23, 0), (24, 0), (25, 0), (26, 2), (27, 0), (28, 0)]) (by kernel_rfl) (by simp [LeH, get]) ?_
      rcases g151 : fname_v x146.name with _ | x150
      · simp only [g151, Option.bind_none, reduceCtorEq] at hh14
      simp only [g151, Option.bind_some] at hh14
      try simp only [go_sem, c3, c4, c5, c6, c9, c19, f148, f149]
      refine Gh_of (fname_vok x146.name _ g151) ?_
      rintro h' r ⟨rfl, rfl⟩
      cases c152 : x150
      · simp only [c152, cond_false] at hh14
        simp only [Option.bind_some, nextO_inr] at hh14
        obtain rfl := Option.some.inj hh14
        try dsimp only at hr
        obtain rfl := Option.some.inj hr
        try simp only [go_sem, c3, c4, c5, c6, c9, c19, f148, f149, c152]
        all_goals (try refine end_pure ?_)
        all_goals (try simp only [go_sem, c3, c4, c5, c6, c9, c19, f148, f149, c152])
        all_goals (try (first | rfl | exact ⟨rfl, rfl⟩ | (simp; done)))
      simp only [c152, cond_true] at hh14
      rcases g154 : netmap_within_v x146.x (-9999) 9999 with _ | x153
      · simp only [g154, Option.bind_none, reduceCtorEq] at hh14
      simp only [g154, Option.bind_some] at hh14
      try simp only [go_sem, c3, c4, c5, c6, c9, c19, f148, f149, c152]
      refine Gh_of (netmap_within_vok x146.x (-9999) 9999 _ g154) ?_
      rintro h' r ⟨rfl, rfl⟩
      cases c155 : x153
      · simp only [c155, cond_false] at hh14
        simp only [Option.bind_some, nextO_inr] at hh14
        obtain rfl := Option.some.inj hh14
        try dsimp only at hr
        obtain rfl := Option.some.inj hr
        try simp only [go_sem, c3, c4, c5, c6, c9, c19, f148, f149, c152, c155]
        all_goals (try refine end_pure ?_)
        all_goals (try simp only [go_sem, c3, c4, c5, c6, c9, c19, f148, f149, c152, c155])
        all_goals (try (first | rfl | exact ⟨rfl, rfl⟩ | (simp; done)))
      simp only [c155, cond_true] at hh14
      rcases g157 : netmap_within_v x146.y (-9999) 9999 with _ | x156
      · simp only [g157, Option.bind_none, reduceCtorEq] at hh14
      simp only [g157, Option.bind_some] at hh14
      try simp only [go_sem, c3, c4, c5, c6, c9, c19, f148, f149, c152, c155]
      refine Gh_of (netmap_within_vok x146.y (-9999) 9999 _ g157) ?_
      rintro h' r ⟨rfl, rfl⟩
      cases c158 : x156
      · simp only [c158, cond_false] at hh14
        simp only [Option.bind_some, nextO_inr] at hh14
        obtain rfl := Option.some.inj hh14
        try dsimp only at hr
        obtain rfl := Option.some.inj hr
        try simp only [go_sem, c3, c4, c5, c6, c9, c19, f148, f149, c152, c155, c158]
        all_goals (try refine end_pure ?_)
        all_goals (try simp only [go_sem, c3, c4, c5, c6, c9, c19, f148, f149, c152, c155, c158])
        all_goals (try (first | rfl | exact ⟨rfl, rfl⟩ | (simp; done)))
      simp only [c158, cond_true] at hh14
      rcases g160 : idxO a0.next v13 with _ | x159
      · simp only [g160, Option.bind_none, reduceCtorEq] at hh14
      simp only [g160, Option.bind_some] at hh14
      have f161 := idxO_rng g160
      have f162 : (encG a0.next).getD (Int.toNat v13) [] = [(.sl (encI x159))] := idxO_map _ g160
      rcases g164 : netmap_validNext_v x159 v13 ((a0.blocks.length : Nat) : Int) with _ | x163
      · simp only [g164, Option.bind_none, reduceCtorEq] at hh14
      simp only [g164, Option.bind_some] at hh14
      try simp only [go_sem, c3, c4, c5, c6, c9, c19, f148, f149, c152, c155, c158, f161, f162]
      refine Gh_of (netmap_validNext_vok x159 v13 ((a0.blocks.length : Nat) : Int) _ g164) ?_
      rintro h' r ⟨rfl, rfl⟩
      cases c165 : x163
      · simp only [c165, cond_false] at hh14
        simp only [Option.bind_some, nextO_inr] at hh14
        obtain rfl := Option.some.inj hh14
        try dsimp only at hr
        obtain rfl := Option.some.inj hr
        try simp only [go_sem, c3, c4, c5, c6, c9, c19, f148, f149, c152, c155, c158, f161, f162, c165]
        all_goals (try refine end_pure ?_)
        all_goals (try simp only [go_sem, c3, c4, c5, c6, c9, c19, f148, f149, c152, c155, c158, f161, f162, c165])
        all_goals (try (first | rfl | exact ⟨rfl, rfl⟩ | (simp; done)))
      simp only [c165, cond_true] at hh14
      simp only [Option.bind_some, nextO_inl] at hh14
      try simp only [go_sem, c3, c4, c5, c6, c9, c19, f148, f149, c152, c155, c158, f161, f162, c165]
      exact ih15 ((putS v12 x146.name (IntKind.i64.wrap (((getS v12 x146.name).getD 0) + 1))), (IntKind.i64.wrap (v13 + 1))) _ hh14 ((Wk.forget (by simp [Le, LeE, LeH, get, envIds, hpIds, KeepH, D.ids, idsL, AO.ids, setL, base, encI_nil, encS_nil, encT_nil, encG_nil, encC_nil, encL_nil, encK_nil, encP_nil, mpS_nil, mpB_nil, encI_consE, encS_consE, encT_consE, encG_consE, encI_one, encS_one, encT_one, encI_snoc, encS_snoc, encT_snocE, encG_snocE, encC_snoc, encL_snoc, encK_snocE, encP_snocE, encI_set, encS_set, encT_setE, encG_setE, encC_setE, encK_setE, encP_setE, encI_len, encS_len, encT_len2, encG_len2, encC_len, encL_len, encK_len2, encP_len2, c3, c9, c152, c155, c158, c165])))
    simp only [c6, cond_true] at hr
    obtain rfl := Option.some.inj hr
    try simp only [go_sem, c3, c4, c5, c6]
    all_goals (try refine end_pure ?_)
    all_goals (try simp only [go_sem, c3, c4, c5, c6])
    all_goals (try (first | rfl | exact ⟨rfl, rfl⟩ | (simp; done)))
  simp only [c5, cond_true] at hr
  obtain rfl := Option.some.inj hr
  try simp only [go_sem, c3, c4, c5]
  all_goals (try refine end_pure ?_)
  all_goals (try simp only [go_sem, c3, c4, c5])
  all_goals (try (first | rfl | exact ⟨rfl, rfl⟩ | (simp; done)))
noncomputable def netmap_Describe_1_v (a0 : Int) (a1 : List (List UInt8)) (a2 : List Int) (a3 : List Dc) : Option ((List Dc)) :=
  cond (decide (a3.length + 1 < 10000000)) (some (a3 ++ [(⟨a0, (IntKind.i64.wrap (((a3.length : Nat) : Int) + 1)), a1, a2⟩ : Dc)])) none
theorem netmap_Describe_1_vok (a0 : Int) (a1 : List (List UInt8)) (a2 : List Int) (a3 : List Dc) (r : (List Dc)) (hr : netmap_Describe_1_v a0 a1 a2 a3 = some r) :
    ACalls Try.prog 58 [.p (.int .i64 a0), .p (.sl (encS a1)), .p (.sl (encI a2)), .ptr 1000000 0] [(1000000, .box [.ref 1000001 0 a3.length a3.length]), (1000001, .arr 54 4 (encC a3))] fun h d => h = [(1000000, .box [.ref 1000001 0 r.length r.length]), (1000001, .arr 54 4 (encC r))] ∧ d = .tup [] := by
  refine ACalls_X Try.func58 rfl enters58 (by simp [Try.f58]) ?_
  unfold netmap_Describe_1_v at hr
  cases c1 : decide (a3.length + 1 < 10000000)
  · simp only [c1, cond_false, Option.bind_none, reduceCtorEq] at hr
  simp only [c1, cond_true] at hr
  try simp only [go_sem]
  refine ⟨by have := of_decide_eq_true c1; (try simp only [List.length_cons, List.length_nil, List.length_append] at *); (repeat' refine And.intro ?_ ?_) <;> first | exact wid1 _ _ rfl | exact encC_wid _ | omega | (simp [Wid]; done), ?_⟩
  obtain rfl := Option.some.inj hr
  try simp only [go_sem]
  all_goals (try refine end_own ?_)
  all_goals (try simp only [go_sem])
  all_goals (try (first | rfl | exact ⟨rfl, rfl⟩ | (simp; done)))
noncomputable def netmap_Describe_2_v (a0 : Spr) (a1 : Int) : Option (Bool × Int) :=
  cond (decide (a0.base ≤ a1)) (some (decide (a1 < (IntKind.i64.wrap (a0.base + a0.slots))), a1)) (some (false, a1))
theorem netmap_Describe_2_vok (a0 : Spr) (a1 : Int) (r : Bool × Int) (hr : netmap_Describe_2_v a0 a1 = some r) :
    ACalls Try.prog 60 [.agg [.p (.str a0.name), .p (.bool a0.depot), .p (.int .i64 a0.inn), .p (.int .i64 a0.out), .p (.int .i64 a0.slots), .p (.int .i64 a0.base)], .ptr 1000000 0] [(1000000, .box [.p (.int .i64 a1)])] fun h d => h = [(1000000, .box [.p (.int .i64 r.2)])] ∧ d = .p (.bool r.1) := by
  refine ACalls_X Try.func60 rfl enters60 (by simp [Try.f60]) ?_
  unfold netmap_Describe_2_v at hr
  cases c1 : decide (a0.base ≤ a1)
  · simp only [c1, cond_false] at hr
    obtain rfl := Option.some.inj hr
    try simp only [go_sem, c1]
    all_goals (try refine end_own ?_)
    all_goals (try simp only [go_sem, c1])
    all_goals (try (first | rfl | exact ⟨rfl, rfl⟩ | (simp; done)))
  simp only [c1, cond_true] at hr
  obtain rfl := Option.some.inj hr
  try simp only [go_sem, c1]
  all_goals (try refine end_own ?_)
  all_goals (try simp only [go_sem, c1])
  all_goals (try (first | rfl | exact ⟨rfl, rfl⟩ | (simp; done)))
noncomputable def slices_IndexFunc_L1 (a0 : List Spr) : Int × Int → Option ((Int × Int) ⊕ ((Int × Int) ⊕ (Int × Int)))
  | (v3, v4) => cond (decide (v4 < ((a0.length : Nat) : Int))) (Option.bind (idxO a0 v4) fun x11 => Option.bind (netmap_Describe_2_v (⟨x11.name, x11.depot, x11.inn, x11.out, x11.slots, x11.base⟩ : Spr) v3) fun (x15, x16) => cond x15 (some (Sum.inr (.inr ((v4, x16))))) (some (Sum.inl (x16, (IntKind.i64.wrap (v4 + 1)))))) (some (Sum.inr (.inl (v3, v4))))
theorem slices_IndexFunc_L1_eq (a0 : List Spr) (v3 : Int) (v4 : Int) : slices_IndexFunc_L1 a0 (v3, v4) = cond (decide (v4 < ((a0.length : Nat) : Int))) (Option.bind (idxO a0 v4) fun x11 => Option.bind (netmap_Describe_2_v (⟨x11.name, x11.depot, x11.inn, x11.out, x11.slots, x11.base⟩ : Spr) v3) fun (x15, x16) => cond x15 (some (Sum.inr (.inr ((v4, x16))))) (some (Sum.inl (x16, (IntKind.i64.wrap (v4 + 1)))))) (some (Sum.inr (.inl (v3, v4)))) := rfl
noncomputable def slices_IndexFunc_v (a0 : List Spr) (a1 : Int) : Option (Int × Int) :=
  Option.bind (loopO (slices_IndexFunc_L1 a0) (a1, 0)) (fun | .inl (v19, v20) => some ((-1), v19) | .inr (r21) => some r21)
theorem slices_IndexFunc_vok (a0 : List Spr) (a1 : Int) (r : Int × Int) (hr : slices_IndexFunc_v a0 a1 = some r) :
    ACalls Try.prog 59 [.p (.sl (encP a0)), .fn 60 [.ptr 1000000 0]] [(1000000, .box [.p (.int .i64 a1)])] fun h d => h = [(1000000, .box [.p (.int .i64 r.2)])] ∧ d = .p (.int .i64 r.1) := by
  refine ACalls_X Try.func59 rfl enters59 (by simp [Try.f59]) ?_
  unfold slices_IndexFunc_v at hr
  rcases g9 : loopO (slices_IndexFunc_L1 a0) (a1, 0) with _ | e8
  · simp only [g9, Option.bind_none, reduceCtorEq] at hr
  simp only [g9, Option.bind_some] at hr
  try simp only [go_sem]
  refine X_loopO g9 (fun q : Int × Int => ⟨[(0, .p (.sl (encP a0))), (1, .fn 60 [.ptr 1000000 0]), (7, .p (.int .i64 ((a0.length : Nat) : Int))), (8, .p (.int .i64 q.2))], [(1000000, .box [.p (.int .i64 q.1)])], 19⟩) ((Wk.forget (by simp [Le, LeE, LeH, get, envIds, hpIds, KeepH, D.ids, idsL, AO.ids, setL, base, encI_nil, encS_nil, encT_nil, encG_nil, encC_nil, encL_nil, encK_nil, encP_nil, mpS_nil, mpB_nil, encI_consE, encS_consE, encT_consE, encG_consE, encI_one, encS_one, encT_one, encI_snoc, encS_snoc, encT_snocE, encG_snocE, encC_snoc, encL_snoc, encK_snocE, encP_snocE, encI_set, encS_set, encT_setE, encG_setE, encC_setE, encK_setE, encP_setE, encI_len, encS_len, encT_len2, encG_len2, encC_len, encL_len, encK_len2, encP_len2]))) ?_
  rintro ⟨v3, v4⟩ m7 hh5 ih6
  rw [slices_IndexFunc_L1_eq] at hh5
  cases c10 : decide (v4 < ((a0.length : Nat) : Int))
  · simp only [c10, cond_false] at hh5
    simp only [Option.bind_some, nextO_inr] at hh5
    obtain rfl := Option.some.inj hh5
    try dsimp only at hr
    obtain rfl := Option.some.inj hr
    try simp only [go_sem, c10]
    all_goals (try refine end_own ?_)
    all_goals (try simp only [go_sem, c10])
    all_goals (try (first | rfl | exact ⟨rfl, rfl⟩ | (simp; done)))
  simp only [c10, cond_true] at hh5
  rcases g12 : idxO a0 v4 with _ | x11
  · simp only [g12, Option.bind_none, reduceCtorEq] at hh5
  simp only [g12, Option.bind_some] at hh5
  have f13 := idxO_rng g12
  have f14 : (encP a0).getD (Int.toNat v4) [] = [(.str x11.name), (.bool x11.depot), (.int .i64 x11.inn), (.int .i64 x11.out), (.int .i64 x11.slots), (.int .i64 x11.base)] := idxO_map _ g12
  rcases g17 : netmap_Describe_2_v (⟨x11.name, x11.depot, x11.inn, x11.out, x11.slots, x11.base⟩ : Spr) v3 with _ | ⟨x15, x16⟩
  · simp only [g17, Option.bind_none, reduceCtorEq] at hh5
  simp only [g17, Option.bind_some] at hh5
  try simp only [go_sem, c10, f13, f14]
  refine Cc_of (netmap_Describe_2_vok (⟨x11.name, x11.depot, x11.inn, x11.out, x11.slots, x11.base⟩ : Spr) v3 _ g17) ?_
  rintro h' r ⟨rfl, rfl⟩
  cases c18 : x15
  · simp only [c18, cond_false] at hh5
    simp only [Option.bind_some, nextO_inl] at hh5
    try simp only [go_sem, c10, f13, f14, c18]
    exact ih6 (x16, (IntKind.i64.wrap (v4 + 1))) _ hh5 ((Wk.forget (by simp [Le, LeE, LeH, get, envIds, hpIds, KeepH, D.ids, idsL, AO.ids, setL, base, encI_nil, encS_nil, encT_nil, encG_nil, encC_nil, encL_nil, encK_nil, encP_nil, mpS_nil, mpB_nil, encI_consE, encS_consE, encT_consE, encG_consE, encI_one, encS_one, encT_one, encI_snoc, encS_snoc, encT_snocE, encG_snocE, encC_snoc, encL_snoc, encK_snocE, encP_snocE, encI_set, encS_set, encT_setE, encG_setE, encC_setE, encK_setE, encP_setE, encI_len, encS_len, encT_len2, encG_len2, encC_len, encL_len, encK_len2, encP_len2, c18])))
  simp only [c18, cond_true] at hh5
  simp only [Option.bind_some, nextO_inr] at hh5
  obtain rfl := Option.some.inj hh5
  try dsimp only at hr
  obtain rfl := Option.some.inj hr
  try simp only [go_sem, c10, f13, f14, c18]
  all_goals (try refine end_own ?_)
  all_goals (try simp only [go_sem, c10, f13, f14, c18])
  all_goals (try (first | rfl | exact ⟨rfl, rfl⟩ | (simp; done)))
noncomputable def ndescribe_L1 (a0 : Nt) : (List Dc) × Int → Option (((List Dc) × Int) ⊕ (((List Dc) × Int)))
  | (v36, v37) => cond (decide (v37 < ((a0.robots.length : Nat) : Int))) (Option.bind (idxO a0.robots v37) fun x46 => Option.bind (slices_IndexFunc_v a0.spurs x46) fun (x50, x51) => Option.bind (idxO a0.spurs x50) fun x53 => Option.bind (netmap_Describe_1_v 5 [x53.name] [(IntKind.i64.wrap ((IntKind.i64.wrap (x51 - x53.base)) + 1))] v36) fun x57 => some (Sum.inl (x57, (IntKind.i64.wrap (v37 + 1))))) (some (Sum.inr (v36, v37)))
theorem ndescribe_L1_eq (a0 : Nt) (v36 : List Dc) (v37 : Int) : ndescribe_L1 a0 (v36, v37) = cond (decide (v37 < ((a0.robots.length : Nat) : Int))) (Option.bind (idxO a0.robots v37) fun x46 => Option.bind (slices_IndexFunc_v a0.spurs x46) fun (x50, x51) => Option.bind (idxO a0.spurs x50) fun x53 => Option.bind (netmap_Describe_1_v 5 [x53.name] [(IntKind.i64.wrap ((IntKind.i64.wrap (x51 - x53.base)) + 1))] v36) fun x57 => some (Sum.inl (x57, (IntKind.i64.wrap (v37 + 1))))) (some (Sum.inr (v36, v37))) := rfl
noncomputable def ndescribe_L2 (a0 : Nt) : (List Dc) × Int → Option (((List Dc) × Int) ⊕ (((List Dc) × Int)))
  | (v26, v27) => cond (decide (v27 < ((a0.spurs.length : Nat) : Int))) (Option.bind (idxO a0.spurs v27) fun x63 => cond x63.depot (Option.bind (idxO a0.blocks x63.inn) fun x78 => Option.bind (idxO a0.blocks x63.out) fun x82 => Option.bind (netmap_Describe_1_v 4 [x63.name, x78.name, x82.name] [x63.slots] v26) fun x86 => some (Sum.inl (x86, (IntKind.i64.wrap (v27 + 1))))) (Option.bind (idxO a0.blocks x63.inn) fun x68 => Option.bind (idxO a0.blocks x63.out) fun x72 => Option.bind (netmap_Describe_1_v 3 [x63.name, x68.name, x72.name] [x63.slots] v26) fun x76 => some (Sum.inl (x76, (IntKind.i64.wrap (v27 + 1)))))) (some (Sum.inr (v26, v27)))
theorem ndescribe_L2_eq (a0 : Nt) (v26 : List Dc) (v27 : Int) : ndescribe_L2 a0 (v26, v27) = cond (decide (v27 < ((a0.spurs.length : Nat) : Int))) (Option.bind (idxO a0.spurs v27) fun x63 => cond x63.depot (Option.bind (idxO a0.blocks x63.inn) fun x78 => Option.bind (idxO a0.blocks x63.out) fun x82 => Option.bind (netmap_Describe_1_v 4 [x63.name, x78.name, x82.name] [x63.slots] v26) fun x86 => some (Sum.inl (x86, (IntKind.i64.wrap (v27 + 1))))) (Option.bind (idxO a0.blocks x63.inn) fun x68 => Option.bind (idxO a0.blocks x63.out) fun x72 => Option.bind (netmap_Describe_1_v 3 [x63.name, x68.name, x72.name] [x63.slots] v26) fun x76 => some (Sum.inl (x76, (IntKind.i64.wrap (v27 + 1)))))) (some (Sum.inr (v26, v27))) := rfl
noncomputable def ndescribe_L3 (a0 : Nt) (v17 : Int) (x119 : List Int) : (List Dc) × Int → Option (((List Dc) × Int) ⊕ (((List Dc) × Int)))
  | (v125, v126) => cond (decide (v126 < ((x119.length : Nat) : Int))) (Option.bind (idxO x119 v126) fun x133 => Option.bind (idxO a0.blocks v17) fun x137 => Option.bind (idxO a0.blocks x133) fun x141 => Option.bind (netmap_Describe_1_v 2 [x137.name, x141.name] [] v125) fun x145 => some (Sum.inl (x145, (IntKind.i64.wrap (v126 + 1))))) (some (Sum.inr (v125, v126)))
theorem ndescribe_L3_eq (a0 : Nt) (v17 : Int) (x119 : List Int) (v125 : List Dc) (v126 : Int) : ndescribe_L3 a0 v17 x119 (v125, v126) = cond (decide (v126 < ((x119.length : Nat) : Int))) (Option.bind (idxO x119 v126) fun x133 => Option.bind (idxO a0.blocks v17) fun x137 => Option.bind (idxO a0.blocks x133) fun x141 => Option.bind (netmap_Describe_1_v 2 [x137.name, x141.name] [] v125) fun x145 => some (Sum.inl (x145, (IntKind.i64.wrap (v126 + 1))))) (some (Sum.inr (v125, v126))) := rfl
noncomputable def ndescribe_L4 (a0 : Nt) : (List Dc) × Int → Option (((List Dc) × Int) ⊕ (((List Dc) × Int)))
  | (v16, v17) => cond (decide (v17 < ((a0.next.length : Nat) : Int))) (Option.bind (idxO a0.next v17) fun x119 => Option.bind (loopO (ndescribe_L3 a0 v17 x119) (v16, 0)) (fun (v147, v148) => some (Sum.inl (v147, (IntKind.i64.wrap (v17 + 1)))))) (some (Sum.inr (v16, v17)))
theorem ndescribe_L4_eq (a0 : Nt) (v16 : List Dc) (v17 : Int) : ndescribe_L4 a0 (v16, v17) = cond (decide (v17 < ((a0.next.length : Nat) : Int))) (Option.bind (idxO a0.next v17) fun x119 => Option.bind (loopO (ndescribe_L3 a0 v17 x119) (v16, 0)) (fun (v147, v148) => some (Sum.inl (v147, (IntKind.i64.wrap (v17 + 1)))))) (some (Sum.inr (v16, v17))) := rfl
noncomputable def ndescribe_L5 (a0 : Nt) : (List Dc) × Int → Option (((List Dc) × Int) ⊕ (((List Dc) × Int)))
  | (v6, v7) => cond (decide (v7 < ((a0.blocks.length : Nat) : Int))) (Option.bind (idxO a0.blocks v7) fun x246 => Option.bind (netmap_Describe_1_v 1 [x246.name] [x246.x, x246.y] v6) fun x250 => some (Sum.inl (x250, (IntKind.i64.wrap (v7 + 1))))) (some (Sum.inr (v6, v7)))
theorem ndescribe_L5_eq (a0 : Nt) (v6 : List Dc) (v7 : Int) : ndescribe_L5 a0 (v6, v7) = cond (decide (v7 < ((a0.blocks.length : Nat) : Int))) (Option.bind (idxO a0.blocks v7) fun x246 => Option.bind (netmap_Describe_1_v 1 [x246.name] [x246.x, x246.y] v6) fun x250 => some (Sum.inl (x250, (IntKind.i64.wrap (v7 + 1))))) (some (Sum.inr (v6, v7))) := rfl
noncomputable def ndescribe_v (a0 : Nt) : Option ((List Dc) × Int) :=
  Option.bind (netmap_Valid_v (⟨a0.blocks, a0.next, a0.spurs, a0.robots, a0.cq, a0.ca, a0.cd, a0.cp⟩ : Nt)) fun x1 => cond x1 (Option.bind (loopO (ndescribe_L5 a0) ([], 0)) (fun (v252, v253) => Option.bind (loopO (ndescribe_L4 a0) (v252, 0)) (fun (v389, v390) => Option.bind (loopO (ndescribe_L2 a0) (v389, 0)) (fun (v455, v456) => Option.bind (loopO (ndescribe_L1 a0) (v455, 0)) (fun (v482, v483) => Option.bind (netmap_Describe_1_v 6 [] [a0.cq, a0.ca, a0.cd, a0.cp] v482) fun x484 => some (x484, 0)))))) (some ([], 20))
noncomputable def mk_Cut_v (a0 : Int) (a1 : Int) : Option (Int) :=
  cond (decide (a1 ≤ 1)) (some 0) (cond (decide (¬ a1 = 0)) (cond (decide ((Int.tmod a0 a1) < 0)) (some (IntKind.i64.wrap ((Int.tmod a0 a1) + a1))) (some (Int.tmod a0 a1))) none)
theorem mk_Cut_vok (a0 : Int) (a1 : Int) (r : Int) (hr : mk_Cut_v a0 a1 = some r) :
    ACalls Try.prog 26 [.p (.int .i64 a0), .p (.int .i64 a1)] [] fun h d => h = [] ∧ d = .p (.int .i64 r) := by
  refine ACalls_X Try.func26 rfl enters26 (by simp [Try.f26]) ?_
  unfold mk_Cut_v at hr
  cases c1 : decide (a1 ≤ 1)
  · simp only [c1, cond_false] at hr
    cases c2 : decide (¬ a1 = 0)
    · simp only [c2, cond_false, Option.bind_none, reduceCtorEq] at hr
    simp only [c2, cond_true] at hr
    have f3 := of_decide_eq_true c2
    cases c4 : decide ((Int.tmod a0 a1) < 0)
    · simp only [c4, cond_false] at hr
      obtain rfl := Option.some.inj hr
      try simp only [go_sem, c1, f3, c4]
      all_goals (try refine end_pure ?_)
      all_goals (try simp only [go_sem, c1, f3, c4])
      all_goals (try (first | rfl | exact ⟨rfl, rfl⟩ | (simp; done)))
    simp only [c4, cond_true] at hr
    obtain rfl := Option.some.inj hr
    try simp only [go_sem, c1, f3, c4]
    all_goals (try refine end_pure ?_)
    all_goals (try simp only [go_sem, c1, f3, c4])
    all_goals (try (first | rfl | exact ⟨rfl, rfl⟩ | (simp; done)))
  simp only [c1, cond_true] at hr
  obtain rfl := Option.some.inj hr
  try simp only [go_sem, c1]
  all_goals (try refine end_pure ?_)
  all_goals (try simp only [go_sem, c1])
  all_goals (try (first | rfl | exact ⟨rfl, rfl⟩ | (simp; done)))
noncomputable def example03_v  : Option ((List Dc)) :=
  some [(⟨1, 1, [[97]], [0, 0]⟩ : Dc), (⟨1, 2, [[98]], [1, 0]⟩ : Dc), (⟨2, 3, [[97], [98], [97]], []⟩ : Dc), (⟨4, 4, [[100], [97], [98]], [2]⟩ : Dc), (⟨5, 5, [[100]], [2]⟩ : Dc)]
theorem example03_vok  (r : (List Dc)) (hr : example03_v  = some r) :
    ACalls Try.prog 50 [] [] fun h d => h = [] ∧ d = .p (.sl (encC r)) := by
  refine ACalls_X Try.func50 rfl enters50 (by simp [Try.f50]) ?_
  unfold example03_v at hr
  obtain rfl := Option.some.inj hr
  try simp only [go_sem]
  all_goals (try refine end_pure ?_)
  all_goals (try simp only [go_sem])
  all_goals (try (first | rfl | exact ⟨rfl, rfl⟩ | (simp; done)))
end Go.Am
end
section
namespace Go.Am
open Go Go.Proofs
set_option maxRecDepth 100000
set_option linter.unusedVariables false
set_option linter.unusedSimpArgs false
def Nt.pd (n : Nt) : List Pd := [.sl (encK n.blocks), .sl (encG n.next), .sl (encP n.spurs), .sl (encI n.robots), .int .i64 n.cq, .int .i64 n.ca, .int .i64 n.cd, .int .i64 n.cp]
open Classical in
noncomputable def nbuild_v (d : List Dc) : Option (Nt × Int × Int) := if smallD d then some (nbuildV d) else none
theorem nbuild_vok (d : List Dc) (r : Nt × Int × Int) (h : nbuild_v d = some r) : ACalls Try.prog 27 [.p (.sl (encC d))] [] fun h d => h = [] ∧ d = .tup [.agg [.p (.sl (encK r.1.blocks)), .p (.sl (encG r.1.next)), .p (.sl (encP r.1.spurs)), .p (.sl (encI r.1.robots)), .p (.int .i64 r.1.cq), .p (.int .i64 r.1.ca), .p (.int .i64 r.1.cd), .p (.int .i64 r.1.cp)], .p (.int .i64 r.2.1), .p (.int .i64 r.2.2)] := by
  unfold nbuild_v at h
  split at h
  · rename_i hd
    cases h
    exact nbuild_ok d hd
  · cases h
theorem nbuild_v_at (d : List Dc) (h : smallD d) : nbuild_v d = some (nbuildV d) := by unfold nbuild_v; rw [if_pos h]
end Go.Am
end
section
namespace Go.Am
open Go Go.Proofs
set_option maxRecDepth 100000
set_option linter.unusedVariables false
set_option linter.unusedSimpArgs false
theorem loopO_thru {σ ε : Type} {step : σ → Option (σ ⊕ ε)} (n : Nat) (S : Nat → σ) (out : ε) (h1 : ∀ i, i < n → step (S i) = some (.inl (S (i + 1)))) (h2 : step (S n) = some (.inr out)) : loopO step (S 0) = some out := by
  have := loopO_for n S out (fun _ => none) (fun i hi _ => h1 i hi) (fun _ => h2)
  rw [this]
  have : (List.range n).findSome? (fun _ => (none : Option ε)) = none := by rw [List.findSome?_eq_none_iff]; simp
  rw [this]; rfl
theorem loopO_all {σ ε : Type} {step : σ → Option (σ ⊕ ε)} (n : Nat) (S : Nat → σ) (out bad : ε) (good : Nat → Bool)
    (h1 : ∀ i, i < n → (∀ j, j < i → good j = true) → step (S i) = some (if good i = true then .inl (S (i + 1)) else .inr bad)) (h2 : (∀ j, j < n → good j = true) → step (S n) = some (.inr out)) :
    loopO step (S 0) = some (if (∀ j, j < n → good j = true) then out else bad) := by
  have h := loopO_for n S out (fun i => if good i = true then none else some bad)
    (fun i hi hj => by
      rw [h1 i hi (fun j hj2 => by have := hj j hj2; by_cases g : good j = true; exact g; simp [g] at this)]
      by_cases g : good i = true <;> simp [g])
    (fun hj => h2 (fun j hj2 => by have := hj j hj2; by_cases g : good j = true; exact g; simp [g] at this))
  rw [h]
  by_cases g : ∀ j, j < n → good j = true
  · rw [if_pos g]
    have : (List.range n).findSome? (fun i => if good i = true then none else some bad) = none := by
      rw [List.findSome?_eq_none_iff]
      intro x hx
      simp [g x (by simpa using hx)]
    rw [this]; rfl
  · rw [if_neg g]
    cases hf : (List.range n).findSome? (fun i => if good i = true then none else some bad) with
    | none =>
      exfalso
      rw [List.findSome?_eq_none_iff] at hf
      refine g fun j hj => ?_
      have := hf j (by simpa using hj)
      by_cases g2 : good j = true
      · exact g2
      · simp [g2] at this
    | some e =>
      obtain ⟨i, hi, he⟩ := List.exists_of_findSome?_eq_some hf
      by_cases g2 : good i = true
      · simp [g2] at he
      · simp [g2] at he; simp [he]
theorem idxO_at {α : Type} (l : List α) (i : Nat) (x : α) (h : i < l.length) : idxO l (i : Int) = some (l.getD i x) := by rw [idxO_nat]; simp [List.getD, h]
theorem lt_c {i n : Nat} (h : i < n) : decide ((i : Int) < ((n : Nat) : Int)) = true := decide_eq_true (by omega)
theorem lt_n {n : Nat} : decide ((n : Int) < ((n : Nat) : Int)) = false := decide_eq_false (by omega)
theorem within_v (a lo hi : Int) : netmap_within_v a lo hi = some (decide (lo ≤ a) && decide (a ≤ hi)) := by
  unfold netmap_within_v
  cases decide (lo ≤ a) <;> rfl
theorem cond4 : ∀ b1 b2 b3 b4 : Bool, cond b1 (cond b2 (cond b3 (some b4) (some false)) (some false)) (some false) = some (b1 && (b2 && (b3 && b4))) := by decide
theorem wrap_sm {n : Nat} (h : n < 10000000) : IntKind.i64.wrap ((n : Int) + 1) = ((n + 1 : Nat) : Int) := wrap_succ n (by omega)
theorem validConfig_v (q a d p : Int) : netmap_validConfig_v ⟨q, a, d, p⟩ = some (decide (cfgP q a d p)) := by
  unfold netmap_validConfig_v
  simp only [within_v, Option.bind_some]
  rw [cond4]
  congr 1
  rw [Bool.eq_iff_iff]
  simp only [Bool.and_eq_true, decide_eq_true_eq]
  exact ⟨fun ⟨⟨a1, a2⟩, ⟨b1, b2⟩, ⟨c1, c2⟩, d1, d2⟩ => ⟨a1, a2, b1, b2, c1, c2, d1, d2⟩, fun ⟨a1, a2, b1, b2, c1, c2, d1, d2⟩ => ⟨⟨a1, a2⟩, ⟨b1, b2⟩, ⟨c1, c2⟩, d1, d2⟩⟩
def lastV (l : List Int) (i : Nat) : Int := if i = 0 then -1 else l.getD (i - 1) 0
theorem validNext_v (l : List Int) (i nb : Nat) (hl : l.length ≤ 10000000) : netmap_validNext_v l (i : Int) (nb : Int) = some (decide (rowP nb i l ∧ l.length ≤ 4)) := by
  have h := loopO_all (step := netmap_validNext_L1 l (i : Int) (nb : Int)) l.length (fun k => ((k : Int), lastV l k)) (Sum.inl ((l.length : Int), lastV l l.length)) (Sum.inr false) (fun k => decide (okAt nb i l k))
    (fun k hk hj => by
      rw [netmap_validNext_L1_eq, lt_c hk, cond_true, idxO_at l k 0 hk, Option.bind_some]
      have hw := wrap_sm (show k < 10000000 by omega)
      have hprev : 0 < k → 0 ≤ l.getD (k - 1) 0 := fun h => by have := of_decide_eq_true (hj (k - 1) (by omega)); exact this.1
      have hlast : lastV l (k + 1) = l.getD k 0 := by unfold lastV; rw [if_neg (by omega)]; rfl
      by_cases c1 : l.getD k 0 ≤ lastV l k
      · rw [decide_eq_true c1, cond_true, if_neg]
        intro h
        have := of_decide_eq_true h
        unfold lastV at c1
        split at c1
        · have := this.1; omega
        · have := this.2.2.2 (by omega); omega
      · rw [decide_eq_false c1, cond_false]
        by_cases c2 : (nb : Int) ≤ l.getD k 0
        · rw [decide_eq_true c2, cond_true, if_neg]
          intro h
          have := (of_decide_eq_true h).2.1; omega
        · rw [decide_eq_false c2, cond_false]
          by_cases c3 : l.getD k 0 = (i : Int)
          · rw [decide_eq_true c3, cond_true, if_neg]
            intro h
            exact (of_decide_eq_true h).2.2.1 c3
          · rw [decide_eq_false c3, cond_false, if_pos, hw, hlast]
            refine decide_eq_true ⟨?_, by omega, c3, fun h => ?_⟩
            · unfold lastV at c1
              split at c1
              · omega
              · have := hprev (by omega); omega
            · unfold lastV at c1
              rw [if_neg (by omega)] at c1
              omega)
    (fun _ => by rw [netmap_validNext_L1_eq, lt_n, cond_false])
  unfold netmap_validNext_v
  rw [show ((0 : Int), (-1 : Int)) = (((0 : Nat) : Int), lastV l 0) from rfl, h, Option.bind_some]
  by_cases g : ∀ j, j < l.length → decide (okAt nb i l j) = true
  · rw [if_pos g]
    simp only
    congr 1
    have hr : rowP nb i l := fun k hk => of_decide_eq_true (g k hk)
    by_cases h4 : l.length ≤ 4
    · rw [decide_eq_true (show (l.length : Int) ≤ 4 by omega), decide_eq_true ⟨hr, h4⟩]
    · rw [decide_eq_false (show ¬ (l.length : Int) ≤ 4 by omega), decide_eq_false (fun h => h4 h.2)]
  · rw [if_neg g]
    simp only
    congr 1
    symm
    exact decide_eq_false fun h => g fun j hj => decide_eq_true (h.1 j hj)
def cntS : List (List UInt8 × Int) → List (List UInt8) → List (List UInt8 × Int)
  | m, [] => m
  | m, x :: r => cntS (putS m x (IntKind.i64.wrap ((getS m x).getD 0 + 1))) r
theorem cntS_snoc (m : List (List UInt8 × Int)) (l : List (List UInt8)) (x : List UInt8) : cntS m (l ++ [x]) = putS (cntS m l) x (IntKind.i64.wrap ((getS (cntS m l) x).getD 0 + 1)) := by
  induction l generalizing m with
  | nil => rfl
  | cons y r ih => simp only [List.cons_append, cntS]; exact ih _
theorem cntS_app (m : List (List UInt8 × Int)) (a b : List (List UInt8)) : cntS m (a ++ b) = cntS (cntS m a) b := by
  induction a generalizing m with
  | nil => rfl
  | cons y r ih => simp only [List.cons_append, cntS]; exact ih _
theorem putS_keys (m : List (List UInt8 × Int)) (k : List UInt8) (v : Int) : (putS m k v).map (·.1) = if k ∈ m.map (·.1) then m.map (·.1) else m.map (·.1) ++ [k] := by
  induction m with
  | nil => simp [putS]
  | cons p r ih =>
    simp only [putS]
    by_cases h : p.1 = k
    · simp [h]
    · rw [if_neg h, List.map_cons, ih]
      by_cases h2 : k ∈ r.map (·.1)
      · rw [if_pos h2, if_pos (by simp only [List.map_cons, List.mem_cons]; exact .inr h2)]; rfl
      · rw [if_neg h2, if_neg (by simp only [List.map_cons, List.mem_cons, not_or]; exact ⟨Ne.symm h, h2⟩)]; rfl
theorem cntS_keys : ∀ (l : List (List UInt8)) (m : List (List UInt8 × Int)), (m.map (·.1)).Nodup → ((cntS m l).map (·.1)).Nodup ∧ (cntS m l).length ≤ m.length + l.length ∧ ((cntS m l).length = m.length + l.length ↔ (m.map (·.1) ++ l).Nodup)
  | [], m, h => by simp [cntS, h]
  | x :: r, m, h => by
    simp only [cntS]
    have hk := putS_keys m x (IntKind.i64.wrap ((getS m x).getD 0 + 1))
    have hlen : (putS m x (IntKind.i64.wrap ((getS m x).getD 0 + 1))).length = if x ∈ m.map (·.1) then m.length else m.length + 1 := by
      have := congrArg List.length hk
      rw [List.length_map] at this
      rw [this]; split <;> simp
    have hnd : ((putS m x (IntKind.i64.wrap ((getS m x).getD 0 + 1))).map (·.1)).Nodup := by
      rw [hk]
      split
      · exact h
      · rename_i hx
        rw [List.nodup_append]
        exact ⟨h, by simp, fun a ha b hb => by simp at hb; subst hb; intro e; subst e; exact hx ha⟩
    obtain ⟨h1, h2, h3⟩ := cntS_keys r _ hnd
    refine ⟨h1, by rw [hlen] at h2; split at h2 <;> simp <;> omega, ?_⟩
    by_cases hx : x ∈ m.map (·.1)
    · rw [hlen, if_pos hx] at h2
      constructor
      · intro he; simp at he; omega
      · intro hn
        rw [List.nodup_append] at hn
        exact (hn.2.2 x hx x (by simp) rfl).elim
    · rw [hlen, if_neg hx, hk, if_neg hx] at h3
      rw [show m.length + (x :: r).length = m.length + 1 + r.length by simp; omega, h3, List.append_assoc]
      rfl
end Go.Am
end
section
namespace Go.Am
open Go Go.Proofs
set_option maxRecDepth 100000
set_option linter.unusedVariables false
set_option linter.unusedSimpArgs false
theorem getB_cons (p : Int × Bool) (r : List (Int × Bool)) (x : Int) : getB (p :: r) x = if p.1 = x then some p.2 else getB r x := by
  unfold getB
  rw [List.find?_cons]
  by_cases h : p.1 = x
  · simp [h]
  · rw [if_neg h, beq_eq_false_iff_ne.2 h]
theorem putB_cons (p : Int × Bool) (r : List (Int × Bool)) (k : Int) (v : Bool) : putB (p :: r) k v = if p.1 = k then (k, v) :: r else p :: putB r k v := rfl
theorem delB_cons (p : Int × Bool) (r : List (Int × Bool)) (k : Int) : delB (p :: r) k = if p.1 = k then r else p :: delB r k := rfl
theorem getB_putB (m : List (Int × Bool)) (k : Int) (v : Bool) (x : Int) : getB (putB m k v) x = if x = k then some v else getB m x := by
  induction m with
  | nil =>
    have : putB [] k v = [(k, v)] := rfl
    rw [this, getB_cons]
    by_cases h : x = k
    · rw [if_pos h, if_pos h.symm]
    · rw [if_neg h, if_neg (Ne.symm h)]
  | cons p r ih =>
    rw [putB_cons, getB_cons]
    by_cases h : p.1 = k
    · rw [if_pos h, getB_cons]
      by_cases h2 : x = k
      · rw [if_pos h2, if_pos h2.symm]
      · rw [if_neg h2, if_neg (Ne.symm h2), if_neg (fun e => h2 (by rw [← e, ← h]))]
    · rw [if_neg h, getB_cons, ih]
      by_cases h2 : p.1 = x
      · rw [if_pos h2, if_pos h2, if_neg (fun e => h (by rw [h2, e]))]
      · rw [if_neg h2, if_neg h2]
theorem putB_keys (m : List (Int × Bool)) (k : Int) (v : Bool) : (putB m k v).map (·.1) = if k ∈ m.map (·.1) then m.map (·.1) else m.map (·.1) ++ [k] := by
  induction m with
  | nil => simp [putB]
  | cons p r ih =>
    rw [putB_cons]
    by_cases h : p.1 = k
    · simp [h]
    · rw [if_neg h, List.map_cons, ih]
      by_cases h2 : k ∈ r.map (·.1)
      · rw [if_pos h2, if_pos (by simp only [List.map_cons, List.mem_cons]; exact .inr h2)]; rfl
      · rw [if_neg h2, if_neg (by simp only [List.map_cons, List.mem_cons, not_or]; exact ⟨Ne.symm h, h2⟩)]; rfl
theorem delB_mem (m : List (Int × Bool)) (k x : Int) (h : x ∈ (delB m k).map (·.1)) : x ∈ m.map (·.1) := by
  induction m with
  | nil => exact h
  | cons p r ih =>
    rw [delB_cons] at h
    split at h
    · simp only [List.map_cons, List.mem_cons]; exact .inr h
    · simp only [List.map_cons, List.mem_cons] at h ⊢
      exact h.imp id ih
theorem getB_none (m : List (Int × Bool)) (x : Int) : getB m x = none ↔ x ∉ m.map (·.1) := by
  induction m with
  | nil => simp [getB]
  | cons p r ih =>
    rw [getB_cons]
    by_cases h : p.1 = x
    · simp [h]
    · rw [if_neg h, ih]; simp [Ne.symm h]
theorem delB_get (m : List (Int × Bool)) (k x : Int) (hn : (m.map (·.1)).Nodup) : ((delB m k).map (·.1)).Nodup ∧ getB (delB m k) x = if x = k then none else getB m x := by
  induction m with
  | nil => exact ⟨hn, by simp [delB, getB]⟩
  | cons p r ih =>
    simp only [List.map_cons, List.nodup_cons] at hn
    obtain ⟨h1, h2⟩ := ih hn.2
    rw [delB_cons]
    by_cases h : p.1 = k
    · rw [if_pos h]
      refine ⟨hn.2, ?_⟩
      by_cases hx : x = k
      · rw [if_pos hx, getB_none, hx, ← h]; exact hn.1
      · rw [if_neg hx, getB_cons, if_neg (fun e => hx (by rw [← e, h]))]
    · rw [if_neg h]
      refine ⟨by simp only [List.map_cons, List.nodup_cons]; exact ⟨fun hm => hn.1 (delB_mem r k _ hm), h1⟩, ?_⟩
      rw [getB_cons, getB_cons, h2]
      by_cases hp : p.1 = x
      · rw [if_pos hp, if_pos hp, if_neg (fun e => h (by rw [hp, e]))]
      · rw [if_neg hp, if_neg hp]
def MB (m : List (Int × Bool)) (f : Int → Bool) : Prop := (m.map (·.1)).Nodup ∧ ∀ x, getB m x = if f x = true then some true else none
theorem MB.nil : MB [] (fun _ => false) := ⟨by simp, fun x => by simp [getB]⟩
theorem MB.put {m : List (Int × Bool)} {f : Int → Bool} (h : MB m f) (k : Int) : MB (putB m k true) (fun x => f x || decide (x = k)) := by
  refine ⟨?_, fun x => ?_⟩
  · rw [putB_keys]
    split
    · exact h.1
    · rename_i hx
      rw [List.nodup_append]
      exact ⟨h.1, by simp, fun a ha b hb => by simp at hb; subst hb; intro e; subst e; exact hx ha⟩
  · rw [getB_putB, h.2]
    by_cases hx : x = k
    · simp [hx]
    · simp [hx]
theorem MB.del {m : List (Int × Bool)} {f : Int → Bool} (h : MB m f) (k : Int) : MB (delB m k) (fun x => f x && !decide (x = k)) := by
  refine ⟨(delB_get m k 0 h.1).1, fun x => ?_⟩
  rw [(delB_get m k x h.1).2, h.2]
  by_cases hx : x = k
  · simp [hx]
  · simp [hx]
theorem MB.pos {m : List (Int × Bool)} {f : Int → Bool} (h : MB m f) : 0 < m.length ↔ ∃ x, f x = true := by
  constructor
  · intro hm
    obtain ⟨p, r, rfl⟩ : ∃ p r, m = p :: r := by cases m with | nil => simp at hm | cons p r => exact ⟨p, r, rfl⟩
    refine ⟨p.1, ?_⟩
    have := h.2 p.1
    rw [getB_cons, if_pos rfl] at this
    by_cases hf : f p.1 = true
    · exact hf
    · rw [if_neg hf] at this; cases this
  · rintro ⟨x, hx⟩
    cases m with
    | nil => have := h.2 x; rw [if_pos hx] at this; simp [getB] at this
    | cons p r => simp
theorem MB.congr {m : List (Int × Bool)} {f g : Int → Bool} (h : MB m f) (e : ∀ x, f x = g x) : MB m g := ⟨h.1, fun x => by rw [← e]; exact h.2 x⟩
def putN (m : List (Int × Bool)) (b : Int) : Nat → List (Int × Bool)
  | 0 => m
  | n + 1 => putB (putN m b n) (b + n) true
theorem MB.putN {m : List (Int × Bool)} {f : Int → Bool} (h : MB m f) (b : Int) : ∀ n : Nat, MB (putN m b n) (fun x => f x || (decide (b ≤ x) && decide (x < b + n)))
  | 0 => h.congr fun x => by
    have : (decide (b ≤ x) && decide (x < b + ((0 : Nat) : Int))) = false := by
      rw [Bool.and_eq_false_iff]
      by_cases h : b ≤ x
      · exact .inr (decide_eq_false (by omega))
      · exact .inl (decide_eq_false h)
    rw [this, Bool.or_false]
  | n + 1 => (MB.put (h.putN b n) (b + n)).congr fun x => by
    rw [Bool.or_assoc]
    congr 1
    rw [Bool.eq_iff_iff]
    simp only [Bool.or_eq_true, Bool.and_eq_true, decide_eq_true_eq]
    omega
def depM (m : List (Int × Bool)) (s : Spr) : List (Int × Bool) := if s.depot = true then putN m s.base s.slots.toNat else m
theorem MB.dep {m : List (Int × Bool)} {f : Int → Bool} (h : MB m f) (s : Spr) (hs : 0 ≤ s.slots) : MB (depM m s) (fun x => f x || inD x s) := by
  unfold depM inD
  cases s.depot
  · exact h.congr fun x => by simp
  · refine (h.putN s.base s.slots.toNat).congr fun x => ?_
    rw [Int.toNat_of_nonneg hs]; simp
theorem MB.deps {m : List (Int × Bool)} {f : Int → Bool} : ∀ (l : List Spr) (h : MB m f), (∀ s ∈ l, 0 ≤ s.slots) → MB (l.foldl depM m) (fun x => f x || l.any (inD x))
  | [], h, _ => h.congr fun x => by simp
  | s :: r, h, hs => by
    rw [List.foldl_cons]
    exact (MB.deps r (h.dep s (hs s (by simp))) (fun t ht => hs t (by simp [ht]))).congr fun x => by simp [Bool.or_assoc]
theorem slots_v (s : Spr) (m : List (Int × Bool)) (hs : 1 ≤ s.slots ∧ s.slots ≤ 4) (hb : 0 ≤ s.base ∧ s.base ≤ 100) : loopO (netmap_Valid_L3 s) (m, 0, s.base) = some (depM m s, s.slots, s.base + s.slots) := by
  have e : ∃ n : Nat, s.slots = (n : Int) := ⟨s.slots.toNat, by omega⟩
  obtain ⟨n, hn⟩ := e
  have h := loopO_thru (step := netmap_Valid_L3 s) n (fun j => (if s.depot = true then putN m s.base j else m, (j : Int), s.base + (j : Int))) (depM m s, s.slots, s.base + s.slots)
    (fun j hj => by
      rw [netmap_Valid_L3_eq, hn, lt_c hj, cond_true]
      have w1 := wrap_sm (show j < 10000000 by omega)
      have w2 : IntKind.i64.wrap (s.base + (j : Int) + 1) = s.base + ((j + 1 : Nat) : Int) := by rw [IntKind.wrap_i64]; omega
      cases s.depot
      · rw [cond_false, w1, w2]; rfl
      · rw [cond_true, w1, w2]; rfl)
    (by
      rw [netmap_Valid_L3_eq, hn, lt_n, cond_false]
      unfold depM
      rw [hn]
      rfl)
  have e0 : (m, (0 : Int), s.base) = (if s.depot = true then putN m s.base 0 else m, ((0 : Nat) : Int), s.base + ((0 : Nat) : Int)) := by
    cases s.depot <;> simp [putN]
  rw [e0, h]
end Go.Am
end
section
namespace Go.Am
open Go Go.Proofs
set_option maxRecDepth 100000
set_option linter.unusedVariables false
set_option linter.unusedSimpArgs false
theorem sumS_take (sp : List Spr) (i : Nat) (h : i < sp.length) : sumS (sp.take (i + 1)) = sumS (sp.take i) + (sp.getD i spr0).slots := by rw [take_snoc sp i spr0 h, sumS_snoc]
def goodB (n : Nt) (i : Nat) : Bool := nameB (n.blocks.getD i blk0).name && (decide (xyP (n.blocks.getD i blk0)) && decide (rowP n.blocks.length i (n.next.getD i []) ∧ (n.next.getD i []).length ≤ 4))
def goodS (n : Nt) (i : Nat) : Bool := nameB (n.spurs.getD i spr0).name && decide (spurP n.blocks.length (n.blocks.length + sumS (n.spurs.take i)) (n.spurs.getD i spr0))
theorem vblocks (n : Nt) (hl : n.blocks.length ≤ 24) (hn : n.next.length = n.blocks.length) (hr : ∀ r ∈ n.next, r.length ≤ 10000000) :
    loopO (netmap_Valid_L5 n) ([], 0) = some (if (∀ j, j < n.blocks.length → goodB n j = true) then Sum.inl (cntS [] (n.blocks.map Blk.name), (n.blocks.length : Int)) else Sum.inr false) := by
  have h := loopO_all (step := netmap_Valid_L5 n) n.blocks.length (fun i => (cntS [] ((n.blocks.take i).map Blk.name), (i : Int))) (Sum.inl (cntS [] (n.blocks.map Blk.name), (n.blocks.length : Int))) (Sum.inr false) (fun i => goodB n i)
    (fun i hi hj => by
      rw [netmap_Valid_L5_eq, lt_c hi, cond_true, idxO_at n.blocks i blk0 hi, Option.bind_some]
      have w2 := wrap_sm (show i < 10000000 by omega)
      simp only [fname_v, within_v, Option.bind_some]
      have hnx : (cntS [] ((n.blocks.take (i + 1)).map Blk.name), ((i + 1 : Nat) : Int)) =
          (putS (cntS [] ((n.blocks.take i).map Blk.name)) (n.blocks.getD i blk0).name (IntKind.i64.wrap ((getS (cntS [] ((n.blocks.take i).map Blk.name)) (n.blocks.getD i blk0).name).getD 0 + 1)), ((i + 1 : Nat) : Int)) := by
        rw [take_snoc n.blocks i blk0 hi, List.map_append, List.map_cons, List.map_nil, cntS_snoc]
      rw [hnx, idxO_at n.next i [] (by omega), Option.bind_some, validNext_v _ i n.blocks.length (by have := hr (n.next.getD i []) (getD_mem n.next i [] (by omega)); exact this), Option.bind_some]
      unfold goodB
      generalize n.blocks.getD i blk0 = b
      cases c0 : nameB b.name
      · simp
      rw [cond_true, Bool.true_and]
      by_cases c1 : (-9999) ≤ b.x ∧ b.x ≤ 9999
      rotate_left
      · have e1 : (decide ((-9999) ≤ b.x) && decide (b.x ≤ 9999)) = false := by rw [← Bool.decide_and]; exact decide_eq_false c1
        rw [e1, cond_false, if_neg (by rw [Bool.and_eq_true, decide_eq_true_eq]; intro h; exact c1 ⟨h.1.1, h.1.2.1⟩)]
      rw [show (decide ((-9999) ≤ b.x) && decide (b.x ≤ 9999)) = true by rw [← Bool.decide_and]; exact decide_eq_true c1, cond_true]
      by_cases c2 : (-9999) ≤ b.y ∧ b.y ≤ 9999
      rotate_left
      · have e1 : (decide ((-9999) ≤ b.y) && decide (b.y ≤ 9999)) = false := by rw [← Bool.decide_and]; exact decide_eq_false c2
        rw [e1, cond_false, if_neg (by rw [Bool.and_eq_true, decide_eq_true_eq]; intro h; exact c2 ⟨h.1.2.2.1, h.1.2.2.2⟩)]
      rw [show (decide ((-9999) ≤ b.y) && decide (b.y ≤ 9999)) = true by rw [← Bool.decide_and]; exact decide_eq_true c2, cond_true]
      rw [show decide (xyP b) = true from decide_eq_true ⟨c1.1, c1.2, c2.1, c2.2⟩, Bool.true_and]
      cases decide (rowP n.blocks.length i (n.next.getD i []) ∧ (n.next.getD i []).length ≤ 4)
      · simp
      · rw [cond_true, if_pos rfl, w2])
    (fun hj => by rw [netmap_Valid_L5_eq, lt_n, cond_false, List.take_length])
  exact h
theorem vspurs (n : Nt) (m : List (List UInt8 × Int)) (hb : 1 ≤ n.blocks.length ∧ n.blocks.length ≤ 24) (hl : n.spurs.length ≤ 6) :
    loopO (netmap_Valid_L4 n) (m, [], (n.blocks.length : Int), 0) = some (if (∀ j, j < n.spurs.length → goodS n j = true) then Sum.inl (cntS m (n.spurs.map Spr.name), n.spurs.foldl depM [], (n.blocks.length : Int) + sumS n.spurs, (n.spurs.length : Int)) else Sum.inr false) := by
  have hpre : ∀ i, i ≤ n.spurs.length → (∀ j, j < i → goodS n j = true) → 0 ≤ sumS (n.spurs.take i) ∧ sumS (n.spurs.take i) ≤ 4 * i := by
    intro i hi hj
    exact sumS_rng n.blocks.length n.spurs i hi (fun j h => by
      have := hj j h
      simp only [goodS, Bool.and_eq_true, decide_eq_true_eq] at this
      exact this.2)
  have h := loopO_all (step := netmap_Valid_L4 n) n.spurs.length (fun i => (cntS m ((n.spurs.take i).map Spr.name), (n.spurs.take i).foldl depM [], (n.blocks.length : Int) + sumS (n.spurs.take i), (i : Int)))
    (Sum.inl (cntS m (n.spurs.map Spr.name), n.spurs.foldl depM [], (n.blocks.length : Int) + sumS n.spurs, (n.spurs.length : Int))) (Sum.inr false) (fun i => goodS n i)
    (fun i hi hj => by
      have hs := hpre i (by omega) hj
      rw [netmap_Valid_L4_eq, lt_c hi, cond_true, idxO_at n.spurs i spr0 hi, Option.bind_some]
      have w1 : IntKind.i64.wrap ((n.blocks.length : Int) - 1) = (n.blocks.length : Int) - 1 := by rw [IntKind.wrap_i64]; omega
      have w2 := wrap_sm (show i < 10000000 by omega)
      simp only [fname_v, within_v, Option.bind_some, w1]
      have hnx : (cntS m ((n.spurs.take (i + 1)).map Spr.name), (n.spurs.take (i + 1)).foldl depM [], (n.blocks.length : Int) + sumS (n.spurs.take (i + 1)), ((i + 1 : Nat) : Int)) =
          (putS (cntS m ((n.spurs.take i).map Spr.name)) (n.spurs.getD i spr0).name (IntKind.i64.wrap ((getS (cntS m ((n.spurs.take i).map Spr.name)) (n.spurs.getD i spr0).name).getD 0 + 1)), depM ((n.spurs.take i).foldl depM []) (n.spurs.getD i spr0), (n.blocks.length : Int) + sumS (n.spurs.take i) + (n.spurs.getD i spr0).slots, ((i + 1 : Nat) : Int)) := by
        rw [sumS_take _ _ hi, take_snoc n.spurs i spr0 hi, List.map_append, List.foldl_append, List.map_cons, List.map_nil, cntS_snoc, Int.add_assoc]
        rfl
      rw [hnx]
      unfold goodS
      generalize hse : n.spurs.getD i spr0 = s
      cases c0 : nameB s.name
      · simp
      rw [cond_true, Bool.true_and]
      by_cases c1 : 0 ≤ s.inn ∧ s.inn ≤ (n.blocks.length : Int) - 1
      rotate_left
      · have e1 : (decide (0 ≤ s.inn) && decide (s.inn ≤ (n.blocks.length : Int) - 1)) = false := by rw [← Bool.decide_and]; exact decide_eq_false c1
        rw [e1, cond_false, if_neg (by rw [decide_eq_true_eq]; intro h; exact c1 ⟨h.1, by have := h.2.1; omega⟩)]
      rw [show (decide (0 ≤ s.inn) && decide (s.inn ≤ (n.blocks.length : Int) - 1)) = true by rw [← Bool.decide_and]; exact decide_eq_true c1, cond_true]
      by_cases c2 : 0 ≤ s.out ∧ s.out ≤ (n.blocks.length : Int) - 1
      rotate_left
      · have e1 : (decide (0 ≤ s.out) && decide (s.out ≤ (n.blocks.length : Int) - 1)) = false := by rw [← Bool.decide_and]; exact decide_eq_false c2
        rw [e1, cond_false, if_neg (by rw [decide_eq_true_eq]; intro h; exact c2 ⟨h.2.2.1, by have := h.2.2.2.1; omega⟩)]
      rw [show (decide (0 ≤ s.out) && decide (s.out ≤ (n.blocks.length : Int) - 1)) = true by rw [← Bool.decide_and]; exact decide_eq_true c2, cond_true]
      by_cases c3 : 1 ≤ s.slots ∧ s.slots ≤ 4
      rotate_left
      · have e1 : (decide (1 ≤ s.slots) && decide (s.slots ≤ 4)) = false := by rw [← Bool.decide_and]; exact decide_eq_false c3
        rw [e1, cond_false, if_neg (by rw [decide_eq_true_eq]; intro h; exact c3 ⟨h.2.2.2.2.1, h.2.2.2.2.2.1⟩)]
      rw [show (decide (1 ≤ s.slots) && decide (s.slots ≤ 4)) = true by rw [← Bool.decide_and]; exact decide_eq_true c3, cond_true]
      by_cases c4 : s.base = (n.blocks.length : Int) + sumS (n.spurs.take i)
      rotate_left
      · rw [decide_eq_false c4, cond_false, if_neg (by rw [decide_eq_true_eq]; intro h; exact c4 h.2.2.2.2.2.2)]
      rw [decide_eq_true c4, cond_true, if_pos (decide_eq_true ⟨c1.1, by omega, c2.1, by omega, c3.1, c3.2, c4⟩), ← c4, slots_v s _ c3 (by omega), Option.bind_some, w2])
    (fun hj => by rw [netmap_Valid_L4_eq, lt_n, cond_false, List.take_length])
  have e0 : (m, ([] : List (Int × Bool)), (n.blocks.length : Int), (0 : Int)) = (cntS m ((n.spurs.take 0).map Spr.name), (n.spurs.take 0).foldl depM [], (n.blocks.length : Int) + sumS (n.spurs.take 0), ((0 : Nat) : Int)) := by
    simp [cntS, sumS]
  rw [e0]
  exact h
theorem vrobots (n : Nt) (m : List (Int × Bool)) (f : Int → Bool) (hm : MB m f) (ok : Bool) (hl : n.robots.length ≤ 8) :
    ∃ m', loopO (netmap_Valid_L2 n) (m, ok, 0) = some (m', ok && decide (∀ i, i < n.robots.length → f (n.robots.getD i 0) = true ∧ n.robots.getD i 0 ∉ n.robots.take i), (n.robots.length : Int)) := by
  have key : ∀ k, k ≤ n.robots.length → ∃ m', MB m' (fun x => f x && decide (x ∉ n.robots.take k)) ∧
      ∀ r, loopO (netmap_Valid_L2 n) (m', ok && decide (∀ i, i < k → f (n.robots.getD i 0) = true ∧ n.robots.getD i 0 ∉ n.robots.take i), (k : Int)) = some r → loopO (netmap_Valid_L2 n) (m, ok, 0) = some r := by
    intro k
    induction k with
    | zero =>
      intro _
      refine ⟨m, hm.congr fun x => by simp, fun r hr => ?_⟩
      simp only [Nat.not_lt_zero, false_implies, implies_true, decide_true, Bool.and_true] at hr
      exact hr
    | succ k ih =>
      intro hk
      obtain ⟨m', h1, h2⟩ := ih (by omega)
      refine ⟨delB m' (n.robots.getD k 0), (h1.del _).congr fun x => ?_, fun r hr => h2 r ?_⟩
      · rw [take_snoc n.robots k 0 (by omega), Bool.and_assoc]
        congr 1
        rw [Bool.eq_iff_iff]
        simp [not_or]
      · have w2 := wrap_sm (show k < 10000000 by omega)
        rw [loopO_step, netmap_Valid_L2_eq, lt_c (by omega), cond_true, idxO_at n.robots k 0 (by omega), Option.bind_some, w2]
        have hg : (getB m' (n.robots.getD k 0)).getD false = (f (n.robots.getD k 0) && decide (n.robots.getD k 0 ∉ n.robots.take k)) := by
          rw [h1.2]
          split
          · rename_i e; simpa using e.symm
          · rename_i e; simpa using e
        have hst : decide (∀ i, i < k + 1 → f (n.robots.getD i 0) = true ∧ n.robots.getD i 0 ∉ n.robots.take i) = (decide (∀ i, i < k → f (n.robots.getD i 0) = true ∧ n.robots.getD i 0 ∉ n.robots.take i) && (f (n.robots.getD k 0) && decide (n.robots.getD k 0 ∉ n.robots.take k))) := by
          rw [Bool.eq_iff_iff]
          simp only [Bool.and_eq_true, decide_eq_true_eq]
          constructor
          · intro h
            exact ⟨fun i hi => h i (by omega), h k (by omega)⟩
          · rintro ⟨h3, h4⟩ i hi
            by_cases e : i = k
            · subst e; exact h4
            · exact h3 i (by omega)
        rw [hst] at hr
        cases c : (ok && decide (∀ i, i < k → f (n.robots.getD i 0) = true ∧ n.robots.getD i 0 ∉ n.robots.take i))
        · rw [cond_false, Option.bind_some, nextO_inl]
          rw [← Bool.and_assoc, c, Bool.false_and] at hr
          exact hr
        · rw [cond_true, Option.bind_some, nextO_inl, hg]
          rw [← Bool.and_assoc, c, Bool.true_and] at hr
          exact hr
  obtain ⟨m', h1, h2⟩ := key n.robots.length (Nat.le_refl _)
  exact ⟨m', h2 _ (by rw [loopO_step, netmap_Valid_L2_eq, lt_n, cond_false, Option.bind_some, nextO_inr])⟩
theorem vrobots0 (n : Nt) (m : List (Int × Bool)) (hl : n.robots.length ≤ 8) : ∃ r, loopO (netmap_Valid_L1 n) (m, 0) = some r := by
  have key : ∀ k (m : List (Int × Bool)) i, i + k = n.robots.length → ∃ r, loopO (netmap_Valid_L1 n) (m, (i : Int)) = some r := by
    intro k
    induction k with
    | zero =>
      intro m i hi
      obtain rfl : i = n.robots.length := by omega
      exact ⟨_, by rw [loopO_step, netmap_Valid_L1_eq, lt_n, cond_false, Option.bind_some, nextO_inr]⟩
    | succ k ih =>
      intro m i hi
      have w2 := wrap_sm (show i < 10000000 by omega)
      obtain ⟨r, hr⟩ := ih (delB m (n.robots.getD i 0)) (i + 1) (by omega)
      exact ⟨r, by rw [loopO_step, netmap_Valid_L1_eq, lt_c (by omega), cond_true, idxO_at n.robots i 0 (by omega), Option.bind_some, w2, Option.bind_some, nextO_inl]; exact hr⟩
  exact key n.robots.length m 0 (by omega)
theorem nodup_getD (l : List (List UInt8)) : l.Nodup ↔ ∀ i, i < l.length → ∀ k, k < i → l.getD i [] ≠ l.getD k [] := by
  unfold List.Nodup
  rw [List.pairwise_iff_getElem]
  constructor
  · intro h i hi k hk
    have := h k i (by omega) hi hk
    rw [getD_eq hi, getD_eq (show k < l.length by omega)]
    exact Ne.symm this
  · intro h i j hi hj hij
    have := h j hj i hij
    rw [getD_eq hi, getD_eq hj] at this
    exact Ne.symm this
theorem nvalid_v (n : Nt) (hs : smallN n) : netmap_Valid_v n = some (decide (validN n)) := by
  obtain ⟨s1, ⟨s2, s2'⟩, s3, s4⟩ := hs
  have no : ∀ {r : Option Bool}, ¬ validN n → r = some false → r = some (decide (validN n)) := fun h hr => by rw [hr, decide_eq_false h]
  unfold netmap_Valid_v
  rw [within_v, Option.bind_some]
  by_cases b1 : 1 ≤ n.blocks.length ∧ n.blocks.length ≤ 24
  rotate_left
  · refine no (fun h => b1 ⟨h.1.1, h.1.2.1⟩) ?_
    rw [show (decide ((1 : Int) ≤ ((n.blocks.length : Nat) : Int)) && decide (((n.blocks.length : Nat) : Int) ≤ 24)) = false by rw [← Bool.decide_and]; exact decide_eq_false (by omega)]
    rfl
  rw [show (decide ((1 : Int) ≤ ((n.blocks.length : Nat) : Int)) && decide (((n.blocks.length : Nat) : Int) ≤ 24)) = true by rw [← Bool.decide_and]; exact decide_eq_true (by omega), cond_true]
  by_cases b2 : n.next.length = n.blocks.length
  rotate_left
  · refine no (fun h => b2 h.1.2.2.1) ?_
    rw [decide_eq_false (by omega), cond_false]
  rw [decide_eq_true (by omega), cond_true]
  by_cases b3 : n.spurs.length ≤ 6
  rotate_left
  · refine no (fun h => b3 h.2.1) ?_
    rw [decide_eq_true (by omega), cond_true]
  rw [decide_eq_false (by omega : ¬ (6 : Int) < ((n.spurs.length : Nat) : Int)), cond_false]
  by_cases b4 : n.robots.length ≤ 8
  rotate_left
  · refine no (fun h => b4 h.2.2.2.1) ?_
    rw [decide_eq_true (by omega), cond_true]
  rw [decide_eq_false (by omega : ¬ (8 : Int) < ((n.robots.length : Nat) : Int)), cond_false, validConfig_v, Option.bind_some]
  by_cases b5 : cfgP n.cq n.ca n.cd n.cp
  rotate_left
  · refine no (fun h => b5 h.2.2.2.2.1) ?_
    rw [decide_eq_false b5, cond_false]
  rw [decide_eq_true b5, cond_true, vblocks n b1.2 b2 s2', Option.bind_some]
  by_cases b6 : ∀ j, j < n.blocks.length → goodB n j = true
  rotate_left
  · refine no (fun h => b6 fun j hj => ?_) ?_
    · have h1 := h.1.2.2.2 j hj
      have h2 := (h.2.2.1 j (by simp [namesN]; omega)).1
      have h3 : (namesN n).getD j [] = (n.blocks.getD j blk0).name := by
        unfold namesN
        simp [List.getD, List.getElem?_append, hj]
      rw [h3] at h2
      simp only [goodB, Bool.and_eq_true, decide_eq_true_eq]
      exact ⟨h2, h1.1, h1.2.2, h1.2.1⟩
    · rw [if_neg b6]
  rw [if_pos b6]
  simp only
  rw [vspurs n _ b1 b3, Option.bind_some]
  by_cases b7 : ∀ j, j < n.spurs.length → goodS n j = true
  rotate_left
  · refine no (fun h => b7 fun j hj => ?_) ?_
    · have h1 := h.2.2.2.2.2.1 j hj
      have h2 := (h.2.2.1 (n.blocks.length + j) (by simp [namesN]; omega)).1
      have h3 : (namesN n).getD (n.blocks.length + j) [] = (n.spurs.getD j spr0).name := by
        unfold namesN
        simp [List.getD, List.getElem?_append, hj]
      rw [h3] at h2
      simp only [goodS, Bool.and_eq_true, decide_eq_true_eq]
      exact ⟨h2, h1⟩
    · rw [if_neg b7]
  rw [if_pos b7]
  simp only
  have g6 : ∀ j, j < n.blocks.length → nameB (n.blocks.getD j blk0).name = true ∧ xyP (n.blocks.getD j blk0) ∧ (n.next.getD j []).length ≤ 4 ∧ rowP n.blocks.length j (n.next.getD j []) := fun j hj => by
    have := b6 j hj
    simp only [goodB, Bool.and_eq_true, decide_eq_true_eq] at this
    exact ⟨this.1, this.2.1, this.2.2.2, this.2.2.1⟩
  have g7 : ∀ j, j < n.spurs.length → nameB (n.spurs.getD j spr0).name = true ∧ spurP n.blocks.length (n.blocks.length + sumS (n.spurs.take j)) (n.spurs.getD j spr0) := fun j hj => by
    have := b7 j hj
    simp only [goodS, Bool.and_eq_true, decide_eq_true_eq] at this
    exact this
  have hslots : ∀ s ∈ n.spurs, 1 ≤ s.slots := by
    intro s hs
    obtain ⟨i, hi, rfl⟩ := List.getElem_of_mem hs
    have := (g7 i hi).2.2.2.2.2.1
    rwa [getD_eq hi] at this
  have hM := (MB.deps n.spurs MB.nil (fun s hs => by have := hslots s hs; omega)).congr (g := fun x => n.spurs.any (inD x)) (fun x => by simp)
  have hdep : (0 < (n.spurs.foldl depM []).length) ↔ 0 < (n.spurs.filter Spr.depot).length := by
    rw [hM.pos, List.length_pos_iff_exists_mem]
    constructor
    · rintro ⟨x, hx⟩
      obtain ⟨s, hs, h⟩ := List.any_eq_true.1 hx
      refine ⟨s, List.mem_filter.2 ⟨hs, ?_⟩⟩
      unfold inD at h
      simp only [Bool.and_eq_true] at h
      exact h.1
    · rintro ⟨s, hs⟩
      obtain ⟨hs, hd⟩ := List.mem_filter.1 hs
      refine ⟨s.base, List.any_eq_true.2 ⟨s, hs, ?_⟩⟩
      have := hslots s hs
      simp [inD, hd]
      omega
  have hkeys := cntS_keys (namesN n) [] (by simp)
  have hcnt : cntS (cntS [] (n.blocks.map Blk.name)) (n.spurs.map Spr.name) = cntS [] (namesN n) := by rw [← cntS_app]; rfl
  have hnl : (namesN n).length = n.blocks.length + n.spurs.length := by simp [namesN]
  rw [hcnt]
  have w1 : IntKind.i64.wrap (((n.blocks.length : Nat) : Int) + ((n.spurs.length : Nat) : Int)) = ((n.blocks.length + n.spurs.length : Nat) : Int) := by rw [IntKind.wrap_i64]; omega
  have hnn : namesP n ↔ (namesN n).Nodup := by
    rw [nodup_getD]
    constructor
    · intro h i hi k hk
      exact (h i hi).2 k hk
    · intro h i hi
      refine ⟨?_, fun k hk => h i hi k hk⟩
      by_cases hb : i < n.blocks.length
      · have h3 : (namesN n).getD i [] = (n.blocks.getD i blk0).name := by
          unfold namesN
          simp [List.getD, List.getElem?_append, hb]
        rw [h3]; exact (g6 i hb).1
      · have h3 : (namesN n).getD i [] = (n.spurs.getD (i - n.blocks.length) spr0).name := by
          unfold namesN
          simp [List.getD, List.getElem?_append, hb, show i - n.blocks.length < n.spurs.length by omega]
        rw [h3]; exact (g7 _ (by omega)).1
  have hok : decide ((((cntS [] (namesN n)).length : Nat) : Int) = ((n.blocks.length + n.spurs.length : Nat) : Int)) = decide (namesP n) := by
    rw [Bool.eq_iff_iff, decide_eq_true_eq, decide_eq_true_eq, hnn]
    have := hkeys.2.2
    simp only [List.length_nil, Nat.zero_add, List.map_nil, List.nil_append] at this
    rw [← this, hnl]
    omega
  by_cases b8 : 0 < (n.spurs.foldl depM []).length
  · rw [decide_eq_true (by omega : (0 : Int) < (((n.spurs.foldl depM []).length : Nat) : Int)), cond_true, w1, hok]
    obtain ⟨m', hm'⟩ := vrobots n (n.spurs.foldl depM []) _ hM (decide (namesP n)) b4
    rw [hm', Option.bind_some]
    simp only
    congr 1
    rw [Bool.eq_iff_iff, Bool.and_eq_true, decide_eq_true_eq, decide_eq_true_eq, decide_eq_true_eq]
    constructor
    · rintro ⟨h1, h2⟩
      exact ⟨⟨b1.1, b1.2, b2, fun i hi => (g6 i hi).2⟩, b3, h1, b4, b5, fun i hi => (g7 i hi).2, h2, hdep.1 b8⟩
    · intro h
      exact ⟨h.2.2.1, h.2.2.2.2.2.2.1⟩
  · rw [decide_eq_false (by omega : ¬ (0 : Int) < (((n.spurs.foldl depM []).length : Nat) : Int)), cond_false]
    obtain ⟨r, hr⟩ := vrobots0 n (n.spurs.foldl depM []) b4
    rw [hr, Option.bind_some]
    exact no (fun h => b8 (hdep.2 h.2.2.2.2.2.2.2)) rfl
end Go.Am
end
section
namespace Go.Am
open Go Go.Proofs
set_option maxRecDepth 100000
set_option linter.unusedVariables false
set_option linter.unusedSimpArgs false
theorem gde {α : Type} {l : List α} {k : Nat} {x : α} (h : k < l.length) : l.getD k x = l[k] := by simp [List.getD, h]
theorem dt {a : Prop} [Decidable a] (h : a) : decide a = true := decide_eq_true h
theorem sameInts_self (l : List Int) (h : l.length ≤ 10000000) : mk_SameInts_v l l = some true := by
  have hl := loopO_thru (step := mk_SameInts_L1 l l) l.length (fun k => (k : Int)) (Sum.inl ((l.length : Nat) : Int))
    (fun k hk => by
      rw [mk_SameInts_L1_eq, lt_c hk, cond_true, idxO_at l k 0 hk]
      simp only [Option.bind_some]
      simp only [decide_true, cond_true, Option.bind_some, Bool.and_self, beq_self_eq_true, eq_self_iff_true, Bool.true_and]
      rw [wrap_sm (by omega)])
    (by rw [mk_SameInts_L1_eq, lt_n, cond_false])
  unfold mk_SameInts_v
  rw [dt rfl, cond_true, show (0 : Int) = ((0 : Nat) : Int) from rfl, hl, Option.bind_some]
theorem sameLists_self (l : List (List Int)) (h : l.length ≤ 10000000) (h2 : ∀ r ∈ l, r.length ≤ 10000000) : mk_SameLists_v l l = some true := by
  have hl := loopO_thru (step := mk_SameLists_L1 l l) l.length (fun k => (k : Int)) (Sum.inl ((l.length : Nat) : Int))
    (fun k hk => by
      rw [mk_SameLists_L1_eq, lt_c hk, cond_true, idxO_at l k [] hk]
      simp only [Option.bind_some]
      rw [sameInts_self _ (h2 _ (by rw [gde hk]; exact List.getElem_mem hk))]
      simp only [Option.bind_some]
      rw [cond_true, wrap_sm (by omega)])
    (by rw [mk_SameLists_L1_eq, lt_n, cond_false])
  unfold mk_SameLists_v
  rw [dt rfl, cond_true, show (0 : Int) = ((0 : Nat) : Int) from rfl, hl, Option.bind_some]
end Go.Am
end
section
namespace Go.Am
open Go Go.Proofs
set_option maxRecDepth 100000
set_option linter.unusedVariables false
set_option linter.unusedSimpArgs false
theorem filter_one {α : Type} (p : α → Bool) (x0 : α) : ∀ (l : List α) (j : Nat), j < l.length → p (l.getD j x0) = true → (∀ k, k < l.length → k ≠ j → p (l.getD k x0) = false) → l.filter p = [l.getD j x0]
  | [], j, h, _, _ => by simp at h
  | x :: r, 0, _, h, hu => by
    have hx : p x = true := h
    rw [List.filter_cons_of_pos hx]
    have : r.filter p = [] := by
      rw [List.filter_eq_nil_iff]
      intro y hy
      obtain ⟨k, hk, rfl⟩ := List.mem_iff_getElem.1 hy
      have := hu (k + 1) (by simp; omega) (by omega)
      rw [List.getD_cons_succ, gde hk] at this
      simp [this]
    rw [this]; rfl
  | x :: r, j + 1, hj, h, hu => by
    have hx : p x = false := hu 0 (by simp) (by omega)
    rw [List.filter_cons_of_neg (by simp [hx])]
    exact filter_one p x0 r j (by simpa using hj) (by simpa using h) (fun k hk hne => by have := hu (k + 1) (by simpa using hk) (by omega); simpa using this)
theorem sumT_mono (nb : Nat) (l : List Spr) (h : spursP nb l) : ∀ (b a : Nat), a ≤ b → b ≤ l.length → sumS (l.take a) ≤ sumS (l.take b)
  | 0, a, ha, _ => by have : a = 0 := by omega
                      subst this; exact Int.le_refl _
  | b + 1, a, ha, hb => by
    rcases Nat.lt_or_ge b a with h1 | h1
    · have : a = b + 1 := by omega
      subst this; exact Int.le_refl _
    · have h2 := sumT_mono nb l h b a h1 (by omega)
      have h3 := (h b (by omega)).2.2.2.2.1
      rw [take_snoc l b spr0 (by omega), sumS_snoc]
      omega
theorem inS_rng {nb : Nat} {l : List Spr} (h : spursP nb l) {i : Nat} (hi : i < l.length) {r : Int} (h1 : inS r (l.getD i spr0) = true) : (nb : Int) + sumS (l.take i) ≤ r ∧ r < (nb : Int) + sumS (l.take (i + 1)) := by
  have h2 := (h i hi).2.2.2.2.2.2
  rw [take_snoc l i spr0 hi, sumS_snoc]
  simp only [inS, Bool.and_eq_true, decide_eq_true_eq] at h1
  rw [h2] at h1
  omega
theorem inS_one {nb : Nat} {l : List Spr} (h : spursP nb l) {i j : Nat} (hi : i < l.length) (hj : j < l.length) {r : Int} (h1 : inS r (l.getD i spr0) = true) (h2 : inS r (l.getD j spr0) = true) : i = j := by
  have a := inS_rng h hi h1
  have b := inS_rng h hj h2
  rcases Nat.lt_trichotomy i j with c | c | c
  · have := sumT_mono nb l h j (i + 1) (by omega) (by omega); omega
  · exact c
  · have := sumT_mono nb l h i (j + 1) (by omega) (by omega); omega
theorem rob_spur {nb : Nat} {sp : List Spr} (h : spursP nb sp) {rb : List Int} (hr : robotsP sp rb) {k : Nat} (hk : k < rb.length) :
    ∃ j, j < sp.length ∧ inS (rb.getD k 0) (sp.getD j spr0) = true ∧ (sp.getD j spr0).depot = true ∧ sp.filter (inS (rb.getD k 0)) = [sp.getD j spr0] := by
  have h1 := (hr k hk).1
  rw [List.any_eq_true] at h1
  obtain ⟨s, hs, h2⟩ := h1
  obtain ⟨j, hj, rfl⟩ := List.mem_iff_getElem.1 hs
  have e : sp.getD j spr0 = sp[j] := gde hj
  simp only [inD, Bool.and_eq_true] at h2
  have h3 : inS (rb.getD k 0) (sp.getD j spr0) = true := by rw [e]; simp only [inS, Bool.and_eq_true]; exact h2.2
  refine ⟨j, hj, h3, by rw [e]; exact h2.1, filter_one _ _ _ j hj h3 fun i hi hne => ?_⟩
  cases c : inS (rb.getD k 0) (sp.getD i spr0)
  · rfl
  · exact (hne (inS_one h hi hj c h3)).elim
theorem add_v (w : Int) (ns : List (List UInt8)) (nu : List Int) (L : List Dc) (h : L.length + 1 < 10000000) : netmap_Describe_1_v w ns nu (numD 0 L) = some (numD 0 (L ++ [⟨w, 0, ns, nu⟩])) := by
  unfold netmap_Describe_1_v
  rw [numD_len, decide_eq_true h, cond_true, numD_app, wrap_sm (by omega)]
  simp [numD]
theorem nd5 (n : Nt) (h : n.blocks.length ≤ 24) : loopO (ndescribe_L5 n) ([], 0) = some (numD 0 (desc1 n), (n.blocks.length : Int)) := by
  have hl := loopO_thru (step := ndescribe_L5 n) n.blocks.length (fun k => (numD 0 ((n.blocks.take k).map blkD), (k : Int))) (numD 0 (desc1 n), (n.blocks.length : Int))
    (fun k hk => by
      rw [ndescribe_L5_eq, lt_c hk, cond_true, idxO_at n.blocks k blk0 hk, Option.bind_some, add_v _ _ _ _ (by simp; omega), Option.bind_some, wrap_sm (by omega), take_snoc n.blocks k blk0 hk, List.map_append]; rfl)
    (by rw [ndescribe_L5_eq, lt_n, cond_false]; simp [desc1])
  exact hl
theorem nd3 (n : Nt) (acc : List Dc) (i : Nat) (row : List Int) (ha : acc.length ≤ 1000) (hr4 : row.length ≤ 4) (hrow : rowP n.blocks.length i row) (hi : i < n.blocks.length) :
    loopO (ndescribe_L3 n (i : Int) row) (numD 0 acc, 0) = some (numD 0 (acc ++ row.map (lanD n i)), (row.length : Int)) := by
  have hl := loopO_thru (step := ndescribe_L3 n (i : Int) row) row.length (fun k => (numD 0 (acc ++ (row.take k).map (lanD n i)), (k : Int))) (numD 0 (acc ++ row.map (lanD n i)), (row.length : Int))
    (fun k hk => by
      have hro := hrow k hk
      obtain ⟨x, hx⟩ : ∃ x : Nat, row.getD k 0 = (x : Int) := ⟨(row.getD k 0).toNat, by have := hro.1; omega⟩
      have hxb : x < n.blocks.length := by have := hro.2.1; omega
      rw [ndescribe_L3_eq, lt_c hk, cond_true, idxO_at row k 0 hk, Option.bind_some, idxO_at n.blocks i blk0 hi, Option.bind_some, hx, idxO_at n.blocks x blk0 hxb, Option.bind_some, add_v _ _ _ _ (by simp; omega), Option.bind_some, wrap_sm (by omega), take_snoc row k 0 hk, List.map_append, hx, List.append_assoc]; rfl)
    (by rw [ndescribe_L3_eq, lt_n, cond_false]; simp)
  simpa using hl
theorem desc2_len (n : Nt) (hb : blocksP n) (i : Nat) (hi : i ≤ n.blocks.length) : (desc2 n i).length ≤ 4 * i := by
  induction i with
  | zero => simp [desc2]
  | succ i ih =>
    rw [desc2_succ, List.length_append]
    have h1 := ih (by omega)
    have h2 := (hb.2.2.2 i (by omega)).2.1
    simp only [lanL, List.length_map]
    omega
theorem nd4 (n : Nt) (hb : blocksP n) : loopO (ndescribe_L4 n) (numD 0 (desc1 n), 0) = some (numD 0 (desc1 n ++ desc2 n n.blocks.length), (n.next.length : Int)) := by
  have hb24 := hb.2.1
  have hnl := hb.2.2.1
  have hl := loopO_thru (step := ndescribe_L4 n) n.next.length (fun k => (numD 0 (desc1 n ++ desc2 n k), (k : Int))) (numD 0 (desc1 n ++ desc2 n n.blocks.length), (n.next.length : Int))
    (fun k hk => by
      have hd2 := desc2_len n hb k (by omega)
      obtain ⟨_, h4, hrow⟩ := hb.2.2.2 k (by omega)
      rw [ndescribe_L4_eq, lt_c hk, cond_true, idxO_at n.next k [] hk, Option.bind_some, nd3 n _ k _ (by simp [desc1]; omega) h4 hrow (by omega), Option.bind_some, wrap_sm (by omega), desc2_succ, lanL, List.append_assoc])
    (by rw [ndescribe_L4_eq, lt_n, cond_false, hnl])
  have h0 : desc2 n 0 = [] := rfl
  simpa [h0] using hl
theorem spur_blk {nb : Nat} {l : List Spr} (h : spursP nb l) {k : Nat} (hk : k < l.length) : ∃ x y : Nat, (l.getD k spr0).inn = (x : Int) ∧ x < nb ∧ (l.getD k spr0).out = (y : Int) ∧ y < nb := by
  obtain ⟨a, b, c, d, _⟩ := h k hk
  exact ⟨(l.getD k spr0).inn.toNat, (l.getD k spr0).out.toNat, by omega, by omega, by omega, by omega⟩
theorem nd2 (n : Nt) (acc : List Dc) (ha : acc.length ≤ 1000) (hs : n.spurs.length ≤ 6) (hsp : spursP n.blocks.length n.spurs) : loopO (ndescribe_L2 n) (numD 0 acc, 0) = some (numD 0 (acc ++ desc3 n), (n.spurs.length : Int)) := by
  have hl := loopO_thru (step := ndescribe_L2 n) n.spurs.length (fun k => (numD 0 (acc ++ (n.spurs.take k).map (sprD n)), (k : Int))) (numD 0 (acc ++ desc3 n), (n.spurs.length : Int))
    (fun k hk => by
      obtain ⟨x, y, hx, hxb, hy, hyb⟩ := spur_blk hsp hk
      rw [ndescribe_L2_eq, lt_c hk, cond_true, idxO_at n.spurs k spr0 hk, Option.bind_some, hx, hy, idxO_at n.blocks x blk0 hxb, Option.bind_some, idxO_at n.blocks y blk0 hyb, Option.bind_some, take_snoc n.spurs k spr0 hk, List.map_append]
      have hsd : sprD n (n.spurs.getD k spr0) = ⟨if (n.spurs.getD k spr0).depot then 4 else 3, 0, [(n.spurs.getD k spr0).name, (n.blocks.getD x blk0).name, (n.blocks.getD y blk0).name], [(n.spurs.getD k spr0).slots]⟩ := by
        simp only [sprD, bnm, hx, hy, Int.toNat_natCast]
      simp only [List.map_cons, List.map_nil, hsd]
      cases (n.spurs.getD k spr0).depot
      · rw [cond_false, Option.bind_some, Option.bind_some, add_v _ _ _ _ (by simp; omega), Option.bind_some, wrap_sm (by omega), List.append_assoc]; rfl
      · rw [cond_true, add_v _ _ _ _ (by simp; omega), Option.bind_some, wrap_sm (by omega), List.append_assoc]; rfl)
    (by rw [ndescribe_L2_eq, lt_n, cond_false]; simp [desc3])
  simpa using hl
theorem desc2_v (s : Spr) (r : Int) (hb : 0 ≤ s.base ∧ s.base ≤ 1000) (hs : 0 ≤ s.slots ∧ s.slots ≤ 1000) : netmap_Describe_2_v s r = some (inS r s, r) := by
  unfold netmap_Describe_2_v inS
  rw [wrap_i64_id (by omega) (by omega)]
  cases decide (s.base ≤ r) <;> rfl
theorem spur_sml {nb : Nat} {l : List Spr} (h : spursP nb l) (hl : l.length ≤ 6) (hn : nb ≤ 24) {k : Nat} (hk : k < l.length) : (0 ≤ (l.getD k spr0).base ∧ (l.getD k spr0).base ≤ 100) ∧ 1 ≤ (l.getD k spr0).slots ∧ (l.getD k spr0).slots ≤ 4 := by
  have := h k hk
  have h2 := sumS_rng nb l k (by omega) (fun j hj => h j (by omega))
  obtain ⟨_, _, _, _, a, b, c⟩ := this
  omega
theorem indf_v (nb : Nat) (l : List Spr) (h : spursP nb l) (hl : l.length ≤ 6) (hn : nb ≤ 24) (r : Int) (j : Nat) (hj : j < l.length) (h1 : inS r (l.getD j spr0) = true) : slices_IndexFunc_v l r = some ((j : Int), r) := by
  have hl2 := loopO_thru (step := slices_IndexFunc_L1 l) j (fun k => (r, (k : Int))) (Sum.inr ((j : Int), r))
    (fun k hk => by
      have hkl : k < l.length := by omega
      obtain ⟨a, b⟩ := spur_sml h hl hn hkl
      have hf : inS r (l.getD k spr0) = false := by
        cases c : inS r (l.getD k spr0)
        · rfl
        · have := inS_one h hkl hj c h1; omega
      rw [slices_IndexFunc_L1_eq, lt_c hkl, cond_true, idxO_at l k spr0 hkl, Option.bind_some, desc2_v _ _ (by simp only; omega) (by simp only; omega), Option.bind_some]
      show cond (inS r (l.getD k spr0)) _ _ = _
      rw [hf, cond_false, wrap_sm (by omega)])
    (by
      obtain ⟨a, b⟩ := spur_sml h hl hn hj
      rw [slices_IndexFunc_L1_eq, lt_c hj, cond_true, idxO_at l j spr0 hj, Option.bind_some, desc2_v _ _ (by simp only; omega) (by simp only; omega), Option.bind_some]
      show cond (inS r (l.getD j spr0)) _ _ = _
      rw [h1, cond_true])
  unfold slices_IndexFunc_v
  rw [show (r, (0 : Int)) = (r, ((0 : Nat) : Int)) from rfl, hl2]
  rfl
theorem desc4_len (n : Nt) (hsp : spursP n.blocks.length n.spurs) (hr : robotsP n.spurs n.robots) : ∀ k, k ≤ n.robots.length → (desc4 n k).length = k := by
  intro k
  induction k with
  | zero => intro _; rfl
  | succ k ih =>
    intro hk
    obtain ⟨j, _, _, _, hf⟩ := rob_spur hsp hr (show k < n.robots.length by omega)
    rw [desc4_succ n k (by omega), List.length_append, ih (by omega), robL, List.take_length, hf]; rfl
theorem nd1 (n : Nt) (acc : List Dc) (ha : acc.length ≤ 1000) (hb : n.blocks.length ≤ 24) (hs : n.spurs.length ≤ 6) (hrl : n.robots.length ≤ 8) (hsp : spursP n.blocks.length n.spurs) (hr : robotsP n.spurs n.robots) :
    loopO (ndescribe_L1 n) (numD 0 acc, 0) = some (numD 0 (acc ++ desc4 n n.robots.length), (n.robots.length : Int)) := by
  have hl := loopO_thru (step := ndescribe_L1 n) n.robots.length (fun k => (numD 0 (acc ++ desc4 n k), (k : Int))) (numD 0 (acc ++ desc4 n n.robots.length), (n.robots.length : Int))
    (fun k hk => by
      obtain ⟨j, hj, h1, _, hf⟩ := rob_spur hsp hr hk
      have h4 := desc4_len n hsp hr k (by omega)
      obtain ⟨a, b⟩ := spur_sml hsp hs hb hj
      rw [ndescribe_L1_eq, lt_c hk, cond_true, idxO_at n.robots k 0 hk, Option.bind_some, indf_v _ _ hsp hs hb _ j hj h1, Option.bind_some]
      simp only
      rw [idxO_at n.spurs j spr0 hj, Option.bind_some, desc4_succ n k hk, robL, List.take_length, hf]
      simp only [inS, Bool.and_eq_true, decide_eq_true_eq] at h1
      generalize n.robots.getD k 0 = r at *
      rw [wrap_i64_id (x := r - (n.spurs.getD j spr0).base) (by omega) (by omega), wrap_i64_id (by omega) (by omega), add_v _ _ _ _ (by simp; omega), Option.bind_some, wrap_sm (by omega), List.append_assoc]; rfl)
    (by rw [ndescribe_L1_eq, lt_n, cond_false])
  have h0 : desc4 n 0 = [] := rfl
  simpa [h0] using hl
theorem validN_small {n : Nt} (h : validN n) : smallN n := small_of_valid h
theorem ndescribe_at (n : Nt) (hs : smallN n) : ndescribe_v n = some (if validN n then (descV n, 0) else ([], 20)) := by
  unfold ndescribe_v
  rw [show (⟨n.blocks, n.next, n.spurs, n.robots, n.cq, n.ca, n.cd, n.cp⟩ : Nt) = n from rfl, nvalid_v n hs, Option.bind_some]
  by_cases hv : validN n
  · rw [decide_eq_true hv, cond_true, if_pos hv]
    obtain ⟨hb, hs6, _, hr8, _, hsp, hrb, _⟩ := hv
    have hd2 := desc2_len n hb n.blocks.length (Nat.le_refl _)
    have h4 := desc4_len n hsp hrb _ (Nat.le_refl _)
    have hb24 := hb.2.1
    have e1 : (desc1 n).length = n.blocks.length := by simp [desc1]
    have e3 : (desc3 n).length = n.spurs.length := by simp [desc3]
    rw [nd5 n hb24, Option.bind_some]
    simp only
    rw [nd4 n hb, Option.bind_some]
    simp only
    rw [nd2 n _ (by simp; omega) hs6 hsp, Option.bind_some]
    simp only
    rw [nd1 n _ (by simp; omega) hb24 hs6 hr8 hsp hrb, Option.bind_some]
    simp only
    rw [add_v _ _ _ _ (by simp; omega), Option.bind_some]
    rfl
  · rw [decide_eq_false hv, cond_false, if_neg hv]
theorem descV_len (n : Nt) (hv : validN n) : (descV n).length ≤ 200 ∧ ∀ x ∈ descV n, x.names.length ≤ 10 ∧ x.nums.length ≤ 10 := by
  obtain ⟨hb, hs6, _, hr8, _, hsp, hrb, _⟩ := hv
  have hd2 := desc2_len n hb n.blocks.length (Nat.le_refl _)
  have h4 := desc4_len n hsp hrb _ (Nat.le_refl _)
  have hb24 := hb.2.1
  have e1 : (desc1 n).length = n.blocks.length := by simp [desc1]
  have e3 : (desc3 n).length = n.spurs.length := by simp [desc3]
  refine ⟨by rw [descV, numD_len, desc0]; simp; omega, ?_⟩
  have key : ∀ (L : List Dc) (i : Nat), (∀ x ∈ L, x.names.length ≤ 10 ∧ x.nums.length ≤ 10) → ∀ x ∈ numD i L, x.names.length ≤ 10 ∧ x.nums.length ≤ 10 := by
    intro L
    induction L with
    | nil => intro i _ x hx; simp [numD] at hx
    | cons y r ih =>
      intro i h x hx
      simp only [numD, List.mem_cons] at hx
      rcases hx with rfl | hx
      · exact h y (by simp)
      · exact ih _ (fun z hz => h z (by simp [hz])) x hx
  refine key _ _ fun x hx => ?_
  simp only [desc0, List.mem_append, List.mem_singleton] at hx
  rcases hx with (((hx | hx) | hx) | hx) | rfl
  · obtain ⟨b, _, rfl⟩ := List.mem_map.1 hx; simp [blkD]
  · obtain ⟨i, _, hx⟩ := List.mem_flatMap.1 hx
    obtain ⟨b, _, rfl⟩ := List.mem_map.1 hx; simp [lanD]
  · obtain ⟨b, _, rfl⟩ := List.mem_map.1 hx; simp [sprD]
  · obtain ⟨i, _, hx⟩ := List.mem_flatMap.1 hx
    obtain ⟨b, _, rfl⟩ := List.mem_map.1 hx; simp [robD]
  · simp
end Go.Am
end
section
namespace Go.Am
open Go Go.Proofs
set_option maxRecDepth 100000
set_option linter.unusedVariables false
set_option linter.unusedSimpArgs false
def ixN (l : List (List UInt8)) (x : List UInt8) : Option Nat := l.findIdx? (fun y => decide (y = x))
def ixI (o : Option Nat) : Int := match o with | some i => (i : Int) | none => -1
theorem ixI_nonneg (o : Option Nat) : decide (0 ≤ ixI o) = o.isSome := by cases o <;> simp [ixI]
theorem ixI_neg (o : Option Nat) : decide (ixI o < 0) = o.isNone := by
  cases o with
  | none => rfl
  | some i => exact decide_eq_false (by simp only [ixI]; omega)
theorem ixN_some {l : List (List UInt8)} {x : List UInt8} {i : Nat} (h : ixN l x = some i) : i < l.length ∧ l.getD i [] = x := by
  unfold ixN at h
  obtain ⟨h1, h2, _⟩ := List.findIdx?_eq_some_iff_getElem.1 h
  exact ⟨h1, by rw [getD_eq h1]; simpa using h2⟩
theorem ixN_none {l : List (List UInt8)} {x : List UInt8} : ixN l x = none ↔ x ∉ l := by
  unfold ixN
  rw [List.findIdx?_eq_none_iff]
  constructor
  · intro h hx; have := h x hx; simp at this
  · intro h y hy; simp; rintro rfl; exact h hy
theorem ixN_snoc (l : List (List UInt8)) (y x : List UInt8) (hy : y ∉ l) : ixN (l ++ [y]) x = if x = y then some l.length else ixN l x := by
  unfold ixN
  rw [List.findIdx?_append]
  by_cases h : x = y
  · subst h
    have : l.findIdx? (fun z => decide (z = x)) = none := ixN_none.2 hy
    rw [this, if_pos rfl]
    simp
  · rw [if_neg h]
    cases hf : l.findIdx? (fun z => decide (z = x)) with
    | some i => rfl
    | none => simp [Ne.symm h]
theorem loop_ix {ns : List (List UInt8)} {x : List UInt8} (step : Int → Option (Int ⊕ (Int ⊕ Int))) (hl : ns.length ≤ 10000000)
    (h1 : ∀ i, i < ns.length → step (i : Int) = some (if ns.getD i [] = x then .inr (.inr (i : Int)) else .inl ((i + 1 : Nat) : Int))) (h2 : step (ns.length : Int) = some (.inr (.inl (ns.length : Int)))) :
    loopO step 0 = some (match ixN ns x with | some i => .inr (i : Int) | none => .inl (ns.length : Int)) := by
  have h := loopO_for (step := step) ns.length (fun i => (i : Int)) (Sum.inl (ns.length : Int)) (fun i => if ns.getD i [] = x then some (Sum.inr (i : Int)) else none)
    (fun i hi _ => by rw [h1 i hi]; split <;> simp_all) (fun _ => h2)
  rw [show ((0 : Nat) : Int) = 0 from rfl] at h
  rw [h]
  congr 1
  cases hx : ixN ns x with
  | none =>
    have hn := ixN_none.1 hx
    have : (List.range ns.length).findSome? (fun i => if ns.getD i [] = x then some (Sum.inr (i : Int) : Int ⊕ Int) else none) = none := by
      rw [List.findSome?_eq_none_iff]
      intro i hi
      rw [if_neg]
      intro e
      exact hn (by rw [← e]; exact getD_mem ns i [] (by simpa using hi))
    rw [this]; rfl
  | some i =>
    obtain ⟨g1, g2⟩ := ixN_some hx
    have hfst : ∀ j, j < i → ns.getD j [] ≠ x := by
      intro j hj
      have := (List.findIdx?_eq_some_iff_getElem.1 hx).2.2 j hj
      rw [getD_eq (by omega)]
      simpa using this
    have hr : List.range ns.length = List.range i ++ i :: (List.range (ns.length - i - 1)).map (· + (i + 1)) := by
      have : ns.length = i + 1 + (ns.length - i - 1) := by omega
      conv => lhs; rw [this, List.range_add, List.range_succ]
      simp [Nat.add_comm]
    rw [hr, List.findSome?_append]
    have : (List.range i).findSome? (fun i => if ns.getD i [] = x then some (Sum.inr (i : Int) : Int ⊕ Int) else none) = none := by
      rw [List.findSome?_eq_none_iff]
      intro j hj
      rw [if_neg (hfst j (by simpa using hj))]
    rw [this, Option.none_or, List.findSome?_cons, if_pos g2]
    rfl
theorem rblock_at (n : Nt) (x : List UInt8) (hl : n.blocks.length ≤ 10000000) : rblock_v n x = some (ixI (ixN (n.blocks.map Blk.name) x)) := by
  have h := loop_ix (ns := n.blocks.map Blk.name) (x := x) (rblock_L1 n x) (by simpa using hl)
    (fun i hi => by
      have hi2 : i < n.blocks.length := by simpa using hi
      rw [rblock_L1_eq, lt_c hi2, cond_true, idxO_at n.blocks i blk0 hi2, Option.bind_some, wrap_sm (by omega)]
      have e : (n.blocks.map Blk.name).getD i [] = (n.blocks.getD i blk0).name := by simp [List.getD, hi2]
      rw [e]
      by_cases c : (n.blocks.getD i blk0).name = x
      · rw [if_pos c, decide_eq_true c]; rfl
      · rw [if_neg c, decide_eq_false c]; rfl)
    (by rw [List.length_map, rblock_L1_eq, lt_n, cond_false])
  unfold rblock_v
  rw [h]
  cases ixN (n.blocks.map Blk.name) x <;> rfl
theorem rspur_at (n : Nt) (x : List UInt8) (hl : n.spurs.length ≤ 10000000) : rspur_v n x = some (ixI (ixN (n.spurs.map Spr.name) x)) := by
  have h := loop_ix (ns := n.spurs.map Spr.name) (x := x) (rspur_L1 n x) (by simpa using hl)
    (fun i hi => by
      have hi2 : i < n.spurs.length := by simpa using hi
      rw [rspur_L1_eq, lt_c hi2, cond_true, idxO_at n.spurs i spr0 hi2, Option.bind_some, wrap_sm (by omega)]
      have e : (n.spurs.map Spr.name).getD i [] = (n.spurs.getD i spr0).name := by simp [List.getD, hi2]
      rw [e]
      by_cases c : (n.spurs.getD i spr0).name = x
      · rw [if_pos c, decide_eq_true c]; rfl
      · rw [if_neg c, decide_eq_false c]; rfl)
    (by rw [List.length_map, rspur_L1_eq, lt_n, cond_false])
  unfold rspur_v
  rw [h]
  cases ixN (n.spurs.map Spr.name) x <;> rfl
end Go.Am
end
section
namespace Go.Am
open Go Go.Proofs
set_option maxRecDepth 100000
set_option linter.unusedVariables false
set_option linter.unusedSimpArgs false
set_option maxHeartbeats 1000000
theorem sortV_mem (l p : List Int) (x : Int) : x ∈ l.foldl insS p ↔ x ∈ p ∨ x ∈ l := by
  induction l generalizing p with
  | nil => simp
  | cons y r ih =>
    rw [List.foldl_cons, ih, insS_mem]
    simp only [List.mem_cons]
    constructor
    · rintro ((h | h) | h) <;> simp [h]
    · rintro (h | h | h) <;> simp [h]
theorem has_at (l : List Int) (x : Int) (hl : l.length ≤ 10000000) : has_v l x = some (decide (x ∈ l)) := by
  have h := loopO_for (step := has_L1 l x) l.length (fun i => (i : Int)) (Sum.inl (l.length : Int)) (fun i => if l.getD i 0 = x then some (Sum.inr true) else none)
    (fun i hi _ => by
      rw [has_L1_eq, lt_c hi, cond_true, idxO_at l i 0 hi, Option.bind_some, wrap_sm (by omega)]
      by_cases c : l.getD i 0 = x
      · rw [if_pos c, decide_eq_true c]; rfl
      · rw [if_neg c, decide_eq_false c]; rfl)
    (fun _ => by rw [has_L1_eq, lt_n, cond_false])
  unfold has_v
  rw [show ((0 : Nat) : Int) = 0 from rfl] at h
  rw [h]
  by_cases c : x ∈ l
  · rw [decide_eq_true c]
    cases hf : (List.range l.length).findSome? (fun i => if l.getD i 0 = x then some (Sum.inr true : Int ⊕ Bool) else none) with
    | none =>
      exfalso
      rw [List.findSome?_eq_none_iff] at hf
      obtain ⟨i, hi, e⟩ := List.getElem_of_mem c
      have := hf i (by simpa using hi)
      rw [getD_eq hi, if_pos e] at this
      cases this
    | some e =>
      obtain ⟨i, hi, he⟩ := List.exists_of_findSome?_eq_some hf
      split at he
      · cases he; rfl
      · cases he
  · rw [decide_eq_false c]
    have : (List.range l.length).findSome? (fun i => if l.getD i 0 = x then some (Sum.inr true : Int ⊕ Bool) else none) = none := by
      rw [List.findSome?_eq_none_iff]
      intro i hi
      rw [if_neg]
      intro e
      exact c (by rw [← e]; exact getD_mem l i 0 (by simpa using hi))
    rw [this]; rfl
theorem insert_at (l : List Int) (x : Int) (hl : l.length ≤ 1000000) : insert_v l x = some (insS l x) := by
  have key : ∀ (r p : List Int) (dn : Bool), p.length + 2 * r.length ≤ 3000000 → (∃ q : List Int, q.length + r.length = l.length ∧ l = q ++ r) →
      ∃ dn' i', loopO (insert_L1 l x) (p, dn, ((l.length - r.length : Nat) : Int)) = some (if dn = true then p ++ r else (if dn' = true then p ++ insS r x else p ++ r), dn', i') ∧ (dn = true → dn' = true) ∧ (dn = false → dn' = false → insS r x = r ++ [x]) := by
    intro r
    induction r with
    | nil =>
      intro p dn hp hq
      refine ⟨dn, ((l.length - 0 : Nat) : Int), ?_, id, fun h _ => by simp [insS]⟩
      rw [loopO_step, insert_L1_eq, List.length_nil, Nat.sub_zero, lt_n, cond_false, Option.bind_some, nextO_inr]
      cases dn <;> simp [insS]
    | cons y r ih =>
      intro p dn hp ⟨q, hq1, hq2⟩
      have hql : q.length < l.length := by simp at hq1; omega
      have hpos : l.length - (y :: r).length = q.length := by simp at hq1 ⊢; omega
      have hat : idxO l (q.length : Int) = some y := by rw [idxO_nat, hq2]; simp
      have hnx : ((l.length - r.length : Nat) : Int) = ((q.length + 1 : Nat) : Int) := by simp at hq1; omega
      rw [hpos, loopO_step, insert_L1_eq, lt_c hql, cond_true]
      simp only [hat, Option.bind_some, wrap_sm (show q.length < 10000000 by omega)]
      have hlp : p.length + 2 < 10000000 := by simp only [List.length_cons] at hp; omega
      cases dn with
      | true =>
        rw [cond_true, decide_eq_true (by (try simp only [List.length_cons, List.length_nil]); omega), cond_true, Option.bind_some, nextO_inl, ← hnx]
        obtain ⟨dn', i', h1, h2, h3⟩ := ih (p ++ [y]) true (by simp only [List.length_append, List.length_cons, List.length_nil] at hp ⊢; omega) ⟨q ++ [y], (by simp only [List.length_append, List.length_cons, List.length_nil] at hq1 ⊢; omega), (by simp [hq2])⟩
        exact ⟨dn', i', by rw [h1]; simp, h2, fun h => (by cases h)⟩
      | false =>
        rw [cond_false]
        by_cases c : x < y
        · rw [decide_eq_true c, cond_true, decide_eq_true (by (try simp only [List.length_cons, List.length_nil]); omega), cond_true, decide_eq_true (by (try simp only [List.length_append, List.length_cons, List.length_nil]); omega), cond_true, Option.bind_some, nextO_inl, ← hnx]
          obtain ⟨dn', i', h1, h2, h3⟩ := ih ((p ++ [x]) ++ [y]) true (by simp only [List.length_append, List.length_cons, List.length_nil] at hp ⊢; omega) ⟨q ++ [y], (by simp only [List.length_append, List.length_cons, List.length_nil] at hq1 ⊢; omega), (by simp [hq2])⟩
          refine ⟨true, i', ?_, fun h => (by cases h), fun _ h => (by cases h)⟩
          rw [h1, h2 rfl]
          simp [insS, c]
        · rw [decide_eq_false c, cond_false, decide_eq_true (by (try simp only [List.length_cons, List.length_nil]); omega), cond_true, Option.bind_some, nextO_inl, ← hnx]
          obtain ⟨dn', i', h1, h2, h3⟩ := ih (p ++ [y]) false (by simp only [List.length_append, List.length_cons, List.length_nil] at hp ⊢; omega) ⟨q ++ [y], (by simp only [List.length_append, List.length_cons, List.length_nil] at hq1 ⊢; omega), (by simp [hq2])⟩
          refine ⟨dn', i', ?_, fun h => (by cases h), fun _ h => (by simp [insS, c, h3 rfl h])⟩
          rw [h1]
          simp [insS, c]
  obtain ⟨dn', i', h1, _, h3⟩ := key l [] false (by simp only [List.length_nil]; omega) ⟨[], by simp, rfl⟩
  rw [Nat.sub_self] at h1
  unfold insert_v
  rw [show ((0 : Nat) : Int) = 0 from rfl] at h1
  rw [h1, Option.bind_some]
  simp only [Bool.false_eq_true, if_false, List.nil_append]
  cases dn'
  · simp only [Bool.false_eq_true, if_false, cond_false]
    rw [decide_eq_true (by (try simp only [List.length_cons, List.length_nil]); omega), cond_true, h3 rfl rfl]
  · simp
def enc8 (p : Int × Int) : Int := p.1 * 8 + p.2
def ixO (o : Option Nat) : Option Int := match o with | some i => some (i : Int) | none => none
structure NI (b : Bdr) : Prop where
  mb : ∀ x, getS b.mb x = ixO (ixN (b.bl.map Blk.name) x)
  ms : ∀ x, getS b.ms x = ixO (ixN (b.sp.map Spr.name) x)
  ba : ∀ i, i < b.sp.length → b.ba.getD i 0 = sumS (b.sp.take i)
  sl : b.sl = sumS b.sp
def rS (b : Bdr) : (List Blk) × (List (List Int)) × (List Spr) × (List Int) × Int × Int × Int × Int × Bool := (b.bl, b.nx.map sortV, b.sp, b.pl.map enc8, b.cq, b.ca, b.cd, b.cp, b.cf)
theorem named_at {b : Bdr} (n : NI b) (x : List UInt8) : b.namedV x = ((ixN (b.bl.map Blk.name) x).isSome || (ixN (b.sp.map Spr.name) x).isSome) := by
  unfold Bdr.namedV
  rw [n.mb, n.ms]
  cases ixN (b.bl.map Blk.name) x <;> cases ixN (b.sp.map Spr.name) x <;> rfl
theorem rb_block {b : Bdr} (h : BI b) (n : NI b) (d : Dc) (h1 : 1 ≤ d.names.length) (h2 : 2 ≤ d.nums.length) :
    ∃ s', rbBlock_v b.bl (b.nx.map sortV) b.sp (b.pl.map enc8) b.cq b.ca b.cd b.cp b.cf d = some ((b.blockV d).1, s') ∧ ((b.blockV d).1 = 0 → s' = rS (b.blockV d).2 ∧ NI (b.blockV d).2) := by
  have hnb := h.nb
  have hns := h.ns
  unfold rbBlock_v
  rw [show idxO d.names 0 = some (d.names.getD 0 []) from idxO_at d.names 0 [] (by omega), Option.bind_some, rblock_at _ _ (by simp; omega), Option.bind_some, ixI_nonneg]
  unfold Bdr.blockV
  rw [named_at n]
  cases c1 : ixN (b.bl.map Blk.name) (d.names.getD 0 []) with
  | some i => exact ⟨rS b, by simp [rS], by simp⟩
  | none =>
    rw [Option.isSome_none, cond_false, rspur_at _ _ (by simp; omega), Option.bind_some, ixI_nonneg]
    cases c2 : ixN (b.sp.map Spr.name) (d.names.getD 0 []) with
    | some i => exact ⟨rS b, by simp [rS], by simp⟩
    | none =>
      rw [Option.isSome_none, cond_false, Bool.or_self, if_neg Bool.false_ne_true]
      by_cases c3 : b.bl.length = 24
      · rw [decide_eq_true (by omega), cond_true, if_pos c3]
        exact ⟨rS b, rfl, by simp⟩
      · rw [decide_eq_false (by omega), cond_false, if_neg c3, show idxO d.nums 0 = some (d.nums.getD 0 0) from idxO_at d.nums 0 0 (by omega), Option.bind_some,
          show idxO d.nums 1 = some (d.nums.getD 1 0) from idxO_at d.nums 1 0 (by omega), Option.bind_some, decide_eq_true (by omega), cond_true, decide_eq_true (by rw [List.length_map, h.nn]; omega), cond_true]
        refine ⟨_, rfl, fun _ => ⟨by simp [rS, sortV], ⟨fun x => ?_, n.ms, n.ba, n.sl⟩⟩⟩
        simp only [getS_putS, List.map_append, List.map_cons, List.map_nil]
        rw [ixN_snoc _ _ _ (ixN_none.1 c1)]
        split
        · simp [ixO]
        · exact n.mb x
end Go.Am
end
section
namespace Go.Am
open Go Go.Proofs
set_option maxRecDepth 100000
set_option linter.unusedVariables false
set_option linter.unusedSimpArgs false
set_option maxHeartbeats 1000000
theorem rb_spur {b : Bdr} (h : BI b) (n : NI b) (d : Dc) (h1 : 3 ≤ d.names.length) (h2 : 1 ≤ d.nums.length) :
    ∃ s', rbSpur_v b.bl (b.nx.map sortV) b.sp (b.pl.map enc8) b.cq b.ca b.cd b.cp b.cf d = some ((b.spurV d).1, s') ∧ ((b.spurV d).1 = 0 → s' = rS (b.spurV d).2 ∧ NI (b.spurV d).2) := by
  have hnb := h.nb
  have hns := h.ns
  unfold rbSpur_v
  rw [show idxO d.names 1 = some (d.names.getD 1 []) from idxO_at d.names 1 [] (by omega), Option.bind_some, show idxO d.names 2 = some (d.names.getD 2 []) from idxO_at d.names 2 [] (by omega), Option.bind_some,
    rblock_at _ _ (by simp; omega), Option.bind_some, rblock_at _ _ (by simp; omega), Option.bind_some, show idxO d.names 0 = some (d.names.getD 0 []) from idxO_at d.names 0 [] (by omega), Option.bind_some,
    rblock_at _ _ (by simp; omega), Option.bind_some, ixI_nonneg]
  unfold Bdr.spurV
  rw [named_at n, n.mb, n.mb]
  cases c1 : ixN (b.bl.map Blk.name) (d.names.getD 0 []) with
  | some i => exact ⟨rS b, by simp [rS, ixO], by simp [ixO]⟩
  | none =>
    rw [Option.isSome_none, cond_false, rspur_at _ _ (by simp; omega), Option.bind_some, ixI_nonneg]
    cases c2 : ixN (b.sp.map Spr.name) (d.names.getD 0 []) with
    | some i => exact ⟨rS b, by simp [rS, ixO], by simp [ixO]⟩
    | none =>
      rw [Option.isSome_none, cond_false, Bool.or_self, if_neg Bool.false_ne_true, ixI_neg, ixI_neg]
      cases c3 : ixN (b.bl.map Blk.name) (d.names.getD 1 []) with
      | none => exact ⟨rS b, by simp [rS, ixO], by simp [ixO]⟩
      | some i =>
        rw [Option.isNone_some, cond_false]
        cases c4 : ixN (b.bl.map Blk.name) (d.names.getD 2 []) with
        | none => exact ⟨rS b, by simp [rS, ixO], by simp [ixO]⟩
        | some j =>
          rw [Option.isNone_some, cond_false, show idxO d.nums 0 = some (d.nums.getD 0 0) from idxO_at d.nums 0 0 (by omega), Option.bind_some]
          simp only [ixO]
          cases c5 : decide (d.nums.getD 0 0 < 1)
          rotate_left
          · exact ⟨rS b, by simp [rS, ixO], by simp [ixO]⟩
          rw [cond_false, if_neg Bool.false_ne_true]
          cases c6 : decide (4 < d.nums.getD 0 0)
          rotate_left
          · exact ⟨rS b, by simp [rS, ixO], by simp [ixO]⟩
          rw [cond_false, if_neg Bool.false_ne_true]
          by_cases c7 : b.sp.length = 6
          · rw [decide_eq_true (by omega), cond_true, if_pos c7]
            exact ⟨rS b, rfl, by simp⟩
          · rw [decide_eq_false (by omega), cond_false, if_neg c7, decide_eq_true (by omega), cond_true]
            refine ⟨_, rfl, fun _ => ⟨rfl, ⟨n.mb, fun x => ?_, fun i hi => ?_, ?_⟩⟩⟩
            · simp only [getS_putS, List.map_append, List.map_cons, List.map_nil]
              rw [ixN_snoc _ _ _ (ixN_none.1 c2)]
              split
              · simp [ixO]
              · exact n.ms x
            · have hba := h.nba
              simp only [List.length_append, List.length_cons, List.length_nil] at hi
              by_cases e : i < b.sp.length
              · rw [List.take_append_of_le_length (by omega)]
                have := n.ba i e
                rw [← this]
                simp [List.getD, List.getElem?_append, show i < b.ba.length by omega]
              · have e2 : i = b.sp.length := by omega
                subst e2
                rw [List.take_left' rfl, ← n.sl]
                simp [List.getD, List.getElem?_append, hba]
            · simp only [sumS_snoc, n.sl]
theorem enc8_inj {p q : Int × Int} (hp : 1 ≤ p.2 ∧ p.2 ≤ 4) (hq : 1 ≤ q.2 ∧ q.2 ≤ 4) (h : enc8 p = enc8 q) : p = q := by
  unfold enc8 at h
  have h1 : p.1 = q.1 := by omega
  have h2 : p.2 = q.2 := by omega
  exact Prod.ext h1 h2
theorem rb_robot {b : Bdr} (h : BI b) (n : NI b) (d : Dc) (h1 : 1 ≤ d.names.length) (h2 : 1 ≤ d.nums.length) :
    ∃ s', rbRobot_v b.bl (b.nx.map sortV) b.sp (b.pl.map enc8) b.cq b.ca b.cd b.cp b.cf d = some ((b.robotV d).1, s') ∧ ((b.robotV d).1 = 0 → s' = rS (b.robotV d).2 ∧ NI (b.robotV d).2) := by
  have hnb := h.nb
  have hns := h.ns
  have hnp := h.np
  unfold rbRobot_v
  rw [show idxO d.names 0 = some (d.names.getD 0 []) from idxO_at d.names 0 [] (by omega), Option.bind_some, rspur_at _ _ (by simp; omega), Option.bind_some, ixI_neg]
  unfold Bdr.robotV
  rw [n.ms]
  cases c1 : ixN (b.sp.map Spr.name) (d.names.getD 0 []) with
  | none => exact ⟨rS b, by simp [rS, ixO], by simp [ixO]⟩
  | some i =>
    have hi : i < b.sp.length := by simpa using (ixN_some c1).1
    rw [Option.isNone_some, cond_false, show idxO b.sp (ixI (some i)) = some (b.sp.getD i spr0) from idxO_at b.sp i spr0 hi, Option.bind_some]
    simp only [ixO, Int.toNat_natCast]
    have hs := h.sps (b.sp.getD i spr0) (getD_mem b.sp i spr0 hi)
    cases c2 : (b.sp.getD i spr0).depot
    · exact ⟨rS b, by simp [rS, ixO], by simp [ixO]⟩
    rw [cond_true, if_neg (by simp), show idxO d.nums 0 = some (d.nums.getD 0 0) from idxO_at d.nums 0 0 (by omega), Option.bind_some]
    cases c3 : decide (d.nums.getD 0 0 < 1)
    rotate_left
    · exact ⟨rS b, by simp [rS, ixO], by simp [ixO]⟩
    rw [cond_false, if_neg Bool.false_ne_true]
    have c3' := of_decide_eq_false c3
    by_cases c4' : (b.sp.getD i spr0).slots < d.nums.getD 0 0
    · have c4 := decide_eq_true c4'
      simp only [c4, cond_true, if_true]
      exact ⟨rS b, rfl, by simp⟩
    have c4 := decide_eq_false c4'
    have hw : IntKind.i64.wrap (IntKind.i64.wrap (ixI (some i) * 8) + d.nums.getD 0 0) = enc8 ((i : Int), d.nums.getD 0 0) := by
      unfold enc8 ixI
      rw [IntKind.wrap_i64, IntKind.wrap_i64]; simp only; omega
    simp only [c4, cond_false, Bool.false_eq_true, if_false]
    rw [hw, has_at _ _ (by simp; omega), Option.bind_some]
    have hm : decide (enc8 ((i : Int), d.nums.getD 0 0) ∈ b.pl.map enc8) = decide (((i : Int), d.nums.getD 0 0) ∈ b.pl) := by
      rw [Bool.eq_iff_iff, decide_eq_true_eq, decide_eq_true_eq, List.mem_map]
      constructor
      · rintro ⟨q, hq, e⟩
        rw [← enc8_inj (h.pls q hq).2 (by simp only; omega) e]; exact hq
      · intro hq; exact ⟨_, hq, rfl⟩
    rw [hm]
    by_cases c5 : ((i : Int), d.nums.getD 0 0) ∈ b.pl
    · rw [decide_eq_true c5, cond_true, if_pos c5]
      exact ⟨rS b, rfl, by simp⟩
    rw [decide_eq_false c5, cond_false, if_neg c5]
    by_cases c6 : b.pl.length = 8
    · rw [decide_eq_true (by rw [List.length_map]; omega), cond_true, if_pos c6]
      exact ⟨rS b, rfl, by simp⟩
    · rw [decide_eq_false (by rw [List.length_map]; omega), cond_false, if_neg c6, decide_eq_true (by rw [List.length_map]; omega), cond_true]
      exact ⟨_, rfl, fun _ => ⟨by simp [rS], ⟨n.mb, n.ms, n.ba, n.sl⟩⟩⟩
theorem rconf_at (q a d p : Int) : rconfigured_v ⟨q, a, d, p⟩ = some (decide (cfgP q a d p)) := by
  unfold rconfigured_v
  have hc : ∀ b1 b2 b3 b4 b5 b6 b7 b8 : Bool, cond b1 (cond b2 (cond b3 (cond b4 (cond b5 (cond b6 (cond b7 (some b8) (some false)) (some false)) (some false)) (some false)) (some false)) (some false)) (some false) = some (b1 && (b2 && (b3 && (b4 && (b5 && (b6 && (b7 && b8))))))) := by decide
  rw [hc]
  congr 1
  rw [Bool.eq_iff_iff]
  simp only [Bool.and_eq_true, decide_eq_true_eq]
  exact Iff.rfl
theorem cfgV_P (q a d p : Int) : cfgV q a d p = decide (cfgP q a d p) := by
  unfold cfgV inV
  rw [Bool.eq_iff_iff]
  simp only [Bool.and_eq_true, decide_eq_true_eq]
  exact ⟨fun ⟨⟨a1, a2⟩, ⟨b1, b2⟩, ⟨c1, c2⟩, d1, d2⟩ => ⟨a1, a2, b1, b2, c1, c2, d1, d2⟩, fun ⟨a1, a2, b1, b2, c1, c2, d1, d2⟩ => ⟨⟨a1, a2⟩, ⟨b1, b2⟩, ⟨c1, c2⟩, d1, d2⟩⟩
theorem rb_config {b : Bdr} (n : NI b) (d : Dc) (h2 : 4 ≤ d.nums.length) :
    ∃ s', rbConfig_v b.bl (b.nx.map sortV) b.sp (b.pl.map enc8) b.cq b.ca b.cd b.cp b.cf d = some ((b.configV d).1, s') ∧ ((b.configV d).1 = 0 → s' = rS (b.configV d).2 ∧ NI (b.configV d).2) := by
  unfold rbConfig_v Bdr.configV
  cases c1 : b.cf
  rotate_left
  · exact ⟨_, rfl, by simp⟩
  rw [cond_false, if_neg Bool.false_ne_true, show idxO d.nums 0 = some (d.nums.getD 0 0) from idxO_at d.nums 0 0 (by omega), Option.bind_some, show idxO d.nums 1 = some (d.nums.getD 1 0) from idxO_at d.nums 1 0 (by omega), Option.bind_some,
    show idxO d.nums 2 = some (d.nums.getD 2 0) from idxO_at d.nums 2 0 (by omega), Option.bind_some, show idxO d.nums 3 = some (d.nums.getD 3 0) from idxO_at d.nums 3 0 (by omega), Option.bind_some, rconf_at, Option.bind_some, cfgV_P]
  cases decide (cfgP (d.nums.getD 0 0) (d.nums.getD 1 0) (d.nums.getD 2 0) (d.nums.getD 3 0))
  · exact ⟨_, rfl, by simp⟩
  · exact ⟨_, rfl, fun _ => ⟨rfl, ⟨n.mb, n.ms, n.ba, n.sl⟩⟩⟩
end Go.Am
end
section
namespace Go.Am
open Go Go.Proofs
set_option maxRecDepth 100000
set_option linter.unusedVariables false
set_option linter.unusedSimpArgs false
set_option maxHeartbeats 1000000
theorem rb_lanes (d : Dc) (hd : d.names.length ≤ 10000000) : ∀ (r : List (List UInt8)) (i : Nat) (b : Bdr), BI b → NI b → d.names.drop i = r → i ≤ d.names.length →
    ∃ e s', loopO (rbLane_L1 b.bl b.sp (b.pl.map enc8) b.cq b.ca b.cd b.cp b.cf d) (b.nx.map sortV, (i : Int)) = some e ∧
      (match e with | .inl x => (0, b.bl, x.1, b.sp, b.pl.map enc8, b.cq, b.ca, b.cd, b.cp, b.cf) | .inr y => y) = ((b.lanesV r).1, s') ∧ ((b.lanesV r).1 = 0 → s' = rS (b.lanesV r).2 ∧ NI (b.lanesV r).2)
  | [], i, b, h, n, hr, hi => by
    have hil : i = d.names.length := by have := congrArg List.length hr; simp at this; omega
    refine ⟨_, rS b, by rw [loopO_step, rbLane_L1_eq, decide_eq_false (by rw [IntKind.wrap_i64]; omega), cond_false, Option.bind_some, nextO_inr], rfl, fun _ => ⟨rfl, n⟩⟩
  | [x], i, b, h, n, hr, hi => by
    have hil : i + 1 = d.names.length := by have := congrArg List.length hr; simp at this; omega
    refine ⟨_, rS b, by rw [loopO_step, rbLane_L1_eq, decide_eq_false (by rw [IntKind.wrap_i64]; omega), cond_false, Option.bind_some, nextO_inr], rfl, fun _ => ⟨rfl, n⟩⟩
  | x :: y :: r, i, b, h, n, hr, hi => by
    have hnb := h.nb
    have hnn := h.nn
    have hil : i + 1 < d.names.length := by have := congrArg List.length hr; simp at this; omega
    have hx : idxO d.names (i : Int) = some x := by
      rw [idxO_nat]
      have := congrArg (·[0]?) hr
      simpa [List.getElem?_drop] using this
    have hy : idxO d.names ((i + 1 : Nat) : Int) = some y := by
      rw [idxO_nat]
      have := congrArg (·[1]?) hr
      simpa [List.getElem?_drop] using this
    have hdr : d.names.drop (i + 1) = y :: r := by
      rw [← List.drop_drop, hr]; rfl
    have hw : IntKind.i64.wrap ((i : Int) + 1) = ((i + 1 : Nat) : Int) := by rw [IntKind.wrap_i64]; omega
    rw [loopO_step, rbLane_L1_eq, hw, decide_eq_true (by omega), cond_true, hx, Option.bind_some, hy, Option.bind_some, rblock_at _ _ (by simp; omega), Option.bind_some, rblock_at _ _ (by simp; omega), Option.bind_some, ixI_neg, ixI_neg]
    have hno : ∀ c : Int, c ≠ 0 → b.laneV x y = (c, b) → b.lanesV (x :: y :: r) = (c, b) := fun c hc h => by simp [Bdr.lanesV, h, hc]
    have hL : b.laneV x y = (match ixO (ixN (b.bl.map Blk.name) x), ixO (ixN (b.bl.map Blk.name) y) with
      | some i, some j => if i = j then (10, b) else if j ∈ b.nx.getD i.toNat [] then (11, b) else if (b.nx.getD i.toNat []).length = 4 then (14, b) else (0, { b with nx := b.nx.set i.toNat (b.nx.getD i.toNat [] ++ [j]) })
      | _, _ => (9, b)) := by
      unfold Bdr.laneV
      rw [n.mb, n.mb]
      cases ixN (b.bl.map Blk.name) x <;> cases ixN (b.bl.map Blk.name) y <;> rfl
    cases c1 : ixN (b.bl.map Blk.name) x with
    | none =>
      rw [hno 9 (by decide) (by rw [hL, c1]; rfl)]
      exact ⟨_, rS b, rfl, rfl, by simp⟩
    | some u =>
      rw [Option.isNone_some, cond_false]
      cases c2 : ixN (b.bl.map Blk.name) y with
      | none =>
        rw [hno 9 (by decide) (by rw [hL, c1, c2]; rfl)]
        exact ⟨_, rS b, rfl, rfl, by simp⟩
      | some v =>
        have hu : u < b.nx.length := by have := (ixN_some c1).1; simp at this; omega
        rw [Option.isNone_some, cond_false, show (decide (ixI (some u) = ixI (some v))) = decide ((u : Int) = (v : Int)) from rfl]
        rw [show ixI (some u) = (u : Int) from rfl, show ixI (some v) = (v : Int) from rfl]
        have hL2 : b.laneV x y = (if (u : Int) = (v : Int) then (10, b) else if (v : Int) ∈ b.nx.getD u [] then (11, b) else if (b.nx.getD u []).length = 4 then (14, b) else (0, { b with nx := b.nx.set u (b.nx.getD u [] ++ [(v : Int)]) })) := by rw [hL, c1, c2]; rfl
        by_cases c3 : (u : Int) = (v : Int)
        · rw [decide_eq_true c3, cond_true, hno 10 (by decide) (by rw [hL2, if_pos c3])]
          exact ⟨_, rS b, rfl, rfl, by simp⟩
        rw [decide_eq_false c3, cond_false]
        rw [if_neg c3] at hL2
        have hrow : idxO (b.nx.map sortV) (u : Int) = some (sortV (b.nx.getD u [])) := by rw [idxO_nat]; simp [List.getD, hu]
        have h4 := h.row u
        rw [hrow, Option.bind_some, has_at _ _ (by rw [sortV_len]; omega), Option.bind_some]
        have hm : decide ((v : Int) ∈ sortV (b.nx.getD u [])) = decide ((v : Int) ∈ b.nx.getD u []) := by
          rw [Bool.eq_iff_iff, decide_eq_true_eq, decide_eq_true_eq]
          unfold sortV
          rw [sortV_mem]; simp
        rw [hm]
        by_cases c4 : (v : Int) ∈ b.nx.getD u []
        · rw [decide_eq_true c4, cond_true, hno 11 (by decide) (by rw [hL2, if_pos c4])]
          exact ⟨_, rS b, rfl, rfl, by simp⟩
        rw [if_neg c4] at hL2
        rw [decide_eq_false c4, cond_false, sortV_len]
        by_cases c5 : (b.nx.getD u []).length = 4
        · rw [decide_eq_true (by omega), cond_true, hno 14 (by decide) (by rw [hL2, if_pos c5])]
          exact ⟨_, rS b, rfl, rfl, by simp⟩
        rw [if_neg c5] at hL2
        rw [decide_eq_false (by omega), cond_false, insert_at _ _ (by rw [sortV_len]; omega), Option.bind_some, Option.bind_some, nextO_inl]
        have hB2 : BI { b with nx := b.nx.set u (b.nx.getD u [] ++ [(v : Int)]) } := by
          have := h.lane x y
          rw [hL2] at this
          exact this
        have hset : (b.nx.map sortV).set u (insS (sortV (b.nx.getD u [])) (v : Int)) = (b.nx.set u (b.nx.getD u [] ++ [(v : Int)])).map sortV := by
          rw [List.map_set]
          congr 1
          unfold sortV
          rw [List.foldl_append]; rfl
        rw [Int.toNat_natCast, hset]
        have hlv : b.lanesV (x :: y :: r) = Bdr.lanesV { b with nx := b.nx.set u (b.nx.getD u [] ++ [(v : Int)]) } (y :: r) := by
          simp [Bdr.lanesV, hL2]
        rw [hlv]
        exact rb_lanes d hd (y :: r) (i + 1) { b with nx := b.nx.set u (b.nx.getD u [] ++ [(v : Int)]) } hB2 ⟨n.mb, n.ms, n.ba, n.sl⟩ hdr (by omega)
theorem rb_lane {b : Bdr} (h : BI b) (n : NI b) (d : Dc) (hd : d.names.length ≤ 10000000) :
    ∃ s', rbLane_v b.bl (b.nx.map sortV) b.sp (b.pl.map enc8) b.cq b.ca b.cd b.cp b.cf d = some ((b.lanesV d.names).1, s') ∧ ((b.lanesV d.names).1 = 0 → s' = rS (b.lanesV d.names).2 ∧ NI (b.lanesV d.names).2) := by
  obtain ⟨e, s', g1, g2, g3⟩ := rb_lanes d hd d.names 0 b h n (by simp) (Nat.zero_le _)
  refine ⟨s', ?_, g3⟩
  unfold rbLane_v
  rw [show ((0 : Nat) : Int) = 0 from rfl] at g1
  rw [g1, Option.bind_some, ← g2]
  cases e <;> rfl
theorem rnm_all (l : List (List UInt8)) (hl : l.length ≤ 10000000) (d : Dc) (hd : d.names = l) : loopO (r02_Valid_L2 d) 0 = some (if (∀ j, j < l.length → nameB (l.getD j []) = true) then .inl (l.length : Int) else .inr false) := by
  subst hd
  have h := loopO_all (step := r02_Valid_L2 d) d.names.length (fun i => (i : Int)) (Sum.inl (d.names.length : Int)) (Sum.inr false) (fun i => nameB (d.names.getD i []))
    (fun i hi _ => by
      rw [r02_Valid_L2_eq, lt_c hi, cond_true, idxO_at d.names i [] hi, Option.bind_some, wrap_sm (by omega)]
      simp only [rname_v, Option.bind_some]
      cases nameB (d.names.getD i []) <;> rfl)
    (fun _ => by rw [r02_Valid_L2_eq, lt_n, cond_false])
  exact h
theorem rnum_all (d : Dc) (hl : d.nums.length ≤ 10000000) : loopO (r02_Valid_L1 d) 0 = some (if (∀ j, j < d.nums.length → (!(decide (d.nums.getD j 0 < -9999) || decide (9999 < d.nums.getD j 0))) = true) then .inl (d.nums.length : Int) else .inr false) := by
  have h := loopO_all (step := r02_Valid_L1 d) d.nums.length (fun i => (i : Int)) (Sum.inl (d.nums.length : Int)) (Sum.inr false) (fun i => !(decide (d.nums.getD i 0 < -9999) || decide (9999 < d.nums.getD i 0)))
    (fun i hi _ => by
      rw [r02_Valid_L1_eq, lt_c hi, cond_true, idxO_at d.nums i 0 hi, Option.bind_some, wrap_sm (by omega)]
      cases decide (d.nums.getD i 0 < -9999) <;> cases decide (9999 < d.nums.getD i 0) <;> rfl)
    (fun _ => by rw [r02_Valid_L1_eq, lt_n, cond_false])
  exact h
theorem all_getD {α : Type} (l : List α) (p : α → Bool) (x : α) : l.all p = true ↔ ∀ j, j < l.length → p (l.getD j x) = true := by
  rw [List.all_eq_true]
  constructor
  · intro h j hj; exact h _ (getD_mem l j x hj)
  · intro h y hy
    obtain ⟨i, hi, rfl⟩ := List.getElem_of_mem hy
    have := h i hi
    rwa [getD_eq hi] at this
theorem shape_at (w : Int) : r02_shape_v w = some (shapeV w) := by
  unfold r02_shape_v shapeV
  by_cases h1 : w = 1
  · simp [h1]
  by_cases h2 : w = 2
  · simp [h2]
  by_cases h3 : w = 3
  · simp [h3]
  by_cases h4 : w = 4
  · simp [h4]
  by_cases h5 : w = 5
  · simp [h5]
  · simp [h1, h2, h3, h4, h5]
theorem r02_end (w : Int) (nl ml : Nat) (x3 x4 : Int) (t : Bool) :
    cond (decide (w < 1)) (some false) (cond (decide (6 < w)) (some false) (cond (decide ((ml : Int) = x4)) (cond (decide ((nl : Int) < x3)) (some false) (cond (decide (x3 < (nl : Int))) (cond (decide (w = 2)) (some t) (some false)) (some t))) (some false))) =
      some (decide (1 ≤ w ∧ w ≤ 6) && (decide ((ml : Int) = x4) && ((decide ((nl : Int) = x3) || (decide (x3 < (nl : Int)) && decide (w = 2))) && t))) := by
  by_cases h1 : w < 1
  · rw [decide_eq_true h1, cond_true, decide_eq_false (by omega : ¬ (1 ≤ w ∧ w ≤ 6)), Bool.false_and]
  rw [decide_eq_false h1, cond_false]
  by_cases h2 : 6 < w
  · rw [decide_eq_true h2, cond_true, decide_eq_false (by omega : ¬ (1 ≤ w ∧ w ≤ 6)), Bool.false_and]
  rw [decide_eq_false h2, cond_false, decide_eq_true (by omega : 1 ≤ w ∧ w ≤ 6), Bool.true_and]
  by_cases h3 : (ml : Int) = x4
  rotate_left
  · rw [decide_eq_false h3, cond_false, Bool.false_and]
  rw [decide_eq_true h3, cond_true, Bool.true_and]
  by_cases h4 : (nl : Int) < x3
  · rw [decide_eq_true h4, cond_true, decide_eq_false (by omega : ¬ (nl : Int) = x3), decide_eq_false (by omega : ¬ x3 < (nl : Int))]
    rfl
  rw [decide_eq_false h4, cond_false]
  by_cases h5 : x3 < (nl : Int)
  · rw [decide_eq_true h5, cond_true, decide_eq_false (by omega : ¬ (nl : Int) = x3), Bool.true_and, Bool.false_or]
    cases decide (w = 2) <;> rfl
  · rw [decide_eq_false h5, cond_false, decide_eq_true (by omega : (nl : Int) = x3), Bool.true_or, Bool.true_and]
theorem r02valid_at (d : Dc) (hd : d.names.length ≤ 10000000 ∧ d.nums.length ≤ 10000000) : r02_Valid_v d = some (validV d) := by
  have hA := rnm_all d.names hd.1 d rfl
  have hB := rnum_all d hd.2
  unfold r02_Valid_v validV
  rw [shape_at, Option.bind_some]
  generalize shapeV d.word = sh
  obtain ⟨x3, x4⟩ := sh
  dsimp only
  by_cases g1 : ∀ j, j < d.names.length → nameB (d.names.getD j []) = true
  · rw [(all_getD d.names nameB []).2 g1, Bool.true_and]
    by_cases g2 : ∀ j, j < d.nums.length → (!(decide (d.nums.getD j 0 < -9999) || decide (9999 < d.nums.getD j 0))) = true
    · rw [(all_getD d.nums (fun n => !(decide (n < -9999) || decide (9999 < n))) 0).2 g2]
      simp only [hA, hB, if_pos g1, if_pos g2, Option.bind_some]
      exact r02_end _ _ _ _ _ _
    · have e2 : (d.nums.all fun n => !(decide (n < -9999) || decide (9999 < n))) = false := by
        rw [Bool.eq_false_iff]; intro h; exact g2 ((all_getD d.nums (fun n => !(decide (n < -9999) || decide (9999 < n))) 0).1 h)
      rw [e2]
      simp only [hA, hB, if_pos g1, if_neg g2, Option.bind_some]
      exact r02_end _ _ _ _ _ _
  · have e1 : d.names.all nameB = false := by
      rw [Bool.eq_false_iff]; intro h; exact g1 ((all_getD d.names nameB []).1 h)
    rw [e1, Bool.false_and]
    simp only [hA, if_neg g1, Option.bind_some]
    exact r02_end _ _ _ _ _ _
end Go.Am
end
section
namespace Go.Am
open Go Go.Proofs
set_option maxRecDepth 100000
set_option linter.unusedVariables false
set_option linter.unusedSimpArgs false
set_option maxHeartbeats 1000000
theorem one_at {b : Bdr} (h : BI b) (n : NI b) (d : Dc) (hd : d.names.length ≤ 10000000 ∧ d.nums.length ≤ 10000000) :
    ∃ s', r03_builder_one_v b.bl (b.nx.map sortV) b.sp (b.pl.map enc8) b.cq b.ca b.cd b.cp b.cf d = some ((b.addV d).1, s') ∧ ((b.addV d).1 = 0 → s' = rS (b.addV d).2 ∧ NI (b.addV d).2) := by
  unfold r03_builder_one_v
  have he : (⟨d.word, d.line, d.names, d.nums⟩ : Dc) = d := rfl
  rw [he, r02valid_at d hd, Option.bind_some]
  cases c0 : validV d
  · have hv : b.addV d = (20, b) := by unfold Bdr.addV; rw [if_pos c0]
    rw [hv]
    exact ⟨rS b, rfl, by simp⟩
  rw [cond_true]
  have hs := valid_shape c0
  by_cases c1 : d.word = 1
  · rw [c1] at hs
    simp [shapeV] at hs
    have hv : b.addV d = b.blockV d := by unfold Bdr.addV; rw [if_neg (by rw [c0]; simp), if_pos (decide_eq_true c1)]
    rw [hv, decide_eq_true c1, cond_true]
    obtain ⟨s', g1, g2⟩ := rb_block h n d (by omega) (by omega)
    rw [g1]
    exact ⟨s', rfl, g2⟩
  rw [decide_eq_false c1, cond_false]
  by_cases c2 : d.word = 2
  · have hv : b.addV d = b.lanesV d.names := by unfold Bdr.addV; rw [if_neg (by rw [c0]; simp), if_neg (by rw [decide_eq_false c1]; simp), if_pos (decide_eq_true c2)]
    rw [hv, decide_eq_true c2, cond_true]
    obtain ⟨s', g1, g2⟩ := rb_lane h n d hd.1
    rw [g1]
    exact ⟨s', rfl, g2⟩
  rw [decide_eq_false c2, cond_false]
  by_cases c3 : d.word = 3 ∨ d.word = 4
  · simp only [shapeV, c1, c2, c3, if_false, if_true] at hs
    have hv : b.addV d = b.spurV d := by
      unfold Bdr.addV
      rw [if_neg (by rw [c0]; simp), if_neg (by rw [decide_eq_false c1]; simp), if_neg (by rw [decide_eq_false c2]; simp), if_neg (by rw [decide_eq_false (by omega)]; simp), if_neg (by rw [decide_eq_false (by omega)]; simp)]
    rw [hv]
    obtain ⟨s', g1, g2⟩ := rb_spur h n d (by omega) (by omega)
    rw [g1]
    rcases c3 with c3 | c3
    · rw [decide_eq_true c3, cond_true]
      exact ⟨s', rfl, g2⟩
    · rw [decide_eq_false (by omega : ¬ d.word = 3), cond_false, decide_eq_true c3, cond_true]
      exact ⟨s', rfl, g2⟩
  rw [decide_eq_false (by omega : ¬ d.word = 3), cond_false, decide_eq_false (by omega : ¬ d.word = 4), cond_false]
  by_cases c5 : d.word = 5
  · rw [c5] at hs
    simp [shapeV] at hs
    have hv : b.addV d = b.robotV d := by
      unfold Bdr.addV
      rw [if_neg (by rw [c0]; simp), if_neg (by rw [decide_eq_false c1]; simp), if_neg (by rw [decide_eq_false c2]; simp), if_pos (decide_eq_true c5)]
    rw [hv, decide_eq_true c5, cond_true]
    obtain ⟨s', g1, g2⟩ := rb_robot h n d (by omega) (by omega)
    rw [g1]
    exact ⟨s', rfl, g2⟩
  rw [decide_eq_false c5, cond_false]
  have c6 : d.word = 6 := by omega
  rw [c6] at hs
  simp [shapeV] at hs
  have hv : b.addV d = b.configV d := by
    unfold Bdr.addV
    rw [if_neg (by rw [c0]; simp), if_neg (by rw [decide_eq_false c1]; simp), if_neg (by rw [decide_eq_false c2]; simp), if_neg (by rw [decide_eq_false c5]; simp), if_pos (decide_eq_true c6)]
  rw [hv]
  obtain ⟨s', g1, g2⟩ := rb_config n d (by omega)
  rw [g1]
  exact ⟨s', rfl, g2⟩
theorem NI.init : NI Bdr.init := ⟨fun x => rfl, fun x => rfl, fun i hi => by simp [Bdr.init] at hi, rfl⟩
theorem adds_at (l : List Dc) (hl : smallD l) : ∀ (r : List Dc) (i : Nat) (b : Bdr), BI b → NI b → l.drop i = r → i ≤ l.length →
    loopO (rBuild_L3 l) (b.bl, b.nx.map sortV, b.sp, b.pl.map enc8, b.cq, b.ca, b.cd, b.cp, b.cf, (i : Int)) = some (match addsV b r with
      | (some (x, e), _) => .inr (nt0, x, e)
      | (none, b') => .inl (b'.bl, b'.nx.map sortV, b'.sp, b'.pl.map enc8, b'.cq, b'.ca, b'.cd, b'.cp, b'.cf, (l.length : Int))) ∧ ((addsV b r).1 = none → NI (addsV b r).2)
  | [], i, b, h, n, hr, hi => by
    have hil : i = l.length := by have := congrArg List.length hr; simp at this; omega
    subst hil
    exact ⟨by rw [loopO_step, rBuild_L3_eq, lt_n, cond_false, Option.bind_some, nextO_inr]; rfl, fun _ => n⟩
  | x :: r, i, b, h, n, hr, hi => by
    have hil : i < l.length := by have := congrArg List.length hr; simp at this; omega
    have hx : idxO l (i : Int) = some x := by
      rw [idxO_nat]
      have := congrArg (·[0]?) hr
      simpa [List.getElem?_drop] using this
    have hdr : l.drop (i + 1) = r := by rw [← List.drop_drop, hr]; rfl
    have hxm : x ∈ l := by
      have : x ∈ l.drop i := by rw [hr]; simp
      exact List.mem_of_mem_drop this
    obtain ⟨s', g1, g2⟩ := one_at h n x (hl.2 x hxm)
    obtain ⟨t1, t2, t3, t4, t5, t6, t7, t8, t9⟩ := s'
    have he : (⟨x.word, x.line, x.names, x.nums⟩ : Dc) = x := rfl
    rw [loopO_step, rBuild_L3_eq, lt_c hil, cond_true, hx, Option.bind_some, he, g1, Option.bind_some]
    simp only [addsV]
    by_cases c : (b.addV x).1 = 0
    · obtain ⟨g3, g4⟩ := g2 c
      unfold rS at g3
      simp only [Prod.mk.injEq] at g3
      obtain ⟨rfl, rfl, rfl, rfl, rfl, rfl, rfl, rfl, rfl⟩ := g3
      rw [if_pos c]
      simp only [c, decide_true, cond_true, Option.bind_some, nextO_inl, wrap_sm (show i < 10000000 by have := hl.1; omega)]
      exact adds_at l hl r (i + 1) (b.addV x).2 (h.add x) g4 hdr (by omega)
    · rw [if_neg c]
      simp only [c, decide_false, cond_false, Option.bind_some, nextO_inr]
      exact ⟨rfl, fun h => by cases h⟩
end Go.Am
end
section
namespace Go.Am
open Go Go.Proofs
set_option maxRecDepth 100000
set_option linter.unusedVariables false
set_option linter.unusedSimpArgs false
def Bdr.nms (b : Bdr) : List (List UInt8) := b.bl.map Blk.name ++ b.sp.map Spr.name
structure VI (b : Bdr) : Prop where
  xy : ∀ x ∈ b.bl, xyP x
  nm : ∀ x ∈ b.nms, nameB x = true
  nod : b.nms.Nodup
  row : ∀ i, i < b.bl.length → (b.nx.getD i []).Nodup ∧ ∀ j ∈ b.nx.getD i [], 0 ≤ j ∧ j < (b.bl.length : Int) ∧ j ≠ (i : Int)
  io : ∀ s ∈ b.sp, 0 ≤ s.inn ∧ s.inn < (b.bl.length : Int) ∧ 0 ≤ s.out ∧ s.out < (b.bl.length : Int)
  pn : b.pl.Nodup
  pd : ∀ p ∈ b.pl, (b.sp.getD p.1.toNat spr0).depot = true ∧ p.2 ≤ (b.sp.getD p.1.toNat spr0).slots
  cf : cfgP b.cq b.ca b.cd b.cp
theorem not_named {b : Bdr} (n : NI b) {x : List UInt8} (h : ¬ b.namedV x = true) : x ∉ b.nms := by
  rw [named_at n] at h
  simp only [Bdr.nms, List.mem_append]
  cases c1 : ixN (b.bl.map Blk.name) x with
  | some i => rw [c1] at h; exact absurd rfl h
  | none =>
    cases c2 : ixN (b.sp.map Spr.name) x with
    | some i => rw [c1, c2] at h; exact absurd rfl h
    | none => exact fun h1 => h1.elim (ixN_none.1 c1) (ixN_none.1 c2)
theorem VI.block {b : Bdr} (h : BI b) (n : NI b) (v : VI b) (d : Dc) (hn : nameB (d.names.getD 0 []) = true) (hx : xyP ⟨d.names.getD 0 [], d.nums.getD 0 0, d.nums.getD 1 0⟩) : VI (b.blockV d).2 := by
  unfold Bdr.blockV
  split
  · exact v
  · split
    · exact v
    · rename_i h1 h2
      have hni := not_named n h1
      have hP : ∀ (y : List UInt8), y ∈ (b.bl ++ [(⟨d.names.getD 0 [], d.nums.getD 0 0, d.nums.getD 1 0⟩ : Blk)]).map Blk.name ++ b.sp.map Spr.name ↔ y = d.names.getD 0 [] ∨ y ∈ b.nms := by
        intro y; simp only [Bdr.nms, List.map_append, List.map_cons, List.map_nil, List.mem_append, List.mem_singleton]
        constructor
        · rintro ((h | h) | h) <;> simp [h]
        · rintro (h | h | h) <;> simp [h]
      refine ⟨fun x hx2 => ?_, fun x hx2 => ?_, ?_, fun i hi => ?_, fun s hs => ?_, v.pn, v.pd, v.cf⟩
      · rcases List.mem_append.1 hx2 with hx2 | hx2
        · exact v.xy x hx2
        · rw [List.mem_singleton.1 hx2]; exact hx
      · rcases (hP x).1 hx2 with rfl | hx2
        · exact hn
        · exact v.nm x hx2
      · have hv := v.nod
        simp only [Bdr.nms] at hv hni ⊢
        simp only [List.map_append, List.map_cons, List.map_nil, List.append_assoc, List.singleton_append]
        rw [List.nodup_append] at hv ⊢
        obtain ⟨a1, a2, a3⟩ := hv
        simp only [List.mem_append, not_or] at hni
        refine ⟨a1, List.nodup_cons.2 ⟨hni.2, a2⟩, fun a ha c hc => ?_⟩
        rcases List.mem_cons.1 hc with rfl | hc
        · rintro rfl; exact hni.1 ha
        · exact a3 a ha c hc
      · simp only [List.length_append, List.length_cons, List.length_nil] at hi
        by_cases hl : i < b.bl.length
        · have : (b.nx ++ [[]]).getD i [] = b.nx.getD i [] := by simp only [List.getD]; rw [List.getElem?_append_left (by rw [h.nn]; exact hl)]
          rw [this]
          obtain ⟨r1, r2⟩ := v.row i hl
          refine ⟨r1, fun j hj => ?_⟩
          have := r2 j hj
          simp only [List.length_append, List.length_cons, List.length_nil]; omega
        · have : (b.nx ++ [[]]).getD i [] = [] := by
            obtain rfl : i = b.nx.length := by rw [h.nn]; omega
            simp [List.getD]
          rw [this]
          exact ⟨List.nodup_nil, fun j hj => by simp at hj⟩
      · have := v.io s hs
        simp only [List.length_append, List.length_cons, List.length_nil]; omega
theorem VI.lane {b : Bdr} (h : BI b) (v : VI b) (x y : List UInt8) : VI (b.laneV x y).2 := by
  unfold Bdr.laneV
  split
  · rename_i i j h1 h2
    split
    · exact v
    · split
      · exact v
      · split
        · exact v
        · rename_i h3 h4 h5
          obtain ⟨p, rfl, hp⟩ := h.mb x i h1
          obtain ⟨q, rfl, hq⟩ := h.mb y j h2
          refine ⟨v.xy, v.nm, v.nod, fun k hk => ?_, v.io, v.pn, v.pd, v.cf⟩
          simp only [Int.toNat_natCast] at h4 ⊢
          obtain ⟨r1, r2⟩ := v.row k hk
          have hnn := h.nn
          by_cases e : p = k
          · subst e
            have : (b.nx.set p (b.nx.getD p [] ++ [(q : Int)])).getD p [] = b.nx.getD p [] ++ [(q : Int)] := by
              simp [List.getD, show p < b.nx.length by omega]
            rw [this]
            refine ⟨?_, fun j hj => ?_⟩
            · rw [List.nodup_append]
              refine ⟨r1, by simp, fun a ha c hc => ?_⟩
              rw [List.mem_singleton.1 hc]; rintro rfl; exact h4 ha
            · rcases List.mem_append.1 hj with hj | hj
              · exact r2 j hj
              · rw [List.mem_singleton.1 hj]; omega
          · have : (b.nx.set p (b.nx.getD p [] ++ [(q : Int)])).getD k [] = b.nx.getD k [] := by
              simp [List.getD, List.getElem?_set, e]
            rw [this]
            exact ⟨r1, r2⟩
  · exact v
theorem VI.lanes : ∀ {l : List (List UInt8)} {b : Bdr}, BI b → VI b → VI (b.lanesV l).2
  | [], b, h, v => v
  | [x], b, h, v => v
  | x :: y :: r, b, h, v => by
    simp only [Bdr.lanesV]
    split
    · exact VI.lanes (h.lane x y) (v.lane h x y)
    · exact v.lane h x y
theorem VI.spur {b : Bdr} (h : BI b) (n : NI b) (v : VI b) (d : Dc) (hn : nameB (d.names.getD 0 []) = true) : VI (b.spurV d).2 := by
  unfold Bdr.spurV
  split
  · exact v
  · rename_i h0
    have hni := not_named n h0
    split
    · rename_i i j g1 g2
      split
      · exact v
      · split
        · exact v
        · split
          · exact v
          · rename_i h1 h2 h3
            obtain ⟨p, rfl, hp⟩ := h.mb _ i g1
            obtain ⟨q, rfl, hq⟩ := h.mb _ j g2
            refine ⟨v.xy, fun x hx2 => ?_, ?_, v.row, fun s hs => ?_, v.pn, fun p hp => ?_, v.cf⟩
            · simp only [Bdr.nms, List.map_append, List.map_cons, List.map_nil, List.mem_append, List.mem_singleton] at hx2
              rcases hx2 with hx2 | hx2 | rfl
              · exact v.nm x (by simp only [Bdr.nms, List.mem_append]; exact .inl hx2)
              · exact v.nm x (by simp only [Bdr.nms, List.mem_append]; exact .inr hx2)
              · exact hn
            · have hv := v.nod
              simp only [Bdr.nms] at hv hni ⊢
              simp only [List.map_append, List.map_cons, List.map_nil, ← List.append_assoc]
              rw [List.nodup_append]
              refine ⟨hv, by simp, fun a ha c hc => ?_⟩
              rw [List.mem_singleton.1 hc]; rintro rfl; exact hni ha
            · rcases List.mem_append.1 hs with hs | hs
              · exact v.io s hs
              · rw [List.mem_singleton.1 hs]; simp only; omega
            · obtain ⟨⟨m, hm, hml⟩, _⟩ := h.pls p hp
              have := v.pd p hp
              rw [hm] at this ⊢
              simp only [Int.toNat_natCast] at this ⊢
              simp only [List.getD] at this ⊢
              rw [List.getElem?_append_left hml]
              exact this
    · exact v
theorem VI.robot {b : Bdr} (v : VI b) (d : Dc) : VI (b.robotV d).2 := by
  unfold Bdr.robotV
  split
  · exact v
  · rename_i i hi
    split
    · exact v
    split
    · exact v
    split
    · exact v
    split
    · exact v
    split
    · exact v
    rename_i h1 h2 h3 h4 h5
    refine ⟨v.xy, v.nm, v.nod, v.row, v.io, ?_, fun p hp => ?_, v.cf⟩
    · simp only
      rw [List.nodup_append]
      refine ⟨v.pn, by simp, fun a ha c hc => ?_⟩
      rw [List.mem_singleton.1 hc]; rintro rfl; exact h4 ha
    · rcases List.mem_append.1 hp with hp | hp
      · exact v.pd p hp
      · rw [List.mem_singleton.1 hp]
        simp only [decide_eq_true_eq] at h3 ⊢
        exact ⟨by simpa using h1, by omega⟩
theorem VI.config {b : Bdr} (v : VI b) (d : Dc) : VI (b.configV d).2 := by
  unfold Bdr.configV
  split
  · exact v
  · split
    · exact v
    · rename_i h1 h2
      refine ⟨v.xy, v.nm, v.nod, v.row, v.io, v.pn, v.pd, ?_⟩
      rw [cfgV_P] at h2
      simpa using h2
theorem valid_names {d : Dc} (h : validV d = true) : (∀ x ∈ d.names, nameB x = true) ∧ ∀ x ∈ d.nums, -9999 ≤ x ∧ x ≤ 9999 := by
  simp only [validV, Bool.and_eq_true, List.all_eq_true] at h
  obtain ⟨_, _, _, h4, h5⟩ := h
  refine ⟨h4, fun x hx => ?_⟩
  have := h5 x hx
  simp only [Bool.not_eq_true', Bool.or_eq_false_iff, decide_eq_false_iff_not] at this
  omega
theorem VI.add {b : Bdr} (h : BI b) (n : NI b) (v : VI b) (d : Dc) : VI (b.addV d).2 := by
  unfold Bdr.addV
  split
  · exact v
  rename_i hv
  have hv : validV d = true := by simpa using hv
  obtain ⟨⟨hw1, hw2⟩, hnu, hna⟩ := valid_shape hv
  obtain ⟨hnm, hnum⟩ := valid_names hv
  have nm0 : 1 ≤ d.names.length → nameB (d.names.getD 0 []) = true := fun h => hnm _ (getD_mem d.names 0 [] (by omega))
  have nu0 : ∀ i, i < d.nums.length → -9999 ≤ d.nums.getD i 0 ∧ d.nums.getD i 0 ≤ 9999 := fun i h => hnum _ (getD_mem d.nums i 0 h)
  split
  · rename_i c
    simp only [decide_eq_true_eq] at c
    simp only [shapeV, c, if_true] at hnu hna
    have a := nu0 0 (by omega)
    have c := nu0 1 (by omega)
    exact v.block h n d (nm0 (by omega)) ⟨a.1, a.2, c.1, c.2⟩
  split
  · exact v.lanes h
  split
  · exact v.robot d
  split
  · exact v.config d
  rename_i c1 c2 c3 c4
  simp only [decide_eq_true_eq] at c1 c2 c3 c4
  have : d.word = 3 ∨ d.word = 4 := by omega
  simp only [shapeV, c1, c2, this, if_true, if_false] at hnu hna
  exact v.spur h n d (nm0 (by omega))
theorem NI.add {b : Bdr} (h : BI b) (n : NI b) (d : Dc) (hd : d.names.length ≤ 10000000 ∧ d.nums.length ≤ 10000000) (h0 : (b.addV d).1 = 0) : NI (b.addV d).2 := by
  obtain ⟨_, _, h2⟩ := one_at h n d hd
  exact (h2 h0).2
theorem VI.adds : ∀ (l : List Dc) {b : Bdr}, smallD l → BI b → NI b → VI b → VI (addsV b l).2
  | [], b, _, h, n, v => v
  | d :: r, b, hs, h, n, v => by
    simp only [addsV]
    split
    · rename_i h0
      exact VI.adds r ⟨by have := hs.1; simp only [List.length_cons] at this; omega, fun x hx => hs.2 x (List.mem_cons_of_mem _ hx)⟩ (h.add d) (n.add h d (hs.2 d (by simp)) h0) (v.add h n d)
    · exact v
theorem VI.init : VI Bdr.init := by
  refine ⟨by simp [Bdr.init], by simp [Bdr.init, Bdr.nms], by simp [Bdr.init, Bdr.nms], by simp [Bdr.init], by simp [Bdr.init], by simp [Bdr.init], by simp [Bdr.init], ?_⟩
  show cfgP 4 2 1 8
  unfold cfgP; omega
theorem NI.adds {l : List Dc} (hl : smallD l) (h : (addsV Bdr.init l).1 = none) : NI (addsV Bdr.init l).2 := (adds_at l hl l 0 Bdr.init BI.init NI.init rfl (Nat.zero_le _)).2 h
theorem insS_nodup (l : List Int) (x : Int) (h : l.Nodup) (hx : x ∉ l) : (insS l x).Nodup := by
  induction l with
  | nil => simp [insS]
  | cons y r ih =>
    simp only [insS]
    obtain ⟨h1, h2⟩ := List.nodup_cons.1 h
    split
    · exact List.nodup_cons.2 ⟨hx, h⟩
    · refine List.nodup_cons.2 ⟨?_, ih h2 (fun h => hx (by simp [h]))⟩
      rw [insS_mem]
      rintro (rfl | h3)
      · exact hx (by simp)
      · exact h1 h3
theorem foldl_insS_ok : ∀ (l p : List Int), p.Pairwise (· ≤ ·) → p.Nodup → l.Nodup → (∀ x ∈ l, x ∉ p) → (l.foldl insS p).Pairwise (· ≤ ·) ∧ (l.foldl insS p).Nodup
  | [], p, h1, h2, _, _ => ⟨h1, h2⟩
  | x :: r, p, h1, h2, h3, h4 => by
    obtain ⟨h5, h6⟩ := List.nodup_cons.1 h3
    refine foldl_insS_ok r (insS p x) (insS_sorted p x h1) (insS_nodup p x h2 (h4 x (by simp))) h6 fun y hy => ?_
    rw [insS_mem]
    rintro (rfl | h7)
    · exact h5 hy
    · exact h4 y (by simp [hy]) h7
theorem sortV_ok (l : List Int) (h : l.Nodup) : (sortV l).Pairwise (· ≤ ·) ∧ (sortV l).Nodup := foldl_insS_ok l [] List.Pairwise.nil List.nodup_nil h (by simp)
theorem sortV_in (l : List Int) (x : Int) : x ∈ sortV l ↔ x ∈ l := by rw [sortV, sortV_mem]; simp
theorem getD_map' {α β : Type} (f : α → β) (l : List α) (i : Nat) (x : α) (y : β) (h : i < l.length) : (l.map f).getD i y = f (l.getD i x) := by simp [List.getD, h]
theorem row_sorted (nb i : Nat) (l : List Int) (h : l.Nodup) (h2 : ∀ j ∈ l, 0 ≤ j ∧ j < (nb : Int) ∧ j ≠ (i : Int)) : rowP nb i (sortV l) := by
  obtain ⟨h3, h4⟩ := sortV_ok l h
  intro k hk
  have hm : (sortV l).getD k 0 ∈ l := (sortV_in l _).1 (getD_mem _ k 0 hk)
  obtain ⟨a, b, c⟩ := h2 _ hm
  refine ⟨a, b, c, fun hk0 => ?_⟩
  have e1 : (sortV l).getD k 0 = (sortV l)[k] := gde hk
  have hk1 : k - 1 < (sortV l).length := by omega
  have e2 : (sortV l).getD (k - 1) 0 = (sortV l)[k - 1] := gde hk1
  rw [e1, e2]
  have h5 := List.pairwise_iff_getElem.1 h3 (k - 1) k hk1 hk (by omega)
  have h6 : (sortV l)[k - 1] ≠ (sortV l)[k] := fun e => by
    have := (List.nodup_iff_pairwise_ne.1 h4)
    exact List.pairwise_iff_getElem.1 this (k - 1) k hk1 hk (by omega) e
  omega
theorem sortV_rows {b : Bdr} (h : BI b) (v : VI b) (i : Nat) (hi : i < b.bl.length) : rowP b.bl.length i ((b.nx.map sortV).getD i []) ∧ ((b.nx.map sortV).getD i []).length ≤ 4 := by
  have hn := h.nn
  rw [getD_map' sortV b.nx i [] [] (by omega)]
  obtain ⟨r1, r2⟩ := v.row i hi
  exact ⟨row_sorted _ _ _ r1 r2, by rw [sortV_len]; exact h.row i⟩
theorem spB_get (n : Int) (sp : List Spr) (ba : List Int) (h : ba.length = sp.length) (i : Nat) (hi : i < sp.length) : (spB n sp ba).getD i spr0 = { sp.getD i spr0 with base := n + ba.getD i 0 } := by
  have h1 : i < (spB n sp ba).length := by rw [spB_len _ _ _ h]; exact hi
  have h2 : i < ba.length := by omega
  rw [gde h1, gde hi, gde h2]
  simp [spB]
theorem spB_sum (n : Int) : ∀ (sp : List Spr) (ba : List Int) (i : Nat), ba.length = sp.length → sumS ((spB n sp ba).take i) = sumS (sp.take i)
  | [], ba, i, h => by simp [spB]
  | s :: r, [], i, h => by simp at h
  | s :: r, x :: t, 0, h => by simp
  | s :: r, x :: t, i + 1, h => by
    have := spB_sum n r t i (by simpa using h)
    simp only [spB, List.zipWith_cons_cons, List.take_succ_cons, sumS] at this ⊢
    rw [this]
theorem mem_any_inD {sp : List Spr} {i : Nat} (hi : i < sp.length) {x : Int} (h1 : (sp.getD i spr0).depot = true) (h2 : (sp.getD i spr0).base ≤ x) (h3 : x < (sp.getD i spr0).base + (sp.getD i spr0).slots) : sp.any (inD x) = true := by
  rw [List.any_eq_true]
  exact ⟨sp.getD i spr0, getD_mem sp i spr0 hi, by simp only [inD, h1, Bool.true_and, Bool.and_eq_true, decide_eq_true_eq]; exact ⟨h2, h3⟩⟩
theorem net_valid {b : Bdr} (h : BI b) (n : NI b) (v : VI b) (h1 : b.bl.length ≠ 0) (h2 : b.sp.any (·.depot) = true) : validN b.net := by
  have hnn := h.nn
  have hba := h.nba
  have hlen : (spB b.bl.length b.sp b.ba).length = b.sp.length := spB_len _ _ _ hba
  have hsp : spursP b.bl.length (spB b.bl.length b.sp b.ba) := by
    intro i hi
    rw [hlen] at hi
    have hm := getD_mem b.sp i spr0 hi
    rw [spB_get _ _ _ hba i hi, spB_sum _ _ _ _ hba]
    obtain ⟨a1, a2, a3, a4⟩ := v.io _ hm
    obtain ⟨a5, a6⟩ := h.sps _ hm
    exact ⟨a1, a2, a3, a4, a5, a6, by simp only; rw [n.ba i hi]⟩
  have hpl : ∀ p ∈ b.pl, ∃ m : Nat, p.1 = (m : Int) ∧ m < b.sp.length ∧ plB (spB b.bl.length b.sp b.ba) p = ((spB b.bl.length b.sp b.ba).getD m spr0).base + p.2 - 1 ∧ 1 ≤ p.2 ∧ p.2 ≤ ((spB b.bl.length b.sp b.ba).getD m spr0).slots ∧ ((spB b.bl.length b.sp b.ba).getD m spr0).depot = true := by
    intro p hp
    obtain ⟨⟨m, hm, hml⟩, hp1, hp2⟩ := h.pls p hp
    obtain ⟨hd1, hd2⟩ := v.pd p hp
    rw [hm, Int.toNat_natCast] at hd1 hd2
    refine ⟨m, hm, hml, by rw [plB, hm, Int.toNat_natCast], hp1, ?_, ?_⟩ <;> rw [spB_get _ _ _ hba m hml]
    · exact hd2
    · exact hd1
  refine ⟨⟨by show 1 ≤ b.bl.length; omega, h.nb, by show (b.nx.map sortV).length = b.bl.length; simp [hnn], fun i hi => ⟨v.xy _ (getD_mem b.bl i blk0 hi), (sortV_rows h v i hi).2, (sortV_rows h v i hi).1⟩⟩, ?_, ?_, ?_, v.cf, hsp, ?_, ?_⟩
  · show (spB b.bl.length b.sp b.ba).length ≤ 6
    rw [hlen]; exact h.ns
  · have e : namesN b.net = b.nms := by
      have : (spB b.bl.length b.sp b.ba).map Spr.name = b.sp.map Spr.name := by
        apply List.ext_getElem (by simp [hlen])
        intro i h1 h2
        simp [spB]
      simp only [namesN, Bdr.net, Bdr.nms, this]
    unfold namesP
    rw [e]
    intro i hi
    exact ⟨v.nm _ (getD_mem _ i [] hi), fun k hk => (nodup_getD _).1 v.nod i hi k hk⟩
  · show (b.pl.map _).length ≤ 8
    simp only [List.length_map]; exact h.np
  · have hnod : (b.pl.map (plB (spB b.bl.length b.sp b.ba))).Nodup := by
      have hinj : ∀ p ∈ b.pl, ∀ q ∈ b.pl, plB (spB b.bl.length b.sp b.ba) p = plB (spB b.bl.length b.sp b.ba) q → p = q := by
        intro p hp q hq he
        obtain ⟨m, hm, hml, e1, a1, a2, _⟩ := hpl p hp
        obtain ⟨k, hk, hkl, e2, c1, c2, _⟩ := hpl q hq
        have i1 : inS (plB (spB b.bl.length b.sp b.ba) p) ((spB b.bl.length b.sp b.ba).getD m spr0) = true := by
          simp only [inS, Bool.and_eq_true, decide_eq_true_eq]; omega
        have i2 : inS (plB (spB b.bl.length b.sp b.ba) p) ((spB b.bl.length b.sp b.ba).getD k spr0) = true := by
          simp only [inS, Bool.and_eq_true, decide_eq_true_eq]; omega
        have := inS_one hsp (by omega) (by omega) i1 i2
        subst this
        obtain ⟨p1, p2⟩ := p
        obtain ⟨q1, q2⟩ := q
        simp only at hm hk e1 e2
        rw [Prod.mk.injEq]
        exact ⟨by omega, by omega⟩
      refine List.pairwise_map.2 ?_
      refine List.Pairwise.imp_of_mem ?_ (List.nodup_iff_pairwise_ne.1 v.pn)
      intro p q hp hq hne he
      exact hne (hinj p hp q hq he)
    intro i hi
    have hi2 : i < b.pl.length := by simpa [Bdr.net] using hi
    obtain ⟨m, hm, hml, e1, a1, a2, a3⟩ := hpl _ (getD_mem b.pl i (0, 0) hi2)
    show (spB b.bl.length b.sp b.ba).any (inD ((b.pl.map (plB (spB b.bl.length b.sp b.ba))).getD i 0)) = true ∧ (b.pl.map (plB (spB b.bl.length b.sp b.ba))).getD i 0 ∉ (b.pl.map (plB (spB b.bl.length b.sp b.ba))).take i
    refine ⟨?_, fun hmem => ?_⟩
    · rw [getD_map' _ b.pl i (0, 0) 0 hi2]
      exact mem_any_inD (by rw [hlen]; exact hml) a3 (by omega) (by omega)
    · obtain ⟨k, hk, he⟩ := List.mem_iff_getElem.1 hmem
      have hi3 : i < (b.pl.map (plB (spB b.bl.length b.sp b.ba))).length := by simpa using hi2
      rw [List.getElem_take, gde hi3] at he
      have hk2 : k < i := by simp at hk; omega
      exact List.pairwise_iff_getElem.1 (List.nodup_iff_pairwise_ne.1 hnod) k i (by omega) hi3 hk2 he
  · show 0 < ((spB b.bl.length b.sp b.ba).filter Spr.depot).length
    rw [List.any_eq_true] at h2
    obtain ⟨s, hs, hd⟩ := h2
    obtain ⟨i, hi, rfl⟩ := List.mem_iff_getElem.1 hs
    have hm : (spB b.bl.length b.sp b.ba).getD i spr0 ∈ (spB b.bl.length b.sp b.ba).filter Spr.depot := by
      rw [List.mem_filter]
      refine ⟨getD_mem _ i spr0 (by rw [hlen]; exact hi), ?_⟩
      rw [spB_get _ _ _ hba i hi, gde hi]; exact hd
    exact List.length_pos_of_mem hm
theorem adds_err : ∀ (l : List Dc) (b : Bdr) (x e : Int), (addsV b l).1 = some (x, e) → e ≠ 0
  | [], b, x, e, h => by simp [addsV] at h
  | d :: r, b, x, e, h => by
    simp only [addsV] at h
    split at h
    · exact adds_err r _ x e h
    · rename_i h0
      simp only [Option.some.injEq, Prod.mk.injEq] at h
      rw [← h.2]; exact h0
theorem build_valid (d : List Dc) (hd : smallD d) (h : (nbuildV d).2.2 = 0) : validN (nbuildV d).1 := by
  have h1 : BI (addsV Bdr.init d).2 := BI.init.adds d
  have h3 : VI (addsV Bdr.init d).2 := VI.adds d hd BI.init NI.init VI.init
  have h2 := NI.adds hd
  unfold nbuildV at h ⊢
  rcases hb : addsV Bdr.init d with ⟨o, b⟩
  rw [hb] at h h1 h2 h3
  cases o with
  | some p =>
    obtain ⟨x, e⟩ := p
    exact absurd h (adds_err d Bdr.init x e (by rw [hb]))
  | none =>
    simp only at h ⊢
    by_cases c1 : b.bl.length = 0
    · rw [decide_eq_true c1, if_pos rfl] at h; simp at h
    · by_cases c2 : b.sp.any (·.depot) = false
      · rw [if_neg (by simpa using c1), if_pos c2] at h; simp at h
      · rw [if_neg (by simpa using c1), if_neg c2]
        exact net_valid h1 (h2 rfl) h3 c1 (by simpa using c2)
end Go.Am
end
section
namespace Go.Am
open Go Go.Proofs
set_option maxRecDepth 100000
set_option linter.unusedVariables false
set_option linter.unusedSimpArgs false
theorem addsV_app : ∀ (l1 l2 : List Dc) (b b' : Bdr), addsV b l1 = (none, b') → addsV b (l1 ++ l2) = addsV b' l2
  | [], l2, b, b', h => by simp only [addsV, Prod.mk.injEq, true_and] at h; subst h; rfl
  | d :: r, l2, b, b', h => by
    simp only [List.cons_append, addsV] at h ⊢
    split at h
    · rename_i h0; rw [if_pos h0]; exact addsV_app r l2 _ b' h
    · simp at h
theorem addsV_one {b b' : Bdr} {d : Dc} (h : b.addV d = (0, b')) : addsV b [d] = (none, b') := by simp only [addsV, h, if_true]
theorem addsV_num : ∀ (l : List Dc) (i : Nat) (b b' : Bdr), addsV b l = (none, b') → addsV b (numD i l) = (none, b')
  | [], i, b, b', h => h
  | d :: r, i, b, b', h => by
    have e : b.addV ⟨d.word, (i : Int) + 1, d.names, d.nums⟩ = b.addV d := rfl
    simp only [numD, addsV, e] at h ⊢
    split at h
    · rename_i h0; rw [if_pos h0]; exact addsV_num r (i + 1) _ b' h
    · simp at h
theorem adds_BN : ∀ (l : List Dc) (b b' : Bdr), (∀ x ∈ l, x.names.length ≤ 10 ∧ x.nums.length ≤ 10) → BI b → NI b → addsV b l = (none, b') → BI b' ∧ NI b'
  | [], b, b', _, h, n, he => by simp only [addsV, Prod.mk.injEq, true_and] at he; subst he; exact ⟨h, n⟩
  | d :: r, b, b', hs, h, n, he => by
    simp only [addsV] at he
    split at he
    · rename_i h0
      exact adds_BN r _ b' (fun x hx => hs x (List.mem_cons_of_mem _ hx)) (h.add d) (n.add h d (by have := hs d (by simp); omega) h0) he
    · simp at he
theorem namedV_no {b : Bdr} (n : NI b) {x : List UInt8} (h1 : x ∉ b.bl.map Blk.name) (h2 : x ∉ b.sp.map Spr.name) : b.namedV x = false := by
  rw [named_at n, ixN_none.2 h1, ixN_none.2 h2]; rfl
theorem ixN_nodup {l : List (List UInt8)} (h : l.Nodup) (i : Nat) (hi : i < l.length) : ixN l (l.getD i []) = some i := by
  cases c : ixN l (l.getD i []) with
  | none => exact absurd (getD_mem l i [] hi) (ixN_none.1 c)
  | some j =>
    obtain ⟨hj, he⟩ := ixN_some c
    rcases Nat.lt_trichotomy i j with h1 | h1 | h1
    · exact absurd he.symm (fun e => (nodup_getD l).1 h j hj i h1 e.symm)
    · rw [h1]
    · exact absurd he.symm ((nodup_getD l).1 h i hi j h1)
theorem valid_blk {x : Blk} (hn : nameB x.name = true) (hx : xyP x) : validV (blkD x) = true := by
  unfold xyP at hx
  simp [validV, blkD, shapeV, hn]
  omega
theorem add_blk {b : Bdr} (n : NI b) (x : Blk) (hn : nameB x.name = true) (hx : xyP x) (h1 : x.name ∉ b.bl.map Blk.name) (h2 : x.name ∉ b.sp.map Spr.name) (hl : b.bl.length < 24) :
    b.addV (blkD x) = (0, { b with mb := putS b.mb x.name b.bl.length, bl := b.bl ++ [x], nx := b.nx ++ [[]] }) := by
  unfold Bdr.addV
  rw [valid_blk hn hx, if_neg (by decide)]
  show (if decide ((1 : Int) = 1) = true then b.blockV (blkD x) else _) = _
  rw [if_pos (by decide)]
  unfold Bdr.blockV
  show (if b.namedV x.name = true then _ else _) = _
  rw [namedV_no n h1 h2, if_neg (by decide), if_neg (by omega)]
  rfl
theorem valid_lan {n : Nt} {i : Nat} {x : Int} (h1 : nameB (n.blocks.getD i blk0).name = true) (h2 : nameB (bnm n x) = true) : validV (lanD n i x) = true := by
  unfold lanD
  generalize (n.blocks.getD i blk0).name = a at *
  generalize bnm n x = c at *
  simp [validV, shapeV, h1, h2]
theorem add_lan {b : Bdr} {n : Nt} {i : Nat} {j : Nat} (h1 : nameB (n.blocks.getD i blk0).name = true) (h2 : nameB (bnm n j) = true) (g1 : getS b.mb (n.blocks.getD i blk0).name = some (i : Int)) (g2 : getS b.mb (bnm n j) = some (j : Int))
    (hij : i ≠ j) (hm : (j : Int) ∉ b.nx.getD i []) (hl : (b.nx.getD i []).length < 4) :
    b.addV (lanD n i j) = (0, { b with nx := b.nx.set i (b.nx.getD i [] ++ [(j : Int)]) }) := by
  have hL : b.laneV (n.blocks.getD i blk0).name (bnm n j) = (0, { b with nx := b.nx.set i (b.nx.getD i [] ++ [(j : Int)]) }) := by
    unfold Bdr.laneV
    rw [g1, g2]
    simp only
    rw [if_neg (by omega), if_neg (by simpa using hm), if_neg (by simp only [Int.toNat_natCast]; omega)]
    simp
  unfold Bdr.addV
  rw [valid_lan h1 h2, if_neg (by decide)]
  show (if decide ((2 : Int) = 1) = true then _ else if decide ((2 : Int) = 2) = true then b.lanesV [(n.blocks.getD i blk0).name, bnm n j] else _) = _
  rw [if_neg (by decide), if_pos (by decide)]
  simp only [Bdr.lanesV, hL, if_true]
def base0 (s : Spr) : Spr := { s with base := 0 }
theorem add_spr {b : Bdr} (nI : NI b) {n : Nt} {s : Spr} {i j : Nat} (h1 : nameB s.name = true) (h2 : nameB (bnm n s.inn) = true) (h3 : nameB (bnm n s.out) = true) (hi : s.inn = (i : Int)) (hj : s.out = (j : Int))
    (g1 : getS b.mb (bnm n s.inn) = some (i : Int)) (g2 : getS b.mb (bnm n s.out) = some (j : Int)) (n1 : s.name ∉ b.bl.map Blk.name) (n2 : s.name ∉ b.sp.map Spr.name) (hs : 1 ≤ s.slots ∧ s.slots ≤ 4) (hl : b.sp.length < 6) :
    b.addV (sprD n s) = (0, { b with ms := putS b.ms s.name b.sp.length, sp := b.sp ++ [base0 s], ba := b.ba ++ [b.sl], sl := b.sl + s.slots }) := by
  have hv : validV (sprD n s) = true := by
    cases hd : s.depot
    · simp [validV, sprD, shapeV, h1, h2, h3, hd]; omega
    · simp [validV, sprD, shapeV, h1, h2, h3, hd]; omega
  have hw : (sprD n s).word = 3 ∨ (sprD n s).word = 4 := by
    cases hd : s.depot
    · simp [sprD, hd]
    · simp [sprD, hd]
  have hw4 : decide ((sprD n s).word = 4) = s.depot := by
    cases hd : s.depot
    · simp [sprD, hd]
    · simp [sprD, hd]
  unfold Bdr.addV
  rw [hv, if_neg (by decide), if_neg (by simp only [decide_eq_true_eq]; omega), if_neg (by simp only [decide_eq_true_eq]; omega), if_neg (by simp only [decide_eq_true_eq]; omega), if_neg (by simp only [decide_eq_true_eq]; omega)]
  unfold Bdr.spurV
  rw [show (sprD n s).names.getD 0 [] = s.name from rfl, show (sprD n s).names.getD 1 [] = bnm n s.inn from rfl, show (sprD n s).names.getD 2 [] = bnm n s.out from rfl, show (sprD n s).nums.getD 0 0 = s.slots from rfl,
    namedV_no nI n1 n2, if_neg (by decide), g1, g2, hw4]
  simp only
  rw [if_neg (by simp only [decide_eq_true_eq]; omega), if_neg (by simp only [decide_eq_true_eq]; omega), if_neg (by omega), ← hi, ← hj]
  rfl
theorem add_rob {b : Bdr} {r : Int} {s : Spr} {j : Nat} (h1 : nameB s.name = true) (g1 : getS b.ms s.name = some (j : Int)) (hd : (b.sp.getD j spr0).depot = true) (hs : (b.sp.getD j spr0).slots = s.slots)
    (hr : inS r s = true) (hs4 : s.slots ≤ 4) (hm : ((j : Int), r - s.base + 1) ∉ b.pl) (hl : b.pl.length < 8) : b.addV (robD r s) = (0, { b with pl := b.pl ++ [((j : Int), r - s.base + 1)] }) := by
  simp only [inS, Bool.and_eq_true, decide_eq_true_eq] at hr
  have hv : validV (robD r s) = true := by simp [validV, robD, shapeV, h1]; omega
  unfold Bdr.addV
  rw [hv, if_neg (by decide)]
  show (if decide ((5 : Int) = 1) = true then _ else if decide ((5 : Int) = 2) = true then _ else if decide ((5 : Int) = 5) = true then b.robotV (robD r s) else _) = _
  rw [if_neg (by decide), if_neg (by decide), if_pos (by decide)]
  unfold Bdr.robotV
  rw [show (robD r s).names.getD 0 [] = s.name from rfl, show (robD r s).nums.getD 0 0 = r - s.base + 1 from rfl, g1]
  simp only [Int.toNat_natCast]
  rw [if_neg (by rw [hd]; decide), if_neg (by simp only [decide_eq_true_eq]; omega), if_neg (by simp only [decide_eq_true_eq]; omega), if_neg hm, if_neg (by omega)]
theorem add_cfg {b : Bdr} {q a d p : Int} (hc : cfgP q a d p) (hf : b.cf = false) : b.addV ⟨6, 0, [], [q, a, d, p]⟩ = (0, { b with cq := q, ca := a, cd := d, cp := p, cf := true }) := by
  have hc2 := hc
  unfold cfgP at hc2
  have hv : validV ⟨6, 0, [], [q, a, d, p]⟩ = true := by simp [validV, shapeV]; omega
  unfold Bdr.addV
  rw [hv, if_neg (by decide)]
  show (if decide ((6 : Int) = 1) = true then _ else if decide ((6 : Int) = 2) = true then _ else if decide ((6 : Int) = 5) = true then _ else if decide ((6 : Int) = 6) = true then b.configV ⟨6, 0, [], [q, a, d, p]⟩ else _) = _
  rw [if_neg (by decide), if_neg (by decide), if_neg (by decide), if_pos (by decide)]
  unfold Bdr.configV
  rw [if_neg (by simp [hf])]
  show (if cfgV q a d p = false then _ else _) = _
  rw [cfgV_P, decide_eq_true hc, if_neg (by decide)]
  rfl
theorem nms_nodup {n : Nt} (h : namesP n) : (namesN n).Nodup := (nodup_getD _).2 fun i hi k hk => (h i hi).2 k hk
theorem nms_blk {n : Nt} (h : namesP n) (i : Nat) (hi : i < n.blocks.length) : nameB (n.blocks.getD i blk0).name = true := by
  have := (h i (by simp [namesN]; omega)).1
  rwa [namesN_get i (by simp [namesN]; omega), if_pos hi] at this
theorem nms_spr {n : Nt} (h : namesP n) (i : Nat) (hi : i < n.spurs.length) : nameB (n.spurs.getD i spr0).name = true := by
  have := (h (n.blocks.length + i) (by simp [namesN]; omega)).1
  rwa [namesN_get _ (by simp [namesN]; omega), if_neg (by omega), show n.blocks.length + i - n.blocks.length = i by omega] at this
theorem nod_blk {n : Nt} (h : namesP n) : (n.blocks.map Blk.name).Nodup := (List.nodup_append.1 (nms_nodup h)).1
theorem nod_spr {n : Nt} (h : namesP n) : (n.spurs.map Spr.name).Nodup := (List.nodup_append.1 (nms_nodup h)).2.1
theorem nod_x {n : Nt} (h : namesP n) {a : List UInt8} (h1 : a ∈ n.blocks.map Blk.name) (h2 : a ∈ n.spurs.map Spr.name) : False := (List.nodup_append.1 (nms_nodup h)).2.2 a h1 a h2 rfl
theorem nod_take {l : List (List UInt8)} (h : l.Nodup) (k : Nat) (hk : k < l.length) : l.getD k [] ∉ l.take k := by
  intro hm
  obtain ⟨i, hi, he⟩ := List.mem_iff_getElem.1 hm
  rw [List.getElem_take] at he
  have hik : i < k := by simp at hi; omega
  refine (nodup_getD l).1 h k hk i hik ?_
  rw [gde (show i < l.length by omega), he]
end Go.Am
end
