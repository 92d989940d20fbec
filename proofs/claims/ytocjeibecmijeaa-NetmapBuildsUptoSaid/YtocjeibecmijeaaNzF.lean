/- Texts of this proof, what it rests on, merged: part F. -/
import Derived.Test.YtocjeibecmijeaaNzE
section
namespace Go.Am
open Go Go.Proofs
set_option maxRecDepth 100000
set_option linter.unusedVariables false
set_option linter.unusedSimpArgs false
set_option maxHeartbeats 2000000 in
theorem add_ok (b : Bdr) (k : Nat) (d : Dc) (h : BI b) (hd : d.names.length ≤ 10000000 ∧ d.nums.length ≤ 10000000) :
    ACalls Try.prog 19 [.ptr 1000000 0, d.d] (b.h k) fun h r => ∃ k', h = (b.addV d).2.h k' ∧ r = .p (.int .i64 (b.addV d).1) := by
  have v := valid_ok d hd
  have v1 := fun h1 h2 => block_ok b k d h1 h2 h.nb (by rw [h.nn]; exact h.nb)
  have v5 := fun h1 h2 => robot_ok b k d h1 h2 h.np h.ms
  have v6 := config_ok b k d
  have v3 := fun h1 h2 => spur_ok b k d h1 h2 h.ns (by rw [h.nba]; exact h.ns) ⟨h.sl.1, by have := h.sl.2; have := h.ns; omega⟩
  have hs := @valid_shape d
  unfold Dc.d at v v1 v5 v6 v3 ⊢
  refine ACalls_X Try.func19 rfl enters19 (by simp [Try.f19]) ?_
  rw [Bdr.h_eq b k]
  simp only [go_sem]
  refine Cc_of v ?_
  rintro h' r ⟨rfl, rfl⟩
  cases c0 : validV d
  · have hv : b.addV d = (20, b) := by unfold Bdr.addV; rw [if_pos c0]
    simp only [go_sem, c0, hv]
    first | exact ⟨k, rfl, rfl⟩ | exact ⟨k, rfl⟩
  have hs := hs c0
  cases c1 : decide (d.word = 1)
  rotate_left
  · have e1 : d.word = 1 := of_decide_eq_true c1
    rw [e1] at hs
    simp [shapeV] at hs
    simp only [go_sem, c0, c1]
    refine Cc_of (v1 (by omega) (by omega)) ?_
    rintro h' r ⟨k', rfl, rfl⟩
    have hv : b.addV d = b.blockV d := by unfold Bdr.addV; simp only [c0, c1, Bool.true_eq_false, if_false, if_true]
    rw [hv]
    simp only [go_sem, Bdr.h_eq (b.blockV d).2 k']
    first | exact ⟨k', rfl, rfl⟩ | exact ⟨k', rfl⟩
  cases c2 : decide (d.word = 2)
  rotate_left
  · have hv : b.addV d = b.lanesV d.names := by unfold Bdr.addV; simp only [c0, c1, c2, Bool.true_eq_false, Bool.false_eq_true, if_false, if_true]
    rw [hv]
    have e1 : d.word = 2 := of_decide_eq_true c2
    rw [e1] at hs
    simp [shapeV] at hs
    simp only [go_sem, c0, c1, c2]
    refine X_loop_inv (fun q : Nat × Bdr × Nat => ⟨[(0, .ptr 1000000 0), (3, .ptr 3 0), (4, .p (.int .i64 0)), (5, .p (.int .i64 (q.1 : Nat)))], (3, .box [.p (.int .i64 d.word), .p (.int .i64 d.line), .p (.sl (encS d.names)), .p (.sl (encI d.nums))]) :: q.2.1.h q.2.2, 55⟩)
      (fun q => 1 ≤ q.1 ∧ q.1 ≤ d.names.length ∧ BI q.2.1 ∧ b.lanesV d.names = q.2.1.lanesV (d.names.drop (q.1 - 1))) (fun q => d.names.length - q.1) (1, b, k) ⟨Nat.le_refl _, by omega, h, by simp⟩ (Wk.forget (by simp [Le, LeE, LeH, get, envIds, hpIds, KeepH, D.ids, idsL, AO.ids, setL, base, Bdr.h_eq])) ?_
    rintro ⟨i, b', k'⟩ n ⟨hi1, hi, hB, he⟩ ih
    dsimp only at hi1 hi hB he
    simp only [go_sem, Bdr.h_eq b' k', encS_len]
    refine Cn_split (fun h2 => ?_) (fun h2 => ?_)
    · have hlt : i < d.names.length := by simp at h2; omega
      have hw := wrap_succ i (by omega)
      have hp : IntKind.i64.wrap ((i : Int) - 1) = ((i - 1 : Nat) : Int) := by rw [IntKind.wrap_i64]; omega
      have g1 := encS_get d.names (i - 1) (by omega)
      have g2 := encS_get d.names i hlt
      have r1 : (0 : Int) ≤ ((i - 1 : Nat) : Int) ∧ ((i - 1 : Nat) : Int) < (d.names.length : Int) := by omega
      have r2 : (0 : Int) ≤ (i : Int) ∧ (i : Int) < (d.names.length : Int) := by omega
      have hdr : d.names.drop (i - 1) = d.names.getD (i - 1) [] :: d.names.getD i [] :: d.names.drop (i + 1) := by
        have a1 : d.names.drop (i - 1) = d.names[i - 1] :: d.names.drop (i - 1 + 1) := List.drop_eq_getElem_cons (by omega)
        have a2 : d.names.drop i = d.names[i] :: d.names.drop (i + 1) := List.drop_eq_getElem_cons hlt
        rw [a1, show i - 1 + 1 = i by omega, a2]
        simp [List.getD, hlt, show i - 1 < d.names.length by omega]
      have hdr2 : d.names.drop i = d.names.getD i [] :: d.names.drop (i + 1) := by
        rw [List.drop_eq_getElem_cons hlt]; simp [List.getD, hlt]
      rw [hdr] at he
      simp only [go_sem, Bdr.h_eq b' k', encS_len]
      refine X_any [(3, .box [.p (.int .i64 d.word), .p (.int .i64 d.line), .p (.sl (encS d.names)), .p (.sl (encI d.nums))])] mixed (p := [(0, 0), (1, 0), (2, 0), (3, 0), (4, 0), (5, 0), (6, 0), (7, 0), (8, 0), (9, 0), (10, 0), (11, 0), (12, 2), (13, 0)]) (by kernel_rfl) (by simp [LeH, get]) ?_
      simp only [go_sem, Bdr.h_eq b' k', encS_len, hp, r1, r2, Int.toNat_natCast, g1, g2]
      refine Gh_of (lane_ok b' k' (d.names.getD (i - 1) []) (d.names.getD i []) (by rw [hB.nn]; exact hB.mb) (fun i => by have := hB.row i; omega)) ?_
      rintro h' r ⟨k2, rfl, rfl⟩
      have hBl := hB.lane (d.names.getD (i - 1) []) (d.names.getD i [])
      generalize hL : b'.laneV (d.names.getD (i - 1) []) (d.names.getD i []) = L at *
      obtain ⟨e, b2⟩ := L
      simp only at hBl
      simp only [Bdr.lanesV, hL] at he
      cases c3 : decide (e = 0)
      · have c3' : ¬ e = 0 := of_decide_eq_false c3
        rw [if_neg c3'] at he
        rw [he]
        simp only [go_sem, Bdr.h_eq b2 k2, c3]
        first | exact ⟨k2, rfl, rfl⟩ | exact ⟨k2, rfl⟩
      · have c3' : e = 0 := of_decide_eq_true c3
        rw [if_pos c3'] at he
        simp only [go_sem, Bdr.h_eq b2 k2, c3, hw]
        refine ih (i + 1, b2, k2) _ ⟨by omega, hlt, hBl, ?_⟩ (by simp; omega) ?_
        · simp only [Nat.add_sub_cancel]; rw [hdr2]; exact he
        · (refine Wk.forget ?_; simp [Le, LeE, LeH, get, envIds, hpIds, KeepH, D.ids, idsL, AO.ids, setL, base, Bdr.h_eq]; done)
    · have : i = d.names.length := by simp at h2; omega
      simp only [go_sem, Bdr.h_eq b' k']
      have hd2 : d.names.drop (i - 1) = [d.names.getD (i - 1) []] := by
        rw [List.drop_eq_getElem_cons (by omega), List.drop_of_length_le (by omega)]
        simp [List.getD, show i - 1 < d.names.length by omega]
      rw [hd2] at he
      rw [he]
      first | exact ⟨k', rfl, rfl⟩ | exact ⟨k', rfl⟩
  cases c5 : decide (d.word = 5)
  rotate_left
  · have e1 : d.word = 5 := of_decide_eq_true c5
    rw [e1] at hs
    simp [shapeV] at hs
    simp only [go_sem, c0, c1, c2, c5]
    refine Cc_of (v5 (by omega) (by omega)) ?_
    rintro h' r ⟨k', rfl, rfl⟩
    have hv : b.addV d = b.robotV d := by unfold Bdr.addV; simp only [c0, c1, c2, c5, Bool.true_eq_false, Bool.false_eq_true, if_false, if_true]
    rw [hv]
    simp only [go_sem, Bdr.h_eq (b.robotV d).2 k']
    first | exact ⟨k', rfl, rfl⟩ | exact ⟨k', rfl⟩
  cases c6 : decide (d.word = 6)
  rotate_left
  · have e1 : d.word = 6 := of_decide_eq_true c6
    rw [e1] at hs
    simp [shapeV] at hs
    simp only [go_sem, c0, c1, c2, c5, c6]
    refine Cc_of (v6 (by omega)) ?_
    rintro h' r ⟨k', rfl, rfl⟩
    have hv : b.addV d = b.configV d := by unfold Bdr.addV; simp only [c0, c1, c2, c5, c6, Bool.true_eq_false, Bool.false_eq_true, if_false, if_true]
    rw [hv]
    simp only [go_sem, Bdr.h_eq (b.configV d).2 k']
    first | exact ⟨k', rfl, rfl⟩ | exact ⟨k', rfl⟩
  · have n1 : ¬ d.word = 1 := of_decide_eq_false c1
    have n2 : ¬ d.word = 2 := of_decide_eq_false c2
    have n5 : ¬ d.word = 5 := of_decide_eq_false c5
    have n6 : ¬ d.word = 6 := of_decide_eq_false c6
    have e1 : d.word = 3 ∨ d.word = 4 := by omega
    simp only [shapeV, n1, n2, e1, if_false, if_true] at hs
    simp only [go_sem, c0, c1, c2, c5, c6]
    refine Cc_of (v3 (by omega) (by omega)) ?_
    rintro h' r ⟨k', rfl, rfl⟩
    have hv : b.addV d = b.spurV d := by unfold Bdr.addV; simp only [c0, c1, c2, c5, c6, Bool.true_eq_false, Bool.false_eq_true, if_false, if_true]
    rw [hv]
    simp only [go_sem, Bdr.h_eq (b.spurV d).2 k']
    first | exact ⟨k', rfl, rfl⟩ | exact ⟨k', rfl⟩
end Go.Am
end
section
namespace Go.Am
open Go Go.Proofs
set_option maxRecDepth 100000
set_option linter.unusedVariables false
set_option linter.unusedSimpArgs false
set_option maxHeartbeats 1600000 in
theorem describe_own (n : Nt) (hn : validN n) : ACalls Try.prog 5 [.agg n.cs] [] fun h r => h = [(0, .arr 43 4 (encC (descV n)))] ∧ r = .tup [.ref 0 0 (descV n).length (descV n).length, .p (.int .i64 0)] := by
  have hV := validN_ok n (small_of_valid hn)
  rw [decide_eq_true hn] at hV
  obtain ⟨⟨hb1, hb24, hnl, hrows⟩, hs6, hnm, hr8, hcf, hsp, hrb, hdp⟩ := hn
  refine ACalls_X Try.func5 rfl enters5 (by simp [Try.f5]) ?_
  simp only [go_sem, Nt.cs]
  refine Cc_of ((hV)) ?_
  rintro h' r ⟨rfl, rfl⟩
  simp only [go_sem]
  refine X_loop_inv (fun q : Nat × List Dc => ⟨[(1, .ptr 1 0), (4, .ref 43 0 q.2.length q.2.length), (5, .p (.int .i64 (q.1 : Nat)))], [(1, .box (Nt.cs n)), (43, .arr 43 4 (encC q.2))], 210⟩)
    (fun q => q.1 ≤ n.blocks.length ∧ q.2.length = q.1 ∧ q.2 = (n.blocks.take q.1).map blkD) (fun q => n.blocks.length - q.1) (0, []) ⟨Nat.zero_le _, rfl, rfl⟩ ((Wk.nil (t := 4) (q := 43) (sz := 4) 43 rfl rfl (by decide)).trans (Wk.forget (by simp [Le, LeE, LeH, get, envIds, hpIds, KeepH, D.ids, idsL, AO.ids, setL, base, Nt.cs, encC]))) ?_
  rintro ⟨i, acc⟩ m ⟨hi, hal, hacc⟩ ih
  simp only at hi hal hacc
  cases c1 : decide ((i : Int) < (n.blocks.length : Int))
  rotate_left
  · have hit : i < n.blocks.length := by have := of_decide_eq_true c1; omega
    have hw := wrap_succ i (by omega)
    have hg := encK_get n.blocks i hit
    have hi0 : (0 : Int) ≤ (i : Int) ∧ (i : Int) < (n.blocks.length : Int) := by omega
    have hts := take_snoc n.blocks i blk0 hit
    simp only [go_sem, Nt.cs, encK_len, c1, Int.toNat_natCast, hg, hi0, encC_len]
    refine ⟨⟨wid1 _ _ rfl, by omega⟩, ?_⟩
    simp only [go_sem, hw]
    refine ih (i + 1, acc ++ [blkD (n.blocks.getD i blk0)]) _ ⟨hit, by simp [hal], by simp only; rw [hts, List.map_append, hacc]; rfl⟩ (by simp only; omega) ?_
    (refine Wk.forget ?_; simp [Le, LeE, LeH, get, envIds, hpIds, KeepH, D.ids, idsL, AO.ids, setL, base, Nt.cs, encC_snoc, encC_len, blkD, encS, encI]; done)
  have hie : i = n.blocks.length := by have := of_decide_eq_false c1; omega
  subst hie
  rw [List.take_length] at hacc
  have hd1 : acc = desc1 n := hacc
  clear ih hacc
  simp only [go_sem, Nt.cs, encK_len, c1]
  refine X_loop_inv (fun q : Nat × List Dc => ⟨[(1, .ptr 1 0), (4, .ref 43 0 q.2.length q.2.length), (7, .p (.int .i64 (q.1 : Nat)))], [(1, .box (Nt.cs n)), (43, .arr 43 4 (encC q.2))], 210⟩)
    (fun q => q.1 ≤ n.blocks.length ∧ q.2.length ≤ 24 + 4 * q.1 ∧ q.2 = desc1 n ++ desc2 n q.1) (fun q => n.blocks.length - q.1) (0, acc) ⟨Nat.zero_le _, by simp only; omega, by simp [hd1, desc2]⟩ (Wk.forget (by simp [Le, LeE, LeH, get, envIds, hpIds, KeepH, D.ids, idsL, AO.ids, setL, base, Nt.cs, encC])) ?_
  rintro ⟨i, acc2⟩ m2 ⟨hi, hal2, hacc2⟩ ih
  simp only at hi hal2 hacc2
  cases c2 : decide ((i : Int) < (n.blocks.length : Int))
  rotate_left
  · have hit : i < n.blocks.length := by have := of_decide_eq_true c2; omega
    have hw := wrap_succ i (by omega)
    have hg := encK_get n.blocks i hit
    have hi0 : (0 : Int) ≤ (i : Int) ∧ (i : Int) < (n.blocks.length : Int) := by omega
    have hi1 : (0 : Int) ≤ (i : Int) ∧ (i : Int) < (n.next.length : Int) := by omega
    have hgn := encG_get n.next i (by omega)
    obtain ⟨_, hr4, hrow⟩ := hrows i hit
    have hlan : lanL n i = (n.next.getD i []).map (lanD n i) := rfl
    generalize n.next.getD i [] = row at *
    simp only [go_sem, Nt.cs, encK_len, c2]
    refine X_loop_inv (fun q : Nat × List Dc => ⟨[(1, .ptr 1 0), (4, .ref 43 0 q.2.length q.2.length), (7, .p (.int .i64 (i : Nat))), (8, .p (.int .i64 (q.1 : Nat)))], [(1, .box (Nt.cs n)), (43, .arr 43 4 (encC q.2))], 210⟩)
      (fun q => q.1 ≤ row.length ∧ q.2.length = acc2.length + q.1 ∧ q.2 = acc2 ++ (row.take q.1).map (lanD n i)) (fun q => row.length - q.1) (0, acc2) ⟨Nat.zero_le _, rfl, by simp⟩ (Wk.forget (by simp [Le, LeE, LeH, get, envIds, hpIds, KeepH, D.ids, idsL, AO.ids, setL, base, Nt.cs, encC])) ?_
    rintro ⟨k, acc3⟩ m3 ⟨hk, hal3, hacc3⟩ ih2
    simp only at hk hal3 hacc3
    cases c3 : decide ((k : Int) < (row.length : Int))
    · have hke : k = row.length := by have := of_decide_eq_false c3; omega
      subst hke
      simp only [go_sem, Nt.cs, encG_len, encI_len, Int.toNat_natCast, hgn, hi1, c3, hw]
      refine ih (i + 1, acc3) _ ⟨hit, by simp only; omega, by simp only; rw [hacc3, List.take_length, desc2_succ, hlan, hacc2, List.append_assoc]⟩ (by simp only; omega) ?_
      (refine Wk.forget ?_; simp [Le, LeE, LeH, get, envIds, hpIds, KeepH, D.ids, idsL, AO.ids, setL, base, Nt.cs]; done)
    have hkt : k < row.length := by have := of_decide_eq_true c3; omega
    have hwk := wrap_succ k (by omega)
    have hk0 : (0 : Int) ≤ (k : Int) ∧ (k : Int) < (row.length : Int) := by omega
    have hro := hrow k hkt
    obtain ⟨x, hx⟩ : ∃ x : Nat, row.getD k 0 = (x : Int) := ⟨(row.getD k 0).toNat, by have := hro.1; omega⟩
    have hxb : x < n.blocks.length := by have := hro.2.1; omega
    have hgk := encI_get row k hkt
    rw [hx] at hgk
    have hgx := encK_get n.blocks x hxb
    have hx0 : (0 : Int) ≤ (x : Int) ∧ (x : Int) < (n.blocks.length : Int) := by omega
    have hts := take_snoc row k 0 hkt
    rw [hx] at hts
    simp only [go_sem, Nt.cs, encG_len, encI_len, Int.toNat_natCast, hgn, hi1, c3]
    refine X_any [(1, .box (Nt.cs n))] mixed (p := [(0, 0), (1, 0), (2, 0), (3, 0), (4, 0), (5, 0), (6, 0), (7, 0), (8, 0), (9, 0), (10, 0), (11, 0), (12, 0), (13, 0), (14, 0), (15, 0), (16, 0), (17, 0), (18, 0), (19, 0), (20, 1), (21, 0), (22, 2), (23, 2), (24, 0)]) (by kernel_rfl) (by simp [LeH, get, Nt.cs]) ?_
    simp only [go_sem, Nt.cs, encK_len, encG_len, encI_len, Int.toNat_natCast, hgn, hi1, hg, hi0, hgk, hk0, hgx, hx0, encC_len]
    refine ⟨⟨wid1 _ _ rfl, by omega⟩, ?_⟩
    simp only [go_sem, hwk]
    refine ih2 (k + 1, acc3 ++ [lanD n i (x : Int)]) _ ⟨hkt, by simp; omega, by simp only; rw [hts, List.map_append, hacc3, List.append_assoc]; rfl⟩ (by simp only; omega) ?_
    (refine Wk.forget ?_; simp [Le, LeE, LeH, get, envIds, hpIds, KeepH, D.ids, idsL, AO.ids, setL, base, Nt.cs, encC_snoc, encC_len, lanD, bnm, encS, encI]; done)
  have hie : i = n.blocks.length := by have := of_decide_eq_false c2; omega
  subst hie
  clear ih
  simp only [go_sem, Nt.cs, encK_len, c2]
  refine X_loop_inv (fun q : Nat × List Dc => ⟨[(1, .ptr 1 0), (4, .ref 43 0 q.2.length q.2.length), (9, .p (.int .i64 (q.1 : Nat)))], [(1, .box (Nt.cs n)), (43, .arr 43 4 (encC q.2))], 210⟩)
    (fun q => q.1 ≤ n.spurs.length ∧ q.2.length ≤ 200 + q.1 ∧ q.2 = desc1 n ++ desc2 n n.blocks.length ++ (n.spurs.take q.1).map (sprD n)) (fun q => n.spurs.length - q.1) (0, acc2) ⟨Nat.zero_le _, by simp only; omega, by simp [hacc2]⟩ (Wk.forget (by simp [Le, LeE, LeH, get, envIds, hpIds, KeepH, D.ids, idsL, AO.ids, setL, base, Nt.cs, encC])) ?_
  rintro ⟨i, acc3⟩ m4 ⟨hi2, hal3, hacc3⟩ ih
  simp only at hi2 hal3 hacc3
  cases c4 : decide ((i : Int) < (n.spurs.length : Int))
  rotate_left
  · have hit : i < n.spurs.length := by have := of_decide_eq_true c4; omega
    have hw := wrap_succ i (by omega)
    have hg := encP_get n.spurs i hit
    have hi0 : (0 : Int) ≤ (i : Int) ∧ (i : Int) < (n.spurs.length : Int) := by omega
    have hts := take_snoc n.spurs i spr0 hit
    obtain ⟨g1, g2, g3, g4, _⟩ := hsp i hit
    generalize n.spurs.getD i spr0 = s at *
    obtain ⟨nm, dp, inn, out, sl, bs⟩ := s
    simp only at g1 g2 g3 g4
    obtain ⟨x, rfl⟩ : ∃ x : Nat, inn = (x : Int) := ⟨inn.toNat, by omega⟩
    obtain ⟨y, rfl⟩ : ∃ y : Nat, out = (y : Int) := ⟨out.toNat, by omega⟩
    have hgx := encK_get n.blocks x (by omega)
    have hgy := encK_get n.blocks y (by omega)
    have hx0 : (0 : Int) ≤ (x : Int) ∧ (x : Int) < (n.blocks.length : Int) := by omega
    have hy0 : (0 : Int) ≤ (y : Int) ∧ (y : Int) < (n.blocks.length : Int) := by omega
    simp only [go_sem, Nt.cs, encP_len, c4, Int.toNat_natCast, hg, hi0]
    refine X_any0 mixed (p := [(0, 0), (1, 0), (2, 0), (3, 0), (4, 0), (5, 0), (6, 0), (7, 0), (8, 0), (9, 0), (10, 0), (11, 0), (12, 0), (13, 0), (14, 0), (15, 0), (17, 0), (18, 0), (16, 1), (19, 1), (20, 0), (21, 1), (22, 3)]) (by kernel_rfl) (by simp [LeH, get]) ?_
    simp only [go_sem, Nt.cs, encK_len, Int.toNat_natCast, hgx, hgy, hx0, hy0]
    cases dp
    · simp only [go_sem, encC_len]
      refine ⟨⟨wid1 _ _ rfl, by omega⟩, ?_⟩
      simp only [go_sem, hw]
      refine ih (i + 1, acc3 ++ [sprD n ⟨nm, false, (x : Int), (y : Int), sl, bs⟩]) _ ⟨hit, by simp; omega, by simp only; rw [hts, List.map_append, hacc3, List.append_assoc]; rfl⟩ (by simp only; omega) ?_
      (refine Wk.forget ?_; simp [Le, LeE, LeH, get, envIds, hpIds, KeepH, D.ids, idsL, AO.ids, setL, base, Nt.cs, encC_snoc, encC_len, sprD, bnm, encS, encI]; done)
    · simp only [go_sem, encC_len]
      refine ⟨⟨wid1 _ _ rfl, by omega⟩, ?_⟩
      simp only [go_sem, hw]
      refine ih (i + 1, acc3 ++ [sprD n ⟨nm, true, (x : Int), (y : Int), sl, bs⟩]) _ ⟨hit, by simp; omega, by simp only; rw [hts, List.map_append, hacc3, List.append_assoc]; rfl⟩ (by simp only; omega) ?_
      (refine Wk.forget ?_; simp [Le, LeE, LeH, get, envIds, hpIds, KeepH, D.ids, idsL, AO.ids, setL, base, Nt.cs, encC_snoc, encC_len, sprD, bnm, encS, encI]; done)
  have hie : i = n.spurs.length := by have := of_decide_eq_false c4; omega
  subst hie
  clear ih
  simp only [go_sem, Nt.cs, encP_len, c4]
  have hd3e : acc3 = desc1 n ++ desc2 n n.blocks.length ++ desc3 n := by rw [hacc3, List.take_length]; rfl
  have hd3 : True := trivial
  have hbnd : ∀ k, k < n.spurs.length → 0 ≤ (n.spurs.getD k spr0).base ∧ (n.spurs.getD k spr0).base ≤ 1000 ∧ 1 ≤ (n.spurs.getD k spr0).slots ∧ (n.spurs.getD k spr0).slots ≤ 4 := fun k hk => by
    have h3 := hsp k hk
    have h4 := sumS_rng n.blocks.length n.spurs k (by omega) (fun j hj => hsp j (by omega))
    obtain ⟨_, _, _, _, h5, h6, h7⟩ := h3
    omega
  refine X_loop_inv (fun q : Nat × List Dc => ⟨[(1, .ptr 1 0), (4, .ref 43 0 q.2.length q.2.length), (12, .p (.int .i64 (q.1 : Nat)))], [(1, .box (Nt.cs n)), (43, .arr 43 4 (encC q.2))], 210⟩)
    (fun q => q.1 ≤ n.robots.length ∧ q.2.length ≤ 300 + 6 * q.1 ∧ q.2 = acc3 ++ desc4 n q.1) (fun q => n.robots.length - q.1) (0, acc3) ⟨Nat.zero_le _, by simp only; omega, by simp [desc4]⟩ (Wk.forget (by simp [Le, LeE, LeH, get, envIds, hpIds, KeepH, D.ids, idsL, AO.ids, setL, base, Nt.cs, encC])) ?_
  rintro ⟨i, acc4⟩ m5 ⟨hi3, hal4, hacc4⟩ ih
  simp only at hi3 hal4 hacc4
  cases c5 : decide ((i : Int) < (n.robots.length : Int))
  rotate_left
  · have hit : i < n.robots.length := by have := of_decide_eq_true c5; omega
    have hw := wrap_succ i (by omega)
    have hgr := encI_get n.robots i hit
    have hi0 : (0 : Int) ≤ (i : Int) ∧ (i : Int) < (n.robots.length : Int) := by omega
    have hd4 := desc4_succ n i hit
    have hrng : ∃ s ∈ n.spurs, inD (n.robots.getD i 0) s = true := List.any_eq_true.1 (hrb i hit).1
    generalize n.robots.getD i 0 = x at *
    simp only [go_sem, Nt.cs, encI_len, c5]
    refine X_loop_inv (fun q : Nat × List Dc => ⟨[(1, .ptr 1 0), (4, .ref 43 0 q.2.length q.2.length), (12, .p (.int .i64 (i : Nat))), (13, .p (.int .i64 (q.1 : Nat)))], [(1, .box (Nt.cs n)), (43, .arr 43 4 (encC q.2))], 210⟩)
      (fun q => q.1 ≤ n.spurs.length ∧ q.2.length ≤ acc4.length + q.1 ∧ q.2 = acc4 ++ robL n x q.1) (fun q => n.spurs.length - q.1) (0, acc4) ⟨Nat.zero_le _, by simp, by simp [robL]⟩ (Wk.forget (by simp [Le, LeE, LeH, get, envIds, hpIds, KeepH, D.ids, idsL, AO.ids, setL, base, Nt.cs, encC])) ?_
    rintro ⟨k, acc5⟩ m6 ⟨hk, hal5, hacc5⟩ ih2
    simp only at hk hal5 hacc5
    cases c6 : decide ((k : Int) < (n.spurs.length : Int))
    · have hke : k = n.spurs.length := by have := of_decide_eq_false c6; omega
      subst hke
      simp only [go_sem, Nt.cs, encP_len, c6, hw]
      refine ih (i + 1, acc5) _ ⟨hit, by simp only; omega, by simp only; rw [hacc5, hd4, hacc4, List.append_assoc]⟩ (by simp only; omega) ?_
      (refine Wk.forget ?_; simp [Le, LeE, LeH, get, envIds, hpIds, KeepH, D.ids, idsL, AO.ids, setL, base, Nt.cs]; done)
    have hkt : k < n.spurs.length := by have := of_decide_eq_true c6; omega
    have hwk := wrap_succ k (by omega)
    have hgk := encP_get n.spurs k hkt
    have hk0 : (0 : Int) ≤ (k : Int) ∧ (k : Int) < (n.spurs.length : Int) := by omega
    have hb := hbnd k hkt
    have hrs := robL_succ n x k hkt
    generalize n.spurs.getD k spr0 = s at *
    obtain ⟨nm, dp, inn, out, sl, bs⟩ := s
    simp only at hb
    have hwb : IntKind.i64.wrap (bs + sl) = bs + sl := by rw [wrap_i64_id] <;> omega
    simp only [go_sem, Nt.cs, encP_len, c6, Int.toNat_natCast, hgk, hk0]
    refine X_any0 mixed (p := [(0, 0), (1, 0), (2, 0), (3, 0), (4, 0), (5, 0), (6, 0), (7, 0), (8, 0), (9, 0), (10, 0), (11, 0), (12, 0), (13, 0), (14, 0), (15, 0), (16, 0), (17, 0), (18, 0), (19, 0), (20, 0)]) (by kernel_rfl) (by simp [LeH, get]) ?_
    cases c7 : decide (bs ≤ x)
    · simp only [go_sem, Nt.cs, encI_len, Int.toNat_natCast, hgr, hi0, c7, hwk]
      refine ih2 (k + 1, acc5) _ ⟨hkt, by simp only; omega, by simp only; rw [hrs, hacc5]; simp [inS, c7]⟩ (by simp only; omega) ?_
      (refine Wk.forget ?_; simp [Le, LeE, LeH, get, envIds, hpIds, KeepH, D.ids, idsL, AO.ids, setL, base, Nt.cs]; done)
    cases c8 : decide (x < bs + sl)
    · simp only [go_sem, Nt.cs, encI_len, Int.toNat_natCast, hgr, hi0, c7, hwb, c8, hwk]
      refine ih2 (k + 1, acc5) _ ⟨hkt, by simp only; omega, by simp only; rw [hrs, hacc5]; simp [inS, c7, c8]⟩ (by simp only; omega) ?_
      (refine Wk.forget ?_; simp [Le, LeE, LeH, get, envIds, hpIds, KeepH, D.ids, idsL, AO.ids, setL, base, Nt.cs]; done)
    have hx1 := of_decide_eq_true c7
    have hx2 := of_decide_eq_true c8
    have hwd : IntKind.i64.wrap (x - bs) = x - bs := by rw [wrap_i64_id] <;> omega
    have hwe : IntKind.i64.wrap (x - bs + 1) = x - bs + 1 := by rw [wrap_i64_id] <;> omega
    simp only [go_sem, Nt.cs, encI_len, Int.toNat_natCast, hgr, hi0, c7, hwb, c8]
    refine X_any [(1, .box (Nt.cs n)), (14, .box [.p (.str nm), .p (.bool dp), .p (.int .i64 inn), .p (.int .i64 out), .p (.int .i64 sl), .p (.int .i64 bs)])] mixed (p := [(0, 0), (1, 0), (2, 0), (4, 0), (5, 0), (6, 0), (7, 0), (8, 0), (9, 0), (10, 0), (11, 0), (12, 0), (3, 1), (13, 1), (14, 0), (15, 2), (16, 2), (17, 0)]) (by kernel_rfl) (by simp [LeH, get, Nt.cs]) ?_
    simp only [go_sem, Nt.cs, encI_len, Int.toNat_natCast, hgr, hi0, hwd, hwe, encC_len]
    refine ⟨⟨wid1 _ _ rfl, by omega⟩, ?_⟩
    simp only [go_sem, hwk]
    refine ih2 (k + 1, acc5 ++ [robD x ⟨nm, dp, inn, out, sl, bs⟩]) _ ⟨hkt, by simp; omega, by simp only; rw [hrs, hacc5]; simp [inS, c7, c8]⟩ (by simp only; omega) ?_
    (refine Wk.forget ?_; simp [Le, LeE, LeH, get, envIds, hpIds, KeepH, D.ids, idsL, AO.ids, setL, base, Nt.cs, encC_snoc, encC_len, robD, encS, encI]; done)
  have hie : i = n.robots.length := by have := of_decide_eq_false c5; omega
  subst hie
  clear ih
  simp only [go_sem, Nt.cs, encI_len, c5, encC_len]
  refine ⟨⟨wid1 _ _ rfl, by omega⟩, ?_⟩
  have hd0 : acc4 ++ [⟨6, 0, [], [n.cq, n.ca, n.cd, n.cp]⟩] = desc0 n := by rw [hacc4, hd3e]; rfl
  have hLn : (desc0 n).length ≤ 400 := by rw [← hd0]; simp; omega
  have hdv : numD 0 (desc0 n) = descV n := rfl
  generalize desc0 n = L at *
  refine X_loop_inv (fun q : Nat × List Dc => ⟨[(4, .ref 43 0 q.2.length q.2.length), (16, .p (.int .i64 (q.1 : Nat)))], [(43, .arr 43 4 (encC q.2))], 210⟩)
    (fun q => q.1 ≤ L.length ∧ q.2 = numD 0 (L.take q.1) ++ L.drop q.1) (fun q => L.length - q.1) (0, L) ⟨Nat.zero_le _, by simp [numD]⟩ (Wk.forget (by simp [Le, LeE, LeH, get, envIds, hpIds, KeepH, D.ids, idsL, AO.ids, setL, base, ← hd0, encC_snoc, encS, encI, encC_len])) ?_
  rintro ⟨i, o⟩ m7 ⟨hi4, ho⟩ ih
  simp only at hi4 ho
  have hol : o.length = L.length := by rw [ho]; simp [numD_len]; omega
  cases c9 : decide ((i : Int) < (L.length : Int))
  · have hie : i = L.length := by have := of_decide_eq_false c9; omega
    subst hie
    simp only [go_sem, encC_len, hol, c9]
    rw [List.take_length, List.drop_length, List.append_nil] at ho
    subst ho
    rw [hdv]
    refine end_own ?_
    simp only [go_sem]
    have hLL : L.length = (descV n).length := by rw [← hdv, numD_len]
    first | (rw [hLL]; done) | exact ⟨rfl, by rw [hLL]⟩ | (rw [hLL])
  · have hit : i < L.length := by have := of_decide_eq_true c9; omega
    have hw := wrap_succ i (by omega)
    have hi0 : (0 : Int) ≤ (i : Int) ∧ (i : Int) < (L.length : Int) := by omega
    have hgx := encC_get o i (by omega)
    have hox : o.getD i dc0 = L.getD i dc0 := by
      rw [ho, List.getD, List.getElem?_append_right (by rw [numD_len, List.length_take]; omega), List.getElem?_drop, numD_len, List.length_take, List.getD]
      congr 2; omega
    rw [hox] at hgx
    have hset := numD_set L i hit
    rw [← ho] at hset
    generalize L.getD i dc0 = x at *
    simp only [go_sem, encC_len, hol, c9, Int.toNat_natCast, hi0, hgx, hw]
    refine ih (i + 1, o.set i ⟨x.word, (i : Int) + 1, x.names, x.nums⟩) _ ⟨hit, hset⟩ (by simp only; omega) ?_
    (refine Wk.forget ?_; simp [Le, LeE, LeH, get, envIds, hpIds, KeepH, D.ids, idsL, AO.ids, setL, base, encC_setx, encC_len, hol]; done)
end Go.Am
end
section
namespace Go.Am
open Go
section
variable {P : Program} {c : Ctx} {a : Act} {w : World} {M : Nat → Mb}
end
theorem Cc_wk {P : Program} {ops rest : List Oper} {k : Kt} {dst : Option Nat} {st st0 st1 : St} {h : Hp} {T : List Nat} {f : FuncId} {ds : List D} {hs : Hp} {o : Oper} (hw : Wk st0 st1) (hd : Do P true ops rest k o st1) :
    Cc P true ops rest k dst st h T f ds hs (Sm P true ops rest k o st0) := by
  refine .inr ⟨rfl, fun c a w F M Q hr => ?_⟩
  obtain ⟨F1, M1, hr1⟩ := hw c a w F M hr
  exact wDo_sound hr1 hd Q
end Go.Am
end
section
namespace Go.Am
open Go Go.Proofs
set_option maxRecDepth 100000
set_option linter.unusedVariables false
set_option linter.unusedSimpArgs false
def nextO {σ ε : Type} (f : σ → Option ε) : σ ⊕ ε → Option ε
  | .inl s => f s
  | .inr e => some e
theorem nextO_inl {σ ε : Type} (f : σ → Option ε) (s : σ) : nextO f (.inl s) = f s := rfl
theorem nextO_inr {σ ε : Type} (f : σ → Option ε) (e : ε) : nextO f (.inr e) = some e := rfl
def iterO {σ ε : Type} (step : σ → Option (σ ⊕ ε)) : Nat → σ → Option ε
  | 0, _ => none
  | n + 1, s => (step s).bind (nextO (iterO step n))
noncomputable def loopO {σ ε : Type} (step : σ → Option (σ ⊕ ε)) (s : σ) : Option ε :=
  open Classical in if h : ∃ n e, iterO step n s = some e then some (Classical.choose (Classical.choose_spec h)) else none
theorem iterO_mono {σ ε : Type} {step : σ → Option (σ ⊕ ε)} : ∀ {n m : Nat} {s : σ} {e : ε}, iterO step n s = some e → n ≤ m → iterO step m s = some e
  | 0, _, _, _, h, _ => by simp [iterO] at h
  | n + 1, 0, _, _, _, h => by omega
  | n + 1, m + 1, s, e, h, hm => by
    simp only [iterO] at h ⊢
    cases hs : step s with
    | none => rw [hs] at h; simp at h
    | some y =>
      rw [hs] at h
      cases y with
      | inl s' => exact iterO_mono (n := n) (m := m) (by simpa [nextO] using h) (by omega)
      | inr e' => simpa [nextO] using h
theorem loopO_iff {σ ε : Type} {step : σ → Option (σ ⊕ ε)} {s : σ} {e : ε} : loopO step s = some e ↔ ∃ n, iterO step n s = some e := by
  constructor
  · intro h
    unfold loopO at h
    split at h
    · rename_i hh
      have h1 := Classical.choose_spec (Classical.choose_spec hh)
      rw [Option.some.inj h] at h1
      exact ⟨_, h1⟩
    · cases h
  · rintro ⟨n, hn⟩
    unfold loopO
    have hh : ∃ n e, iterO step n s = some e := ⟨n, e, hn⟩
    rw [dif_pos hh]
    have h1 := Classical.choose_spec (Classical.choose_spec hh)
    have a := iterO_mono h1 (Nat.le_max_left _ n)
    have b := iterO_mono hn (Nat.le_max_right (Classical.choose hh) n)
    rw [a] at b
    exact b
theorem loopO_step {σ ε : Type} (step : σ → Option (σ ⊕ ε)) (s : σ) : loopO step s = (step s).bind (nextO (loopO step)) := by
  apply Option.ext
  intro e
  rw [loopO_iff]
  constructor
  · rintro ⟨n, hn⟩
    cases n with
    | zero => simp [iterO] at hn
    | succ n =>
      simp only [iterO] at hn
      cases hs : step s with
      | none => rw [hs] at hn; simp at hn
      | some y =>
        rw [hs] at hn
        cases y with
        | inl s' => exact loopO_iff.2 ⟨n, by simpa [nextO] using hn⟩
        | inr e' => simpa [nextO] using hn
  · intro h
    cases hs : step s with
    | none => rw [hs] at h; simp at h
    | some y =>
      rw [hs] at h
      cases y with
      | inl s' =>
        obtain ⟨n, hn⟩ := loopO_iff.1 (show loopO step s' = some e by simpa [nextO] using h)
        exact ⟨n + 1, by simpa [iterO, hs, nextO] using hn⟩
      | inr e' => exact ⟨1, by simpa [iterO, hs, nextO] using h⟩
theorem loopO_for {σ ε : Type} {step : σ → Option (σ ⊕ ε)} (n : Nat) (S : Nat → σ) (out : ε) (early : Nat → Option ε)
    (h1 : ∀ i, i < n → (∀ j, j < i → early j = none) → step (S i) = some (match early i with | some e => .inr e | none => .inl (S (i + 1)))) (h2 : (∀ j, j < n → early j = none) → step (S n) = some (.inr out)) :
    loopO step (S 0) = some (((List.range n).findSome? early).getD out) := by
  have key : ∀ m i, i + m = n → (∀ j, j < i → early j = none) → loopO step (S i) = some ((((List.range n).drop i).findSome? early).getD out) := by
    intro m
    induction m with
    | zero =>
      intro i hi hj
      obtain rfl : i = n := by omega
      rw [loopO_step, h2 hj, List.drop_of_length_le (by simp)]
      rfl
    | succ m ih =>
      intro i hi hj
      rw [loopO_step, h1 i (by omega) hj]
      have hd : (List.range n).drop i = i :: (List.range n).drop (i + 1) := by
        rw [List.drop_eq_getElem_cons (by simp; omega)]; simp
      rw [hd, List.findSome?_cons]
      cases he : early i with
      | some e => simp [nextO]
      | none =>
        simp only [Option.bind_some, nextO]
        exact ih (i + 1) (by omega) (fun j hj2 => by
          by_cases e : j = i
          · rw [e]; exact he
          · exact hj j (by omega))
  have := key n 0 (by omega) (fun j hj => by omega)
  simpa using this
section
variable {P : Program} {st : St} {x : Code} {k : Kt}
theorem X_loopO {σ ε : Type} {step : σ → Option (σ ⊕ ε)} {s0 : σ} {e : ε} (hr : loopO step s0 = some e) (S : σ → St) (hw : Wk st (S s0))
    (hs : ∀ s n, (step s).bind (nextO (iterO step n)) = some e → (∀ s' st', iterO step n s' = some e → Wk st' (S s') → L P x k n st') → X P x (.lp x n k) (S s)) : X P (.loop x) k st := by
  obtain ⟨n, hn⟩ := loopO_iff.1 hr
  have key : ∀ n s, iterO step n s = some e → L P x k n (S s) := by
    intro n
    induction n with
    | zero => intro s h; simp [iterO] at h
    | succ n ih => intro s h; exact ⟨S s, Wk.refl _, hs s n h fun s' st' h' hw' => L_wk hw' (ih s' h')⟩
  exact X_loop _ (L_wk hw (key n s0 hn))
end
def idxO {α : Type} (l : List α) (i : Int) : Option α := if 0 ≤ i then l[i.toNat]? else none
theorem idxO_some {α : Type} {l : List α} {i : Int} {x : α} (h : idxO l i = some x) : (0 ≤ i ∧ i < (l.length : Int)) ∧ l[i.toNat]? = some x := by
  unfold idxO at h
  split at h
  · have := (List.getElem?_eq_some_iff.1 h).1
    exact ⟨by omega, h⟩
  · cases h
theorem idxO_rng {α : Type} {l : List α} {i : Int} {x : α} (h : idxO l i = some x) : 0 ≤ i ∧ i < (l.length : Int) := (idxO_some h).1
theorem idxO_map {α : Type} {l : List α} {i : Int} {x : α} (f : α → List Pd) (h : idxO l i = some x) : (l.map f).getD i.toNat [] = f x := by
  simp [List.getD, (idxO_some h).2]
theorem idxO_nat {α : Type} (l : List α) (i : Nat) : idxO l (i : Int) = l[i]? := by
  unfold idxO; rw [if_pos (by omega)]; rfl
structure Cfg4 where
  cq : Int
  ca : Int
  cd : Int
  cp : Int
theorem encI_nil : encI [] = [] := rfl
theorem encS_nil : encS [] = [] := rfl
theorem encT_nil : encT [] = [] := rfl
theorem encG_nil : encG [] = [] := rfl
theorem encC_nil : encC [] = [] := rfl
theorem encL_nil : encL [] = [] := rfl
theorem encK_nil : encK [] = [] := rfl
theorem encP_nil : encP [] = [] := rfl
theorem encT_len2 (l : List Bool) : (encT l).length = l.length := by simp [encT]
theorem encG_len2 (l : List (List Int)) : (encG l).length = l.length := by simp [encG]
theorem encK_len2 (l : List Blk) : (encK l).length = l.length := by simp [encK]
theorem encP_len2 (l : List Spr) : (encP l).length = l.length := by simp [encP]
theorem encI_snocF (l : List Int) (x : Int) : encI l ++ [[.int .i64 x]] = encI (l ++ [x]) := by simp [encI]
theorem encG_snocN (l : List (List Int)) : encG l ++ [[.sl []]] = encG (l ++ [[]]) := by simp [encG, encI]
theorem encC_snocF (l : List Dc) (a b : Int) (c : List (List UInt8)) (d : List Int) : encC l ++ [[.int .i64 a, .int .i64 b, .sl (encS c), .sl (encI d)]] = encC (l ++ [⟨a, b, c, d⟩]) := by simp [encC]
theorem encK_snocF (l : List Blk) (a : List UInt8) (b c : Int) : encK l ++ [[.str a, .int .i64 b, .int .i64 c]] = encK (l ++ [⟨a, b, c⟩]) := by simp [encK]
theorem encP_snocF (l : List Spr) (a : List UInt8) (b : Bool) (c d e f : Int) : encP l ++ [[.str a, .bool b, .int .i64 c, .int .i64 d, .int .i64 e, .int .i64 f]] = encP (l ++ [⟨a, b, c, d, e, f⟩]) := by simp [encP]
theorem encT_snocE (l : List Bool) (x : Bool) : encT (l ++ [x]) = encT l ++ [[.bool x]] := by simp [encT]
theorem encG_snocE (l : List (List Int)) (x : List Int) : encG (l ++ [x]) = encG l ++ [[.sl (encI x)]] := by simp [encG]
theorem encK_snocE (l : List Blk) (x : Blk) : encK (l ++ [x]) = encK l ++ [[.str x.name, .int .i64 x.x, .int .i64 x.y]] := by simp [encK]
theorem encP_snocE (l : List Spr) (x : Spr) : encP (l ++ [x]) = encP l ++ [[.str x.name, .bool x.depot, .int .i64 x.inn, .int .i64 x.out, .int .i64 x.slots, .int .i64 x.base]] := by simp [encP]
theorem encI_setF (l : List Int) (i : Nat) (x : Int) : (encI l).set i [.int .i64 x] = encI (l.set i x) := by simp [encI, List.map_set]
theorem encG_setF (l : List (List Int)) (i : Nat) (x : List Int) : (encG l).set i [.sl (encI x)] = encG (l.set i x) := by simp [encG, List.map_set]
theorem encC_setF (l : List Dc) (i : Nat) (a b : Int) (c : List (List UInt8)) (d : List Int) : (encC l).set i [.int .i64 a, .int .i64 b, .sl (encS c), .sl (encI d)] = encC (l.set i ⟨a, b, c, d⟩) := by simp [encC, List.map_set]
theorem encP_setF (l : List Spr) (i : Nat) (a : List UInt8) (b : Bool) (c d e f : Int) : (encP l).set i [.str a, .bool b, .int .i64 c, .int .i64 d, .int .i64 e, .int .i64 f] = encP (l.set i ⟨a, b, c, d, e, f⟩) := by simp [encP, List.map_set]
theorem encI_takeF (l : List Int) : (encI l).take l.length = encI l := by simp [encI, ← List.map_take]
theorem encS_takeF (l : List (List UInt8)) : (encS l).take l.length = encS l := by simp [encS, ← List.map_take]
theorem encT_takeF (l : List Bool) : (encT l).take l.length = encT l := by simp [encT, ← List.map_take]
theorem encG_takeF (l : List (List Int)) : (encG l).take l.length = encG l := by simp [encG, ← List.map_take]
theorem encC_takeF (l : List Dc) : (encC l).take l.length = encC l := by simp [encC, ← List.map_take]
theorem encL_takeF (l : List Ln) : (encL l).take l.length = encL l := by simp [encL, ← List.map_take]
theorem encK_takeF (l : List Blk) : (encK l).take l.length = encK l := by simp [encK, ← List.map_take]
theorem encP_takeF (l : List Spr) : (encP l).take l.length = encP l := by simp [encP, ← List.map_take]
theorem encC_takeS (l : List Dc) (i : Nat) (x : Dc) : (encC (l.set i x)).take l.length = encC (l.set i x) := by rw [List.take_of_length_le]; simp [encC]
theorem encI_wid (l : List Int) : Wid 1 (encI l) := by simp [Wid, encI]
theorem encS_wid (l : List (List UInt8)) : Wid 1 (encS l) := by simp [Wid, encS]
theorem encG_wid (l : List (List Int)) : Wid 1 (encG l) := by simp [Wid, encG]
theorem encK_wid (l : List Blk) : Wid 3 (encK l) := by simp [Wid, encK]
theorem encP_wid (l : List Spr) : Wid 6 (encP l) := by simp [Wid, encP]
theorem encT_setE (l : List Bool) (i : Nat) (x : Bool) : encT (l.set i x) = (encT l).set i [.bool x] := by simp [encT, List.map_set]
theorem encG_setE (l : List (List Int)) (i : Nat) (x : List Int) : encG (l.set i x) = (encG l).set i [.sl (encI x)] := by simp [encG, List.map_set]
theorem encC_setE (l : List Dc) (i : Nat) (x : Dc) : encC (l.set i x) = (encC l).set i [.int .i64 x.word, .int .i64 x.line, .sl (encS x.names), .sl (encI x.nums)] := by simp [encC, List.map_set]
theorem encK_setE (l : List Blk) (i : Nat) (x : Blk) : encK (l.set i x) = (encK l).set i [.str x.name, .int .i64 x.x, .int .i64 x.y] := by simp [encK, List.map_set]
theorem encP_setE (l : List Spr) (i : Nat) (x : Spr) : encP (l.set i x) = (encP l).set i [.str x.name, .bool x.depot, .int .i64 x.inn, .int .i64 x.out, .int .i64 x.slots, .int .i64 x.base] := by simp [encP, List.map_set]
theorem encI_one (x : Int) : encI [x] = [[.int .i64 x]] := rfl
theorem encS_one (x : List UInt8) : encS [x] = [[.str x]] := rfl
theorem encT_one (x : Bool) : encT [x] = [[.bool x]] := rfl
theorem encI_consE (x : Int) (l : List Int) : encI (x :: l) = [.int .i64 x] :: encI l := rfl
theorem encS_consE (x : List UInt8) (l : List (List UInt8)) : encS (x :: l) = [.str x] :: encS l := rfl
theorem encT_consE (x : Bool) (l : List Bool) : encT (x :: l) = [.bool x] :: encT l := rfl
theorem encG_consE (x : List Int) (l : List (List Int)) : encG (x :: l) = [.sl (encI x)] :: encG l := rfl
attribute [go_sem] encI_len encS_len encT_len2 encG_len2 encC_len encL_len encK_len2 encP_len2
attribute [go_sem] List.length_set encG_snocN encI_snocF encC_snocF encK_snocF encP_snocF
attribute [go_sem] encI_setF encG_setF encC_setF encP_setF
attribute [go_sem] encI_takeF encS_takeF encT_takeF encG_takeF encC_takeF encL_takeF encK_takeF encP_takeF Int.toNat_natCast
attribute [go_sem] KK.fit mfit_S mget_S look_S mset_S mpS_nil Pd.flat mfit_B mget_B look_B mset_B mdel_B mpB_nil mpS_len mpB_len
attribute [go_sem] encC_takeS
theorem bE {α β : Type} {a : Option α} {f : α → Option β} {r : β} (h : a.bind f = some r) : ∃ x, a = some x ∧ f x = some r := by
  cases a with
  | none => cases h
  | some x => exact ⟨x, rfl, h⟩
theorem bK {α β γ : Type} {a : Option α} {f : α → Option β} {k : β → Option γ} {r : γ} (h : (a.bind f).bind k = some r) : ∃ x, a = some x ∧ (f x).bind k = some r := by
  cases a with
  | none => cases h
  | some x => exact ⟨x, rfl, h⟩
theorem gE {α : Type} {c : Bool} {x : Option α} {r : α} (h : cond c x none = some r) : c = true ∧ x = some r := by
  cases c with
  | false => cases h
  | true => exact ⟨rfl, h⟩
theorem gK {α γ : Type} {c : Bool} {x : Option α} {k : α → Option γ} {r : γ} (h : (cond c x none).bind k = some r) : c = true ∧ x.bind k = some r := by
  cases c with
  | false => cases h
  | true => exact ⟨rfl, h⟩
theorem ZE : (type_of% @encI_nil) ∧ (type_of% @encS_nil) ∧ (type_of% @encT_nil) ∧ (type_of% @encG_nil) ∧ (type_of% @encC_nil) ∧ (type_of% @encL_nil) ∧ (type_of% @encK_nil) ∧ (type_of% @encP_nil) ∧ (type_of% @mpS_nil) ∧ (type_of% @mpB_nil) ∧ (type_of% @encI_consE) ∧ (type_of% @encS_consE) ∧ (type_of% @encT_consE) ∧ (type_of% @encG_consE) ∧ (type_of% @encI_one) ∧ (type_of% @encS_one) ∧ (type_of% @encT_one) ∧ (type_of% @encI_snoc) ∧ (type_of% @encS_snoc) ∧ (type_of% @encT_snocE) ∧ (type_of% @encG_snocE) ∧ (type_of% @encC_snoc) ∧ (type_of% @encL_snoc) ∧ (type_of% @encK_snocE) ∧ (type_of% @encP_snocE) ∧ (type_of% @encI_set) ∧ (type_of% @encS_set) ∧ (type_of% @encT_setE) ∧ (type_of% @encG_setE) ∧ (type_of% @encC_setE) ∧ (type_of% @encK_setE) ∧ (type_of% @encP_setE) ∧ (type_of% @encI_len) ∧ (type_of% @encS_len) ∧ (type_of% @encT_len2) ∧ (type_of% @encG_len2) ∧ (type_of% @encC_len) ∧ (type_of% @encL_len) ∧ (type_of% @encK_len2) ∧ (type_of% @encP_len2) := ⟨@encI_nil, @encS_nil, @encT_nil, @encG_nil, @encC_nil, @encL_nil, @encK_nil, @encP_nil, @mpS_nil, @mpB_nil, @encI_consE, @encS_consE, @encT_consE, @encG_consE, @encI_one, @encS_one, @encT_one, @encI_snoc, @encS_snoc, @encT_snocE, @encG_snocE, @encC_snoc, @encL_snoc, @encK_snocE, @encP_snocE, @encI_set, @encS_set, @encT_setE, @encG_setE, @encC_setE, @encK_setE, @encP_setE, @encI_len, @encS_len, @encT_len2, @encG_len2, @encC_len, @encL_len, @encK_len2, @encP_len2⟩
theorem ZB : (type_of% @encI_takeF) ∧ (type_of% @encS_takeF) ∧ (type_of% @encT_takeF) ∧ (type_of% @encG_takeF) ∧ (type_of% @encC_takeF) ∧ (type_of% @encL_takeF) ∧ (type_of% @encK_takeF) ∧ (type_of% @encP_takeF) ∧ (type_of% @encI_len) ∧ (type_of% @encS_len) ∧ (type_of% @encT_len2) ∧ (type_of% @encG_len2) ∧ (type_of% @encC_len) ∧ (type_of% @encL_len) ∧ (type_of% @encK_len2) ∧ (type_of% @encP_len2) ∧ (type_of% @encI_nil) ∧ (type_of% @encS_nil) ∧ (type_of% @encT_nil) ∧ (type_of% @encG_nil) ∧ (type_of% @encC_nil) ∧ (type_of% @encL_nil) ∧ (type_of% @encK_nil) ∧ (type_of% @encP_nil) := ⟨@encI_takeF, @encS_takeF, @encT_takeF, @encG_takeF, @encC_takeF, @encL_takeF, @encK_takeF, @encP_takeF, @encI_len, @encS_len, @encT_len2, @encG_len2, @encC_len, @encL_len, @encK_len2, @encP_len2, @encI_nil, @encS_nil, @encT_nil, @encG_nil, @encC_nil, @encL_nil, @encK_nil, @encP_nil⟩
end Go.Am
end
section
namespace Go.Am
open Go Go.Proofs
set_option maxRecDepth 100000
set_option linter.unusedVariables false
set_option linter.unusedSimpArgs false
set_option maxHeartbeats 2000000 in
theorem loose_ok (l : List Int) (at_ most : Nat) (hat : at_ < 90000) (hm1 : 1 ≤ most) (hm2 : most ≤ 10) :
    ACalls Try.prog 6 [.ptr 1000000 0, .p (.int .i64 (most : Nat))] [(1000000, .box (tapeC l at_))]
      fun h r => ∃ at2 n, at2 ≤ at_ + 300 ∧ (validN n ∧ n.blocks.length ≤ 10) ∧ h = [(1000000, .box (tapeC l at2))] ∧ r = .agg n.cs := by
  refine ACalls_X Try.func6 rfl enters6 (by simp [Try.f6]) ?_
  simp only [go_sem, tapeC]
  refine Cc_of (net_own l at_ most (by omega) hm1 hm2) ?_
  rintro h' r ⟨a, n, ha, hP, rfl, rfl⟩
  have hval := hP.valid
  obtain ⟨⟨nb1, nb2⟩, _, hnl, hnx, hns, _, hss, hrl, hrb, _⟩ := hP
  obtain ⟨bl, nx, sp, rb, cq, ca, cd, cp⟩ := n
  simp only at nb1 nb2 hnl hnx hns hss hrl hrb
  obtain ⟨q1, hq1, hq1b⟩ := nextV_rng l a 3 (by omega)
  have hV : ∀ (nx' : List (List Int)) (rb' : List Int), (nx'.length = bl.length ∧ ∀ i, i < bl.length → (nx'.getD i []).length ≤ 4 ∧ rowP bl.length i (nx'.getD i [])) → robotsP sp rb' → rb'.length ≤ 8 → validN ⟨bl, nx', sp, rb', cq, ca, cd, cp⟩ ∧ (⟨bl, nx', sp, rb', cq, ca, cd, cp⟩ : Nt).blocks.length ≤ 10 := by
    intro nx' rb' hn hr1 hr2
    obtain ⟨⟨v1, v2, v3, v4⟩, v5, v6, v7, v8, v9, v10, v11⟩ := hval
    exact ⟨⟨⟨v1, v2, hn.1, fun i hi => ⟨(v4 i hi).1, (hn.2 i hi).1, (hn.2 i hi).2⟩⟩, v5, v6, hr2, v8, v9, hr1, v11⟩, nb2⟩
  have hN0 : nx.length = bl.length ∧ ∀ i, i < bl.length → (nx.getD i []).length ≤ 4 ∧ rowP bl.length i (nx.getD i []) := by
    obtain ⟨⟨v1, v2, v3, v4⟩, _⟩ := hval
    exact ⟨v3, fun i hi => (v4 i hi).2⟩
  have hsum := sumS_rng bl.length sp sp.length (Nat.le_refl _) hss
  rw [List.take_length] at hsum
  have e1 := encK_take bl bl.length (Nat.le_refl _)
  have e3 := encP_take sp sp.length (Nat.le_refl _)
  have e4 := encI_take rb rb.length (Nat.le_refl _)
  simp only [go_sem, Nt.os, tapeC]
  refine Cc_of ((next_ok l a 3 (by omega) (in64_small _ (by omega) (by omega)))) ?_
  rintro h' r ⟨rfl, rfl⟩
  simp only [go_sem, tapeC, hq1]
  cases c1 : decide ((q1 : Int) = 0)
  · obtain ⟨q2, hq2, hq2b⟩ := nextV_rng l (a + 1) 3 (by omega)
    have hnl2 : nx.length = nx.length := rfl
    have e2 : List.take bl.length (encG nx) = encG nx := List.take_of_length_le (by simp [encG]; omega)
    simp only [go_sem, c1]
    refine Cc_of ((next_ok l (a + 1) 3 (by omega) (in64_small _ (by omega) (by omega)))) ?_
    rintro h' r ⟨rfl, rfl⟩
    simp only [go_sem, tapeC, hq2]
    cases c3 : decide ((q2 : Int) = 0)
    · simp only [go_sem, c3]
      refine end_pure ?_
      simp only [go_sem, encK_len, encG_len, hnl, hnl2, encP_len, encI_len, e1, e2, e3, e4]
      refine ⟨(a + 1) + 1, ⟨bl, nx, sp, rb, cq, ca, cd, cp⟩, by omega, hV nx rb hN0 hrb (by omega), ?_⟩
      first | exact ⟨rfl, rfl⟩ | rfl | (simp [Nt.cs]; done)
    simp only [go_sem, c3]
    refine X_loop_inv (fun q : Nat × List Int => ⟨[(0, .ptr 1000000 0), (4, .ptr 4 0), (5, .ptr 5 0), (6, .p (.int .i64 (q.1 : Nat)))],
        [(1000000, .box [.p (.sl (encI l)), .p (.int .i64 (((a + 1) + 1 : Nat) : Int))]), (4, .box [.cl [], .cl [], .cl [], .cl [], .p (.int .i64 0), .p (.int .i64 0), .p (.int .i64 0), .p (.int .i64 0)]),
         (5, .box [.ref 10011 0 bl.length bl.length, .ref 20011 0 nx.length nx.length, .ref 30011 0 sp.length sp.length, .ref 40011 0 q.2.length q.2.length, .p (.int .i64 cq), .p (.int .i64 ca), .p (.int .i64 cd), .p (.int .i64 cp)]),
         (10011, .arr 56 3 (encK bl)), (20011, .arr 23 1 (encG nx)), (30011, .arr 52 6 (encP sp)), (40011, .arr 3 1 (encI q.2))], 83⟩)
      (fun q => q.1 ≤ sp.length ∧ q.2.length ≤ 8 ∧ robotsP sp q.2) (fun q => sp.length - q.1) (0, rb) ⟨Nat.zero_le _, by simp only; omega, hrb⟩ (Wk.forget (by simp [Le, LeE, LeH, get, envIds, hpIds, KeepH, D.ids, idsL, AO.ids, setL, base, hnl2])) ?_
    rintro ⟨i, r1⟩ m4 ⟨hi, hr8, hr1⟩ ih4
    simp only at hi hr8 hr1
    have e4 := encI_take r1 r1.length (Nat.le_refl _)
    cases c5 : decide ((i : Int) < (sp.length : Int))
    · simp only [go_sem, encP_len, c5]
      refine end_pure ?_
      simp only [go_sem, encK_len, encG_len, hnl, hnl2, encP_len, encI_len, e1, e2, e3, e4]
      refine ⟨(a + 1) + 1, ⟨bl, nx, sp, r1, cq, ca, cd, cp⟩, by omega, hV nx r1 hN0 hr1 (by omega), ?_⟩
      first | exact ⟨rfl, rfl⟩ | rfl | (simp [Nt.cs]; done)
    have hit : i < sp.length := by have := of_decide_eq_true c5; omega
    have hwi := wrap_succ i (by omega)
    have hgs := encP_get sp i hit
    have hi0 : (0 : Int) ≤ (i : Int) ∧ (i : Int) < (sp.length : Int) := by omega
    have hmem := getD_mem sp i spr0 hit
    obtain ⟨_, _, _, _, g5, g6, g7⟩ := hss i hit
    obtain ⟨g8, g9, _⟩ := spur_rng hss hit
    generalize hse : sp.getD i spr0 = s at *
    simp only [go_sem, c5, encP_len]
    refine X_loop_inv (fun q : Nat × List Int => ⟨[(0, .ptr 1000000 0), (4, .ptr 4 0), (5, .ptr 5 0), (6, .p (.int .i64 (i : Nat))), (7, .p (.int .i64 (q.1 : Nat)))],
        [(1000000, .box [.p (.sl (encI l)), .p (.int .i64 (((a + 1) + 1 : Nat) : Int))]), (4, .box [.cl [], .cl [], .cl [], .cl [], .p (.int .i64 0), .p (.int .i64 0), .p (.int .i64 0), .p (.int .i64 0)]),
         (5, .box [.ref 10011 0 bl.length bl.length, .ref 20011 0 nx.length nx.length, .ref 30011 0 sp.length sp.length, .ref 40011 0 q.2.length q.2.length, .p (.int .i64 cq), .p (.int .i64 ca), .p (.int .i64 cd), .p (.int .i64 cp)]),
         (10011, .arr 56 3 (encK bl)), (20011, .arr 23 1 (encG nx)), (30011, .arr 52 6 (encP sp)), (40011, .arr 3 1 (encI q.2))], 83⟩)
      (fun q => q.1 ≤ 4 ∧ (q.1 : Int) ≤ s.slots ∧ q.2.length ≤ 8 ∧ robotsP sp q.2) (fun q => 4 - q.1) (0, r1) ⟨by simp, by simp only; omega, hr8, hr1⟩ (Wk.forget (by simp [Le, LeE, LeH, get, envIds, hpIds, KeepH, D.ids, idsL, AO.ids, setL, base, hnl2])) ?_
    rintro ⟨j, r2⟩ m5 ⟨hj4, hjs, hr28, hr2⟩ ih5
    simp only at hj4 hjs hr28 hr2
    cases c6 : decide ((j : Int) < s.slots)
    · simp only [go_sem, encP_len, Int.toNat_natCast, hgs, hi0, c6, hwi]
      refine ih4 (i + 1, r2) _ ⟨hit, hr28, hr2⟩ (by simp only; omega) ?_
      (refine Wk.forget ?_; simp [Le, LeE, LeH, get, envIds, hpIds, KeepH, D.ids, idsL, AO.ids, setL, base]; done)
    cases c7 : s.depot
    · simp only [go_sem, encP_len, Int.toNat_natCast, hgs, hi0, c6, c7, hwi]
      refine ih4 (i + 1, r2) _ ⟨hit, hr28, hr2⟩ (by simp only; omega) ?_
      (refine Wk.forget ?_; simp [Le, LeE, LeH, get, envIds, hpIds, KeepH, D.ids, idsL, AO.ids, setL, base]; done)
    cases c8 : decide ((r2.length : Int) < 8)
    · simp only [go_sem, encP_len, encI_len, Int.toNat_natCast, hgs, hi0, c6, c7, c8, hwi]
      refine ih4 (i + 1, r2) _ ⟨hit, hr28, hr2⟩ (by simp only; omega) ?_
      (refine Wk.forget ?_; simp [Le, LeE, LeH, get, envIds, hpIds, KeepH, D.ids, idsL, AO.ids, setL, base]; done)
    have hj6 : (j : Int) < s.slots := of_decide_eq_true c6
    have hr7 : r2.length < 8 := by have := of_decide_eq_true c8; omega
    have hwj := wrap_succ j (by omega)
    have hwx : IntKind.i64.wrap (s.base + (j : Int)) = s.base + (j : Int) := by rw [wrap_i64_id] <;> omega
    simp only [go_sem, encP_len, encI_len, Int.toNat_natCast, hgs, hi0, c6, c7, c8, hwx]
    refine Cc_bor rfl rfl (has_ok r2 (s.base + (j : Int)) (by omega)) (by simp [BorL, Bor, ev, get, List.take_of_length_le, ZB]) ?_
    rintro h' r ⟨rfl, rfl⟩
    refine ⟨rfl, rfl, ?_⟩
    cases c9 : decide (s.base + (j : Int) ∈ r2)
    rotate_left
    · simp only [go_sem, c9, hwj]
      refine ih5 (j + 1, r2) _ ⟨by simp only; omega, by simp only; omega, hr28, hr2⟩ (by simp only; omega) ?_
      (refine Wk.forget ?_; simp [Le, LeE, LeH, get, envIds, hpIds, KeepH, D.ids, idsL, AO.ids, setL, base]; done)
    have hni := of_decide_eq_false c9
    have hin : sp.any (inD (s.base + (j : Int))) = true := by
        rw [List.any_eq_true]
        exact ⟨s, hmem, by unfold inD; rw [c7]; simp; omega⟩
    simp only [go_sem, c9, encI_len]
    refine ⟨⟨wid1 _ _ rfl, by omega⟩, ?_⟩
    simp only [go_sem, hwj]
    refine ih5 (j + 1, r2 ++ [s.base + (j : Int)]) _ ⟨by simp only; omega, by simp only; omega, by simp; omega, robotsP_snoc hr2 hin hni⟩ (by simp only; omega) ?_
    (refine Wk.forget ?_; simp [Le, LeE, LeH, get, envIds, hpIds, KeepH, D.ids, idsL, AO.ids, setL, base, encI_snoc, encI_len]; done)
  cases c2 : decide (1 < (bl.length : Int))
  · obtain ⟨q2, hq2, hq2b⟩ := nextV_rng l (a + 1) 3 (by omega)
    have hnl2 : nx.length = nx.length := rfl
    have e2 : List.take bl.length (encG nx) = encG nx := List.take_of_length_le (by simp [encG]; omega)
    simp only [go_sem, c1, c2, encK_len]
    refine Cc_of ((next_ok l (a + 1) 3 (by omega) (in64_small _ (by omega) (by omega)))) ?_
    rintro h' r ⟨rfl, rfl⟩
    simp only [go_sem, tapeC, hq2]
    cases c3 : decide ((q2 : Int) = 0)
    · simp only [go_sem, c3]
      refine end_pure ?_
      simp only [go_sem, encK_len, encG_len, hnl, hnl2, encP_len, encI_len, e1, e2, e3, e4]
      refine ⟨(a + 1) + 1, ⟨bl, nx, sp, rb, cq, ca, cd, cp⟩, by omega, hV nx rb hN0 hrb (by omega), ?_⟩
      first | exact ⟨rfl, rfl⟩ | rfl | (simp [Nt.cs]; done)
    simp only [go_sem, c3]
    refine X_loop_inv (fun q : Nat × List Int => ⟨[(0, .ptr 1000000 0), (4, .ptr 4 0), (5, .ptr 5 0), (6, .p (.int .i64 (q.1 : Nat)))],
        [(1000000, .box [.p (.sl (encI l)), .p (.int .i64 (((a + 1) + 1 : Nat) : Int))]), (4, .box [.cl [], .cl [], .cl [], .cl [], .p (.int .i64 0), .p (.int .i64 0), .p (.int .i64 0), .p (.int .i64 0)]),
         (5, .box [.ref 10011 0 bl.length bl.length, .ref 20011 0 nx.length nx.length, .ref 30011 0 sp.length sp.length, .ref 40011 0 q.2.length q.2.length, .p (.int .i64 cq), .p (.int .i64 ca), .p (.int .i64 cd), .p (.int .i64 cp)]),
         (10011, .arr 56 3 (encK bl)), (20011, .arr 23 1 (encG nx)), (30011, .arr 52 6 (encP sp)), (40011, .arr 3 1 (encI q.2))], 83⟩)
      (fun q => q.1 ≤ sp.length ∧ q.2.length ≤ 8 ∧ robotsP sp q.2) (fun q => sp.length - q.1) (0, rb) ⟨Nat.zero_le _, by simp only; omega, hrb⟩ (Wk.forget (by simp [Le, LeE, LeH, get, envIds, hpIds, KeepH, D.ids, idsL, AO.ids, setL, base, hnl2])) ?_
    rintro ⟨i, r1⟩ m4 ⟨hi, hr8, hr1⟩ ih4
    simp only at hi hr8 hr1
    have e4 := encI_take r1 r1.length (Nat.le_refl _)
    cases c5 : decide ((i : Int) < (sp.length : Int))
    · simp only [go_sem, encP_len, c5]
      refine end_pure ?_
      simp only [go_sem, encK_len, encG_len, hnl, hnl2, encP_len, encI_len, e1, e2, e3, e4]
      refine ⟨(a + 1) + 1, ⟨bl, nx, sp, r1, cq, ca, cd, cp⟩, by omega, hV nx r1 hN0 hr1 (by omega), ?_⟩
      first | exact ⟨rfl, rfl⟩ | rfl | (simp [Nt.cs]; done)
    have hit : i < sp.length := by have := of_decide_eq_true c5; omega
    have hwi := wrap_succ i (by omega)
    have hgs := encP_get sp i hit
    have hi0 : (0 : Int) ≤ (i : Int) ∧ (i : Int) < (sp.length : Int) := by omega
    have hmem := getD_mem sp i spr0 hit
    obtain ⟨_, _, _, _, g5, g6, g7⟩ := hss i hit
    obtain ⟨g8, g9, _⟩ := spur_rng hss hit
    generalize hse : sp.getD i spr0 = s at *
    simp only [go_sem, c5, encP_len]
    refine X_loop_inv (fun q : Nat × List Int => ⟨[(0, .ptr 1000000 0), (4, .ptr 4 0), (5, .ptr 5 0), (6, .p (.int .i64 (i : Nat))), (7, .p (.int .i64 (q.1 : Nat)))],
        [(1000000, .box [.p (.sl (encI l)), .p (.int .i64 (((a + 1) + 1 : Nat) : Int))]), (4, .box [.cl [], .cl [], .cl [], .cl [], .p (.int .i64 0), .p (.int .i64 0), .p (.int .i64 0), .p (.int .i64 0)]),
         (5, .box [.ref 10011 0 bl.length bl.length, .ref 20011 0 nx.length nx.length, .ref 30011 0 sp.length sp.length, .ref 40011 0 q.2.length q.2.length, .p (.int .i64 cq), .p (.int .i64 ca), .p (.int .i64 cd), .p (.int .i64 cp)]),
         (10011, .arr 56 3 (encK bl)), (20011, .arr 23 1 (encG nx)), (30011, .arr 52 6 (encP sp)), (40011, .arr 3 1 (encI q.2))], 83⟩)
      (fun q => q.1 ≤ 4 ∧ (q.1 : Int) ≤ s.slots ∧ q.2.length ≤ 8 ∧ robotsP sp q.2) (fun q => 4 - q.1) (0, r1) ⟨by simp, by simp only; omega, hr8, hr1⟩ (Wk.forget (by simp [Le, LeE, LeH, get, envIds, hpIds, KeepH, D.ids, idsL, AO.ids, setL, base, hnl2])) ?_
    rintro ⟨j, r2⟩ m5 ⟨hj4, hjs, hr28, hr2⟩ ih5
    simp only at hj4 hjs hr28 hr2
    cases c6 : decide ((j : Int) < s.slots)
    · simp only [go_sem, encP_len, Int.toNat_natCast, hgs, hi0, c6, hwi]
      refine ih4 (i + 1, r2) _ ⟨hit, hr28, hr2⟩ (by simp only; omega) ?_
      (refine Wk.forget ?_; simp [Le, LeE, LeH, get, envIds, hpIds, KeepH, D.ids, idsL, AO.ids, setL, base]; done)
    cases c7 : s.depot
    · simp only [go_sem, encP_len, Int.toNat_natCast, hgs, hi0, c6, c7, hwi]
      refine ih4 (i + 1, r2) _ ⟨hit, hr28, hr2⟩ (by simp only; omega) ?_
      (refine Wk.forget ?_; simp [Le, LeE, LeH, get, envIds, hpIds, KeepH, D.ids, idsL, AO.ids, setL, base]; done)
    cases c8 : decide ((r2.length : Int) < 8)
    · simp only [go_sem, encP_len, encI_len, Int.toNat_natCast, hgs, hi0, c6, c7, c8, hwi]
      refine ih4 (i + 1, r2) _ ⟨hit, hr28, hr2⟩ (by simp only; omega) ?_
      (refine Wk.forget ?_; simp [Le, LeE, LeH, get, envIds, hpIds, KeepH, D.ids, idsL, AO.ids, setL, base]; done)
    have hj6 : (j : Int) < s.slots := of_decide_eq_true c6
    have hr7 : r2.length < 8 := by have := of_decide_eq_true c8; omega
    have hwj := wrap_succ j (by omega)
    have hwx : IntKind.i64.wrap (s.base + (j : Int)) = s.base + (j : Int) := by rw [wrap_i64_id] <;> omega
    simp only [go_sem, encP_len, encI_len, Int.toNat_natCast, hgs, hi0, c6, c7, c8, hwx]
    refine Cc_bor rfl rfl (has_ok r2 (s.base + (j : Int)) (by omega)) (by simp [BorL, Bor, ev, get, List.take_of_length_le, ZB]) ?_
    rintro h' r ⟨rfl, rfl⟩
    refine ⟨rfl, rfl, ?_⟩
    cases c9 : decide (s.base + (j : Int) ∈ r2)
    rotate_left
    · simp only [go_sem, c9, hwj]
      refine ih5 (j + 1, r2) _ ⟨by simp only; omega, by simp only; omega, hr28, hr2⟩ (by simp only; omega) ?_
      (refine Wk.forget ?_; simp [Le, LeE, LeH, get, envIds, hpIds, KeepH, D.ids, idsL, AO.ids, setL, base]; done)
    have hni := of_decide_eq_false c9
    have hin : sp.any (inD (s.base + (j : Int))) = true := by
        rw [List.any_eq_true]
        exact ⟨s, hmem, by unfold inD; rw [c7]; simp; omega⟩
    simp only [go_sem, c9, encI_len]
    refine ⟨⟨wid1 _ _ rfl, by omega⟩, ?_⟩
    simp only [go_sem, hwj]
    refine ih5 (j + 1, r2 ++ [s.base + (j : Int)]) _ ⟨by simp only; omega, by simp only; omega, by simp; omega, robotsP_snoc hr2 hin hni⟩ (by simp only; omega) ?_
    (refine Wk.forget ?_; simp [Le, LeE, LeH, get, envIds, hpIds, KeepH, D.ids, idsL, AO.ids, setL, base, encI_snoc, encI_len]; done)
  · obtain ⟨u, hu, hub⟩ := nextV_rng l (a + 1) bl.length (by omega)
    obtain ⟨q2, hq2, hq2b⟩ := nextV_rng l (a + 2) 3 (by omega)
    have hu0 : (0 : Int) ≤ (u : Int) ∧ (u : Int) < (nx.length : Int) := by omega
    have hN1 : (nx.set u []).length = bl.length ∧ ∀ i, i < bl.length → ((nx.set u []).getD i []).length ≤ 4 ∧ rowP bl.length i ((nx.set u []).getD i []) := by
      refine ⟨by simp [hN0.1], fun i hi => ?_⟩
      by_cases h : u = i
      · subst h
        have : (nx.set u []).getD u [] = [] := by simp [List.getD, show u < nx.length by omega]
        rw [this]
        exact ⟨by simp, fun k hk => by simp at hk⟩
      · have : (nx.set u []).getD i [] = nx.getD i [] := by simp [List.getD, h]
        rw [this]
        exact hN0.2 i hi
    have hnl2 : (nx.set u []).length = nx.length := by simp
    have e2 : List.take bl.length (encG (nx.set u [])) = encG (nx.set u []) := List.take_of_length_le (by simp [encG]; omega)
    have hsn : (encG nx).set u [.sl []] = encG (nx.set u []) := by simp [encG, encI, List.map_set]
    simp only [go_sem, c1, c2, encK_len]
    refine X_any [(10011, .arr 56 3 (encK bl)), (5, .box [.ref 10011 0 bl.length bl.length, .ref 20011 0 nx.length nx.length, .ref 30011 0 sp.length sp.length, .ref 40011 0 rb.length rb.length, .p (.int .i64 cq), .p (.int .i64 ca), .p (.int .i64 cd), .p (.int .i64 cp)]), (20011, .arr 23 1 (encG nx))] mixed (p := [(0, 0), (1, 0), (2, 0), (3, 0), (4, 0), (5, 0), (6, 2), (7, 0), (8, 3)]) (by kernel_rfl) (by simp [LeH, get]) ?_
    simp only [go_sem, encK_len]
    refine Gh_of ((next_ok l (a + 1) bl.length (by omega) (in64_small _ (by omega) (by omega)))) ?_
    rintro h' r ⟨rfl, rfl⟩
    have hgu : (encG nx).getD u [] = [.sl (encI (nx.getD u []))] := by simp [encG, List.getD, show u < nx.length by omega]
    simp only [go_sem, tapeC, hu, encG_len, Int.toNat_natCast, hu0, hgu, hsn]
    refine Cc_of ((next_ok l (a + 2) 3 (by omega) (in64_small _ (by omega) (by omega)))) ?_
    rintro h' r ⟨rfl, rfl⟩
    simp only [go_sem, tapeC, hq2]
    cases c3 : decide ((q2 : Int) = 0)
    · simp only [go_sem, c3]
      refine end_pure ?_
      simp only [go_sem, encK_len, encG_len, hnl, hnl2, encP_len, encI_len, e1, e2, e3, e4]
      refine ⟨(a + 2) + 1, ⟨bl, (nx.set u []), sp, rb, cq, ca, cd, cp⟩, by omega, hV (nx.set u []) rb hN1 hrb (by omega), ?_⟩
      first | exact ⟨rfl, rfl⟩ | rfl | (simp [Nt.cs]; done)
    simp only [go_sem, c3]
    refine X_loop_inv (fun q : Nat × List Int => ⟨[(0, .ptr 1000000 0), (4, .ptr 4 0), (5, .ptr 5 0), (6, .p (.int .i64 (q.1 : Nat)))],
        [(1000000, .box [.p (.sl (encI l)), .p (.int .i64 (((a + 2) + 1 : Nat) : Int))]), (4, .box [.cl [], .cl [], .cl [], .cl [], .p (.int .i64 0), .p (.int .i64 0), .p (.int .i64 0), .p (.int .i64 0)]),
         (5, .box [.ref 10011 0 bl.length bl.length, .ref 20011 0 nx.length nx.length, .ref 30011 0 sp.length sp.length, .ref 40011 0 q.2.length q.2.length, .p (.int .i64 cq), .p (.int .i64 ca), .p (.int .i64 cd), .p (.int .i64 cp)]),
         (10011, .arr 56 3 (encK bl)), (20011, .arr 23 1 (encG (nx.set u []))), (30011, .arr 52 6 (encP sp)), (40011, .arr 3 1 (encI q.2))], 83⟩)
      (fun q => q.1 ≤ sp.length ∧ q.2.length ≤ 8 ∧ robotsP sp q.2) (fun q => sp.length - q.1) (0, rb) ⟨Nat.zero_le _, by simp only; omega, hrb⟩ (Wk.forget (by simp [Le, LeE, LeH, get, envIds, hpIds, KeepH, D.ids, idsL, AO.ids, setL, base, hnl2])) ?_
    rintro ⟨i, r1⟩ m4 ⟨hi, hr8, hr1⟩ ih4
    simp only at hi hr8 hr1
    have e4 := encI_take r1 r1.length (Nat.le_refl _)
    cases c5 : decide ((i : Int) < (sp.length : Int))
    · simp only [go_sem, encP_len, c5]
      refine end_pure ?_
      simp only [go_sem, encK_len, encG_len, hnl, hnl2, encP_len, encI_len, e1, e2, e3, e4]
      refine ⟨(a + 2) + 1, ⟨bl, (nx.set u []), sp, r1, cq, ca, cd, cp⟩, by omega, hV (nx.set u []) r1 hN1 hr1 (by omega), ?_⟩
      first | exact ⟨rfl, rfl⟩ | rfl | (simp [Nt.cs]; done)
    have hit : i < sp.length := by have := of_decide_eq_true c5; omega
    have hwi := wrap_succ i (by omega)
    have hgs := encP_get sp i hit
    have hi0 : (0 : Int) ≤ (i : Int) ∧ (i : Int) < (sp.length : Int) := by omega
    have hmem := getD_mem sp i spr0 hit
    obtain ⟨_, _, _, _, g5, g6, g7⟩ := hss i hit
    obtain ⟨g8, g9, _⟩ := spur_rng hss hit
    generalize hse : sp.getD i spr0 = s at *
    simp only [go_sem, c5, encP_len]
    refine X_loop_inv (fun q : Nat × List Int => ⟨[(0, .ptr 1000000 0), (4, .ptr 4 0), (5, .ptr 5 0), (6, .p (.int .i64 (i : Nat))), (7, .p (.int .i64 (q.1 : Nat)))],
        [(1000000, .box [.p (.sl (encI l)), .p (.int .i64 (((a + 2) + 1 : Nat) : Int))]), (4, .box [.cl [], .cl [], .cl [], .cl [], .p (.int .i64 0), .p (.int .i64 0), .p (.int .i64 0), .p (.int .i64 0)]),
         (5, .box [.ref 10011 0 bl.length bl.length, .ref 20011 0 nx.length nx.length, .ref 30011 0 sp.length sp.length, .ref 40011 0 q.2.length q.2.length, .p (.int .i64 cq), .p (.int .i64 ca), .p (.int .i64 cd), .p (.int .i64 cp)]),
         (10011, .arr 56 3 (encK bl)), (20011, .arr 23 1 (encG (nx.set u []))), (30011, .arr 52 6 (encP sp)), (40011, .arr 3 1 (encI q.2))], 83⟩)
      (fun q => q.1 ≤ 4 ∧ (q.1 : Int) ≤ s.slots ∧ q.2.length ≤ 8 ∧ robotsP sp q.2) (fun q => 4 - q.1) (0, r1) ⟨by simp, by simp only; omega, hr8, hr1⟩ (Wk.forget (by simp [Le, LeE, LeH, get, envIds, hpIds, KeepH, D.ids, idsL, AO.ids, setL, base, hnl2])) ?_
    rintro ⟨j, r2⟩ m5 ⟨hj4, hjs, hr28, hr2⟩ ih5
    simp only at hj4 hjs hr28 hr2
    cases c6 : decide ((j : Int) < s.slots)
    · simp only [go_sem, encP_len, Int.toNat_natCast, hgs, hi0, c6, hwi]
      refine ih4 (i + 1, r2) _ ⟨hit, hr28, hr2⟩ (by simp only; omega) ?_
      (refine Wk.forget ?_; simp [Le, LeE, LeH, get, envIds, hpIds, KeepH, D.ids, idsL, AO.ids, setL, base]; done)
    cases c7 : s.depot
    · simp only [go_sem, encP_len, Int.toNat_natCast, hgs, hi0, c6, c7, hwi]
      refine ih4 (i + 1, r2) _ ⟨hit, hr28, hr2⟩ (by simp only; omega) ?_
      (refine Wk.forget ?_; simp [Le, LeE, LeH, get, envIds, hpIds, KeepH, D.ids, idsL, AO.ids, setL, base]; done)
    cases c8 : decide ((r2.length : Int) < 8)
    · simp only [go_sem, encP_len, encI_len, Int.toNat_natCast, hgs, hi0, c6, c7, c8, hwi]
      refine ih4 (i + 1, r2) _ ⟨hit, hr28, hr2⟩ (by simp only; omega) ?_
      (refine Wk.forget ?_; simp [Le, LeE, LeH, get, envIds, hpIds, KeepH, D.ids, idsL, AO.ids, setL, base]; done)
    have hj6 : (j : Int) < s.slots := of_decide_eq_true c6
    have hr7 : r2.length < 8 := by have := of_decide_eq_true c8; omega
    have hwj := wrap_succ j (by omega)
    have hwx : IntKind.i64.wrap (s.base + (j : Int)) = s.base + (j : Int) := by rw [wrap_i64_id] <;> omega
    simp only [go_sem, encP_len, encI_len, Int.toNat_natCast, hgs, hi0, c6, c7, c8, hwx]
    refine Cc_bor rfl rfl (has_ok r2 (s.base + (j : Int)) (by omega)) (by simp [BorL, Bor, ev, get, List.take_of_length_le, ZB]) ?_
    rintro h' r ⟨rfl, rfl⟩
    refine ⟨rfl, rfl, ?_⟩
    cases c9 : decide (s.base + (j : Int) ∈ r2)
    rotate_left
    · simp only [go_sem, c9, hwj]
      refine ih5 (j + 1, r2) _ ⟨by simp only; omega, by simp only; omega, hr28, hr2⟩ (by simp only; omega) ?_
      (refine Wk.forget ?_; simp [Le, LeE, LeH, get, envIds, hpIds, KeepH, D.ids, idsL, AO.ids, setL, base]; done)
    have hni := of_decide_eq_false c9
    have hin : sp.any (inD (s.base + (j : Int))) = true := by
        rw [List.any_eq_true]
        exact ⟨s, hmem, by unfold inD; rw [c7]; simp; omega⟩
    simp only [go_sem, c9, encI_len]
    refine ⟨⟨wid1 _ _ rfl, by omega⟩, ?_⟩
    simp only [go_sem, hwj]
    refine ih5 (j + 1, r2 ++ [s.base + (j : Int)]) _ ⟨by simp only; omega, by simp only; omega, by simp; omega, robotsP_snoc hr2 hin hni⟩ (by simp only; omega) ?_
    (refine Wk.forget ?_; simp [Le, LeE, LeH, get, envIds, hpIds, KeepH, D.ids, idsL, AO.ids, setL, base, encI_snoc, encI_len]; done)
end Go.Am
end
section
namespace Go.Am
open Go Go.Proofs
set_option maxRecDepth 100000
set_option maxHeartbeats 2000000
set_option linter.unusedSimpArgs false
set_option linter.unusedVariables false
noncomputable def s_cmp_isNaN_v (a0 : Int) : Option (Bool) :=
  some (!decide (a0 = a0))
theorem s_cmp_isNaN_vok (a0 : Int) (r : Bool) (hr : s_cmp_isNaN_v a0 = some r) :
    ACalls Try.prog 90 [.p (.int .i64 a0)] [] fun h d => h = [] ∧ d = .p (.bool r) := by
  refine ACalls_X Try.func90 rfl enters90 (by simp [Try.f90]) ?_
  unfold s_cmp_isNaN_v at hr
  obtain rfl := Option.some.inj hr
  try simp only [go_sem]
  all_goals (try refine end_pure ?_)
  all_goals (try simp only [go_sem])
  all_goals (try (first | rfl | exact ⟨rfl, rfl⟩ | (simp; done)))
noncomputable def s_cmp_Less_v (a0 : Int) (a1 : Int) : Option (Bool) :=
  Option.bind (s_cmp_isNaN_v a0) fun x1 => cond x1 (Option.bind (s_cmp_isNaN_v a1) fun x4 => cond x4 (some (decide (a0 < a1))) (some true)) (some (decide (a0 < a1)))
theorem s_cmp_Less_vok (a0 : Int) (a1 : Int) (r : Bool) (hr : s_cmp_Less_v a0 a1 = some r) :
    ACalls Try.prog 69 [.p (.int .i64 a0), .p (.int .i64 a1)] [] fun h d => h = [] ∧ d = .p (.bool r) := by
  refine ACalls_X Try.func69 rfl enters69 (by simp [Try.f69]) ?_
  unfold s_cmp_Less_v at hr
  obtain ⟨x1, g2, hr⟩ := bE hr
  try simp only [go_sem]
  refine Cc_of (s_cmp_isNaN_vok a0 _ g2) ?_
  rintro h' r ⟨rfl, rfl⟩
  cases c3 : x1
  · simp only [c3, cond_false] at hr
    obtain rfl := Option.some.inj hr
    try simp only [go_sem, c3]
    all_goals (try refine end_pure ?_)
    all_goals (try simp only [go_sem, c3])
    all_goals (try (first | rfl | exact ⟨rfl, rfl⟩ | (simp; done)))
  simp only [c3, cond_true] at hr
  obtain ⟨x4, g5, hr⟩ := bE hr
  try simp only [go_sem, c3]
  refine Cc_of (s_cmp_isNaN_vok a1 _ g5) ?_
  rintro h' r ⟨rfl, rfl⟩
  cases c6 : x4
  · simp only [c6, cond_false] at hr
    obtain rfl := Option.some.inj hr
    try simp only [go_sem, c3, c6]
    all_goals (try refine end_pure ?_)
    all_goals (try simp only [go_sem, c3, c6])
    all_goals (try (first | rfl | exact ⟨rfl, rfl⟩ | (simp; done)))
  simp only [c6, cond_true] at hr
  obtain rfl := Option.some.inj hr
  try simp only [go_sem, c3, c6]
  all_goals (try refine end_pure ?_)
  all_goals (try simp only [go_sem, c3, c6])
  all_goals (try (first | rfl | exact ⟨rfl, rfl⟩ | (simp; done)))
noncomputable def isort_L1 (a1 : Int) : (List Int) × Int → Option (((List Int) × Int) ⊕ (((List Int) × Int)))
  | (v13, v14) => cond (decide (a1 < v14)) (Option.bind (idxO v13 v14) fun x21 => Option.bind (idxO v13 (IntKind.i64.wrap (v14 - 1))) fun x25 => Option.bind (s_cmp_Less_v x21 x25) fun x29 => cond x29 (Option.bind (idxO (v13.set (Int.toNat v14) x25) (IntKind.i64.wrap (v14 - 1))) fun x32 => some (Sum.inl (((v13.set (Int.toNat v14) x25).set (Int.toNat (IntKind.i64.wrap (v14 - 1))) x21), (IntKind.i64.wrap (v14 - 1))))) (some (Sum.inr (v13, v14)))) (some (Sum.inr (v13, v14)))
theorem isort_L1_eq (a1 : Int) (v13 : List Int) (v14 : Int) : isort_L1 a1 (v13, v14) = cond (decide (a1 < v14)) (Option.bind (idxO v13 v14) fun x21 => Option.bind (idxO v13 (IntKind.i64.wrap (v14 - 1))) fun x25 => Option.bind (s_cmp_Less_v x21 x25) fun x29 => cond x29 (Option.bind (idxO (v13.set (Int.toNat v14) x25) (IntKind.i64.wrap (v14 - 1))) fun x32 => some (Sum.inl (((v13.set (Int.toNat v14) x25).set (Int.toNat (IntKind.i64.wrap (v14 - 1))) x21), (IntKind.i64.wrap (v14 - 1))))) (some (Sum.inr (v13, v14)))) (some (Sum.inr (v13, v14))) := rfl
noncomputable def isort_L2 (a1 : Int) (a2 : Int) : (List Int) × Int → Option (((List Int) × Int) ⊕ (((List Int) × Int)))
  | (v3, v4) => cond (decide (v4 < a2)) (Option.bind (loopO (isort_L1 a1) (v3, v4)) (fun (v37, v38) => some (Sum.inl (v37, (IntKind.i64.wrap (v4 + 1)))))) (some (Sum.inr (v3, v4)))
theorem isort_L2_eq (a1 : Int) (a2 : Int) (v3 : List Int) (v4 : Int) : isort_L2 a1 a2 (v3, v4) = cond (decide (v4 < a2)) (Option.bind (loopO (isort_L1 a1) (v3, v4)) (fun (v37, v38) => some (Sum.inl (v37, (IntKind.i64.wrap (v4 + 1)))))) (some (Sum.inr (v3, v4))) := rfl
noncomputable def isort_v (a0 : List Int) (a1 : Int) (a2 : Int) : Option ((List Int)) :=
  Option.bind (loopO (isort_L2 a1 a2) (a0, (IntKind.i64.wrap (a1 + 1)))) (fun (v39, v40) => some v39)
theorem isort_vok (a0 : List Int) (a1 : Int) (a2 : Int) (r : (List Int)) (hr : isort_v a0 a1 a2 = some r) :
    ACalls Try.prog 63 [.ref 1000000 0 a0.length a0.length, .p (.int .i64 a1), .p (.int .i64 a2)] [(1000000, .arr 3 1 (encI a0))] fun h d => h = [(1000000, .arr 3 1 (encI r))] ∧ d = .tup [] := by
  refine ACalls_X Try.func63 rfl enters63 (by simp [Try.f63]) ?_
  unfold isort_v at hr
  obtain ⟨e8, g9, hr⟩ := bE hr
  try simp only [go_sem]
  refine X_loopO g9 (fun q : (List Int) × Int => ⟨[(0, .ref 1000000 0 q.1.length q.1.length), (1, .p (.int .i64 a1)), (2, .p (.int .i64 a2)), (6, .p (.int .i64 q.2))], [(1000000, .arr 3 1 (encI q.1))], 49⟩) ((Wk.forget (by simp [Le, LeE, LeH, get, envIds, hpIds, KeepH, D.ids, idsL, AO.ids, setL, base, ZE]))) ?_
  rintro ⟨v3, v4⟩ m7 hh5 ih6
  rw [isort_L2_eq] at hh5
  cases c10 : decide (v4 < a2)
  · simp only [c10, cond_false] at hh5
    simp only [Option.bind_some, nextO_inr] at hh5
    obtain rfl := Option.some.inj hh5
    try dsimp only at hr
    obtain rfl := Option.some.inj hr
    try simp only [go_sem, c10]
    all_goals (try refine end_own ?_)
    all_goals (try simp only [go_sem, c10])
    all_goals (try (first | rfl | exact ⟨rfl, rfl⟩ | (simp; done)))
  simp only [c10, cond_true] at hh5
  obtain ⟨e18, g19, hh5⟩ := bK hh5
  try simp only [go_sem, c10]
  refine X_loopO g19 (fun q : (List Int) × Int => ⟨[(0, .ref 1000000 0 q.1.length q.1.length), (1, .p (.int .i64 a1)), (2, .p (.int .i64 a2)), (6, .p (.int .i64 v4)), (7, .p (.int .i64 q.2))], [(1000000, .arr 3 1 (encI q.1))], 49⟩) ((Wk.forget (by simp [Le, LeE, LeH, get, envIds, hpIds, KeepH, D.ids, idsL, AO.ids, setL, base, ZE]))) ?_
  rintro ⟨v13, v14⟩ m17 hh15 ih16
  rw [isort_L1_eq] at hh15
  try simp only [go_sem]
  refine X_any0 mixed (p := [(0, 0), (1, 0), (2, 0), (3, 0), (4, 0), (5, 0), (6, 0), (7, 0), (8, 0), (9, 0), (10, 0), (11, 0), (12, 0), (13, 2), (14, 0)]) (by kernel_rfl) (by simp [LeH, get]) ?_
  cases c20 : decide (a1 < v14)
  · simp only [c20, cond_false] at hh15
    simp only [Option.bind_some, nextO_inr] at hh15
    obtain rfl := Option.some.inj hh15
    try dsimp only at hh5
    simp only [Option.bind_some, nextO_inl] at hh5
    try simp only [go_sem, c20]
    exact ih6 (v13, (IntKind.i64.wrap (v4 + 1))) _ hh5 ((Wk.forget (by simp [Le, LeE, LeH, get, envIds, hpIds, KeepH, D.ids, idsL, AO.ids, setL, base, ZE])))
  simp only [c20, cond_true] at hh15
  obtain ⟨x21, g22, hh15⟩ := bK hh15
  have f23 := idxO_rng g22
  have f24 : (encI v13).getD (Int.toNat v14) [] = [(.int .i64 x21)] := idxO_map _ g22
  obtain ⟨x25, g26, hh15⟩ := bK hh15
  have f27 := idxO_rng g26
  have f28 : (encI v13).getD (Int.toNat (IntKind.i64.wrap (v14 - 1))) [] = [(.int .i64 x25)] := idxO_map _ g26
  obtain ⟨x29, g30, hh15⟩ := bK hh15
  try simp only [go_sem, c20, f23, f24, f27, f28]
  refine Gh_of (s_cmp_Less_vok x21 x25 _ g30) ?_
  rintro h' r ⟨rfl, rfl⟩
  cases c31 : x29
  · simp only [c31, cond_false] at hh15
    simp only [Option.bind_some, nextO_inr] at hh15
    obtain rfl := Option.some.inj hh15
    try dsimp only at hh5
    simp only [Option.bind_some, nextO_inl] at hh5
    try simp only [go_sem, c20, c31]
    exact ih6 (v13, (IntKind.i64.wrap (v4 + 1))) _ hh5 ((Wk.forget (by simp [Le, LeE, LeH, get, envIds, hpIds, KeepH, D.ids, idsL, AO.ids, setL, base, ZE, c31])))
  simp only [c31, cond_true] at hh15
  try simp only [go_sem, c20, c31]
  refine X_any0 mixed (p := [(0, 0), (1, 0), (2, 0), (3, 0), (4, 0), (5, 0), (6, 0), (7, 0), (8, 0), (9, 0), (10, 0), (11, 0), (12, 0), (13, 0), (14, 0), (15, 4), (16, 4), (17, 4)]) (by kernel_rfl) (by simp [LeH, get]) ?_
  obtain ⟨x32, g33, hh15⟩ := bK hh15
  have f34 := idxO_rng g33
  have f35 : (encI (v13.set (Int.toNat v14) x25)).getD (Int.toNat (IntKind.i64.wrap (v14 - 1))) [] = [(.int .i64 x32)] := idxO_map _ g33
  have f36 := f34
  try simp only [List.length_set] at f36
  simp only [Option.bind_some, nextO_inl] at hh15
  try simp only [go_sem, f27, f28, f23, f24, f34, f35, f36, c31]
  exact ih16 (((v13.set (Int.toNat v14) x25).set (Int.toNat (IntKind.i64.wrap (v14 - 1))) x21), (IntKind.i64.wrap (v14 - 1))) _ hh15 ((Wk.forget (by simp [Le, LeE, LeH, get, envIds, hpIds, KeepH, D.ids, idsL, AO.ids, setL, base, ZE, c31])))
noncomputable def s_netmap_Build_1_v (a0 : Spr) : Option (Bool) :=
  some a0.depot
theorem s_netmap_Build_1_vok (a0 : Spr) (r : Bool) (hr : s_netmap_Build_1_v a0 = some r) :
    ACalls Try.prog 21 [.agg [.p (.str a0.name), .p (.bool a0.depot), .p (.int .i64 a0.inn), .p (.int .i64 a0.out), .p (.int .i64 a0.slots), .p (.int .i64 a0.base)]] [] fun h d => h = [] ∧ d = .p (.bool r) := by
  refine ACalls_X Try.func21 rfl enters21 (by simp [Try.f21]) ?_
  unfold s_netmap_Build_1_v at hr
  obtain rfl := Option.some.inj hr
  try simp only [go_sem]
  all_goals (try refine end_pure ?_)
  all_goals (try simp only [go_sem])
  all_goals (try (first | rfl | exact ⟨rfl, rfl⟩ | (simp; done)))
noncomputable def s_slices_IndexFunc_L1 (a0 : List Spr) : Int → Option ((Int) ⊕ (Int ⊕ Int))
  | v2 => cond (decide (v2 < ((a0.length : Nat) : Int))) (Option.bind (idxO a0 v2) fun x9 => Option.bind (s_netmap_Build_1_v (⟨x9.name, x9.depot, x9.inn, x9.out, x9.slots, x9.base⟩ : Spr)) fun x13 => cond x13 (some (Sum.inr (.inr ((v2 : Int))))) (some (Sum.inl (IntKind.i64.wrap (v2 + 1))))) (some (Sum.inr (.inl v2)))
theorem s_slices_IndexFunc_L1_eq (a0 : List Spr) (v2 : Int) : s_slices_IndexFunc_L1 a0 v2 = cond (decide (v2 < ((a0.length : Nat) : Int))) (Option.bind (idxO a0 v2) fun x9 => Option.bind (s_netmap_Build_1_v (⟨x9.name, x9.depot, x9.inn, x9.out, x9.slots, x9.base⟩ : Spr)) fun x13 => cond x13 (some (Sum.inr (.inr ((v2 : Int))))) (some (Sum.inl (IntKind.i64.wrap (v2 + 1))))) (some (Sum.inr (.inl v2))) := rfl
noncomputable def s_slices_IndexFunc_v (a0 : List Spr) : Option (Int) :=
  Option.bind (loopO (s_slices_IndexFunc_L1 a0) 0) (fun | .inl v16 => some (-1) | .inr (r17) => some r17)
theorem s_slices_IndexFunc_vok (a0 : List Spr) (r : Int) (hr : s_slices_IndexFunc_v a0 = some r) :
    ACalls Try.prog 40 [.p (.sl (encP a0)), .fn 21 []] [] fun h d => h = [] ∧ d = .p (.int .i64 r) := by
  refine ACalls_X Try.func40 rfl enters40 (by simp [Try.f40]) ?_
  unfold s_slices_IndexFunc_v at hr
  obtain ⟨e6, g7, hr⟩ := bE hr
  try simp only [go_sem]
  refine X_loopO g7 (fun q : Int => ⟨[(0, .p (.sl (encP a0))), (1, .fn 21 []), (7, .p (.int .i64 ((a0.length : Nat) : Int))), (8, .p (.int .i64 q))], [], 19⟩) ((Wk.forget (by simp [Le, LeE, LeH, get, envIds, hpIds, KeepH, D.ids, idsL, AO.ids, setL, base, ZE]))) ?_
  rintro v2 m5 hh3 ih4
  rw [s_slices_IndexFunc_L1_eq] at hh3
  cases c8 : decide (v2 < ((a0.length : Nat) : Int))
  · simp only [c8, cond_false] at hh3
    simp only [Option.bind_some, nextO_inr] at hh3
    obtain rfl := Option.some.inj hh3
    try dsimp only at hr
    obtain rfl := Option.some.inj hr
    try simp only [go_sem, c8]
    all_goals (try refine end_pure ?_)
    all_goals (try simp only [go_sem, c8])
    all_goals (try (first | rfl | exact ⟨rfl, rfl⟩ | (simp; done)))
  simp only [c8, cond_true] at hh3
  obtain ⟨x9, g10, hh3⟩ := bK hh3
  have f11 := idxO_rng g10
  have f12 : (encP a0).getD (Int.toNat v2) [] = [(.str x9.name), (.bool x9.depot), (.int .i64 x9.inn), (.int .i64 x9.out), (.int .i64 x9.slots), (.int .i64 x9.base)] := idxO_map _ g10
  obtain ⟨x13, g14, hh3⟩ := bK hh3
  try simp only [go_sem, c8, f11, f12]
  refine Cc_of (s_netmap_Build_1_vok (⟨x9.name, x9.depot, x9.inn, x9.out, x9.slots, x9.base⟩ : Spr) _ g14) ?_
  rintro h' r ⟨rfl, rfl⟩
  cases c15 : x13
  · simp only [c15, cond_false] at hh3
    simp only [Option.bind_some, nextO_inl] at hh3
    try simp only [go_sem, c15]
    exact ih4 (IntKind.i64.wrap (v2 + 1)) _ hh3 ((Wk.forget (by simp [Le, LeE, LeH, get, envIds, hpIds, KeepH, D.ids, idsL, AO.ids, setL, base, ZE, c15])))
  simp only [c15, cond_true] at hh3
  simp only [Option.bind_some, nextO_inr] at hh3
  obtain rfl := Option.some.inj hh3
  try dsimp only at hr
  obtain rfl := Option.some.inj hr
  try simp only [go_sem, c15]
  all_goals (try refine end_pure ?_)
  all_goals (try simp only [go_sem, c15])
  all_goals (try (first | rfl | exact ⟨rfl, rfl⟩ | (simp; done)))
noncomputable def cfDepot_v (a0 : List Spr) : Option (Bool) :=
  Option.bind (s_slices_IndexFunc_v a0) fun x1 => some (decide (0 ≤ x1))
theorem cfDepot_vok (a0 : List Spr) (r : Bool) (hr : cfDepot_v a0 = some r) :
    ACalls Try.prog 20 [.p (.sl (encP a0)), .fn 21 []] [] fun h d => h = [] ∧ d = .p (.bool r) := by
  refine ACalls_X Try.func20 rfl enters20 (by simp [Try.f20]) ?_
  unfold cfDepot_v at hr
  obtain ⟨x1, g2, hr⟩ := bE hr
  try simp only [go_sem]
  refine Cc_of (s_slices_IndexFunc_vok a0 _ g2) ?_
  rintro h' r ⟨rfl, rfl⟩
  obtain rfl := Option.some.inj hr
  try simp only [go_sem]
  all_goals (try refine end_pure ?_)
  all_goals (try simp only [go_sem])
  all_goals (try (first | rfl | exact ⟨rfl, rfl⟩ | (simp; done)))
end Go.Am
end
section
namespace Go.Am
open Go Go.Proofs
set_option maxRecDepth 100000
set_option linter.unusedVariables false
set_option linter.unusedSimpArgs false
def insS : List Int → Int → List Int
  | [], x => [x]
  | y :: r, x => if x < y then x :: y :: r else y :: insS r x
def sortV (l : List Int) : List Int := l.foldl insS []
theorem insS_len (l : List Int) (x : Int) : (insS l x).length = l.length + 1 := by
  induction l with
  | nil => rfl
  | cons y r ih => simp only [insS]; split <;> simp [ih]
theorem foldl_insS_len (l p : List Int) : (l.foldl insS p).length = p.length + l.length := by
  induction l generalizing p with
  | nil => simp
  | cons x r ih => simp only [List.foldl_cons, ih, insS_len, List.length_cons]; omega
theorem sortV_len (l : List Int) : (sortV l).length = l.length := by simp [sortV, foldl_insS_len]
theorem insS_mem (l : List Int) (x y : Int) : y ∈ insS l x ↔ y = x ∨ y ∈ l := by
  induction l with
  | nil => simp [insS]
  | cons z r ih =>
    simp only [insS]
    split
    · simp
    · simp only [List.mem_cons, ih]
      constructor
      · rintro (h | h | h) <;> simp [h]
      · rintro (h | h | h) <;> simp [h]
theorem insS_sorted (l : List Int) (x : Int) (h : l.Pairwise (· ≤ ·)) : (insS l x).Pairwise (· ≤ ·) := by
  induction l with
  | nil => simp [insS]
  | cons y r ih =>
    obtain ⟨h1, h2⟩ := List.pairwise_cons.1 h
    simp only [insS]
    split
    · refine List.pairwise_cons.2 ⟨fun z hz => ?_, h⟩
      rcases List.mem_cons.1 hz with rfl | hz
      · omega
      · have := h1 z hz; omega
    · refine List.pairwise_cons.2 ⟨fun z hz => ?_, ih h2⟩
      rcases (insS_mem r x z).1 hz with rfl | hz
      · omega
      · exact h1 z hz
theorem insS_snoc_lt (p : List Int) (y x : Int) (h : x < y) : insS (p ++ [y]) x = insS p x ++ [y] := by
  induction p with
  | nil => simp [insS, h]
  | cons z r ih =>
    simp only [List.cons_append, insS]
    split
    · rfl
    · rw [ih]; rfl
theorem insS_snoc_ge (p : List Int) (y x : Int) (hs : (p ++ [y]).Pairwise (· ≤ ·)) (h : ¬ x < y) : insS (p ++ [y]) x = p ++ [y, x] := by
  induction p with
  | nil => simp [insS, h]
  | cons z r ih =>
    simp only [List.cons_append, List.pairwise_cons] at hs
    have := hs.1 y (by simp)
    simp only [List.cons_append, insS]
    rw [if_neg (by omega), ih hs.2]
theorem set_mid {α : Type} (p q : List α) (x y : α) : (p ++ x :: q).set p.length y = p ++ y :: q := by
  induction p with
  | nil => rfl
  | cons z r ih => simp [ih]
theorem less_v (a b : Int) : s_cmp_Less_v a b = some (decide (a < b)) := by
  unfold s_cmp_Less_v s_cmp_isNaN_v
  simp
theorem isort_in (l : List Int) : ∀ (n : Nat) (p : List Int) (x : Int) (q : List Int), p.length = n → p.Pairwise (· ≤ ·) → n < 10000000 → ∃ j, loopO (isort_L1 0) (p ++ x :: q, (n : Int)) = some (insS p x ++ q, j)
  | 0, p, x, q, hp, _, _ => by
    obtain rfl : p = [] := List.eq_nil_of_length_eq_zero hp
    refine ⟨0, ?_⟩
    rw [loopO_step, isort_L1_eq]
    simp [insS, nextO]
  | n + 1, p, x, q, hp, hs, hn => by
    obtain ⟨r, y, rfl⟩ : ∃ r y, p = r ++ [y] := by
      rcases List.eq_nil_or_concat p with h | ⟨r, y, h⟩
      · subst h; simp at hp
      · exact ⟨r, y, by simpa using h⟩
    have hr : r.length = n := by simpa using hp
    have hw : IntKind.i64.wrap (((n + 1 : Nat) : Int) - 1) = (n : Int) := by rw [IntKind.wrap_i64]; omega
    have i1 : idxO ((r ++ [y]) ++ x :: q) ((n + 1 : Nat) : Int) = some x := by
      rw [idxO_nat]; simp [← hr, List.getElem?_append]
    have i2 : idxO ((r ++ [y]) ++ x :: q) (n : Int) = some y := by
      rw [idxO_nat]; simp [← hr, List.getElem?_append]
    have s1 : ((r ++ [y]) ++ x :: q).set (n + 1) y = r ++ y :: y :: q := by
      have := set_mid (r ++ [y]) q x y
      rw [show (r ++ [y]).length = n + 1 by simp [hr]] at this
      rw [this]; simp
    have i3 : idxO (((r ++ [y]) ++ x :: q).set (n + 1) y) (n : Int) = some y := by
      rw [s1, idxO_nat]; simp [← hr, List.getElem?_append]
    have s2 : (((r ++ [y]) ++ x :: q).set (n + 1) y).set n x = r ++ x :: (y :: q) := by
      rw [s1, ← hr]; exact set_mid r (y :: q) y x
    rw [loopO_step, isort_L1_eq]
    have c1 : decide ((0 : Int) < ((n + 1 : Nat) : Int)) = true := decide_eq_true (by omega)
    rw [c1, cond_true, i1, Option.bind_some, hw, i2, Option.bind_some, less_v, Option.bind_some]
    by_cases hxy : x < y
    · have c2 : decide (x < y) = true := by simpa using hxy
      rw [c2, cond_true, show Int.toNat ((n + 1 : Nat) : Int) = n + 1 from rfl, i3, Option.bind_some, Option.bind_some, nextO_inl, show Int.toNat (n : Int) = n from rfl, s2]
      have hs2 : r.Pairwise (· ≤ ·) := (List.pairwise_append.1 hs).1
      obtain ⟨j, hj⟩ := isort_in l n r x (y :: q) hr hs2 (by omega)
      refine ⟨j, ?_⟩
      rw [hj, insS_snoc_lt _ _ _ hxy]
      simp
    · have c2 : decide (x < y) = false := by simpa using hxy
      rw [c2, cond_false, Option.bind_some, nextO_inr]
      refine ⟨((n + 1 : Nat) : Int), ?_⟩
      rw [insS_snoc_ge _ _ _ hs hxy]
      simp
theorem isort_out : ∀ (q p : List Int), p.Pairwise (· ≤ ·) → p.length + q.length < 10000000 → ∃ j, loopO (isort_L2 0 ((p.length + q.length : Nat) : Int)) (p ++ q, (p.length : Int)) = some (q.foldl insS p, j)
  | [], p, hs, hn => by
    rw [loopO_step, isort_L2_eq]
    simp [nextO]
  | x :: q, p, hs, hn => by
    have hl : p.length + (x :: q).length = (insS p x).length + q.length := by rw [insS_len]; simp; omega
    rw [loopO_step, isort_L2_eq]
    have c1 : decide ((p.length : Int) < ((p.length + (x :: q).length : Nat) : Int)) = true := decide_eq_true (by simp only [List.length_cons]; omega)
    obtain ⟨j, hj⟩ := isort_in [] p.length p x q rfl hs (by simp at hn; omega)
    have hw : IntKind.i64.wrap ((p.length : Int) + 1) = ((insS p x).length : Int) := by rw [IntKind.wrap_i64, insS_len]; simp at hn; omega
    rw [c1, cond_true, hj, Option.bind_some, Option.bind_some, nextO_inl, hw, hl]
    obtain ⟨j2, hj2⟩ := isort_out q (insS p x) (insS_sorted p x hs) (by rw [insS_len]; simp at hn; omega)
    exact ⟨j2, by rw [hj2]; rfl⟩
theorem isort_short (l : List Int) (hl : l.length < 10000000) : isort_v l 0 (l.length : Int) = some (sortV l) := by
  unfold isort_v
  cases l with
  | nil =>
    rw [loopO_step, isort_L2_eq]
    simp [nextO, sortV, IntKind.wrap_i64]
  | cons x r =>
    have hw : IntKind.i64.wrap (0 + 1) = (([x] : List Int).length : Int) := by rw [IntKind.wrap_i64]; simp
    obtain ⟨j, hj⟩ := isort_out r [x] (by simp) (by simp at hl ⊢; omega)
    rw [hw, show ((x :: r).length : Int) = (([x] : List Int).length + r.length : Nat) by simp; omega, show x :: r = [x] ++ r from rfl, hj]
    rfl
end Go.Am
end
section
namespace Go.Am
open Go Go.Proofs
set_option maxRecDepth 100000
set_option linter.unusedVariables false
set_option linter.unusedSimpArgs false
set_option maxHeartbeats 1000000
theorem len64_ok (n : Nat) (hn : n ≤ 12) : ACalls Try.prog 73 [.p (.int .u64 n)] [] fun h r => h = [] ∧ ∃ m : Int, r = .p (.int .i64 m) := by
  have c1 : decide ((4294967296 : Int) ≤ (n : Int)) = false := by simp; omega
  have c2 : decide ((65536 : Int) ≤ (n : Int)) = false := by simp; omega
  have c3 : decide ((256 : Int) ≤ (n : Int)) = false := by simp; omega
  have w1 : IntKind.u8.wrap (n : Int) = (n : Int) := by simp only [IntKind.wrap, IntKind.signed, IntKind.bits]; first | omega | (simp; omega)
  have r1 : (0 : Int) ≤ (n : Int) ∧ (n : Int) < 256 := by omega
  refine ACalls_X Try.func73 rfl enters73 (by simp [Try.f73]) ?_
  simp only [go_sem, c1, c2, c3, w1]
  refine ⟨by simp; omega, ?_⟩
  exact ⟨_, rfl⟩
theorem len_ok (n : Nat) (hn : n ≤ 12) : ACalls Try.prog 42 [.p (.int .u64 n)] [] fun h r => h = [] ∧ ∃ m : Int, r = .p (.int .i64 m) := by
  refine ACalls_X Try.func42 rfl enters42 (by simp [Try.f42]) ?_
  simp only [go_sem]
  refine Cc_of (len64_ok n hn) ?_
  rintro h' r ⟨rfl, m, rfl⟩
  simp only [go_sem]
  exact ⟨m, rfl⟩
theorem pdq_short (l : List Int) (hl : l.length ≤ 12) (m : Int) : ACalls Try.prog 41 [.ref 1000000 0 l.length l.length, .p (.int .i64 0), .p (.int .i64 l.length), .p (.int .i64 m)] [(1000000, .arr 3 1 (encI l))]
    fun h r => h = [(1000000, .arr 3 1 (encI (sortV l)))] ∧ r = .tup [] := by
  have w1 : IntKind.i64.wrap ((l.length : Int) - 0) = (l.length : Int) := by rw [IntKind.wrap_i64]; omega
  have c1 : decide ((l.length : Int) ≤ 12) = true := by simp; omega
  refine ACalls_X Try.func41 rfl enters41 (by simp [Try.f41]) ?_
  simp only [go_sem]
  refine X_loop 1 ?_
  rw [L_succ]
  refine ⟨_, Wk.refl _, ?_⟩
  simp only [go_sem, w1, c1, encI_len]
  refine Cc_own rfl rfl ?_
  simp only [go_sem, callD_eq]
  refine Kc_of (isort_vok l 0 l.length _ (isort_short l (by omega))) ?_
  rintro h' r ⟨rfl, rfl⟩
  simp only [go_sem]
  all_goals (try refine end_own ?_)
  all_goals (try simp only [go_sem])
theorem sort_own (l : List Int) (hl : l.length ≤ 12) : ACalls Try.prog 22 [.ref 1000000 0 l.length l.length] [(1000000, .arr 3 1 (encI l))] fun h r => h = [(1000000, .arr 3 1 (encI (sortV l)))] ∧ r = .tup [] := by
  have w1 : IntKind.u64.wrap (l.length : Int) = (l.length : Int) := by simp only [IntKind.wrap, IntKind.signed, IntKind.bits]; first | omega | (simp; omega)
  refine ACalls_X Try.func22 rfl enters22 (by simp [Try.f22]) ?_
  simp only [go_sem, encI_len, w1]
  refine Cc_of (len_ok l.length hl) ?_
  rintro h' r ⟨rfl, m, rfl⟩
  simp only [go_sem, encI_len]
  refine Cc_own rfl rfl ?_
  simp only [go_sem, callD_eq]
  refine Kc_of (pdq_short l hl m) ?_
  rintro h' r ⟨rfl, rfl⟩
  simp only [go_sem]
  all_goals (try refine end_own ?_)
  all_goals (try simp only [go_sem])
end Go.Am
end
section
namespace Go.Am
open Go Go.Proofs
set_option maxRecDepth 100000
set_option linter.unusedVariables false
set_option linter.unusedSimpArgs false
theorem sort_row (rows : List (List Int)) (i k : Nat) (hi : i < rows.length) (hl : (rows.getD i []).length ≤ 12) :
    ACalls Try.prog 22 [.nr 1000000 i (rows.getD i []).length k] [(1000000, .nst 23 3 1 k (encR rows) none)] fun h r => h = [(1000000, .nst 23 3 1 k (encR (rows.set i (sortV (rows.getD i [])))) none)] ∧ r = .tup [] := by
  have hg : (encR rows)[i]? = some (encI (rows.getD i [])) := by simp [encR, List.getD, hi]
  refine (ACalls_row (ps := []) hg (encI_len _).symm (sort_own (rows.getD i []) hl) (R' := fun es r => es = encI (sortV (rows.getD i [])) ∧ r = .tup []) ?_).mono ?_
  · rintro h' r ⟨rfl, rfl⟩
    exact ⟨_, rfl, by rw [encI_len, sortV_len], .inl rfl, rfl, rfl⟩
  · rintro h' r ⟨es', rfl, _, rfl, rfl⟩
    exact ⟨by rw [encR_set], rfl⟩
def nt0 : Nt := ⟨[], [], [], [], 0, 0, 0, 0⟩
def Bdr.init : Bdr := ⟨[], [], [], 4, 2, 1, 8, [], [], [], 0, [], false⟩
def addsV : Bdr → List Dc → Option (Int × Int) × Bdr
  | b, [] => (none, b)
  | b, d :: r => if (b.addV d).1 = 0 then addsV (b.addV d).2 r else (some (d.line, (b.addV d).1), b)
def spB (n : Int) (sp : List Spr) (ba : List Int) : List Spr := List.zipWith (fun s x => { s with base := n + x }) sp ba
def plB (sp : List Spr) (p : Int × Int) : Int := (sp.getD p.1.toNat spr0).base + p.2 - 1
def Bdr.net (b : Bdr) : Nt := ⟨b.bl, b.nx.map sortV, spB b.bl.length b.sp b.ba, b.pl.map (plB (spB b.bl.length b.sp b.ba)), b.cq, b.ca, b.cd, b.cp⟩
def nbuildV (d : List Dc) : Nt × Int × Int := match addsV Bdr.init d with
  | (some (l, e), _) => (nt0, l, e)
  | (none, b) => if decide (b.bl.length = 0) = true then (nt0, 0, 15) else if b.sp.any (·.depot) = false then (nt0, 0, 16) else (b.net, 0, 0)
def Bdr.lbox (b : Bdr) : List D := [.ref 901 0 b.bl.length b.bl.length, .nref 902 b.nx.length, .ref 903 0 b.sp.length b.sp.length, .cl [], .p (.int .i64 b.cq), .p (.int .i64 b.ca), .p (.int .i64 b.cd), .p (.int .i64 b.cp),
  .mv 14, .mv 15, .ref 906 0 b.ba.length b.ba.length, .p (.int .i64 b.sl), .ref 907 0 b.pl.length b.pl.length, .p (.bool b.cf)]
def Bdr.lh (b : Bdr) (k : Nat) : Hp := [(17, .box b.lbox), (901, .arr 56 3 (encK b.bl)), (902, .nst 23 3 1 k (encR b.nx) none), (903, .arr 52 6 (encP b.sp)),
  (14, .mp (mpS b.mb)), (15, .mp (mpS b.ms)), (906, .arr 3 1 (encI b.ba)), (907, .arr 67 2 (encQ b.pl))]
theorem Bdr.lh_eq (b : Bdr) (k : Nat) : b.lh k = [(17, .box [.ref 901 0 b.bl.length b.bl.length, .nref 902 b.nx.length, .ref 903 0 b.sp.length b.sp.length, .cl [], .p (.int .i64 b.cq), .p (.int .i64 b.ca), .p (.int .i64 b.cd), .p (.int .i64 b.cp),
  .mv 14, .mv 15, .ref 906 0 b.ba.length b.ba.length, .p (.int .i64 b.sl), .ref 907 0 b.pl.length b.pl.length, .p (.bool b.cf)]), (901, .arr 56 3 (encK b.bl)), (902, .nst 23 3 1 k (encR b.nx) none), (903, .arr 52 6 (encP b.sp)),
  (14, .mp (mpS b.mb)), (15, .mp (mpS b.ms)), (906, .arr 3 1 (encI b.ba)), (907, .arr 67 2 (encQ b.pl))] := rfl
theorem BI.init : BI Bdr.init := by
  refine ⟨by simp [Bdr.init], rfl, fun x i h => ?_, fun x i h => ?_, fun i => by simp [Bdr.init], by simp [Bdr.init], rfl, by simp [Bdr.init], by simp [Bdr.init], by simp [Bdr.init], by simp [Bdr.init], by simp [Bdr.init]⟩ <;> simp [Bdr.init, getS] at h
theorem BI.adds : ∀ (l : List Dc) {b : Bdr}, BI b → BI (addsV b l).2
  | [], b, h => h
  | d :: r, b, h => by
    simp only [addsV]
    split
    · exact BI.adds r (h.add d)
    · exact h
theorem encC_dget (l : List Dc) (i : Nat) (h : i < l.length) : (encC l).getD i [] = [.int .i64 (l.getD i dc0).word, .int .i64 (l.getD i dc0).line, .sl (encS (l.getD i dc0).names), .sl (encI (l.getD i dc0).nums)] := by simp [encC, List.getD, h]
theorem cf_any (l : List Spr) (hl : l.length < 10000000) : cfDepot_v l = some (l.any (·.depot)) := by
  have h := loopO_for (step := s_slices_IndexFunc_L1 l) l.length (fun i => (i : Int)) (Sum.inl (l.length : Int)) (fun i => if (l.getD i spr0).depot = true then some (Sum.inr (i : Int)) else none)
    (fun i hi _ => by
      have hx : idxO l (i : Int) = some (l.getD i spr0) := by rw [idxO_nat]; simp [List.getD, hi]
      rw [s_slices_IndexFunc_L1_eq, decide_eq_true (by omega : (i : Int) < ((l.length : Nat) : Int)), cond_true, hx, Option.bind_some]
      simp only [s_netmap_Build_1_v, Option.bind_some]
      cases c : (l.getD i spr0).depot
      · simp [wrap_succ i (by omega)]
      · simp)
    (fun _ => by rw [s_slices_IndexFunc_L1_eq, decide_eq_false (by omega : ¬ ((l.length : Nat) : Int) < ((l.length : Nat) : Int)), cond_false])
  unfold cfDepot_v s_slices_IndexFunc_v
  rw [show ((0 : Nat) : Int) = 0 from rfl] at h
  rw [h]
  cases hf : (List.range l.length).findSome? (fun i => if (l.getD i spr0).depot = true then some (Sum.inr (i : Int) : Int ⊕ Int) else none) with
  | none =>
    rw [List.findSome?_eq_none_iff] at hf
    have : l.any (·.depot) = false := by
      rw [List.any_eq_false]
      intro x hx
      obtain ⟨i, hi, rfl⟩ := List.getElem_of_mem hx
      have := hf i (by simpa using hi)
      simp [List.getD, hi] at this
      simpa using this
    simp [this]
  | some e =>
    obtain ⟨i, hi, he⟩ := List.exists_of_findSome?_eq_some hf
    simp only [List.mem_range] at hi
    split at he
    · rename_i hd
      cases he
      have : l.any (·.depot) = true := List.any_eq_true.2 ⟨l.getD i spr0, getD_mem l i spr0 hi, hd⟩
      simp [this]
    · cases he
def sB (n : Int) (sp : List Spr) (ba : List Int) (i : Nat) : List Spr := spB n (sp.take i) (ba.take i) ++ sp.drop i
theorem spB_len (n : Int) (sp : List Spr) (ba : List Int) (h : ba.length = sp.length) : (spB n sp ba).length = sp.length := by simp [spB, h]
theorem sB_len (n : Int) (sp : List Spr) (ba : List Int) (i : Nat) (h : ba.length = sp.length) (hi : i ≤ sp.length) : (sB n sp ba i).length = sp.length := by
  simp only [sB, List.length_append, List.length_drop]
  rw [spB_len _ _ _ (by simp [h]), List.length_take]
  omega
theorem sB_at (n : Int) (sp : List Spr) (ba : List Int) (i : Nat) (h : ba.length = sp.length) (hi : i < sp.length) : (sB n sp ba i).getD i spr0 = sp.getD i spr0 := by
  have hl : (spB n (sp.take i) (ba.take i)).length = i := by rw [spB_len _ _ _ (by simp [h]), List.length_take]; omega
  simp only [sB, List.getD]
  rw [List.getElem?_append_right (by omega), hl, List.getElem?_drop]
  simp
theorem sB_set (n : Int) (sp : List Spr) (ba : List Int) (i : Nat) (h : ba.length = sp.length) (hi : i < sp.length) : (sB n sp ba i).set i { sp.getD i spr0 with base := n + ba.getD i 0 } = sB n sp ba (i + 1) := by
  have hl : (spB n (sp.take i) (ba.take i)).length = i := by rw [spB_len _ _ _ (by simp [h]), List.length_take]; omega
  have hd : sp.drop i = sp.getD i spr0 :: sp.drop (i + 1) := by rw [List.drop_eq_getElem_cons hi]; simp [List.getD, hi]
  have ht : sp.take (i + 1) = sp.take i ++ [sp.getD i spr0] := by rw [List.take_add_one]; simp [List.getD, hi]
  have hb : ba.take (i + 1) = ba.take i ++ [ba.getD i 0] := by rw [List.take_add_one]; simp [List.getD, h, hi]
  unfold sB
  rw [List.set_append_right _ _ (by omega), hl, Nat.sub_self, hd, List.set_cons_zero, ht, hb]
  unfold spB
  rw [List.zipWith_append (by simp [h])]
  simp
def smallD (d : List Dc) : Prop := d.length < 10000000 ∧ ∀ x ∈ d, x.names.length ≤ 10000000 ∧ x.nums.length ≤ 10000000
set_option maxHeartbeats 4000000 in
theorem nbuild_ok (d : List Dc) (hd : smallD d) : ACalls Try.prog 8 [.p (.sl (encC d))] [] fun h r => h = [] ∧ r = .tup [.agg (nbuildV d).1.cs, .p (.int .i64 (nbuildV d).2.1), .p (.int .i64 (nbuildV d).2.2)] := by
  obtain ⟨hd1, hd2⟩ := hd
  refine ACalls_X Try.func8 rfl enters8 (by simp [Try.f8]) ?_
  simp only [go_sem, KK.fit]
  refine X_loop_inv (fun q : Nat × Bdr × Nat => ⟨[(2, .ptr 2 0), (5, .ptr 17 0), (23, .p (.sl (encC d))), (24, .p (.int .i64 d.length)), (25, .p (.int .i64 (q.1 : Nat)))], (2, .box [.cl [], .cl [], .cl [], .cl [], .p (.int .i64 0), .p (.int .i64 0), .p (.int .i64 0), .p (.int .i64 0)]) :: q.2.1.lh q.2.2, 139⟩)
    (fun q => q.1 ≤ d.length ∧ BI q.2.1 ∧ addsV Bdr.init d = addsV q.2.1 (d.drop q.1)) (fun q => d.length - q.1) (0, Bdr.init, 0) ⟨Nat.zero_le _, BI.init, by simp⟩
    ((Wk.nilBox (id := 17) (j := 0) (q := 901) (sz := 3) 56 rfl rfl rfl (by decide)).trans ((Wk.nilBoxN (id := 17) (j := 1) (q := 902) (sz := 1) 23 3 rfl rfl rfl (by decide)).trans
      ((Wk.nilBox (id := 17) (j := 2) (q := 903) (sz := 6) 52 rfl rfl rfl (by decide)).trans ((Wk.nilBox (id := 17) (j := 10) (q := 906) (sz := 1) 3 rfl rfl rfl (by decide)).trans
      ((Wk.nilBox (id := 17) (j := 12) (q := 907) (sz := 2) 67 rfl rfl rfl (by decide)).trans (Wk.forget (by simp [Le, LeE, LeH, get, envIds, hpIds, KeepH, D.ids, idsL, AO.ids, setL, base, Bdr.lh_eq, Bdr.init, encK, encP, encI, encR, encQ, mpS, encC_len]))))))) ?_
  rintro ⟨i, b, k⟩ n ⟨hi, hB, he⟩ ih
  dsimp only at hi hB he
  simp only [go_sem, Bdr.lh_eq]
  refine Cn_split (fun h2 => ?_) (fun h2 => ?_)
  · have hlt : i < d.length := by simp at h2; omega
    have hw := wrap_succ i (by omega)
    have hg := encC_dget d i hlt
    have r1 : (0 : Int) ≤ (i : Int) ∧ (i : Int) < (d.length : Int) := by omega
    have hdr : d.drop i = d.getD i dc0 :: d.drop (i + 1) := by
      rw [List.drop_eq_getElem_cons hlt]; simp [List.getD, hlt]
    have hx := hd2 (d.getD i dc0) (getD_mem d i dc0 hlt)
    rw [hdr] at he
    generalize d.getD i dc0 = x at *
    simp only [go_sem, Bdr.lh_eq, encC_len, Int.toNat_natCast, r1, hg]
    refine Cc_of (add_ok b k x hB hx) ?_
    rintro h' r ⟨k2, rfl, rfl⟩
    have hB2 := hB.add x
    simp only [addsV] at he
    cases c1 : decide ((b.addV x).1 = 0)
    · have c1' : ¬ (b.addV x).1 = 0 := of_decide_eq_false c1
      rw [if_neg c1'] at he
      simp only [go_sem, Bdr.h_eq (b.addV x).2 k2, c1]
      refine X_any [(7, .box [.p (.int .i64 x.word), .p (.int .i64 x.line), .p (.sl (encS x.names)), .p (.sl (encI x.nums))])] mixed (p := [(0, 0), (1, 0), (2, 0), (3, 0), (4, 2), (5, 0), (6, 0)]) (by kernel_rfl) (by simp [LeH, get]) ?_
      simp only [go_sem]
      refine end_pure ?_
      simp only [go_sem]
      unfold nbuildV
      rw [he]
      rfl
    · have c1' : (b.addV x).1 = 0 := of_decide_eq_true c1
      rw [if_pos c1'] at he
      simp only [go_sem, Bdr.h_eq (b.addV x).2 k2, c1, hw]
      refine ih (i + 1, (b.addV x).2, k2) _ ⟨hlt, hB2, he⟩ (by simp; omega) ?_
      (refine Wk.forget ?_; simp [Le, LeE, LeH, get, envIds, hpIds, KeepH, D.ids, idsL, AO.ids, setL, base, Bdr.lh_eq]; done)
  · have : i = d.length := by simp at h2; omega
    subst this
    rw [List.drop_length] at he
    simp only [addsV] at he
    have hv : nbuildV d = if decide (b.bl.length = 0) = true then (nt0, 0, 15) else if b.sp.any (·.depot) = false then (nt0, 0, 16) else (b.net, 0, 0) := by
      unfold nbuildV; rw [he]
    rw [hv]
    have hc : decide ((b.bl.length : Int) = 0) = decide (b.bl.length = 0) := by
      by_cases h : b.bl.length = 0 <;> simp [h]
    cases c1 : decide (b.bl.length = 0)
    rotate_left
    · simp only [go_sem, encK_len, hc, c1]
      refine end_pure ?_
      simp only [go_sem]
      rfl
    simp only [go_sem, encK_len, hc, c1]
    refine Cc_bor rfl rfl (cfDepot_vok b.sp _ (cf_any b.sp (by have := hB.ns; omega))) (by simp [BorL, Bor, ev, get, List.take_of_length_le, ZB]) ?_
    rintro h' r ⟨rfl, rfl⟩
    refine ⟨rfl, rfl, ?_⟩
    cases c2 : b.sp.any (·.depot)
    · simp only [go_sem, c2]
      refine end_pure ?_
      simp only [go_sem]
      rfl
    simp only [go_sem, c2]
    have hnb := hB.nb
    have hns := hB.ns
    have hba := hB.nba
    refine X_loop_inv (fun i : Nat => ⟨[(2, .ptr 2 0), (5, .ptr 17 0), (60, .p (.int .i64 b.sp.length)), (61, .p (.int .i64 (i : Nat)))], (2, .box [.cl [], .cl [], .cl [], .cl [], .p (.int .i64 0), .p (.int .i64 0), .p (.int .i64 0), .p (.int .i64 0)]) :: ({ b with sp := sB b.bl.length b.sp b.ba i } : Bdr).lh k, 139⟩)
      (fun i => i ≤ b.sp.length) (fun i => b.sp.length - i) 0 (Nat.zero_le _) (Wk.forget (by simp [Le, LeE, LeH, get, envIds, hpIds, KeepH, D.ids, idsL, AO.ids, setL, base, Bdr.lh_eq, sB, spB, encP_len2])) ?_
    rintro i m hi ih2
    have hl := sB_len b.bl.length b.sp b.ba i hba hi
    simp only [go_sem, Bdr.lh_eq, hl]
    refine Cn_split (fun h3 => ?_) (fun h3 => ?_)
    · have hlt : i < b.sp.length := by simp at h3; omega
      have hw := wrap_succ i (by omega)
      have g1 := encP_get (sB b.bl.length b.sp b.ba i) i (by omega)
      rw [sB_at _ _ _ _ hba hlt] at g1
      have g2 := encI_get b.ba i (by omega)
      have hbb := hB.bas (b.ba.getD i 0) (getD_mem b.ba i 0 (by omega))
      have w1 : IntKind.i64.wrap ((b.bl.length : Int) + b.ba.getD i 0) = (b.bl.length : Int) + b.ba.getD i 0 := by rw [IntKind.wrap_i64]; omega
      have r1 : (0 : Int) ≤ (i : Int) ∧ (i : Int) < (b.sp.length : Int) := by omega
      have hs := sB_set b.bl.length b.sp b.ba i hba hlt
      simp only [go_sem, Bdr.lh_eq, hl]
      refine X_any0 mixed (p := [(0, 0), (1, 0), (2, 0), (3, 0), (4, 0), (5, 0), (6, 0), (7, 0), (8, 0), (9, 0), (10, 0), (11, 0), (12, 0), (13, 0), (14, 0), (15, 0), (16, 0), (17, 0), (18, 0), (19, 0), (20, 0), (21, 0), (22, 3)]) (by kernel_rfl) (by simp [LeH, get]) ?_
      simp only [go_sem, hba, r1, encI_len, encK_len, encP_len2, Int.toNat_natCast, g1, g2, w1, hl, hw]
      refine ih2 (i + 1) _ hlt (by omega) ?_
      rw [← hs]
      (refine Wk.forget ?_; simp [Le, LeE, LeH, get, envIds, hpIds, KeepH, D.ids, idsL, AO.ids, setL, base, Bdr.lh_eq, encP_setE, encP_len2, hl, hba]; done)
    obtain rfl : i = b.sp.length := by simp at h3; omega
    have hsB : sB b.bl.length b.sp b.ba b.sp.length = spB b.bl.length b.sp b.ba := by
      unfold sB
      rw [List.drop_length, List.append_nil, List.take_length, ← hba, List.take_length]
    rw [hsB] at hl ⊢
    have hnp := hB.np
    simp only [go_sem, Bdr.lh_eq, encQ_len]
    refine X_loop_inv (fun i : Nat => ⟨[(2, .ptr 2 0), (5, .ptr 17 0), (90, .ref 907 0 b.pl.length b.pl.length), (91, .p (.int .i64 b.pl.length)), (92, .p (.int .i64 (i : Nat)))], [(2, .box [.cl [], .cl [], .cl [], .cl [], .p (.int .i64 0), .p (.int .i64 0), .p (.int .i64 0), .p (.int .i64 0)]),
        (17, .box [.ref 901 0 b.bl.length b.bl.length, .nref 902 b.nx.length, .ref 903 0 b.sp.length b.sp.length, .ref 904 0 i i, .p (.int .i64 b.cq), .p (.int .i64 b.ca), .p (.int .i64 b.cd), .p (.int .i64 b.cp),
          .mv 14, .mv 15, .ref 906 0 b.ba.length b.ba.length, .p (.int .i64 b.sl), .ref 907 0 b.pl.length b.pl.length, .p (.bool b.cf)]), (901, .arr 56 3 (encK b.bl)), (902, .nst 23 3 1 k (encR b.nx) none), (903, .arr 52 6 (encP (spB b.bl.length b.sp b.ba))),
        (14, .mp (mpS b.mb)), (15, .mp (mpS b.ms)), (906, .arr 3 1 (encI b.ba)), (904, .arr 3 1 (encI ((b.pl.take i).map (plB (spB b.bl.length b.sp b.ba))))), (907, .arr 67 2 (encQ b.pl))], 139⟩)
      (fun i => i ≤ b.pl.length) (fun i => b.pl.length - i) 0 (Nat.zero_le _) ((Wk.nilBox (id := 17) (j := 3) (q := 904) (sz := 1) 3 rfl rfl rfl (by decide)).trans (Wk.forget (by simp [Le, LeE, LeH, get, envIds, hpIds, KeepH, D.ids, idsL, AO.ids, setL, base, encI, encQ_len, hl]))) ?_
    rintro i m hi ih3
    simp only [go_sem]
    refine Cn_split (fun h3 => ?_) (fun h3 => ?_)
    · have hlt : i < b.pl.length := by simp at h3; omega
      have hw := wrap_succ i (by omega)
      have g1 : (encQ b.pl).getD i [] = [.int .i64 (b.pl.getD i (0, 0)).1, .int .i64 (b.pl.getD i (0, 0)).2] := by simp [encQ, List.getD, hlt]
      have r1 : (0 : Int) ≤ (i : Int) ∧ (i : Int) < (b.pl.length : Int) := by omega
      obtain ⟨⟨j, hj, hjl⟩, hp2⟩ := hB.pls (b.pl.getD i (0, 0)) (getD_mem b.pl i (0, 0) hlt)
      have r2 : (0 : Int) ≤ (j : Int) ∧ (j : Int) < (b.sp.length : Int) := by omega
      have g2 := encP_get (spB b.bl.length b.sp b.ba) j (by omega)
      have hbs : 0 ≤ ((spB b.bl.length b.sp b.ba).getD j spr0).base ∧ ((spB b.bl.length b.sp b.ba).getD j spr0).base ≤ 48 := by
        have := hB.bas (b.ba.getD j 0) (getD_mem b.ba j 0 (by omega))
        have e : ((spB b.bl.length b.sp b.ba).getD j spr0).base = b.bl.length + b.ba.getD j 0 := by
          simp [spB, List.getD, List.getElem?_zipWith, hjl, show j < b.ba.length by omega]
        omega
      have hpl : plB (spB b.bl.length b.sp b.ba) (b.pl.getD i (0, 0)) = ((spB b.bl.length b.sp b.ba).getD j spr0).base + (b.pl.getD i (0, 0)).2 - 1 := by
        unfold plB
        rw [hj]
        rfl
      have htk : (b.pl.take (i + 1)).map (plB (spB b.bl.length b.sp b.ba)) = (b.pl.take i).map (plB (spB b.bl.length b.sp b.ba)) ++ [plB (spB b.bl.length b.sp b.ba) (b.pl.getD i (0, 0))] := by
        rw [List.take_add_one, List.map_append]; congr 1; simp [List.getD, hlt]
      rw [hj] at g1
      generalize (spB b.bl.length b.sp b.ba).getD j spr0 = sj at *
      generalize b.pl.getD i (0, 0) = pi at *
      have w1 : IntKind.i64.wrap (IntKind.i64.wrap (sj.base + pi.2) - 1) = sj.base + pi.2 - 1 := by rw [IntKind.wrap_i64, IntKind.wrap_i64]; omega
      simp only [go_sem, encQ_len, r1, Int.toNat_natCast, g1]
      refine X_any [(17, .box [.ref 901 0 b.bl.length b.bl.length, .nref 902 b.nx.length, .ref 903 0 b.sp.length b.sp.length, .ref 904 0 i i, .p (.int .i64 b.cq), .p (.int .i64 b.ca), .p (.int .i64 b.cd), .p (.int .i64 b.cp),
          .mv 14, .mv 15, .ref 906 0 b.ba.length b.ba.length, .p (.int .i64 b.sl), .ref 907 0 b.pl.length b.pl.length, .p (.bool b.cf)]), (11, .box [.p (.int .i64 j), .p (.int .i64 pi.2)]), (903, .arr 52 6 (encP (spB b.bl.length b.sp b.ba)))] mixed (p := [(0, 0), (1, 0), (2, 0), (3, 0), (4, 0), (5, 0), (6, 0), (7, 0), (8, 0), (9, 0), (10, 0), (11, 0), (12, 0), (13, 0), (14, 0), (15, 0), (16, 0), (17, 0), (18, 0), (19, 0), (20, 1), (21, 2), (22, 0), (23, 0), (24, 0), (25, 3)]) (by kernel_rfl) (by simp [LeH, get]) ?_
      simp only [go_sem, hl, r2, Int.toNat_natCast, encP_len2, g2, w1, encI_len, List.length_map, List.length_take, Nat.min_eq_left hi]
      refine ⟨⟨wid1 _ _ rfl, by omega⟩, ?_⟩
      simp only [go_sem, hw]
      refine ih3 (i + 1) _ hlt (by omega) ?_
      rw [htk, hpl]
      (refine Wk.forget ?_; simp [Le, LeE, LeH, get, envIds, hpIds, KeepH, D.ids, idsL, AO.ids, setL, base, encI_snoc, Nat.min_eq_left hi]; done)
    obtain rfl : i = b.pl.length := by simp at h3; omega
    rw [List.take_length]
    have hnn := hB.nn
    simp only [go_sem, encR_len]
    refine X_loop_inv (fun q : Nat × List (List Int) => ⟨[(2, .ptr 2 0), (5, .ptr 17 0), (126, .nref 902 b.nx.length), (127, .p (.int .i64 b.nx.length)), (128, .p (.int .i64 (q.1 : Nat)))], [(2, .box [.cl [], .cl [], .cl [], .cl [], .p (.int .i64 0), .p (.int .i64 0), .p (.int .i64 0), .p (.int .i64 0)]),
        (17, .box [.ref 901 0 b.bl.length b.bl.length, .nref 902 b.nx.length, .ref 903 0 b.sp.length b.sp.length, .ref 904 0 b.pl.length b.pl.length, .p (.int .i64 b.cq), .p (.int .i64 b.ca), .p (.int .i64 b.cd), .p (.int .i64 b.cp),
          .mv 14, .mv 15, .ref 906 0 b.ba.length b.ba.length, .p (.int .i64 b.sl), .ref 907 0 b.pl.length b.pl.length, .p (.bool b.cf)]), (901, .arr 56 3 (encK b.bl)), (902, .nst 23 3 1 k (encR q.2) none), (903, .arr 52 6 (encP (spB b.bl.length b.sp b.ba))),
        (14, .mp (mpS b.mb)), (15, .mp (mpS b.ms)), (906, .arr 3 1 (encI b.ba)), (904, .arr 3 1 (encI (b.pl.map (plB (spB b.bl.length b.sp b.ba))))), (907, .arr 67 2 (encQ b.pl))], 139⟩)
      (fun q => q.1 ≤ b.nx.length ∧ q.2 = (b.nx.take q.1).map sortV ++ b.nx.drop q.1) (fun q => b.nx.length - q.1) (0, b.nx) ⟨Nat.zero_le _, by simp⟩ (Wk.forget (by simp [Le, LeE, LeH, get, envIds, hpIds, KeepH, D.ids, idsL, AO.ids, setL, base])) ?_
    rintro ⟨i, rows⟩ m ⟨hi, hrw⟩ ih4
    dsimp only at hi hrw
    have hrl : rows.length = b.nx.length := by rw [hrw]; simp; omega
    simp only [go_sem]
    refine Cn_split (fun h3 => ?_) (fun h3 => ?_)
    · have hlt : i < b.nx.length := by simp at h3; omega
      have hw := wrap_succ i (by omega)
      have r1 : (0 : Int) ≤ (i : Int) ∧ (i : Int) < (b.nx.length : Int) := by omega
      have hat : rows.getD i [] = b.nx.getD i [] := by
        rw [hrw]
        simp only [List.getD]
        rw [List.getElem?_append_right (by simp; omega), List.getElem?_drop]
        simp [Nat.min_eq_left hi]
      have hset : rows.set i (sortV (rows.getD i [])) = (b.nx.take (i + 1)).map sortV ++ b.nx.drop (i + 1) := by
        rw [hat, hrw, List.set_append_right _ _ (by simp; omega)]
        have hdr : b.nx.drop i = b.nx.getD i [] :: b.nx.drop (i + 1) := by rw [List.drop_eq_getElem_cons hlt]; simp [List.getD, hlt]
        rw [hdr, show i - ((b.nx.take i).map sortV).length = 0 by simp; omega, List.set_cons_zero, List.take_add_one, List.map_append]
        simp [List.getD, hlt]
      have hrow := hB.row i
      simp only [go_sem, r1, Int.toNat_natCast, encR_len, encR_get, encI_len, hrl]
      refine Cc_own rfl rfl ?_
      simp only [go_sem, callD_eq]
      refine Kc_of (sort_row rows i k (by omega) (by rw [hat]; omega)) ?_
      rintro h' r ⟨rfl, rfl⟩
      simp only [go_sem, hw]
      refine ih4 (i + 1, _) _ ⟨hlt, hset⟩ (by simp; omega) ?_
      (refine Wk.forget ?_; simp [Le, LeE, LeH, get, envIds, hpIds, KeepH, D.ids, idsL, AO.ids, setL, base]; done)
    obtain rfl : i = b.nx.length := by simp at h3; omega
    rw [List.take_length, List.drop_length, List.append_nil] at hrw
    subst hrw
    simp only [go_sem]
    refine end_pure ?_
    simp only [go_sem, encK_len, encP_len2, encI_len, hl, encR_len, List.length_map]
    have e1 : List.take b.sp.length (encP (spB b.bl.length b.sp b.ba)) = encP (spB b.bl.length b.sp b.ba) := List.take_of_length_le (by rw [encP_len2, hl]; exact Nat.le_refl _)
    have e2 : List.take b.pl.length (encI (b.pl.map (plB (spB b.bl.length b.sp b.ba)))) = encI (b.pl.map (plB (spB b.bl.length b.sp b.ba))) := List.take_of_length_le (by simp [encI])
    have e3 : (encR (b.nx.map sortV)).map (fun r => [Pd.sl r]) = encG (b.nx.map sortV) := by simp [encR, encG]
    rw [e1, e2, e3]
    simp [c1]
    rfl
end Go.Am
end
section
namespace Go.Am
open Go Go.Proofs
set_option maxRecDepth 100000
set_option maxHeartbeats 2000000
set_option linter.unusedSimpArgs false
set_option linter.unusedVariables false
noncomputable def has_L1 (a0 : List Int) (a1 : Int) : Int → Option ((Int) ⊕ (Int ⊕ Bool))
  | v2 => cond (decide (v2 < ((a0.length : Nat) : Int))) (Option.bind (idxO a0 v2) fun x9 => cond (decide (x9 = a1)) (some (Sum.inr (.inr ((true : Bool))))) (some (Sum.inl (IntKind.i64.wrap (v2 + 1))))) (some (Sum.inr (.inl v2)))
theorem has_L1_eq (a0 : List Int) (a1 : Int) (v2 : Int) : has_L1 a0 a1 v2 = cond (decide (v2 < ((a0.length : Nat) : Int))) (Option.bind (idxO a0 v2) fun x9 => cond (decide (x9 = a1)) (some (Sum.inr (.inr ((true : Bool))))) (some (Sum.inl (IntKind.i64.wrap (v2 + 1))))) (some (Sum.inr (.inl v2))) := rfl
noncomputable def has_v (a0 : List Int) (a1 : Int) : Option (Bool) :=
  Option.bind (loopO (has_L1 a0 a1) 0) (fun | .inl v14 => some false | .inr (r15) => some r15)
theorem has_vok (a0 : List Int) (a1 : Int) (r : Bool) (hr : has_v a0 a1 = some r) :
    ACalls Try.prog 18 [.p (.sl (encI a0)), .p (.int .i64 a1)] [] fun h d => h = [] ∧ d = .p (.bool r) := by
  refine ACalls_X Try.func18 rfl enters18 (by simp [Try.f18]) ?_
  unfold has_v at hr
  obtain ⟨e6, g7, hr⟩ := bE hr
  try simp only [go_sem]
  refine X_loopO g7 (fun q : Int => ⟨[(0, .p (.sl (encI a0))), (1, .p (.int .i64 a1)), (5, .p (.int .i64 q))], [], 18⟩) ((Wk.forget (by simp [Le, LeE, LeH, get, envIds, hpIds, KeepH, D.ids, idsL, AO.ids, setL, base, ZE]))) ?_
  rintro v2 m5 hh3 ih4
  rw [has_L1_eq] at hh3
  cases c8 : decide (v2 < ((a0.length : Nat) : Int))
  · simp only [c8, cond_false] at hh3
    simp only [Option.bind_some, nextO_inr] at hh3
    obtain rfl := Option.some.inj hh3
    try dsimp only at hr
    obtain rfl := Option.some.inj hr
    try simp only [go_sem, c8]
    all_goals (try refine end_pure ?_)
    all_goals (try simp only [go_sem, c8])
    all_goals (try (first | rfl | exact ⟨rfl, rfl⟩ | (simp; done)))
  simp only [c8, cond_true] at hh3
  obtain ⟨x9, g10, hh3⟩ := bK hh3
  have f11 := idxO_rng g10
  have f12 : (encI a0).getD (Int.toNat v2) [] = [(.int .i64 x9)] := idxO_map _ g10
  cases c13 : decide (x9 = a1)
  · simp only [c13, cond_false] at hh3
    simp only [Option.bind_some, nextO_inl] at hh3
    try simp only [go_sem, c8, f11, f12, c13]
    exact ih4 (IntKind.i64.wrap (v2 + 1)) _ hh3 ((Wk.forget (by simp [Le, LeE, LeH, get, envIds, hpIds, KeepH, D.ids, idsL, AO.ids, setL, base, ZE])))
  simp only [c13, cond_true] at hh3
  simp only [Option.bind_some, nextO_inr] at hh3
  obtain rfl := Option.some.inj hh3
  try dsimp only at hr
  obtain rfl := Option.some.inj hr
  try simp only [go_sem, c8, f11, f12, c13]
  all_goals (try refine end_pure ?_)
  all_goals (try simp only [go_sem, c8, f11, f12, c13])
  all_goals (try (first | rfl | exact ⟨rfl, rfl⟩ | (simp; done)))
noncomputable def insert_L1 (a0 : List Int) (a1 : Int) : (List Int) × Bool × Int → Option (((List Int) × Bool × Int) ⊕ (((List Int) × Bool × Int)))
  | (v6, v7, v8) => cond (decide (v8 < ((a0.length : Nat) : Int))) (cond v7 (Option.bind (idxO a0 v8) fun x26 => cond (decide (v6.length + 1 < 10000000)) (some (Sum.inl ((v6 ++ [x26]), true, (IntKind.i64.wrap (v8 + 1))))) none) (Option.bind (idxO a0 v8) fun x18 => cond (decide (a1 < x18)) (cond (decide (v6.length + 1 < 10000000)) (cond (decide ((v6 ++ [a1]).length + 1 < 10000000)) (some (Sum.inl (((v6 ++ [a1]) ++ [x18]), true, (IntKind.i64.wrap (v8 + 1))))) none) none) (cond (decide (v6.length + 1 < 10000000)) (some (Sum.inl ((v6 ++ [x18]), false, (IntKind.i64.wrap (v8 + 1))))) none))) (some (Sum.inr (v6, v7, v8)))
theorem insert_L1_eq (a0 : List Int) (a1 : Int) (v6 : List Int) (v7 : Bool) (v8 : Int) : insert_L1 a0 a1 (v6, v7, v8) = cond (decide (v8 < ((a0.length : Nat) : Int))) (cond v7 (Option.bind (idxO a0 v8) fun x26 => cond (decide (v6.length + 1 < 10000000)) (some (Sum.inl ((v6 ++ [x26]), true, (IntKind.i64.wrap (v8 + 1))))) none) (Option.bind (idxO a0 v8) fun x18 => cond (decide (a1 < x18)) (cond (decide (v6.length + 1 < 10000000)) (cond (decide ((v6 ++ [a1]).length + 1 < 10000000)) (some (Sum.inl (((v6 ++ [a1]) ++ [x18]), true, (IntKind.i64.wrap (v8 + 1))))) none) none) (cond (decide (v6.length + 1 < 10000000)) (some (Sum.inl ((v6 ++ [x18]), false, (IntKind.i64.wrap (v8 + 1))))) none))) (some (Sum.inr (v6, v7, v8))) := rfl
noncomputable def insert_v (a0 : List Int) (a1 : Int) : Option ((List Int)) :=
  Option.bind (loopO (insert_L1 a0 a1) ([], false, 0)) (fun (v32, v33, v34) => cond v33 (some v32) (cond (decide (v32.length + 1 < 10000000)) (some (v32 ++ [a1])) none))
theorem insert_vok (a0 : List Int) (a1 : Int) (r : (List Int)) (hr : insert_v a0 a1 = some r) :
    ACalls Try.prog 51 [.p (.sl (encI a0)), .p (.int .i64 a1)] [] fun h d => h = [] ∧ d = .p (.sl (encI r)) := by
  refine ACalls_X Try.func51 rfl enters51 (by simp [Try.f51]) ?_
  unfold insert_v at hr
  obtain ⟨e12, g13, hr⟩ := bE hr
  try simp only [go_sem]
  refine X_loopO g13 (fun q : (List Int) × Bool × Int => ⟨[(0, .p (.sl (encI a0))), (1, .p (.int .i64 a1)), (5, .ref 34 0 q.1.length q.1.length), (6, .p (.bool q.2.1)), (7, .p (.int .i64 q.2.2))], [(34, .arr 3 1 (encI q.1))], 42⟩) ((Wk.nil (t := 5) (q := 34) (sz := 1) 3 rfl rfl (by decide)).trans ((Wk.forget (by simp [Le, LeE, LeH, get, envIds, hpIds, KeepH, D.ids, idsL, AO.ids, setL, base, ZE])))) ?_
  rintro ⟨v6, v7, v8⟩ m11 hh9 ih10
  rw [insert_L1_eq] at hh9
  cases c14 : decide (v8 < ((a0.length : Nat) : Int))
  · simp only [c14, cond_false] at hh9
    simp only [Option.bind_some, nextO_inr] at hh9
    obtain rfl := Option.some.inj hh9
    try dsimp only at hr
    cases c15 : v7
    · simp only [c15, cond_false] at hr
      obtain ⟨c16, hr⟩ := gE hr
      try simp only [go_sem, c14, c15]
      refine ⟨by have := of_decide_eq_true c16; (try simp only [List.length_cons, List.length_nil, List.length_append] at *); (repeat' refine And.intro ?_ ?_) <;> first | exact wid1 _ _ rfl | exact encI_wid _ | omega | (simp [Wid]; done), ?_⟩
      obtain rfl := Option.some.inj hr
      try simp only [go_sem, c15]
      all_goals (try refine end_pure ?_)
      all_goals (try simp only [go_sem, c15])
      all_goals (try (first | rfl | exact ⟨rfl, rfl⟩ | (simp; done)))
    simp only [c15, cond_true] at hr
    obtain rfl := Option.some.inj hr
    try simp only [go_sem, c14, c15]
    all_goals (try refine end_pure ?_)
    all_goals (try simp only [go_sem, c14, c15])
    all_goals (try (first | rfl | exact ⟨rfl, rfl⟩ | (simp; done)))
  simp only [c14, cond_true] at hh9
  cases c17 : v7
  · simp only [c17, cond_false] at hh9
    obtain ⟨x18, g19, hh9⟩ := bK hh9
    have f20 := idxO_rng g19
    have f21 : (encI a0).getD (Int.toNat v8) [] = [(.int .i64 x18)] := idxO_map _ g19
    cases c22 : decide (a1 < x18)
    · simp only [c22, cond_false] at hh9
      obtain ⟨c23, hh9⟩ := gK hh9
      try simp only [go_sem, c14, c17, f20, f21, c22]
      refine ⟨by have := of_decide_eq_true c23; (try simp only [List.length_cons, List.length_nil, List.length_append] at *); (repeat' refine And.intro ?_ ?_) <;> first | exact wid1 _ _ rfl | exact encI_wid _ | omega | (simp [Wid]; done), ?_⟩
      simp only [Option.bind_some, nextO_inl] at hh9
      try simp only [go_sem, c17]
      exact ih10 ((v6 ++ [x18]), false, (IntKind.i64.wrap (v8 + 1))) _ hh9 ((Wk.forget (by simp [Le, LeE, LeH, get, envIds, hpIds, KeepH, D.ids, idsL, AO.ids, setL, base, ZE, c17])))
    simp only [c22, cond_true] at hh9
    obtain ⟨c24, hh9⟩ := gK hh9
    try simp only [go_sem, c14, c17, f20, f21, c22]
    refine ⟨by have := of_decide_eq_true c24; (try simp only [List.length_cons, List.length_nil, List.length_append] at *); (repeat' refine And.intro ?_ ?_) <;> first | exact wid1 _ _ rfl | exact encI_wid _ | omega | (simp [Wid]; done), ?_⟩
    obtain ⟨c25, hh9⟩ := gK hh9
    try simp only [go_sem, f20, f21, c17]
    refine ⟨by have := of_decide_eq_true c25; (try simp only [List.length_cons, List.length_nil, List.length_append] at *); (repeat' refine And.intro ?_ ?_) <;> first | exact wid1 _ _ rfl | exact encI_wid _ | omega | (simp [Wid]; done), ?_⟩
    simp only [Option.bind_some, nextO_inl] at hh9
    try simp only [go_sem, c17]
    exact ih10 (((v6 ++ [a1]) ++ [x18]), true, (IntKind.i64.wrap (v8 + 1))) _ hh9 ((Wk.forget (by simp [Le, LeE, LeH, get, envIds, hpIds, KeepH, D.ids, idsL, AO.ids, setL, base, ZE, c17])))
  simp only [c17, cond_true] at hh9
  obtain ⟨x26, g27, hh9⟩ := bK hh9
  have f28 := idxO_rng g27
  have f29 : (encI a0).getD (Int.toNat v8) [] = [(.int .i64 x26)] := idxO_map _ g27
  obtain ⟨c30, hh9⟩ := gK hh9
  try simp only [go_sem, c14, c17, f28, f29]
  refine ⟨by have := of_decide_eq_true c30; (try simp only [List.length_cons, List.length_nil, List.length_append] at *); (repeat' refine And.intro ?_ ?_) <;> first | exact wid1 _ _ rfl | exact encI_wid _ | omega | (simp [Wid]; done), ?_⟩
  simp only [Option.bind_some, nextO_inl] at hh9
  try simp only [go_sem, c17]
  exact ih10 ((v6 ++ [x26]), true, (IntKind.i64.wrap (v8 + 1))) _ hh9 ((Wk.forget (by simp [Le, LeE, LeH, get, envIds, hpIds, KeepH, D.ids, idsL, AO.ids, setL, base, ZE, c17])))
end Go.Am
end
section
namespace Go.Am
open Go Go.Proofs
set_option maxRecDepth 100000
set_option maxHeartbeats 2000000
set_option linter.unusedSimpArgs false
set_option linter.unusedVariables false
noncomputable def rblock_L1 (a0 : Nt) (a1 : List UInt8) : Int → Option ((Int) ⊕ (Int ⊕ Int))
  | v2 => cond (decide (v2 < ((a0.blocks.length : Nat) : Int))) (Option.bind (idxO a0.blocks v2) fun x9 => cond (decide (x9.name = a1)) (some (Sum.inr (.inr ((v2 : Int))))) (some (Sum.inl (IntKind.i64.wrap (v2 + 1))))) (some (Sum.inr (.inl v2)))
theorem rblock_L1_eq (a0 : Nt) (a1 : List UInt8) (v2 : Int) : rblock_L1 a0 a1 v2 = cond (decide (v2 < ((a0.blocks.length : Nat) : Int))) (Option.bind (idxO a0.blocks v2) fun x9 => cond (decide (x9.name = a1)) (some (Sum.inr (.inr ((v2 : Int))))) (some (Sum.inl (IntKind.i64.wrap (v2 + 1))))) (some (Sum.inr (.inl v2))) := rfl
noncomputable def rblock_v (a0 : Nt) (a1 : List UInt8) : Option (Int) :=
  Option.bind (loopO (rblock_L1 a0 a1) 0) (fun | .inl v14 => some (-1) | .inr (r15) => some r15)
theorem rblock_vok (a0 : Nt) (a1 : List UInt8) (r : Int) (hr : rblock_v a0 a1 = some r) :
    ACalls Try.prog 75 [.agg [.p (.sl (encK a0.blocks)), .p (.sl (encG a0.next)), .p (.sl (encP a0.spurs)), .p (.sl (encI a0.robots)), .p (.int .i64 a0.cq), .p (.int .i64 a0.ca), .p (.int .i64 a0.cd), .p (.int .i64 a0.cp)], .p (.str a1)] [] fun h d => h = [] ∧ d = .p (.int .i64 r) := by
  refine ACalls_X Try.func75 rfl enters75 (by simp [Try.f75]) ?_
  unfold rblock_v at hr
  obtain ⟨e6, g7, hr⟩ := bE hr
  try simp only [go_sem]
  refine X_loopO g7 (fun q : Int => ⟨[(1, .p (.str a1)), (2, .ptr 2 0), (5, .p (.int .i64 q))], [(2, .box [.p (.sl (encK a0.blocks)), .p (.sl (encG a0.next)), .p (.sl (encP a0.spurs)), .p (.sl (encI a0.robots)), .p (.int .i64 a0.cq), .p (.int .i64 a0.ca), .p (.int .i64 a0.cd), .p (.int .i64 a0.cp)])], 22⟩) ((Wk.forget (by simp [Le, LeE, LeH, get, envIds, hpIds, KeepH, D.ids, idsL, AO.ids, setL, base, ZE]))) ?_
  rintro v2 m5 hh3 ih4
  rw [rblock_L1_eq] at hh3
  cases c8 : decide (v2 < ((a0.blocks.length : Nat) : Int))
  · simp only [c8, cond_false] at hh3
    simp only [Option.bind_some, nextO_inr] at hh3
    obtain rfl := Option.some.inj hh3
    try dsimp only at hr
    obtain rfl := Option.some.inj hr
    try simp only [go_sem, c8]
    all_goals (try refine end_pure ?_)
    all_goals (try simp only [go_sem, c8])
    all_goals (try (first | rfl | exact ⟨rfl, rfl⟩ | (simp; done)))
  simp only [c8, cond_true] at hh3
  obtain ⟨x9, g10, hh3⟩ := bK hh3
  have f11 := idxO_rng g10
  have f12 : (encK a0.blocks).getD (Int.toNat v2) [] = [(.str x9.name), (.int .i64 x9.x), (.int .i64 x9.y)] := idxO_map _ g10
  cases c13 : decide (x9.name = a1)
  · simp only [c13, cond_false] at hh3
    simp only [Option.bind_some, nextO_inl] at hh3
    try simp only [go_sem, c8, f11, f12, c13]
    exact ih4 (IntKind.i64.wrap (v2 + 1)) _ hh3 ((Wk.forget (by simp [Le, LeE, LeH, get, envIds, hpIds, KeepH, D.ids, idsL, AO.ids, setL, base, ZE])))
  simp only [c13, cond_true] at hh3
  simp only [Option.bind_some, nextO_inr] at hh3
  obtain rfl := Option.some.inj hh3
  try dsimp only at hr
  obtain rfl := Option.some.inj hr
  try simp only [go_sem, c8, f11, f12, c13]
  all_goals (try refine end_pure ?_)
  all_goals (try simp only [go_sem, c8, f11, f12, c13])
  all_goals (try (first | rfl | exact ⟨rfl, rfl⟩ | (simp; done)))
noncomputable def rspur_L1 (a0 : Nt) (a1 : List UInt8) : Int → Option ((Int) ⊕ (Int ⊕ Int))
  | v2 => cond (decide (v2 < ((a0.spurs.length : Nat) : Int))) (Option.bind (idxO a0.spurs v2) fun x9 => cond (decide (x9.name = a1)) (some (Sum.inr (.inr ((v2 : Int))))) (some (Sum.inl (IntKind.i64.wrap (v2 + 1))))) (some (Sum.inr (.inl v2)))
theorem rspur_L1_eq (a0 : Nt) (a1 : List UInt8) (v2 : Int) : rspur_L1 a0 a1 v2 = cond (decide (v2 < ((a0.spurs.length : Nat) : Int))) (Option.bind (idxO a0.spurs v2) fun x9 => cond (decide (x9.name = a1)) (some (Sum.inr (.inr ((v2 : Int))))) (some (Sum.inl (IntKind.i64.wrap (v2 + 1))))) (some (Sum.inr (.inl v2))) := rfl
noncomputable def rspur_v (a0 : Nt) (a1 : List UInt8) : Option (Int) :=
  Option.bind (loopO (rspur_L1 a0 a1) 0) (fun | .inl v14 => some (-1) | .inr (r15) => some r15)
theorem rspur_vok (a0 : Nt) (a1 : List UInt8) (r : Int) (hr : rspur_v a0 a1 = some r) :
    ACalls Try.prog 76 [.agg [.p (.sl (encK a0.blocks)), .p (.sl (encG a0.next)), .p (.sl (encP a0.spurs)), .p (.sl (encI a0.robots)), .p (.int .i64 a0.cq), .p (.int .i64 a0.ca), .p (.int .i64 a0.cd), .p (.int .i64 a0.cp)], .p (.str a1)] [] fun h d => h = [] ∧ d = .p (.int .i64 r) := by
  refine ACalls_X Try.func76 rfl enters76 (by simp [Try.f76]) ?_
  unfold rspur_v at hr
  obtain ⟨e6, g7, hr⟩ := bE hr
  try simp only [go_sem]
  refine X_loopO g7 (fun q : Int => ⟨[(1, .p (.str a1)), (2, .ptr 2 0), (5, .p (.int .i64 q))], [(2, .box [.p (.sl (encK a0.blocks)), .p (.sl (encG a0.next)), .p (.sl (encP a0.spurs)), .p (.sl (encI a0.robots)), .p (.int .i64 a0.cq), .p (.int .i64 a0.ca), .p (.int .i64 a0.cd), .p (.int .i64 a0.cp)])], 22⟩) ((Wk.forget (by simp [Le, LeE, LeH, get, envIds, hpIds, KeepH, D.ids, idsL, AO.ids, setL, base, ZE]))) ?_
  rintro v2 m5 hh3 ih4
  rw [rspur_L1_eq] at hh3
  cases c8 : decide (v2 < ((a0.spurs.length : Nat) : Int))
  · simp only [c8, cond_false] at hh3
    simp only [Option.bind_some, nextO_inr] at hh3
    obtain rfl := Option.some.inj hh3
    try dsimp only at hr
    obtain rfl := Option.some.inj hr
    try simp only [go_sem, c8]
    all_goals (try refine end_pure ?_)
    all_goals (try simp only [go_sem, c8])
    all_goals (try (first | rfl | exact ⟨rfl, rfl⟩ | (simp; done)))
  simp only [c8, cond_true] at hh3
  obtain ⟨x9, g10, hh3⟩ := bK hh3
  have f11 := idxO_rng g10
  have f12 : (encP a0.spurs).getD (Int.toNat v2) [] = [(.str x9.name), (.bool x9.depot), (.int .i64 x9.inn), (.int .i64 x9.out), (.int .i64 x9.slots), (.int .i64 x9.base)] := idxO_map _ g10
  cases c13 : decide (x9.name = a1)
  · simp only [c13, cond_false] at hh3
    simp only [Option.bind_some, nextO_inl] at hh3
    try simp only [go_sem, c8, f11, f12, c13]
    exact ih4 (IntKind.i64.wrap (v2 + 1)) _ hh3 ((Wk.forget (by simp [Le, LeE, LeH, get, envIds, hpIds, KeepH, D.ids, idsL, AO.ids, setL, base, ZE])))
  simp only [c13, cond_true] at hh3
  simp only [Option.bind_some, nextO_inr] at hh3
  obtain rfl := Option.some.inj hh3
  try dsimp only at hr
  obtain rfl := Option.some.inj hr
  try simp only [go_sem, c8, f11, f12, c13]
  all_goals (try refine end_pure ?_)
  all_goals (try simp only [go_sem, c8, f11, f12, c13])
  all_goals (try (first | rfl | exact ⟨rfl, rfl⟩ | (simp; done)))
noncomputable def rconfigured_v (a0 : Cfg4) : Option (Bool) :=
  cond (decide (1 ≤ a0.cq)) (cond (decide (a0.cq ≤ 8)) (cond (decide (0 ≤ a0.ca)) (cond (decide (a0.ca ≤ 4)) (cond (decide (0 ≤ a0.cd)) (cond (decide (a0.cd ≤ 3)) (cond (decide (1 ≤ a0.cp)) (some (decide (a0.cp ≤ 16))) (some false)) (some false)) (some false)) (some false)) (some false)) (some false)) (some false)
theorem rconfigured_vok (a0 : Cfg4) (r : Bool) (hr : rconfigured_v a0 = some r) :
    ACalls Try.prog 30 [.agg [.p (.int .i64 a0.cq), .p (.int .i64 a0.ca), .p (.int .i64 a0.cd), .p (.int .i64 a0.cp)]] [] fun h d => h = [] ∧ d = .p (.bool r) := by
  refine ACalls_X Try.func30 rfl enters30 (by simp [Try.f30]) ?_
  unfold rconfigured_v at hr
  cases c1 : decide (1 ≤ a0.cq)
  · simp only [c1, cond_false] at hr
    obtain rfl := Option.some.inj hr
    try simp only [go_sem, c1]
    all_goals (try refine end_pure ?_)
    all_goals (try simp only [go_sem, c1])
    all_goals (try (first | rfl | exact ⟨rfl, rfl⟩ | (simp; done)))
  simp only [c1, cond_true] at hr
  cases c2 : decide (a0.cq ≤ 8)
  · simp only [c2, cond_false] at hr
    obtain rfl := Option.some.inj hr
    try simp only [go_sem, c1, c2]
    all_goals (try refine end_pure ?_)
    all_goals (try simp only [go_sem, c1, c2])
    all_goals (try (first | rfl | exact ⟨rfl, rfl⟩ | (simp; done)))
  simp only [c2, cond_true] at hr
  cases c3 : decide (0 ≤ a0.ca)
  · simp only [c3, cond_false] at hr
    obtain rfl := Option.some.inj hr
    try simp only [go_sem, c1, c2, c3]
    all_goals (try refine end_pure ?_)
    all_goals (try simp only [go_sem, c1, c2, c3])
    all_goals (try (first | rfl | exact ⟨rfl, rfl⟩ | (simp; done)))
  simp only [c3, cond_true] at hr
  cases c4 : decide (a0.ca ≤ 4)
  · simp only [c4, cond_false] at hr
    obtain rfl := Option.some.inj hr
    try simp only [go_sem, c1, c2, c3, c4]
    all_goals (try refine end_pure ?_)
    all_goals (try simp only [go_sem, c1, c2, c3, c4])
    all_goals (try (first | rfl | exact ⟨rfl, rfl⟩ | (simp; done)))
  simp only [c4, cond_true] at hr
  cases c5 : decide (0 ≤ a0.cd)
  · simp only [c5, cond_false] at hr
    obtain rfl := Option.some.inj hr
    try simp only [go_sem, c1, c2, c3, c4, c5]
    all_goals (try refine end_pure ?_)
    all_goals (try simp only [go_sem, c1, c2, c3, c4, c5])
    all_goals (try (first | rfl | exact ⟨rfl, rfl⟩ | (simp; done)))
  simp only [c5, cond_true] at hr
  cases c6 : decide (a0.cd ≤ 3)
  · simp only [c6, cond_false] at hr
    obtain rfl := Option.some.inj hr
    try simp only [go_sem, c1, c2, c3, c4, c5, c6]
    all_goals (try refine end_pure ?_)
    all_goals (try simp only [go_sem, c1, c2, c3, c4, c5, c6])
    all_goals (try (first | rfl | exact ⟨rfl, rfl⟩ | (simp; done)))
  simp only [c6, cond_true] at hr
  cases c7 : decide (1 ≤ a0.cp)
  · simp only [c7, cond_false] at hr
    obtain rfl := Option.some.inj hr
    try simp only [go_sem, c1, c2, c3, c4, c5, c6, c7]
    all_goals (try refine end_pure ?_)
    all_goals (try simp only [go_sem, c1, c2, c3, c4, c5, c6, c7])
    all_goals (try (first | rfl | exact ⟨rfl, rfl⟩ | (simp; done)))
  simp only [c7, cond_true] at hr
  obtain rfl := Option.some.inj hr
  try simp only [go_sem, c1, c2, c3, c4, c5, c6, c7]
  all_goals (try refine end_pure ?_)
  all_goals (try simp only [go_sem, c1, c2, c3, c4, c5, c6, c7])
  all_goals (try (first | rfl | exact ⟨rfl, rfl⟩ | (simp; done)))
noncomputable def rbBlock_v (a0 : List Blk) (a1 : List (List Int)) (a2 : List Spr) (a3 : List Int) (a4 : Int) (a5 : Int) (a6 : Int) (a7 : Int) (a8 : Bool) (a9 : Dc) : Option (Int × (List Blk) × (List (List Int)) × (List Spr) × (List Int) × Int × Int × Int × Int × Bool) :=
  Option.bind (idxO a9.names 0) fun x1 => Option.bind (rblock_v (⟨a0, a1, a2, a3, a4, a5, a6, a7⟩ : Nt) x1) fun x5 => cond (decide (0 ≤ x5)) (some (8, a0, a1, a2, a3, a4, a5, a6, a7, a8)) (Option.bind (rspur_v (⟨a0, a1, a2, a3, a4, a5, a6, a7⟩ : Nt) x1) fun x8 => cond (decide (0 ≤ x8)) (some (8, a0, a1, a2, a3, a4, a5, a6, a7, a8)) (cond (decide (((a0.length : Nat) : Int) = 24)) (some (14, a0, a1, a2, a3, a4, a5, a6, a7, a8)) (Option.bind (idxO a9.nums 0) fun x12 => Option.bind (idxO a9.nums 1) fun x16 => cond (decide (a0.length + 1 < 10000000)) (cond (decide (a1.length + 1 < 10000000)) (some (0, (a0 ++ [(⟨x1, x12, x16⟩ : Blk)]), (a1 ++ [[]]), a2, a3, a4, a5, a6, a7, a8)) none) none)))
theorem rbBlock_vok (a0 : List Blk) (a1 : List (List Int)) (a2 : List Spr) (a3 : List Int) (a4 : Int) (a5 : Int) (a6 : Int) (a7 : Int) (a8 : Bool) (a9 : Dc) (r : Int × (List Blk) × (List (List Int)) × (List Spr) × (List Int) × Int × Int × Int × Int × Bool) (hr : rbBlock_v a0 a1 a2 a3 a4 a5 a6 a7 a8 a9 = some r) :
    ACalls Try.prog 44 [.ptr 1000000 0, .agg [.p (.int .i64 a9.word), .p (.int .i64 a9.line), .p (.sl (encS a9.names)), .p (.sl (encI a9.nums))]] [(1000000, .box [.ref 1000001 0 a0.length a0.length, .ref 1000002 0 a1.length a1.length, .ref 1000003 0 a2.length a2.length, .ref 1000004 0 a3.length a3.length, .p (.int .i64 a4), .p (.int .i64 a5), .p (.int .i64 a6), .p (.int .i64 a7), .p (.bool a8)]), (1000001, .arr 56 3 (encK a0)), (1000002, .arr 23 1 (encG a1)), (1000003, .arr 52 6 (encP a2)), (1000004, .arr 3 1 (encI a3))] fun h d => h = [(1000000, .box [.ref 1000001 0 r.2.1.length r.2.1.length, .ref 1000002 0 r.2.2.1.length r.2.2.1.length, .ref 1000003 0 r.2.2.2.1.length r.2.2.2.1.length, .ref 1000004 0 r.2.2.2.2.1.length r.2.2.2.2.1.length, .p (.int .i64 r.2.2.2.2.2.1), .p (.int .i64 r.2.2.2.2.2.2.1), .p (.int .i64 r.2.2.2.2.2.2.2.1), .p (.int .i64 r.2.2.2.2.2.2.2.2.1), .p (.bool r.2.2.2.2.2.2.2.2.2)]), (1000001, .arr 56 3 (encK r.2.1)), (1000002, .arr 23 1 (encG r.2.2.1)), (1000003, .arr 52 6 (encP r.2.2.2.1)), (1000004, .arr 3 1 (encI r.2.2.2.2.1))] ∧ d = .p (.int .i64 r.1) := by
  refine ACalls_X Try.func44 rfl enters44 (by simp [Try.f44]) ?_
  unfold rbBlock_v at hr
  try simp only [go_sem]
  refine X_any0 mixed (p := [(0, 0), (1, 0), (2, 0), (3, 0), (4, 0), (5, 0), (6, 0), (7, 0), (8, 2), (9, 0), (10, 0), (11, 0), (12, 0), (13, 0), (14, 0), (15, 0), (16, 0), (17, 0), (18, 0), (19, 2), (20, 0), (21, 0)]) (by kernel_rfl) (by simp [LeH, get]) ?_
  obtain ⟨x1, g2, hr⟩ := bE hr
  have f3 := idxO_rng g2
  have f4 : (encS a9.names).getD 0 [] = [(.str x1)] := idxO_map _ g2
  obtain ⟨x5, g6, hr⟩ := bE hr
  try simp only [go_sem, f3, f4]
  refine Gh_bor rfl rfl (rblock_vok (⟨a0, a1, a2, a3, a4, a5, a6, a7⟩ : Nt) x1 _ g6) (by simp [BorL, Bor, ev, get, List.take_of_length_le, ZB] <;> rfl) ?_
  rintro h' r ⟨rfl, rfl⟩
  refine ⟨rfl, rfl, ?_⟩
  cases c7 : decide (0 ≤ x5)
  · simp only [c7, cond_false] at hr
    obtain ⟨x8, g9, hr⟩ := bE hr
    try simp only [go_sem, c7, f3, f4]
    refine Gh_bor rfl rfl (rspur_vok (⟨a0, a1, a2, a3, a4, a5, a6, a7⟩ : Nt) x1 _ g9) (by simp [BorL, Bor, ev, get, List.take_of_length_le, ZB] <;> rfl) ?_
    rintro h' r ⟨rfl, rfl⟩
    refine ⟨rfl, rfl, ?_⟩
    cases c10 : decide (0 ≤ x8)
    · simp only [c10, cond_false] at hr
      cases c11 : decide (((a0.length : Nat) : Int) = 24)
      · simp only [c11, cond_false] at hr
        try simp only [go_sem, c7, c10, c11]
        refine X_any [(3, .box [.p (.int .i64 a9.word), .p (.int .i64 a9.line), .p (.sl (encS a9.names)), .p (.sl (encI a9.nums))]), (1000000, .box [.ref 1000001 0 a0.length a0.length, .ref 1000002 0 a1.length a1.length, .ref 1000003 0 a2.length a2.length, .ref 1000004 0 a3.length a3.length, .p (.int .i64 a4), .p (.int .i64 a5), .p (.int .i64 a6), .p (.int .i64 a7), .p (.bool a8)])] mixed (p := [(0, 0), (1, 0), (2, 0), (3, 0), (4, 0), (5, 0), (6, 0), (7, 0), (8, 0), (9, 0), (10, 0), (11, 0), (12, 0), (13, 0), (14, 0), (15, 0), (16, 0), (17, 0), (18, 0), (19, 1), (20, 2), (21, 0), (22, 0), (23, 0), (24, 3)]) (by kernel_rfl) (by simp [LeH, get]) ?_
        obtain ⟨x12, g13, hr⟩ := bE hr
        have f14 := idxO_rng g13
        have f15 : (encI a9.nums).getD 0 [] = [(.int .i64 x12)] := idxO_map _ g13
        obtain ⟨x16, g17, hr⟩ := bE hr
        have f18 := idxO_rng g17
        have f19 : (encI a9.nums).getD 1 [] = [(.int .i64 x16)] := idxO_map _ g17
        obtain ⟨c20, hr⟩ := gE hr
        try simp only [go_sem, f3, f4, f14, f15, f18, f19]
        refine ⟨by have := of_decide_eq_true c20; (try simp only [List.length_cons, List.length_nil, List.length_append] at *); (repeat' refine And.intro ?_ ?_) <;> first | exact wid1 _ _ rfl | exact encK_wid _ | omega | (simp [Wid]; done), ?_⟩
        try simp only [go_sem]
        refine Af_bsarr rfl ti30 ti23 rfl rfl ?_
        obtain ⟨c21, hr⟩ := gE hr
        try simp only [go_sem]
        refine ⟨by have := of_decide_eq_true c21; (try simp only [List.length_cons, List.length_nil, List.length_append] at *); (repeat' refine And.intro ?_ ?_) <;> first | exact wid1 _ _ rfl | exact encG_wid _ | omega | (simp [Wid]; done), ?_⟩
        obtain rfl := Option.some.inj hr
        try simp only [go_sem]
        all_goals (try refine end_own ?_)
        all_goals (try simp only [go_sem])
        all_goals (try (first | rfl | exact ⟨rfl, rfl⟩ | (simp; done)))
      simp only [c11, cond_true] at hr
      obtain rfl := Option.some.inj hr
      try simp only [go_sem, c7, c10, c11]
      all_goals (try refine end_own ?_)
      all_goals (try simp only [go_sem, c7, c10, c11])
      all_goals (try (first | rfl | exact ⟨rfl, rfl⟩ | (simp; done)))
    simp only [c10, cond_true] at hr
    obtain rfl := Option.some.inj hr
    try simp only [go_sem, c7, c10]
    all_goals (try refine end_own ?_)
    all_goals (try simp only [go_sem, c7, c10])
    all_goals (try (first | rfl | exact ⟨rfl, rfl⟩ | (simp; done)))
  simp only [c7, cond_true] at hr
  obtain rfl := Option.some.inj hr
  try simp only [go_sem, c7]
  all_goals (try refine end_own ?_)
  all_goals (try simp only [go_sem, c7])
  all_goals (try (first | rfl | exact ⟨rfl, rfl⟩ | (simp; done)))
noncomputable def rbLane_L1 (a0 : List Blk) (a2 : List Spr) (a3 : List Int) (a4 : Int) (a5 : Int) (a6 : Int) (a7 : Int) (a8 : Bool) (a9 : Dc) : (List (List Int)) × Int → Option (((List (List Int)) × Int) ⊕ (((List (List Int)) × Int) ⊕ (Int × (List Blk) × (List (List Int)) × (List Spr) × (List Int) × Int × Int × Int × Int × Bool)))
  | (v3, v4) => cond (decide ((IntKind.i64.wrap (v4 + 1)) < ((a9.names.length : Nat) : Int))) (Option.bind (idxO a9.names v4) fun x11 => Option.bind (idxO a9.names (IntKind.i64.wrap (v4 + 1))) fun x15 => Option.bind (rblock_v (⟨a0, v3, a2, a3, a4, a5, a6, a7⟩ : Nt) x11) fun x19 => Option.bind (rblock_v (⟨a0, v3, a2, a3, a4, a5, a6, a7⟩ : Nt) x15) fun x21 => cond (decide (x19 < 0)) (some (Sum.inr (.inr (((9, a0, v3, a2, a3, a4, a5, a6, a7, a8) : Int × (List Blk) × (List (List Int)) × (List Spr) × (List Int) × Int × Int × Int × Int × Bool))))) (cond (decide (x21 < 0)) (some (Sum.inr (.inr (((9, a0, v3, a2, a3, a4, a5, a6, a7, a8) : Int × (List Blk) × (List (List Int)) × (List Spr) × (List Int) × Int × Int × Int × Int × Bool))))) (cond (decide (x19 = x21)) (some (Sum.inr (.inr (((10, a0, v3, a2, a3, a4, a5, a6, a7, a8) : Int × (List Blk) × (List (List Int)) × (List Spr) × (List Int) × Int × Int × Int × Int × Bool))))) (Option.bind (idxO v3 x19) fun x26 => Option.bind (has_v x26 x21) fun x30 => cond x30 (some (Sum.inr (.inr (((11, a0, v3, a2, a3, a4, a5, a6, a7, a8) : Int × (List Blk) × (List (List Int)) × (List Spr) × (List Int) × Int × Int × Int × Int × Bool))))) (cond (decide (((x26.length : Nat) : Int) = 4)) (some (Sum.inr (.inr (((14, a0, v3, a2, a3, a4, a5, a6, a7, a8) : Int × (List Blk) × (List (List Int)) × (List Spr) × (List Int) × Int × Int × Int × Int × Bool))))) (Option.bind (insert_v x26 x21) fun x34 => some (Sum.inl ((v3.set (Int.toNat x19) x34), (IntKind.i64.wrap (v4 + 1)))))))))) (some (Sum.inr (.inl (v3, v4))))
theorem rbLane_L1_eq (a0 : List Blk) (a2 : List Spr) (a3 : List Int) (a4 : Int) (a5 : Int) (a6 : Int) (a7 : Int) (a8 : Bool) (a9 : Dc) (v3 : List (List Int)) (v4 : Int) : rbLane_L1 a0 a2 a3 a4 a5 a6 a7 a8 a9 (v3, v4) = cond (decide ((IntKind.i64.wrap (v4 + 1)) < ((a9.names.length : Nat) : Int))) (Option.bind (idxO a9.names v4) fun x11 => Option.bind (idxO a9.names (IntKind.i64.wrap (v4 + 1))) fun x15 => Option.bind (rblock_v (⟨a0, v3, a2, a3, a4, a5, a6, a7⟩ : Nt) x11) fun x19 => Option.bind (rblock_v (⟨a0, v3, a2, a3, a4, a5, a6, a7⟩ : Nt) x15) fun x21 => cond (decide (x19 < 0)) (some (Sum.inr (.inr (((9, a0, v3, a2, a3, a4, a5, a6, a7, a8) : Int × (List Blk) × (List (List Int)) × (List Spr) × (List Int) × Int × Int × Int × Int × Bool))))) (cond (decide (x21 < 0)) (some (Sum.inr (.inr (((9, a0, v3, a2, a3, a4, a5, a6, a7, a8) : Int × (List Blk) × (List (List Int)) × (List Spr) × (List Int) × Int × Int × Int × Int × Bool))))) (cond (decide (x19 = x21)) (some (Sum.inr (.inr (((10, a0, v3, a2, a3, a4, a5, a6, a7, a8) : Int × (List Blk) × (List (List Int)) × (List Spr) × (List Int) × Int × Int × Int × Int × Bool))))) (Option.bind (idxO v3 x19) fun x26 => Option.bind (has_v x26 x21) fun x30 => cond x30 (some (Sum.inr (.inr (((11, a0, v3, a2, a3, a4, a5, a6, a7, a8) : Int × (List Blk) × (List (List Int)) × (List Spr) × (List Int) × Int × Int × Int × Int × Bool))))) (cond (decide (((x26.length : Nat) : Int) = 4)) (some (Sum.inr (.inr (((14, a0, v3, a2, a3, a4, a5, a6, a7, a8) : Int × (List Blk) × (List (List Int)) × (List Spr) × (List Int) × Int × Int × Int × Int × Bool))))) (Option.bind (insert_v x26 x21) fun x34 => some (Sum.inl ((v3.set (Int.toNat x19) x34), (IntKind.i64.wrap (v4 + 1)))))))))) (some (Sum.inr (.inl (v3, v4)))) := rfl
noncomputable def rbLane_v (a0 : List Blk) (a1 : List (List Int)) (a2 : List Spr) (a3 : List Int) (a4 : Int) (a5 : Int) (a6 : Int) (a7 : Int) (a8 : Bool) (a9 : Dc) : Option (Int × (List Blk) × (List (List Int)) × (List Spr) × (List Int) × Int × Int × Int × Int × Bool) :=
  Option.bind (loopO (rbLane_L1 a0 a2 a3 a4 a5 a6 a7 a8 a9) (a1, 0)) (fun | .inl (v36, v37) => some (0, a0, v36, a2, a3, a4, a5, a6, a7, a8) | .inr (r38) => some r38)
theorem rbLane_vok (a0 : List Blk) (a1 : List (List Int)) (a2 : List Spr) (a3 : List Int) (a4 : Int) (a5 : Int) (a6 : Int) (a7 : Int) (a8 : Bool) (a9 : Dc) (r : Int × (List Blk) × (List (List Int)) × (List Spr) × (List Int) × Int × Int × Int × Int × Bool) (hr : rbLane_v a0 a1 a2 a3 a4 a5 a6 a7 a8 a9 = some r) :
    ACalls Try.prog 45 [.ptr 1000000 0, .agg [.p (.int .i64 a9.word), .p (.int .i64 a9.line), .p (.sl (encS a9.names)), .p (.sl (encI a9.nums))]] [(1000000, .box [.ref 1000001 0 a0.length a0.length, .ref 1000002 0 a1.length a1.length, .ref 1000003 0 a2.length a2.length, .ref 1000004 0 a3.length a3.length, .p (.int .i64 a4), .p (.int .i64 a5), .p (.int .i64 a6), .p (.int .i64 a7), .p (.bool a8)]), (1000001, .arr 56 3 (encK a0)), (1000002, .arr 23 1 (encG a1)), (1000003, .arr 52 6 (encP a2)), (1000004, .arr 3 1 (encI a3))] fun h d => h = [(1000000, .box [.ref 1000001 0 r.2.1.length r.2.1.length, .ref 1000002 0 r.2.2.1.length r.2.2.1.length, .ref 1000003 0 r.2.2.2.1.length r.2.2.2.1.length, .ref 1000004 0 r.2.2.2.2.1.length r.2.2.2.2.1.length, .p (.int .i64 r.2.2.2.2.2.1), .p (.int .i64 r.2.2.2.2.2.2.1), .p (.int .i64 r.2.2.2.2.2.2.2.1), .p (.int .i64 r.2.2.2.2.2.2.2.2.1), .p (.bool r.2.2.2.2.2.2.2.2.2)]), (1000001, .arr 56 3 (encK r.2.1)), (1000002, .arr 23 1 (encG r.2.2.1)), (1000003, .arr 52 6 (encP r.2.2.2.1)), (1000004, .arr 3 1 (encI r.2.2.2.2.1))] ∧ d = .p (.int .i64 r.1) := by
  refine ACalls_X Try.func45 rfl enters45 (by simp [Try.f45]) ?_
  unfold rbLane_v at hr
  obtain ⟨e8, g9, hr⟩ := bE hr
  try simp only [go_sem]
  refine X_loopO g9 (fun q : (List (List Int)) × Int => ⟨[(0, .ptr 1000000 0), (3, .ptr 3 0), (5, .p (.int .i64 q.2))], [(3, .box [.p (.int .i64 a9.word), .p (.int .i64 a9.line), .p (.sl (encS a9.names)), .p (.sl (encI a9.nums))]), (1000000, .box [.ref 1000001 0 a0.length a0.length, .ref 1000002 0 q.1.length q.1.length, .ref 1000003 0 a2.length a2.length, .ref 1000004 0 a3.length a3.length, .p (.int .i64 a4), .p (.int .i64 a5), .p (.int .i64 a6), .p (.int .i64 a7), .p (.bool a8)]), (1000001, .arr 56 3 (encK a0)), (1000002, .arr 23 1 (encG q.1)), (1000003, .arr 52 6 (encP a2)), (1000004, .arr 3 1 (encI a3))], 87⟩) ((Wk.forget (by simp [Le, LeE, LeH, get, envIds, hpIds, KeepH, D.ids, idsL, AO.ids, setL, base, ZE]))) ?_
  rintro ⟨v3, v4⟩ m7 hh5 ih6
  rw [rbLane_L1_eq] at hh5
  cases c10 : decide ((IntKind.i64.wrap (v4 + 1)) < ((a9.names.length : Nat) : Int))
  · simp only [c10, cond_false] at hh5
    simp only [Option.bind_some, nextO_inr] at hh5
    obtain rfl := Option.some.inj hh5
    try dsimp only at hr
    obtain rfl := Option.some.inj hr
    try simp only [go_sem, c10]
    all_goals (try refine end_own ?_)
    all_goals (try simp only [go_sem, c10])
    all_goals (try (first | rfl | exact ⟨rfl, rfl⟩ | (simp; done)))
  simp only [c10, cond_true] at hh5
  try simp only [go_sem, c10]
  refine X_any0 mixed (p := [(0, 0), (1, 0), (2, 0), (3, 0), (4, 0), (5, 0), (6, 0), (7, 0), (8, 0), (10, 0), (11, 0), (12, 0), (13, 0), (14, 0), (15, 0), (16, 0), (17, 0), (18, 0), (19, 0), (9, 2), (20, 2), (21, 0), (22, 0)]) (by kernel_rfl) (by simp [LeH, get]) ?_
  obtain ⟨x11, g12, hh5⟩ := bK hh5
  have f13 := idxO_rng g12
  have f14 : (encS a9.names).getD (Int.toNat v4) [] = [(.str x11)] := idxO_map _ g12
  obtain ⟨x15, g16, hh5⟩ := bK hh5
  have f17 := idxO_rng g16
  have f18 : (encS a9.names).getD (Int.toNat (IntKind.i64.wrap (v4 + 1))) [] = [(.str x15)] := idxO_map _ g16
  obtain ⟨x19, g20, hh5⟩ := bK hh5
  try simp only [go_sem, f13, f14, f17, f18]
  refine Gh_bor rfl rfl (rblock_vok (⟨a0, v3, a2, a3, a4, a5, a6, a7⟩ : Nt) x11 _ g20) (by simp [BorL, Bor, ev, get, List.take_of_length_le, ZB] <;> rfl) ?_
  rintro h' r ⟨rfl, rfl⟩
  refine ⟨rfl, rfl, ?_⟩
  obtain ⟨x21, g22, hh5⟩ := bK hh5
  try simp only [go_sem]
  refine Gh_bor rfl rfl (rblock_vok (⟨a0, v3, a2, a3, a4, a5, a6, a7⟩ : Nt) x15 _ g22) (by simp [BorL, Bor, ev, get, List.take_of_length_le, ZB] <;> rfl) ?_
  rintro h' r ⟨rfl, rfl⟩
  refine ⟨rfl, rfl, ?_⟩
  cases c23 : decide (x19 < 0)
  · simp only [c23, cond_false] at hh5
    cases c24 : decide (x21 < 0)
    · simp only [c24, cond_false] at hh5
      cases c25 : decide (x19 = x21)
      · simp only [c25, cond_false] at hh5
        obtain ⟨x26, g27, hh5⟩ := bK hh5
        have f28 := idxO_rng g27
        have f29 : (encG v3).getD (Int.toNat x19) [] = [(.sl (encI x26))] := idxO_map _ g27
        obtain ⟨x30, g31, hh5⟩ := bK hh5
        try simp only [go_sem, c23, c24, c25, f28, f29]
        refine Cc_of (has_vok x26 x21 _ g31) ?_
        rintro h' r ⟨rfl, rfl⟩
        cases c32 : x30
        · simp only [c32, cond_false] at hh5
          cases c33 : decide (((x26.length : Nat) : Int) = 4)
          · simp only [c33, cond_false] at hh5
            try simp only [go_sem, c32, f28, f29, c33]
            refine X_any0 mixed (p := [(0, 0), (1, 0), (2, 0), (3, 0), (4, 0), (5, 0), (6, 0), (7, 0), (8, 0), (9, 0), (10, 0), (11, 0), (12, 0), (13, 0), (14, 0), (15, 2), (16, 0), (17, 3)]) (by kernel_rfl) (by simp [LeH, get]) ?_
            obtain ⟨x34, g35, hh5⟩ := bK hh5
            try simp only [go_sem, f28, f29, c32]
            refine Gh_of (insert_vok x26 x21 _ g35) ?_
            rintro h' r ⟨rfl, rfl⟩
            simp only [Option.bind_some, nextO_inl] at hh5
            try simp only [go_sem, f28, f29, c32]
            exact ih6 ((v3.set (Int.toNat x19) x34), (IntKind.i64.wrap (v4 + 1))) _ hh5 ((Wk.forget (by simp [Le, LeE, LeH, get, envIds, hpIds, KeepH, D.ids, idsL, AO.ids, setL, base, ZE, c32])))
          simp only [c33, cond_true] at hh5
          simp only [Option.bind_some, nextO_inr] at hh5
          obtain rfl := Option.some.inj hh5
          try dsimp only at hr
          obtain rfl := Option.some.inj hr
          try simp only [go_sem, c32, f28, f29, c33]
          all_goals (try refine end_own ?_)
          all_goals (try simp only [go_sem, c32, f28, f29, c33])
          all_goals (try (first | rfl | exact ⟨rfl, rfl⟩ | (simp; done)))
        simp only [c32, cond_true] at hh5
        simp only [Option.bind_some, nextO_inr] at hh5
        obtain rfl := Option.some.inj hh5
        try dsimp only at hr
        obtain rfl := Option.some.inj hr
        try simp only [go_sem, c32]
        all_goals (try refine end_own ?_)
        all_goals (try simp only [go_sem, c32])
        all_goals (try (first | rfl | exact ⟨rfl, rfl⟩ | (simp; done)))
      simp only [c25, cond_true] at hh5
      simp only [Option.bind_some, nextO_inr] at hh5
      obtain rfl := Option.some.inj hh5
      try dsimp only at hr
      obtain rfl := Option.some.inj hr
      try simp only [go_sem, c23, c24, c25]
      all_goals (try refine end_own ?_)
      all_goals (try simp only [go_sem, c23, c24, c25])
      all_goals (try (first | rfl | exact ⟨rfl, rfl⟩ | (simp; done)))
    simp only [c24, cond_true] at hh5
    simp only [Option.bind_some, nextO_inr] at hh5
    obtain rfl := Option.some.inj hh5
    try dsimp only at hr
    obtain rfl := Option.some.inj hr
    try simp only [go_sem, c23, c24]
    all_goals (try refine end_own ?_)
    all_goals (try simp only [go_sem, c23, c24])
    all_goals (try (first | rfl | exact ⟨rfl, rfl⟩ | (simp; done)))
  simp only [c23, cond_true] at hh5
  simp only [Option.bind_some, nextO_inr] at hh5
  obtain rfl := Option.some.inj hh5
  try dsimp only at hr
  obtain rfl := Option.some.inj hr
  try simp only [go_sem, c23]
  all_goals (try refine end_own ?_)
  all_goals (try simp only [go_sem, c23])
  all_goals (try (first | rfl | exact ⟨rfl, rfl⟩ | (simp; done)))
noncomputable def rbSpur_v (a0 : List Blk) (a1 : List (List Int)) (a2 : List Spr) (a3 : List Int) (a4 : Int) (a5 : Int) (a6 : Int) (a7 : Int) (a8 : Bool) (a9 : Dc) : Option (Int × (List Blk) × (List (List Int)) × (List Spr) × (List Int) × Int × Int × Int × Int × Bool) :=
  Option.bind (idxO a9.names 1) fun x1 => Option.bind (idxO a9.names 2) fun x5 => Option.bind (rblock_v (⟨a0, a1, a2, a3, a4, a5, a6, a7⟩ : Nt) x1) fun x9 => Option.bind (rblock_v (⟨a0, a1, a2, a3, a4, a5, a6, a7⟩ : Nt) x5) fun x11 => Option.bind (idxO a9.names 0) fun x13 => Option.bind (rblock_v (⟨a0, a1, a2, a3, a4, a5, a6, a7⟩ : Nt) x13) fun x17 => cond (decide (0 ≤ x17)) (some (8, a0, a1, a2, a3, a4, a5, a6, a7, a8)) (Option.bind (rspur_v (⟨a0, a1, a2, a3, a4, a5, a6, a7⟩ : Nt) x13) fun x20 => cond (decide (0 ≤ x20)) (some (8, a0, a1, a2, a3, a4, a5, a6, a7, a8)) (cond (decide (x9 < 0)) (some (9, a0, a1, a2, a3, a4, a5, a6, a7, a8)) (cond (decide (x11 < 0)) (some (9, a0, a1, a2, a3, a4, a5, a6, a7, a8)) (Option.bind (idxO a9.nums 0) fun x25 => cond (decide (x25 < 1)) (some (12, a0, a1, a2, a3, a4, a5, a6, a7, a8)) (cond (decide (4 < x25)) (some (12, a0, a1, a2, a3, a4, a5, a6, a7, a8)) (cond (decide (((a2.length : Nat) : Int) = 6)) (some (14, a0, a1, a2, a3, a4, a5, a6, a7, a8)) (cond (decide (a2.length + 1 < 10000000)) (some (0, a0, a1, (a2 ++ [(⟨x13, decide (a9.word = 4), x9, x11, x25, 0⟩ : Spr)]), a3, a4, a5, a6, a7, a8)) none)))))))
theorem rbSpur_vok (a0 : List Blk) (a1 : List (List Int)) (a2 : List Spr) (a3 : List Int) (a4 : Int) (a5 : Int) (a6 : Int) (a7 : Int) (a8 : Bool) (a9 : Dc) (r : Int × (List Blk) × (List (List Int)) × (List Spr) × (List Int) × Int × Int × Int × Int × Bool) (hr : rbSpur_v a0 a1 a2 a3 a4 a5 a6 a7 a8 a9 = some r) :
    ACalls Try.prog 46 [.ptr 1000000 0, .agg [.p (.int .i64 a9.word), .p (.int .i64 a9.line), .p (.sl (encS a9.names)), .p (.sl (encI a9.nums))]] [(1000000, .box [.ref 1000001 0 a0.length a0.length, .ref 1000002 0 a1.length a1.length, .ref 1000003 0 a2.length a2.length, .ref 1000004 0 a3.length a3.length, .p (.int .i64 a4), .p (.int .i64 a5), .p (.int .i64 a6), .p (.int .i64 a7), .p (.bool a8)]), (1000001, .arr 56 3 (encK a0)), (1000002, .arr 23 1 (encG a1)), (1000003, .arr 52 6 (encP a2)), (1000004, .arr 3 1 (encI a3))] fun h d => h = [(1000000, .box [.ref 1000001 0 r.2.1.length r.2.1.length, .ref 1000002 0 r.2.2.1.length r.2.2.1.length, .ref 1000003 0 r.2.2.2.1.length r.2.2.2.1.length, .ref 1000004 0 r.2.2.2.2.1.length r.2.2.2.2.1.length, .p (.int .i64 r.2.2.2.2.2.1), .p (.int .i64 r.2.2.2.2.2.2.1), .p (.int .i64 r.2.2.2.2.2.2.2.1), .p (.int .i64 r.2.2.2.2.2.2.2.2.1), .p (.bool r.2.2.2.2.2.2.2.2.2)]), (1000001, .arr 56 3 (encK r.2.1)), (1000002, .arr 23 1 (encG r.2.2.1)), (1000003, .arr 52 6 (encP r.2.2.2.1)), (1000004, .arr 3 1 (encI r.2.2.2.2.1))] ∧ d = .p (.int .i64 r.1) := by
  refine ACalls_X Try.func46 rfl enters46 (by simp [Try.f46]) ?_
  unfold rbSpur_v at hr
  try simp only [go_sem]
  refine X_any0 mixed (p := [(0, 0), (1, 0), (2, 0), (3, 0), (4, 0), (5, 0), (6, 0), (7, 0), (9, 0), (10, 0), (11, 0), (12, 0), (13, 0), (14, 0), (15, 0), (16, 0), (8, 2), (17, 2), (18, 0), (19, 0)]) (by kernel_rfl) (by simp [LeH, get]) ?_
  obtain ⟨x1, g2, hr⟩ := bE hr
  have f3 := idxO_rng g2
  have f4 : (encS a9.names).getD 1 [] = [(.str x1)] := idxO_map _ g2
  obtain ⟨x5, g6, hr⟩ := bE hr
  have f7 := idxO_rng g6
  have f8 : (encS a9.names).getD 2 [] = [(.str x5)] := idxO_map _ g6
  obtain ⟨x9, g10, hr⟩ := bE hr
  try simp only [go_sem, f3, f4, f7, f8]
  refine Gh_bor rfl rfl (rblock_vok (⟨a0, a1, a2, a3, a4, a5, a6, a7⟩ : Nt) x1 _ g10) (by simp [BorL, Bor, ev, get, List.take_of_length_le, ZB] <;> rfl) ?_
  rintro h' r ⟨rfl, rfl⟩
  refine ⟨rfl, rfl, ?_⟩
  obtain ⟨x11, g12, hr⟩ := bE hr
  try simp only [go_sem]
  refine Gh_bor rfl rfl (rblock_vok (⟨a0, a1, a2, a3, a4, a5, a6, a7⟩ : Nt) x5 _ g12) (by simp [BorL, Bor, ev, get, List.take_of_length_le, ZB] <;> rfl) ?_
  rintro h' r ⟨rfl, rfl⟩
  refine ⟨rfl, rfl, ?_⟩
  try simp only [go_sem]
  refine X_any0 mixed (p := [(0, 0), (1, 0), (2, 0), (3, 0), (4, 0), (5, 0), (6, 0), (7, 0), (8, 2), (9, 0), (10, 0), (11, 0), (12, 0), (13, 0), (14, 0), (15, 0), (16, 0), (17, 0), (18, 0), (19, 2), (20, 0), (21, 0), (22, 0)]) (by kernel_rfl) (by simp [LeH, get]) ?_
  obtain ⟨x13, g14, hr⟩ := bE hr
  have f15 := idxO_rng g14
  have f16 : (encS a9.names).getD 0 [] = [(.str x13)] := idxO_map _ g14
  obtain ⟨x17, g18, hr⟩ := bE hr
  try simp only [go_sem, f15, f16]
  refine Gh_bor rfl rfl (rblock_vok (⟨a0, a1, a2, a3, a4, a5, a6, a7⟩ : Nt) x13 _ g18) (by simp [BorL, Bor, ev, get, List.take_of_length_le, ZB] <;> rfl) ?_
  rintro h' r ⟨rfl, rfl⟩
  refine ⟨rfl, rfl, ?_⟩
  cases c19 : decide (0 ≤ x17)
  · simp only [c19, cond_false] at hr
    obtain ⟨x20, g21, hr⟩ := bE hr
    try simp only [go_sem, c19, f15, f16]
    refine Gh_bor rfl rfl (rspur_vok (⟨a0, a1, a2, a3, a4, a5, a6, a7⟩ : Nt) x13 _ g21) (by simp [BorL, Bor, ev, get, List.take_of_length_le, ZB] <;> rfl) ?_
    rintro h' r ⟨rfl, rfl⟩
    refine ⟨rfl, rfl, ?_⟩
    cases c22 : decide (0 ≤ x20)
    · simp only [c22, cond_false] at hr
      cases c23 : decide (x9 < 0)
      · simp only [c23, cond_false] at hr
        cases c24 : decide (x11 < 0)
        · simp only [c24, cond_false] at hr
          obtain ⟨x25, g26, hr⟩ := bE hr
          have f27 := idxO_rng g26
          have f28 : (encI a9.nums).getD 0 [] = [(.int .i64 x25)] := idxO_map _ g26
          cases c29 : decide (x25 < 1)
          · simp only [c29, cond_false] at hr
            cases c30 : decide (4 < x25)
            · simp only [c30, cond_false] at hr
              cases c31 : decide (((a2.length : Nat) : Int) = 6)
              · simp only [c31, cond_false] at hr
                try simp only [go_sem, c19, c22, c23, c24, f27, f28, c29, c30, c31]
                refine X_any [(3, .box [.p (.int .i64 a9.word), .p (.int .i64 a9.line), .p (.sl (encS a9.names)), .p (.sl (encI a9.nums))]), (1000000, .box [.ref 1000001 0 a0.length a0.length, .ref 1000002 0 a1.length a1.length, .ref 1000003 0 a2.length a2.length, .ref 1000004 0 a3.length a3.length, .p (.int .i64 a4), .p (.int .i64 a5), .p (.int .i64 a6), .p (.int .i64 a7), .p (.bool a8)])] mixed (p := [(0, 0), (1, 0), (2, 0), (3, 0), (4, 0), (5, 0), (6, 0), (7, 0), (8, 0), (9, 0), (10, 0), (11, 0), (12, 0), (13, 0), (14, 0), (15, 0), (16, 0), (17, 0), (18, 0), (19, 0), (20, 1), (21, 2), (22, 0), (23, 0), (24, 0), (25, 3)]) (by kernel_rfl) (by simp [LeH, get]) ?_
                obtain ⟨c32, hr⟩ := gE hr
                try simp only [go_sem, f15, f16, f27, f28]
                refine ⟨by have := of_decide_eq_true c32; (try simp only [List.length_cons, List.length_nil, List.length_append] at *); (repeat' refine And.intro ?_ ?_) <;> first | exact wid1 _ _ rfl | exact encP_wid _ | omega | (simp [Wid]; done), ?_⟩
                obtain rfl := Option.some.inj hr
                try simp only [go_sem]
                all_goals (try refine end_own ?_)
                all_goals (try simp only [go_sem])
                all_goals (try (first | rfl | exact ⟨rfl, rfl⟩ | (simp; done)))
              simp only [c31, cond_true] at hr
              obtain rfl := Option.some.inj hr
              try simp only [go_sem, c19, c22, c23, c24, f27, f28, c29, c30, c31]
              all_goals (try refine end_own ?_)
              all_goals (try simp only [go_sem, c19, c22, c23, c24, f27, f28, c29, c30, c31])
              all_goals (try (first | rfl | exact ⟨rfl, rfl⟩ | (simp; done)))
            simp only [c30, cond_true] at hr
            obtain rfl := Option.some.inj hr
            try simp only [go_sem, c19, c22, c23, c24, f27, f28, c29, c30]
            all_goals (try refine end_own ?_)
            all_goals (try simp only [go_sem, c19, c22, c23, c24, f27, f28, c29, c30])
            all_goals (try (first | rfl | exact ⟨rfl, rfl⟩ | (simp; done)))
          simp only [c29, cond_true] at hr
          obtain rfl := Option.some.inj hr
          try simp only [go_sem, c19, c22, c23, c24, f27, f28, c29]
          all_goals (try refine end_own ?_)
          all_goals (try simp only [go_sem, c19, c22, c23, c24, f27, f28, c29])
          all_goals (try (first | rfl | exact ⟨rfl, rfl⟩ | (simp; done)))
        simp only [c24, cond_true] at hr
        obtain rfl := Option.some.inj hr
        try simp only [go_sem, c19, c22, c23, c24]
        all_goals (try refine end_own ?_)
        all_goals (try simp only [go_sem, c19, c22, c23, c24])
        all_goals (try (first | rfl | exact ⟨rfl, rfl⟩ | (simp; done)))
      simp only [c23, cond_true] at hr
      obtain rfl := Option.some.inj hr
      try simp only [go_sem, c19, c22, c23]
      all_goals (try refine end_own ?_)
      all_goals (try simp only [go_sem, c19, c22, c23])
      all_goals (try (first | rfl | exact ⟨rfl, rfl⟩ | (simp; done)))
    simp only [c22, cond_true] at hr
    obtain rfl := Option.some.inj hr
    try simp only [go_sem, c19, c22]
    all_goals (try refine end_own ?_)
    all_goals (try simp only [go_sem, c19, c22])
    all_goals (try (first | rfl | exact ⟨rfl, rfl⟩ | (simp; done)))
  simp only [c19, cond_true] at hr
  obtain rfl := Option.some.inj hr
  try simp only [go_sem, c19]
  all_goals (try refine end_own ?_)
  all_goals (try simp only [go_sem, c19])
  all_goals (try (first | rfl | exact ⟨rfl, rfl⟩ | (simp; done)))
noncomputable def rbRobot_v (a0 : List Blk) (a1 : List (List Int)) (a2 : List Spr) (a3 : List Int) (a4 : Int) (a5 : Int) (a6 : Int) (a7 : Int) (a8 : Bool) (a9 : Dc) : Option (Int × (List Blk) × (List (List Int)) × (List Spr) × (List Int) × Int × Int × Int × Int × Bool) :=
  Option.bind (idxO a9.names 0) fun x1 => Option.bind (rspur_v (⟨a0, a1, a2, a3, a4, a5, a6, a7⟩ : Nt) x1) fun x5 => cond (decide (x5 < 0)) (some (9, a0, a1, a2, a3, a4, a5, a6, a7, a8)) (Option.bind (idxO a2 x5) fun x8 => cond x8.depot (Option.bind (idxO a9.nums 0) fun x13 => cond (decide (x13 < 1)) (some (12, a0, a1, a2, a3, a4, a5, a6, a7, a8)) (cond (decide (x8.slots < x13)) (some (12, a0, a1, a2, a3, a4, a5, a6, a7, a8)) (Option.bind (has_v a3 (IntKind.i64.wrap ((IntKind.i64.wrap (x5 * 8)) + x13))) fun x19 => cond x19 (some (13, a0, a1, a2, a3, a4, a5, a6, a7, a8)) (cond (decide (((a3.length : Nat) : Int) = 8)) (some (14, a0, a1, a2, a3, a4, a5, a6, a7, a8)) (cond (decide (a3.length + 1 < 10000000)) (some (0, a0, a1, a2, (a3 ++ [(IntKind.i64.wrap ((IntKind.i64.wrap (x5 * 8)) + x13))]), a4, a5, a6, a7, a8)) none))))) (some (9, a0, a1, a2, a3, a4, a5, a6, a7, a8)))
theorem rbRobot_vok (a0 : List Blk) (a1 : List (List Int)) (a2 : List Spr) (a3 : List Int) (a4 : Int) (a5 : Int) (a6 : Int) (a7 : Int) (a8 : Bool) (a9 : Dc) (r : Int × (List Blk) × (List (List Int)) × (List Spr) × (List Int) × Int × Int × Int × Int × Bool) (hr : rbRobot_v a0 a1 a2 a3 a4 a5 a6 a7 a8 a9 = some r) :
    ACalls Try.prog 47 [.ptr 1000000 0, .agg [.p (.int .i64 a9.word), .p (.int .i64 a9.line), .p (.sl (encS a9.names)), .p (.sl (encI a9.nums))]] [(1000000, .box [.ref 1000001 0 a0.length a0.length, .ref 1000002 0 a1.length a1.length, .ref 1000003 0 a2.length a2.length, .ref 1000004 0 a3.length a3.length, .p (.int .i64 a4), .p (.int .i64 a5), .p (.int .i64 a6), .p (.int .i64 a7), .p (.bool a8)]), (1000001, .arr 56 3 (encK a0)), (1000002, .arr 23 1 (encG a1)), (1000003, .arr 52 6 (encP a2)), (1000004, .arr 3 1 (encI a3))] fun h d => h = [(1000000, .box [.ref 1000001 0 r.2.1.length r.2.1.length, .ref 1000002 0 r.2.2.1.length r.2.2.1.length, .ref 1000003 0 r.2.2.2.1.length r.2.2.2.1.length, .ref 1000004 0 r.2.2.2.2.1.length r.2.2.2.2.1.length, .p (.int .i64 r.2.2.2.2.2.1), .p (.int .i64 r.2.2.2.2.2.2.1), .p (.int .i64 r.2.2.2.2.2.2.2.1), .p (.int .i64 r.2.2.2.2.2.2.2.2.1), .p (.bool r.2.2.2.2.2.2.2.2.2)]), (1000001, .arr 56 3 (encK r.2.1)), (1000002, .arr 23 1 (encG r.2.2.1)), (1000003, .arr 52 6 (encP r.2.2.2.1)), (1000004, .arr 3 1 (encI r.2.2.2.2.1))] ∧ d = .p (.int .i64 r.1) := by
  refine ACalls_X Try.func47 rfl enters47 (by simp [Try.f47]) ?_
  unfold rbRobot_v at hr
  try simp only [go_sem]
  refine X_any0 mixed (p := [(0, 0), (1, 0), (2, 0), (3, 0), (4, 0), (5, 0), (6, 0), (7, 0), (8, 2), (9, 0)]) (by kernel_rfl) (by simp [LeH, get]) ?_
  obtain ⟨x1, g2, hr⟩ := bE hr
  have f3 := idxO_rng g2
  have f4 : (encS a9.names).getD 0 [] = [(.str x1)] := idxO_map _ g2
  obtain ⟨x5, g6, hr⟩ := bE hr
  try simp only [go_sem, f3, f4]
  refine Gh_bor rfl rfl (rspur_vok (⟨a0, a1, a2, a3, a4, a5, a6, a7⟩ : Nt) x1 _ g6) (by simp [BorL, Bor, ev, get, List.take_of_length_le, ZB] <;> rfl) ?_
  rintro h' r ⟨rfl, rfl⟩
  refine ⟨rfl, rfl, ?_⟩
  cases c7 : decide (x5 < 0)
  · simp only [c7, cond_false] at hr
    obtain ⟨x8, g9, hr⟩ := bE hr
    have f10 := idxO_rng g9
    have f11 : (encP a2).getD (Int.toNat x5) [] = [(.str x8.name), (.bool x8.depot), (.int .i64 x8.inn), (.int .i64 x8.out), (.int .i64 x8.slots), (.int .i64 x8.base)] := idxO_map _ g9
    cases c12 : x8.depot
    · simp only [c12, cond_false] at hr
      obtain rfl := Option.some.inj hr
      try simp only [go_sem, c7, f10, f11, c12]
      all_goals (try refine end_own ?_)
      all_goals (try simp only [go_sem, c7, f10, f11, c12])
      all_goals (try (first | rfl | exact ⟨rfl, rfl⟩ | (simp; done)))
    simp only [c12, cond_true] at hr
    try simp only [go_sem, c7, f10, f11, c12]
    refine X_any0 mixed (p := [(0, 0), (1, 0), (2, 0), (3, 0), (4, 0), (5, 0), (6, 0), (7, 0), (8, 0), (9, 0), (10, 0), (11, 0), (12, 0), (13, 0), (14, 0), (15, 0), (16, 0), (17, 0), (18, 0), (19, 0), (20, 0)]) (by kernel_rfl) (by simp [LeH, get]) ?_
    obtain ⟨x13, g14, hr⟩ := bE hr
    have f15 := idxO_rng g14
    have f16 : (encI a9.nums).getD 0 [] = [(.int .i64 x13)] := idxO_map _ g14
    cases c17 : decide (x13 < 1)
    · simp only [c17, cond_false] at hr
      cases c18 : decide (x8.slots < x13)
      · simp only [c18, cond_false] at hr
        obtain ⟨x19, g20, hr⟩ := bE hr
        try simp only [go_sem, f15, f16, c17, f10, f11, c18, c12]
        refine Cc_bor rfl rfl (has_vok a3 (IntKind.i64.wrap ((IntKind.i64.wrap (x5 * 8)) + x13)) _ g20) (by simp [BorL, Bor, ev, get, List.take_of_length_le, ZB] <;> rfl) ?_
        rintro h' r ⟨rfl, rfl⟩
        refine ⟨rfl, rfl, ?_⟩
        cases c21 : x19
        · simp only [c21, cond_false] at hr
          cases c22 : decide (((a3.length : Nat) : Int) = 8)
          · simp only [c22, cond_false] at hr
            obtain ⟨c23, hr⟩ := gE hr
            try simp only [go_sem, c21, c22, c12]
            refine ⟨by have := of_decide_eq_true c23; (try simp only [List.length_cons, List.length_nil, List.length_append] at *); (repeat' refine And.intro ?_ ?_) <;> first | exact wid1 _ _ rfl | exact encI_wid _ | omega | (simp [Wid]; done), ?_⟩
            obtain rfl := Option.some.inj hr
            try simp only [go_sem, c12, c21]
            all_goals (try refine end_own ?_)
            all_goals (try simp only [go_sem, c12, c21])
            all_goals (try (first | rfl | exact ⟨rfl, rfl⟩ | (simp; done)))
          simp only [c22, cond_true] at hr
          obtain rfl := Option.some.inj hr
          try simp only [go_sem, c21, c22, c12]
          all_goals (try refine end_own ?_)
          all_goals (try simp only [go_sem, c21, c22, c12])
          all_goals (try (first | rfl | exact ⟨rfl, rfl⟩ | (simp; done)))
        simp only [c21, cond_true] at hr
        obtain rfl := Option.some.inj hr
        try simp only [go_sem, c21, c12]
        all_goals (try refine end_own ?_)
        all_goals (try simp only [go_sem, c21, c12])
        all_goals (try (first | rfl | exact ⟨rfl, rfl⟩ | (simp; done)))
      simp only [c18, cond_true] at hr
      obtain rfl := Option.some.inj hr
      try simp only [go_sem, f15, f16, c17, f10, f11, c18, c12]
      all_goals (try refine end_own ?_)
      all_goals (try simp only [go_sem, f15, f16, c17, f10, f11, c18, c12])
      all_goals (try (first | rfl | exact ⟨rfl, rfl⟩ | (simp; done)))
    simp only [c17, cond_true] at hr
    obtain rfl := Option.some.inj hr
    try simp only [go_sem, f15, f16, c17, c12]
    all_goals (try refine end_own ?_)
    all_goals (try simp only [go_sem, f15, f16, c17, c12])
    all_goals (try (first | rfl | exact ⟨rfl, rfl⟩ | (simp; done)))
  simp only [c7, cond_true] at hr
  obtain rfl := Option.some.inj hr
  try simp only [go_sem, c7]
  all_goals (try refine end_own ?_)
  all_goals (try simp only [go_sem, c7])
  all_goals (try (first | rfl | exact ⟨rfl, rfl⟩ | (simp; done)))
noncomputable def rbConfig_v (a0 : List Blk) (a1 : List (List Int)) (a2 : List Spr) (a3 : List Int) (a4 : Int) (a5 : Int) (a6 : Int) (a7 : Int) (a8 : Bool) (a9 : Dc) : Option (Int × (List Blk) × (List (List Int)) × (List Spr) × (List Int) × Int × Int × Int × Int × Bool) :=
  cond a8 (some (11, a0, a1, a2, a3, a4, a5, a6, a7, true)) (Option.bind (idxO a9.nums 0) fun x2 => Option.bind (idxO a9.nums 1) fun x6 => Option.bind (idxO a9.nums 2) fun x10 => Option.bind (idxO a9.nums 3) fun x14 => Option.bind (rconfigured_v (⟨x2, x6, x10, x14⟩ : Cfg4)) fun x18 => cond x18 (some (0, a0, a1, a2, a3, x2, x6, x10, x14, true)) (some (19, a0, a1, a2, a3, a4, a5, a6, a7, false)))
theorem rbConfig_vok (a0 : List Blk) (a1 : List (List Int)) (a2 : List Spr) (a3 : List Int) (a4 : Int) (a5 : Int) (a6 : Int) (a7 : Int) (a8 : Bool) (a9 : Dc) (r : Int × (List Blk) × (List (List Int)) × (List Spr) × (List Int) × Int × Int × Int × Int × Bool) (hr : rbConfig_v a0 a1 a2 a3 a4 a5 a6 a7 a8 a9 = some r) :
    ACalls Try.prog 48 [.ptr 1000000 0, .agg [.p (.int .i64 a9.word), .p (.int .i64 a9.line), .p (.sl (encS a9.names)), .p (.sl (encI a9.nums))]] [(1000000, .box [.ref 1000001 0 a0.length a0.length, .ref 1000002 0 a1.length a1.length, .ref 1000003 0 a2.length a2.length, .ref 1000004 0 a3.length a3.length, .p (.int .i64 a4), .p (.int .i64 a5), .p (.int .i64 a6), .p (.int .i64 a7), .p (.bool a8)]), (1000001, .arr 56 3 (encK a0)), (1000002, .arr 23 1 (encG a1)), (1000003, .arr 52 6 (encP a2)), (1000004, .arr 3 1 (encI a3))] fun h d => h = [(1000000, .box [.ref 1000001 0 r.2.1.length r.2.1.length, .ref 1000002 0 r.2.2.1.length r.2.2.1.length, .ref 1000003 0 r.2.2.2.1.length r.2.2.2.1.length, .ref 1000004 0 r.2.2.2.2.1.length r.2.2.2.2.1.length, .p (.int .i64 r.2.2.2.2.2.1), .p (.int .i64 r.2.2.2.2.2.2.1), .p (.int .i64 r.2.2.2.2.2.2.2.1), .p (.int .i64 r.2.2.2.2.2.2.2.2.1), .p (.bool r.2.2.2.2.2.2.2.2.2)]), (1000001, .arr 56 3 (encK r.2.1)), (1000002, .arr 23 1 (encG r.2.2.1)), (1000003, .arr 52 6 (encP r.2.2.2.1)), (1000004, .arr 3 1 (encI r.2.2.2.2.1))] ∧ d = .p (.int .i64 r.1) := by
  refine ACalls_X Try.func48 rfl enters48 (by simp [Try.f48]) ?_
  unfold rbConfig_v at hr
  cases c1 : a8
  · simp only [c1, cond_false] at hr
    try simp only [go_sem, c1]
    refine X_any0 mixed (p := [(0, 0), (1, 0), (2, 0), (3, 0), (4, 0), (5, 0), (6, 0), (7, 0), (8, 0), (9, 0), (10, 0), (11, 0), (12, 0), (13, 0), (14, 0), (15, 0), (16, 0), (17, 1), (18, 3)]) (by kernel_rfl) (by simp [LeH, get]) ?_
    obtain ⟨x2, g3, hr⟩ := bE hr
    have f4 := idxO_rng g3
    have f5 : (encI a9.nums).getD 0 [] = [(.int .i64 x2)] := idxO_map _ g3
    obtain ⟨x6, g7, hr⟩ := bE hr
    have f8 := idxO_rng g7
    have f9 : (encI a9.nums).getD 1 [] = [(.int .i64 x6)] := idxO_map _ g7
    obtain ⟨x10, g11, hr⟩ := bE hr
    have f12 := idxO_rng g11
    have f13 : (encI a9.nums).getD 2 [] = [(.int .i64 x10)] := idxO_map _ g11
    obtain ⟨x14, g15, hr⟩ := bE hr
    have f16 := idxO_rng g15
    have f17 : (encI a9.nums).getD 3 [] = [(.int .i64 x14)] := idxO_map _ g15
    obtain ⟨x18, g19, hr⟩ := bE hr
    try simp only [go_sem, f4, f5, f8, f9, f12, f13, f16, f17, c1]
    refine Cc_of (rconfigured_vok (⟨x2, x6, x10, x14⟩ : Cfg4) _ g19) ?_
    rintro h' r ⟨rfl, rfl⟩
    cases c20 : x18
    · simp only [c20, cond_false] at hr
      obtain rfl := Option.some.inj hr
      try simp only [go_sem, c20, c1]
      all_goals (try refine end_own ?_)
      all_goals (try simp only [go_sem, c20, c1])
      all_goals (try (first | rfl | exact ⟨rfl, rfl⟩ | (simp; done)))
    simp only [c20, cond_true] at hr
    obtain rfl := Option.some.inj hr
    try simp only [go_sem, c20, c1]
    all_goals (try refine end_own ?_)
    all_goals (try simp only [go_sem, c20, c1])
    all_goals (try (first | rfl | exact ⟨rfl, rfl⟩ | (simp; done)))
  simp only [c1, cond_true] at hr
  obtain rfl := Option.some.inj hr
  try simp only [go_sem, c1]
  all_goals (try refine end_own ?_)
  all_goals (try simp only [go_sem, c1])
  all_goals (try (first | rfl | exact ⟨rfl, rfl⟩ | (simp; done)))
end Go.Am
end
section
namespace Go.Am
open Go Go.Proofs
set_option maxRecDepth 100000
set_option maxHeartbeats 2000000
set_option linter.unusedSimpArgs false
set_option linter.unusedVariables false
noncomputable def fname_v (l : List UInt8) : Option Bool := some (nameB l)
theorem fname_vok (l : List UInt8) (r : Bool) (h : fname_v l = some r) : ACalls Try.prog 26 [.p (.str l)] [] fun h d => h = [] ∧ d = .p (.bool r) := by cases h; exact name1_ok l
noncomputable def rname_v (l : List UInt8) : Option Bool := some (nameB l)
theorem rname_vok (l : List UInt8) (r : Bool) (h : rname_v l = some r) : ACalls Try.prog 50 [.p (.str l)] [] fun h d => h = [] ∧ d = .p (.bool r) := by cases h; exact name2_ok l
noncomputable def r02_shape_v (a0 : Int) : Option (Int × Int) :=
  cond (decide (a0 = 1)) (some (1, 2)) (cond (decide (a0 = 2)) (some (2, 0)) (cond (decide (a0 = 3)) (some (3, 1)) (cond (decide (a0 = 4)) (some (3, 1)) (cond (decide (a0 = 5)) (some (1, 1)) (some (0, 4))))))
theorem r02_shape_vok (a0 : Int) (r : Int × Int) (hr : r02_shape_v a0 = some r) :
    ACalls Try.prog 74 [.p (.int .i64 a0)] [] fun h d => h = [] ∧ d = .tup [.p (.int .i64 r.1), .p (.int .i64 r.2)] := by
  refine ACalls_X Try.func74 rfl enters74 (by simp [Try.f74]) ?_
  unfold r02_shape_v at hr
  cases c1 : decide (a0 = 1)
  · simp only [c1, cond_false] at hr
    cases c2 : decide (a0 = 2)
    · simp only [c2, cond_false] at hr
      cases c3 : decide (a0 = 3)
      · simp only [c3, cond_false] at hr
        cases c4 : decide (a0 = 4)
        · simp only [c4, cond_false] at hr
          cases c5 : decide (a0 = 5)
          · simp only [c5, cond_false] at hr
            obtain rfl := Option.some.inj hr
            try simp only [go_sem, c1, c2, c3, c4, c5]
            all_goals (try refine end_pure ?_)
            all_goals (try simp only [go_sem, c1, c2, c3, c4, c5])
            all_goals (try (first | rfl | exact ⟨rfl, rfl⟩ | (simp; done)))
          simp only [c5, cond_true] at hr
          obtain rfl := Option.some.inj hr
          try simp only [go_sem, c1, c2, c3, c4, c5]
          all_goals (try refine end_pure ?_)
          all_goals (try simp only [go_sem, c1, c2, c3, c4, c5])
          all_goals (try (first | rfl | exact ⟨rfl, rfl⟩ | (simp; done)))
        simp only [c4, cond_true] at hr
        obtain rfl := Option.some.inj hr
        try simp only [go_sem, c1, c2, c3, c4]
        all_goals (try refine end_pure ?_)
        all_goals (try simp only [go_sem, c1, c2, c3, c4])
        all_goals (try (first | rfl | exact ⟨rfl, rfl⟩ | (simp; done)))
      simp only [c3, cond_true] at hr
      obtain rfl := Option.some.inj hr
      try simp only [go_sem, c1, c2, c3]
      all_goals (try refine end_pure ?_)
      all_goals (try simp only [go_sem, c1, c2, c3])
      all_goals (try (first | rfl | exact ⟨rfl, rfl⟩ | (simp; done)))
    simp only [c2, cond_true] at hr
    obtain rfl := Option.some.inj hr
    try simp only [go_sem, c1, c2]
    all_goals (try refine end_pure ?_)
    all_goals (try simp only [go_sem, c1, c2])
    all_goals (try (first | rfl | exact ⟨rfl, rfl⟩ | (simp; done)))
  simp only [c1, cond_true] at hr
  obtain rfl := Option.some.inj hr
  try simp only [go_sem, c1]
  all_goals (try refine end_pure ?_)
  all_goals (try simp only [go_sem, c1])
  all_goals (try (first | rfl | exact ⟨rfl, rfl⟩ | (simp; done)))
noncomputable def r02_Valid_L1 (a0 : Dc) : Int → Option ((Int) ⊕ (Int ⊕ Bool))
  | v18 => cond (decide (v18 < ((a0.nums.length : Nat) : Int))) (Option.bind (idxO a0.nums v18) fun x25 => cond (decide (x25 < (-9999))) (some (Sum.inr (.inr ((false : Bool))))) (cond (decide (9999 < x25)) (some (Sum.inr (.inr ((false : Bool))))) (some (Sum.inl (IntKind.i64.wrap (v18 + 1)))))) (some (Sum.inr (.inl v18)))
theorem r02_Valid_L1_eq (a0 : Dc) (v18 : Int) : r02_Valid_L1 a0 v18 = cond (decide (v18 < ((a0.nums.length : Nat) : Int))) (Option.bind (idxO a0.nums v18) fun x25 => cond (decide (x25 < (-9999))) (some (Sum.inr (.inr ((false : Bool))))) (cond (decide (9999 < x25)) (some (Sum.inr (.inr ((false : Bool))))) (some (Sum.inl (IntKind.i64.wrap (v18 + 1)))))) (some (Sum.inr (.inl v18))) := rfl
noncomputable def r02_Valid_L2 (a0 : Dc) : Int → Option ((Int) ⊕ (Int ⊕ Bool))
  | v10 => cond (decide (v10 < ((a0.names.length : Nat) : Int))) (Option.bind (idxO a0.names v10) fun x33 => Option.bind (rname_v x33) fun x37 => cond x37 (some (Sum.inl (IntKind.i64.wrap (v10 + 1)))) (some (Sum.inr (.inr ((false : Bool)))))) (some (Sum.inr (.inl v10)))
theorem r02_Valid_L2_eq (a0 : Dc) (v10 : Int) : r02_Valid_L2 a0 v10 = cond (decide (v10 < ((a0.names.length : Nat) : Int))) (Option.bind (idxO a0.names v10) fun x33 => Option.bind (rname_v x33) fun x37 => cond x37 (some (Sum.inl (IntKind.i64.wrap (v10 + 1)))) (some (Sum.inr (.inr ((false : Bool)))))) (some (Sum.inr (.inl v10))) := rfl
noncomputable def r02_Valid_v (a0 : Dc) : Option (Bool) :=
  cond (decide (a0.word < 1)) (some false) (cond (decide (6 < a0.word)) (some false) (Option.bind (r02_shape_v a0.word) fun (x3, x4) => cond (decide (((a0.nums.length : Nat) : Int) = x4)) (cond (decide (((a0.names.length : Nat) : Int) < x3)) (some false) (cond (decide (x3 < ((a0.names.length : Nat) : Int))) (cond (decide (a0.word = 2)) (Option.bind (loopO (r02_Valid_L2 a0) 0) (fun | .inl v90 => Option.bind (loopO (r02_Valid_L1 a0) 0) (fun | .inl v105 => some true | .inr (r106) => some r106) | .inr (r107) => some r107)) (some false)) (Option.bind (loopO (r02_Valid_L2 a0) 0) (fun | .inl v40 => Option.bind (loopO (r02_Valid_L1 a0) 0) (fun | .inl v55 => some true | .inr (r56) => some r56) | .inr (r57) => some r57)))) (some false)))
theorem r02_Valid_vok (a0 : Dc) (r : Bool) (hr : r02_Valid_v a0 = some r) :
    ACalls Try.prog 43 [.agg [.p (.int .i64 a0.word), .p (.int .i64 a0.line), .p (.sl (encS a0.names)), .p (.sl (encI a0.nums))]] [] fun h d => h = [] ∧ d = .p (.bool r) := by
  refine ACalls_X Try.func43 rfl enters43 (by simp [Try.f43]) ?_
  unfold r02_Valid_v at hr
  cases c1 : decide (a0.word < 1)
  · simp only [c1, cond_false] at hr
    cases c2 : decide (6 < a0.word)
    · simp only [c2, cond_false] at hr
      obtain ⟨⟨x3, x4⟩, g5, hr⟩ := bE hr
      try simp only [go_sem, c1, c2]
      refine Cc_of (r02_shape_vok a0.word _ g5) ?_
      rintro h' r ⟨rfl, rfl⟩
      cases c6 : decide (((a0.nums.length : Nat) : Int) = x4)
      · simp only [c6, cond_false] at hr
        obtain rfl := Option.some.inj hr
        try simp only [go_sem, c6]
        all_goals (try refine end_pure ?_)
        all_goals (try simp only [go_sem, c6])
        all_goals (try (first | rfl | exact ⟨rfl, rfl⟩ | (simp; done)))
      simp only [c6, cond_true] at hr
      cases c7 : decide (((a0.names.length : Nat) : Int) < x3)
      · simp only [c7, cond_false] at hr
        cases c8 : decide (x3 < ((a0.names.length : Nat) : Int))
        · simp only [c8, cond_false] at hr
          obtain ⟨e14, g15, hr⟩ := bE hr
          try simp only [go_sem, c6, c7, c8]
          refine X_loopO g15 (fun q : Int => ⟨[(1, .ptr 1 0), (5, .p (.int .i64 q))], [(1, .box [.p (.int .i64 a0.word), .p (.int .i64 a0.line), .p (.sl (encS a0.names)), .p (.sl (encI a0.nums))])], 80⟩) ((Wk.forget (by simp [Le, LeE, LeH, get, envIds, hpIds, KeepH, D.ids, idsL, AO.ids, setL, base, ZE]))) ?_
          rintro v10 m13 hh11 ih12
          rw [r02_Valid_L2_eq] at hh11
          cases c16 : decide (v10 < ((a0.names.length : Nat) : Int))
          · simp only [c16, cond_false] at hh11
            simp only [Option.bind_some, nextO_inr] at hh11
            obtain rfl := Option.some.inj hh11
            try dsimp only at hr
            obtain ⟨e22, g23, hr⟩ := bE hr
            try simp only [go_sem, c16]
            refine X_loopO g23 (fun q : Int => ⟨[(1, .ptr 1 0), (6, .p (.int .i64 q))], [(1, .box [.p (.int .i64 a0.word), .p (.int .i64 a0.line), .p (.sl (encS a0.names)), .p (.sl (encI a0.nums))])], 80⟩) ((Wk.forget (by simp [Le, LeE, LeH, get, envIds, hpIds, KeepH, D.ids, idsL, AO.ids, setL, base, ZE]))) ?_
            rintro v18 m21 hh19 ih20
            rw [r02_Valid_L1_eq] at hh19
            cases c24 : decide (v18 < ((a0.nums.length : Nat) : Int))
            · simp only [c24, cond_false] at hh19
              simp only [Option.bind_some, nextO_inr] at hh19
              obtain rfl := Option.some.inj hh19
              try dsimp only at hr
              obtain rfl := Option.some.inj hr
              try simp only [go_sem, c24]
              all_goals (try refine end_pure ?_)
              all_goals (try simp only [go_sem, c24])
              all_goals (try (first | rfl | exact ⟨rfl, rfl⟩ | (simp; done)))
            simp only [c24, cond_true] at hh19
            obtain ⟨x25, g26, hh19⟩ := bK hh19
            have f27 := idxO_rng g26
            have f28 : (encI a0.nums).getD (Int.toNat v18) [] = [(.int .i64 x25)] := idxO_map _ g26
            cases c29 : decide (x25 < (-9999))
            · simp only [c29, cond_false] at hh19
              cases c30 : decide (9999 < x25)
              · simp only [c30, cond_false] at hh19
                simp only [Option.bind_some, nextO_inl] at hh19
                try simp only [go_sem, c24, f27, f28, c29, c30]
                exact ih20 (IntKind.i64.wrap (v18 + 1)) _ hh19 ((Wk.forget (by simp [Le, LeE, LeH, get, envIds, hpIds, KeepH, D.ids, idsL, AO.ids, setL, base, ZE])))
              simp only [c30, cond_true] at hh19
              simp only [Option.bind_some, nextO_inr] at hh19
              obtain rfl := Option.some.inj hh19
              try dsimp only at hr
              obtain rfl := Option.some.inj hr
              try simp only [go_sem, c24, f27, f28, c29, c30]
              all_goals (try refine end_pure ?_)
              all_goals (try simp only [go_sem, c24, f27, f28, c29, c30])
              all_goals (try (first | rfl | exact ⟨rfl, rfl⟩ | (simp; done)))
            simp only [c29, cond_true] at hh19
            simp only [Option.bind_some, nextO_inr] at hh19
            obtain rfl := Option.some.inj hh19
            try dsimp only at hr
            obtain rfl := Option.some.inj hr
            try simp only [go_sem, c24, f27, f28, c29]
            all_goals (try refine end_pure ?_)
            all_goals (try simp only [go_sem, c24, f27, f28, c29])
            all_goals (try (first | rfl | exact ⟨rfl, rfl⟩ | (simp; done)))
          simp only [c16, cond_true] at hh11
          obtain ⟨x33, g34, hh11⟩ := bK hh11
          have f35 := idxO_rng g34
          have f36 : (encS a0.names).getD (Int.toNat v10) [] = [(.str x33)] := idxO_map _ g34
          obtain ⟨x37, g38, hh11⟩ := bK hh11
          try simp only [go_sem, c16, f35, f36]
          refine Cc_of (rname_vok x33 _ g38) ?_
          rintro h' r ⟨rfl, rfl⟩
          cases c39 : x37
          · simp only [c39, cond_false] at hh11
            simp only [Option.bind_some, nextO_inr] at hh11
            obtain rfl := Option.some.inj hh11
            try dsimp only at hr
            obtain rfl := Option.some.inj hr
            try simp only [go_sem, c39]
            all_goals (try refine end_pure ?_)
            all_goals (try simp only [go_sem, c39])
            all_goals (try (first | rfl | exact ⟨rfl, rfl⟩ | (simp; done)))
          simp only [c39, cond_true] at hh11
          simp only [Option.bind_some, nextO_inl] at hh11
          try simp only [go_sem, c39]
          exact ih12 (IntKind.i64.wrap (v10 + 1)) _ hh11 ((Wk.forget (by simp [Le, LeE, LeH, get, envIds, hpIds, KeepH, D.ids, idsL, AO.ids, setL, base, ZE, c39])))
        simp only [c8, cond_true] at hr
        cases c58 : decide (a0.word = 2)
        · simp only [c58, cond_false] at hr
          obtain rfl := Option.some.inj hr
          try simp only [go_sem, c6, c7, c8, c58]
          all_goals (try refine end_pure ?_)
          all_goals (try simp only [go_sem, c6, c7, c8, c58])
          all_goals (try (first | rfl | exact ⟨rfl, rfl⟩ | (simp; done)))
        simp only [c58, cond_true] at hr
        obtain ⟨e64, g65, hr⟩ := bE hr
        try simp only [go_sem, c6, c7, c8, c58]
        refine X_loopO g65 (fun q : Int => ⟨[(1, .ptr 1 0), (5, .p (.int .i64 q))], [(1, .box [.p (.int .i64 a0.word), .p (.int .i64 a0.line), .p (.sl (encS a0.names)), .p (.sl (encI a0.nums))])], 80⟩) ((Wk.forget (by simp [Le, LeE, LeH, get, envIds, hpIds, KeepH, D.ids, idsL, AO.ids, setL, base, ZE]))) ?_
        rintro v60 m63 hh61 ih62
        rw [r02_Valid_L2_eq] at hh61
        cases c66 : decide (v60 < ((a0.names.length : Nat) : Int))
        · simp only [c66, cond_false] at hh61
          simp only [Option.bind_some, nextO_inr] at hh61
          obtain rfl := Option.some.inj hh61
          try dsimp only at hr
          obtain ⟨e72, g73, hr⟩ := bE hr
          try simp only [go_sem, c66]
          refine X_loopO g73 (fun q : Int => ⟨[(1, .ptr 1 0), (6, .p (.int .i64 q))], [(1, .box [.p (.int .i64 a0.word), .p (.int .i64 a0.line), .p (.sl (encS a0.names)), .p (.sl (encI a0.nums))])], 80⟩) ((Wk.forget (by simp [Le, LeE, LeH, get, envIds, hpIds, KeepH, D.ids, idsL, AO.ids, setL, base, ZE]))) ?_
          rintro v68 m71 hh69 ih70
          rw [r02_Valid_L1_eq] at hh69
          cases c74 : decide (v68 < ((a0.nums.length : Nat) : Int))
          · simp only [c74, cond_false] at hh69
            simp only [Option.bind_some, nextO_inr] at hh69
            obtain rfl := Option.some.inj hh69
            try dsimp only at hr
            obtain rfl := Option.some.inj hr
            try simp only [go_sem, c74]
            all_goals (try refine end_pure ?_)
            all_goals (try simp only [go_sem, c74])
            all_goals (try (first | rfl | exact ⟨rfl, rfl⟩ | (simp; done)))
          simp only [c74, cond_true] at hh69
          obtain ⟨x75, g76, hh69⟩ := bK hh69
          have f77 := idxO_rng g76
          have f78 : (encI a0.nums).getD (Int.toNat v68) [] = [(.int .i64 x75)] := idxO_map _ g76
          cases c79 : decide (x75 < (-9999))
          · simp only [c79, cond_false] at hh69
            cases c80 : decide (9999 < x75)
            · simp only [c80, cond_false] at hh69
              simp only [Option.bind_some, nextO_inl] at hh69
              try simp only [go_sem, c74, f77, f78, c79, c80]
              exact ih70 (IntKind.i64.wrap (v68 + 1)) _ hh69 ((Wk.forget (by simp [Le, LeE, LeH, get, envIds, hpIds, KeepH, D.ids, idsL, AO.ids, setL, base, ZE])))
            simp only [c80, cond_true] at hh69
            simp only [Option.bind_some, nextO_inr] at hh69
            obtain rfl := Option.some.inj hh69
            try dsimp only at hr
            obtain rfl := Option.some.inj hr
            try simp only [go_sem, c74, f77, f78, c79, c80]
            all_goals (try refine end_pure ?_)
            all_goals (try simp only [go_sem, c74, f77, f78, c79, c80])
            all_goals (try (first | rfl | exact ⟨rfl, rfl⟩ | (simp; done)))
          simp only [c79, cond_true] at hh69
          simp only [Option.bind_some, nextO_inr] at hh69
          obtain rfl := Option.some.inj hh69
          try dsimp only at hr
          obtain rfl := Option.some.inj hr
          try simp only [go_sem, c74, f77, f78, c79]
          all_goals (try refine end_pure ?_)
          all_goals (try simp only [go_sem, c74, f77, f78, c79])
          all_goals (try (first | rfl | exact ⟨rfl, rfl⟩ | (simp; done)))
        simp only [c66, cond_true] at hh61
        obtain ⟨x83, g84, hh61⟩ := bK hh61
        have f85 := idxO_rng g84
        have f86 : (encS a0.names).getD (Int.toNat v60) [] = [(.str x83)] := idxO_map _ g84
        obtain ⟨x87, g88, hh61⟩ := bK hh61
        try simp only [go_sem, c66, f85, f86]
        refine Cc_of (rname_vok x83 _ g88) ?_
        rintro h' r ⟨rfl, rfl⟩
        cases c89 : x87
        · simp only [c89, cond_false] at hh61
          simp only [Option.bind_some, nextO_inr] at hh61
          obtain rfl := Option.some.inj hh61
          try dsimp only at hr
          obtain rfl := Option.some.inj hr
          try simp only [go_sem, c89]
          all_goals (try refine end_pure ?_)
          all_goals (try simp only [go_sem, c89])
          all_goals (try (first | rfl | exact ⟨rfl, rfl⟩ | (simp; done)))
        simp only [c89, cond_true] at hh61
        simp only [Option.bind_some, nextO_inl] at hh61
        try simp only [go_sem, c89]
        exact ih62 (IntKind.i64.wrap (v60 + 1)) _ hh61 ((Wk.forget (by simp [Le, LeE, LeH, get, envIds, hpIds, KeepH, D.ids, idsL, AO.ids, setL, base, ZE, c89])))
      simp only [c7, cond_true] at hr
      obtain rfl := Option.some.inj hr
      try simp only [go_sem, c6, c7]
      all_goals (try refine end_pure ?_)
      all_goals (try simp only [go_sem, c6, c7])
      all_goals (try (first | rfl | exact ⟨rfl, rfl⟩ | (simp; done)))
    simp only [c2, cond_true] at hr
    obtain rfl := Option.some.inj hr
    try simp only [go_sem, c1, c2]
    all_goals (try refine end_pure ?_)
    all_goals (try simp only [go_sem, c1, c2])
    all_goals (try (first | rfl | exact ⟨rfl, rfl⟩ | (simp; done)))
  simp only [c1, cond_true] at hr
  obtain rfl := Option.some.inj hr
  try simp only [go_sem, c1]
  all_goals (try refine end_pure ?_)
  all_goals (try simp only [go_sem, c1])
  all_goals (try (first | rfl | exact ⟨rfl, rfl⟩ | (simp; done)))
noncomputable def r03_builder_one_v (a0 : List Blk) (a1 : List (List Int)) (a2 : List Spr) (a3 : List Int) (a4 : Int) (a5 : Int) (a6 : Int) (a7 : Int) (a8 : Bool) (a9 : Dc) : Option (Int × (List Blk) × (List (List Int)) × (List Spr) × (List Int) × Int × Int × Int × Int × Bool) :=
  Option.bind (r02_Valid_v (⟨a9.word, a9.line, a9.names, a9.nums⟩ : Dc)) fun x1 => cond x1 (cond (decide (a9.word = 1)) (Option.bind (rbBlock_v a0 a1 a2 a3 a4 a5 a6 a7 a8 (⟨a9.word, a9.line, a9.names, a9.nums⟩ : Dc)) fun (x64, x65, x66, x67, x68, x69, x70, x71, x72, x73) => some (x64, x65, x66, x67, x68, x69, x70, x71, x72, x73)) (cond (decide (a9.word = 2)) (Option.bind (rbLane_v a0 a1 a2 a3 a4 a5 a6 a7 a8 (⟨a9.word, a9.line, a9.names, a9.nums⟩ : Dc)) fun (x53, x54, x55, x56, x57, x58, x59, x60, x61, x62) => some (x53, x54, x55, x56, x57, x58, x59, x60, x61, x62)) (cond (decide (a9.word = 3)) (Option.bind (rbSpur_v a0 a1 a2 a3 a4 a5 a6 a7 a8 (⟨a9.word, a9.line, a9.names, a9.nums⟩ : Dc)) fun (x42, x43, x44, x45, x46, x47, x48, x49, x50, x51) => some (x42, x43, x44, x45, x46, x47, x48, x49, x50, x51)) (cond (decide (a9.word = 4)) (Option.bind (rbSpur_v a0 a1 a2 a3 a4 a5 a6 a7 a8 (⟨a9.word, a9.line, a9.names, a9.nums⟩ : Dc)) fun (x31, x32, x33, x34, x35, x36, x37, x38, x39, x40) => some (x31, x32, x33, x34, x35, x36, x37, x38, x39, x40)) (cond (decide (a9.word = 5)) (Option.bind (rbRobot_v a0 a1 a2 a3 a4 a5 a6 a7 a8 (⟨a9.word, a9.line, a9.names, a9.nums⟩ : Dc)) fun (x20, x21, x22, x23, x24, x25, x26, x27, x28, x29) => some (x20, x21, x22, x23, x24, x25, x26, x27, x28, x29)) (Option.bind (rbConfig_v a0 a1 a2 a3 a4 a5 a6 a7 a8 (⟨a9.word, a9.line, a9.names, a9.nums⟩ : Dc)) fun (x9, x10, x11, x12, x13, x14, x15, x16, x17, x18) => some (x9, x10, x11, x12, x13, x14, x15, x16, x17, x18))))))) (some (20, a0, a1, a2, a3, a4, a5, a6, a7, a8))
theorem r03_builder_one_vok (a0 : List Blk) (a1 : List (List Int)) (a2 : List Spr) (a3 : List Int) (a4 : Int) (a5 : Int) (a6 : Int) (a7 : Int) (a8 : Bool) (a9 : Dc) (r : Int × (List Blk) × (List (List Int)) × (List Spr) × (List Int) × Int × Int × Int × Int × Bool) (hr : r03_builder_one_v a0 a1 a2 a3 a4 a5 a6 a7 a8 a9 = some r) :
    ACalls Try.prog 23 [.ptr 1000000 0, .agg [.p (.int .i64 a9.word), .p (.int .i64 a9.line), .p (.sl (encS a9.names)), .p (.sl (encI a9.nums))]] [(1000000, .box [.ref 1000001 0 a0.length a0.length, .ref 1000002 0 a1.length a1.length, .ref 1000003 0 a2.length a2.length, .ref 1000004 0 a3.length a3.length, .p (.int .i64 a4), .p (.int .i64 a5), .p (.int .i64 a6), .p (.int .i64 a7), .p (.bool a8)]), (1000001, .arr 56 3 (encK a0)), (1000002, .arr 23 1 (encG a1)), (1000003, .arr 52 6 (encP a2)), (1000004, .arr 3 1 (encI a3))] fun h d => h = [(1000000, .box [.ref 1000001 0 r.2.1.length r.2.1.length, .ref 1000002 0 r.2.2.1.length r.2.2.1.length, .ref 1000003 0 r.2.2.2.1.length r.2.2.2.1.length, .ref 1000004 0 r.2.2.2.2.1.length r.2.2.2.2.1.length, .p (.int .i64 r.2.2.2.2.2.1), .p (.int .i64 r.2.2.2.2.2.2.1), .p (.int .i64 r.2.2.2.2.2.2.2.1), .p (.int .i64 r.2.2.2.2.2.2.2.2.1), .p (.bool r.2.2.2.2.2.2.2.2.2)]), (1000001, .arr 56 3 (encK r.2.1)), (1000002, .arr 23 1 (encG r.2.2.1)), (1000003, .arr 52 6 (encP r.2.2.2.1)), (1000004, .arr 3 1 (encI r.2.2.2.2.1))] ∧ d = .p (.int .i64 r.1) := by
  refine ACalls_X Try.func23 rfl enters23 (by simp [Try.f23]) ?_
  unfold r03_builder_one_v at hr
  obtain ⟨x1, g2, hr⟩ := bE hr
  try simp only [go_sem]
  refine Cc_of (r02_Valid_vok (⟨a9.word, a9.line, a9.names, a9.nums⟩ : Dc) _ g2) ?_
  rintro h' r ⟨rfl, rfl⟩
  cases c3 : x1
  · simp only [c3, cond_false] at hr
    obtain rfl := Option.some.inj hr
    try simp only [go_sem, c3]
    all_goals (try refine end_own ?_)
    all_goals (try simp only [go_sem, c3])
    all_goals (try (first | rfl | exact ⟨rfl, rfl⟩ | (simp; done)))
  simp only [c3, cond_true] at hr
  cases c4 : decide (a9.word = 1)
  · simp only [c4, cond_false] at hr
    cases c5 : decide (a9.word = 2)
    · simp only [c5, cond_false] at hr
      cases c6 : decide (a9.word = 3)
      · simp only [c6, cond_false] at hr
        cases c7 : decide (a9.word = 4)
        · simp only [c7, cond_false] at hr
          cases c8 : decide (a9.word = 5)
          · simp only [c8, cond_false] at hr
            obtain ⟨⟨x9, x10, x11, x12, x13, x14, x15, x16, x17, x18⟩, g19, hr⟩ := bE hr
            try simp only [go_sem, c3, c4, c5, c6, c7, c8]
            refine Cc_of (rbConfig_vok a0 a1 a2 a3 a4 a5 a6 a7 a8 (⟨a9.word, a9.line, a9.names, a9.nums⟩ : Dc) _ g19) ?_
            rintro h' r ⟨rfl, rfl⟩
            obtain rfl := Option.some.inj hr
            try simp only [go_sem, c3]
            all_goals (try refine end_own ?_)
            all_goals (try simp only [go_sem, c3])
            all_goals (try (first | rfl | exact ⟨rfl, rfl⟩ | (simp; done)))
          simp only [c8, cond_true] at hr
          obtain ⟨⟨x20, x21, x22, x23, x24, x25, x26, x27, x28, x29⟩, g30, hr⟩ := bE hr
          try simp only [go_sem, c3, c4, c5, c6, c7, c8]
          refine Cc_of (rbRobot_vok a0 a1 a2 a3 a4 a5 a6 a7 a8 (⟨a9.word, a9.line, a9.names, a9.nums⟩ : Dc) _ g30) ?_
          rintro h' r ⟨rfl, rfl⟩
          obtain rfl := Option.some.inj hr
          try simp only [go_sem, c3]
          all_goals (try refine end_own ?_)
          all_goals (try simp only [go_sem, c3])
          all_goals (try (first | rfl | exact ⟨rfl, rfl⟩ | (simp; done)))
        simp only [c7, cond_true] at hr
        obtain ⟨⟨x31, x32, x33, x34, x35, x36, x37, x38, x39, x40⟩, g41, hr⟩ := bE hr
        try simp only [go_sem, c3, c4, c5, c6, c7]
        refine Cc_of (rbSpur_vok a0 a1 a2 a3 a4 a5 a6 a7 a8 (⟨a9.word, a9.line, a9.names, a9.nums⟩ : Dc) _ g41) ?_
        rintro h' r ⟨rfl, rfl⟩
        obtain rfl := Option.some.inj hr
        try simp only [go_sem, c3]
        all_goals (try refine end_own ?_)
        all_goals (try simp only [go_sem, c3])
        all_goals (try (first | rfl | exact ⟨rfl, rfl⟩ | (simp; done)))
      simp only [c6, cond_true] at hr
      obtain ⟨⟨x42, x43, x44, x45, x46, x47, x48, x49, x50, x51⟩, g52, hr⟩ := bE hr
      try simp only [go_sem, c3, c4, c5, c6]
      refine Cc_of (rbSpur_vok a0 a1 a2 a3 a4 a5 a6 a7 a8 (⟨a9.word, a9.line, a9.names, a9.nums⟩ : Dc) _ g52) ?_
      rintro h' r ⟨rfl, rfl⟩
      obtain rfl := Option.some.inj hr
      try simp only [go_sem, c3]
      all_goals (try refine end_own ?_)
      all_goals (try simp only [go_sem, c3])
      all_goals (try (first | rfl | exact ⟨rfl, rfl⟩ | (simp; done)))
    simp only [c5, cond_true] at hr
    obtain ⟨⟨x53, x54, x55, x56, x57, x58, x59, x60, x61, x62⟩, g63, hr⟩ := bE hr
    try simp only [go_sem, c3, c4, c5]
    refine Cc_of (rbLane_vok a0 a1 a2 a3 a4 a5 a6 a7 a8 (⟨a9.word, a9.line, a9.names, a9.nums⟩ : Dc) _ g63) ?_
    rintro h' r ⟨rfl, rfl⟩
    obtain rfl := Option.some.inj hr
    try simp only [go_sem, c3]
    all_goals (try refine end_own ?_)
    all_goals (try simp only [go_sem, c3])
    all_goals (try (first | rfl | exact ⟨rfl, rfl⟩ | (simp; done)))
  simp only [c4, cond_true] at hr
  obtain ⟨⟨x64, x65, x66, x67, x68, x69, x70, x71, x72, x73⟩, g74, hr⟩ := bE hr
  try simp only [go_sem, c3, c4]
  refine Cc_of (rbBlock_vok a0 a1 a2 a3 a4 a5 a6 a7 a8 (⟨a9.word, a9.line, a9.names, a9.nums⟩ : Dc) _ g74) ?_
  rintro h' r ⟨rfl, rfl⟩
  obtain rfl := Option.some.inj hr
  try simp only [go_sem, c3]
  all_goals (try refine end_own ?_)
  all_goals (try simp only [go_sem, c3])
  all_goals (try (first | rfl | exact ⟨rfl, rfl⟩ | (simp; done)))
noncomputable def rBuild_L1 (v32 : List Spr) : (List Int) × Int → Option (((List Int) × Int) ⊕ (((List Int) × Int)))
  | (v45, v46) => cond (decide (v46 < ((v45.length : Nat) : Int))) (Option.bind (idxO v45 v46) fun x53 => Option.bind (idxO v32 (IntKind.i64.wrap (Int.tdiv x53 8))) fun x57 => some (Sum.inl ((v45.set (Int.toNat v46) (IntKind.i64.wrap ((IntKind.i64.wrap (x57.base + (Int.tmod x53 8))) - 1))), (IntKind.i64.wrap (v46 + 1))))) (some (Sum.inr (v45, v46)))
theorem rBuild_L1_eq (v32 : List Spr) (v45 : List Int) (v46 : Int) : rBuild_L1 v32 (v45, v46) = cond (decide (v46 < ((v45.length : Nat) : Int))) (Option.bind (idxO v45 v46) fun x53 => Option.bind (idxO v32 (IntKind.i64.wrap (Int.tdiv x53 8))) fun x57 => some (Sum.inl ((v45.set (Int.toNat v46) (IntKind.i64.wrap ((IntKind.i64.wrap (x57.base + (Int.tmod x53 8))) - 1))), (IntKind.i64.wrap (v46 + 1))))) (some (Sum.inr (v45, v46))) := rfl
noncomputable def rBuild_L2 : (List Spr) × Int × Int × Int → Option (((List Spr) × Int × Int × Int) ⊕ (((List Spr) × Int × Int × Int)))
  | (v32, v33, v34, v35) => cond (decide (v33 < ((v32.length : Nat) : Int))) (Option.bind (idxO v32 v33) fun x63 => Option.bind (idxO (v32.set (Int.toNat v33) (⟨x63.name, x63.depot, x63.inn, x63.out, x63.slots, v35⟩ : Spr)) v33) fun x67 => cond x67.depot (some (Sum.inl ((v32.set (Int.toNat v33) (⟨x63.name, x63.depot, x63.inn, x63.out, x63.slots, v35⟩ : Spr)), (IntKind.i64.wrap (v33 + 1)), (IntKind.i64.wrap (v34 + 1)), (IntKind.i64.wrap (v35 + x67.slots))))) (some (Sum.inl ((v32.set (Int.toNat v33) (⟨x63.name, x63.depot, x63.inn, x63.out, x63.slots, v35⟩ : Spr)), (IntKind.i64.wrap (v33 + 1)), v34, (IntKind.i64.wrap (v35 + x67.slots)))))) (some (Sum.inr (v32, v33, v34, v35)))
theorem rBuild_L2_eq (v32 : List Spr) (v33 : Int) (v34 : Int) (v35 : Int) : rBuild_L2  (v32, v33, v34, v35) = cond (decide (v33 < ((v32.length : Nat) : Int))) (Option.bind (idxO v32 v33) fun x63 => Option.bind (idxO (v32.set (Int.toNat v33) (⟨x63.name, x63.depot, x63.inn, x63.out, x63.slots, v35⟩ : Spr)) v33) fun x67 => cond x67.depot (some (Sum.inl ((v32.set (Int.toNat v33) (⟨x63.name, x63.depot, x63.inn, x63.out, x63.slots, v35⟩ : Spr)), (IntKind.i64.wrap (v33 + 1)), (IntKind.i64.wrap (v34 + 1)), (IntKind.i64.wrap (v35 + x67.slots))))) (some (Sum.inl ((v32.set (Int.toNat v33) (⟨x63.name, x63.depot, x63.inn, x63.out, x63.slots, v35⟩ : Spr)), (IntKind.i64.wrap (v33 + 1)), v34, (IntKind.i64.wrap (v35 + x67.slots)))))) (some (Sum.inr (v32, v33, v34, v35))) := rfl
noncomputable def rBuild_L3 (a0 : List Dc) : (List Blk) × (List (List Int)) × (List Spr) × (List Int) × Int × Int × Int × Int × Bool × Int → Option (((List Blk) × (List (List Int)) × (List Spr) × (List Int) × Int × Int × Int × Int × Bool × Int) ⊕ (((List Blk) × (List (List Int)) × (List Spr) × (List Int) × Int × Int × Int × Int × Bool × Int) ⊕ (Nt × Int × Int)))
  | (v11, v12, v13, v14, v15, v16, v17, v18, v19, v20) => cond (decide (v20 < ((a0.length : Nat) : Int))) (Option.bind (idxO a0 v20) fun x98 => Option.bind (r03_builder_one_v v11 v12 v13 v14 v15 v16 v17 v18 v19 (⟨x98.word, x98.line, x98.names, x98.nums⟩ : Dc)) fun (x102, x103, x104, x105, x106, x107, x108, x109, x110, x111) => cond (decide (x102 = 0)) (some (Sum.inl (x103, x104, x105, x106, x107, x108, x109, x110, x111, (IntKind.i64.wrap (v20 + 1))))) (some (Sum.inr (.inr ((((⟨[], [], [], [], 0, 0, 0, 0⟩ : Nt), x98.line, x102) : Nt × Int × Int)))))) (some (Sum.inr (.inl (v11, v12, v13, v14, v15, v16, v17, v18, v19, v20))))
theorem rBuild_L3_eq (a0 : List Dc) (v11 : List Blk) (v12 : List (List Int)) (v13 : List Spr) (v14 : List Int) (v15 : Int) (v16 : Int) (v17 : Int) (v18 : Int) (v19 : Bool) (v20 : Int) : rBuild_L3 a0 (v11, v12, v13, v14, v15, v16, v17, v18, v19, v20) = cond (decide (v20 < ((a0.length : Nat) : Int))) (Option.bind (idxO a0 v20) fun x98 => Option.bind (r03_builder_one_v v11 v12 v13 v14 v15 v16 v17 v18 v19 (⟨x98.word, x98.line, x98.names, x98.nums⟩ : Dc)) fun (x102, x103, x104, x105, x106, x107, x108, x109, x110, x111) => cond (decide (x102 = 0)) (some (Sum.inl (x103, x104, x105, x106, x107, x108, x109, x110, x111, (IntKind.i64.wrap (v20 + 1))))) (some (Sum.inr (.inr ((((⟨[], [], [], [], 0, 0, 0, 0⟩ : Nt), x98.line, x102) : Nt × Int × Int)))))) (some (Sum.inr (.inl (v11, v12, v13, v14, v15, v16, v17, v18, v19, v20)))) := rfl
noncomputable def rBuild_v (a0 : List Dc) : Option (Nt × Int × Int) :=
  Option.bind (loopO (rBuild_L3 a0) ([], [], [], [], 4, 2, 1, 8, false, 0)) (fun | .inl (v114, v115, v116, v117, v118, v119, v120, v121, v122, v123) => cond (decide (((v114.length : Nat) : Int) = 0)) (some ((⟨[], [], [], [], 0, 0, 0, 0⟩ : Nt), 0, 15)) (Option.bind (loopO rBuild_L2 (v116, 0, 0, ((v114.length : Nat) : Int))) (fun (v170, v171, v172, v173) => cond (decide (v172 = 0)) (some ((⟨[], [], [], [], 0, 0, 0, 0⟩ : Nt), 0, 16)) (Option.bind (loopO (rBuild_L1 v170) (v117, 0)) (fun (v193, v194) => some ((⟨v114, v115, v170, v193, v118, v119, v120, v121⟩ : Nt), 0, 0))))) | .inr (r195) => some r195)
theorem rBuild_vok (a0 : List Dc) (r : Nt × Int × Int) (hr : rBuild_v a0 = some r) :
    ACalls Try.prog 9 [.p (.sl (encC a0))] [] fun h d => h = [] ∧ d = .tup [.agg [.p (.sl (encK r.1.blocks)), .p (.sl (encG r.1.next)), .p (.sl (encP r.1.spurs)), .p (.sl (encI r.1.robots)), .p (.int .i64 r.1.cq), .p (.int .i64 r.1.ca), .p (.int .i64 r.1.cd), .p (.int .i64 r.1.cp)], .p (.int .i64 r.2.1), .p (.int .i64 r.2.2)] := by
  refine ACalls_X Try.func9 rfl enters9 (by simp [Try.f9]) ?_
  unfold rBuild_v at hr
  obtain ⟨e24, g25, hr⟩ := bE hr
  try simp only [go_sem]
  refine X_loopO g25 (fun q : (List Blk) × (List (List Int)) × (List Spr) × (List Int) × Int × Int × Int × Int × Bool × Int => ⟨[(0, .p (.sl (encC a0))), (2, .ptr 2 0), (5, .ptr 16 0), (6, .p (.int .i64 q.2.2.2.2.2.2.2.2.2))], [(2, .box [.cl [], .cl [], .cl [], .cl [], .p (.int .i64 0), .p (.int .i64 0), .p (.int .i64 0), .p (.int .i64 0)]), (16, .box [.ref 516000 0 q.1.length q.1.length, .ref 516001 0 q.2.1.length q.2.1.length, .ref 516002 0 q.2.2.1.length q.2.2.1.length, .ref 516003 0 q.2.2.2.1.length q.2.2.2.1.length, .p (.int .i64 q.2.2.2.2.1), .p (.int .i64 q.2.2.2.2.2.1), .p (.int .i64 q.2.2.2.2.2.2.1), .p (.int .i64 q.2.2.2.2.2.2.2.1), .p (.bool q.2.2.2.2.2.2.2.2.1)]), (516000, .arr 56 3 (encK q.1)), (516001, .arr 23 1 (encG q.2.1)), (516002, .arr 52 6 (encP q.2.2.1)), (516003, .arr 3 1 (encI q.2.2.2.1))], 139⟩) ((Wk.nilBox (id := 16) (j := 0) (q := 516000) (sz := 3) 56 rfl rfl rfl (by decide)).trans ((Wk.nilBox (id := 16) (j := 1) (q := 516001) (sz := 1) 23 rfl rfl rfl (by decide)).trans ((Wk.nilBox (id := 16) (j := 2) (q := 516002) (sz := 6) 52 rfl rfl rfl (by decide)).trans ((Wk.nilBox (id := 16) (j := 3) (q := 516003) (sz := 1) 3 rfl rfl rfl (by decide)).trans ((Wk.forget (by simp [Le, LeE, LeH, get, envIds, hpIds, KeepH, D.ids, idsL, AO.ids, setL, base, ZE]))))))) ?_
  rintro ⟨v11, v12, v13, v14, v15, v16, v17, v18, v19, v20⟩ m23 hh21 ih22
  rw [rBuild_L3_eq] at hh21
  cases c26 : decide (v20 < ((a0.length : Nat) : Int))
  · simp only [c26, cond_false] at hh21
    simp only [Option.bind_some, nextO_inr] at hh21
    obtain rfl := Option.some.inj hh21
    try dsimp only at hr
    cases c27 : decide (((v11.length : Nat) : Int) = 0)
    · simp only [c27, cond_false] at hr
      try simp only [go_sem, c26, c27]
      refine X_any0 mixed (p := [(0, 0), (1, 0), (2, 0), (3, 0), (4, 0), (5, 0), (6, 0), (7, 0)]) (by kernel_rfl) (by simp [LeH, get]) ?_
      obtain ⟨e39, g40, hr⟩ := bE hr
      try simp only [go_sem]
      refine X_loopO g40 (fun q : (List Spr) × Int × Int × Int => ⟨[(2, .ptr 2 0), (5, .ptr 16 0), (8, .p (.int .i64 q.2.2.1)), (9, .p (.int .i64 q.2.2.2)), (10, .p (.int .i64 q.2.1))], [(2, .box [.cl [], .cl [], .cl [], .cl [], .p (.int .i64 0), .p (.int .i64 0), .p (.int .i64 0), .p (.int .i64 0)]), (16, .box [.ref 516000 0 v11.length v11.length, .ref 516001 0 v12.length v12.length, .ref 516002 0 q.1.length q.1.length, .ref 516003 0 v14.length v14.length, .p (.int .i64 v15), .p (.int .i64 v16), .p (.int .i64 v17), .p (.int .i64 v18), .p (.bool v19)]), (516000, .arr 56 3 (encK v11)), (516001, .arr 23 1 (encG v12)), (516002, .arr 52 6 (encP q.1)), (516003, .arr 3 1 (encI v14))], 139⟩) ((Wk.forget (by simp [Le, LeE, LeH, get, envIds, hpIds, KeepH, D.ids, idsL, AO.ids, setL, base, ZE]))) ?_
      rintro ⟨v32, v33, v34, v35⟩ m38 hh36 ih37
      rw [rBuild_L2_eq] at hh36
      cases c41 : decide (v33 < ((v32.length : Nat) : Int))
      · simp only [c41, cond_false] at hh36
        simp only [Option.bind_some, nextO_inr] at hh36
        obtain rfl := Option.some.inj hh36
        try dsimp only at hr
        cases c42 : decide (v34 = 0)
        · simp only [c42, cond_false] at hr
          obtain ⟨e50, g51, hr⟩ := bE hr
          try simp only [go_sem, c41, c42]
          refine X_loopO g51 (fun q : (List Int) × Int => ⟨[(2, .ptr 2 0), (5, .ptr 16 0), (11, .p (.int .i64 q.2))], [(2, .box [.cl [], .cl [], .cl [], .cl [], .p (.int .i64 0), .p (.int .i64 0), .p (.int .i64 0), .p (.int .i64 0)]), (16, .box [.ref 516000 0 v11.length v11.length, .ref 516001 0 v12.length v12.length, .ref 516002 0 v32.length v32.length, .ref 516003 0 q.1.length q.1.length, .p (.int .i64 v15), .p (.int .i64 v16), .p (.int .i64 v17), .p (.int .i64 v18), .p (.bool v19)]), (516000, .arr 56 3 (encK v11)), (516001, .arr 23 1 (encG v12)), (516002, .arr 52 6 (encP v32)), (516003, .arr 3 1 (encI q.1))], 139⟩) ((Wk.forget (by simp [Le, LeE, LeH, get, envIds, hpIds, KeepH, D.ids, idsL, AO.ids, setL, base, ZE]))) ?_
          rintro ⟨v45, v46⟩ m49 hh47 ih48
          rw [rBuild_L1_eq] at hh47
          cases c52 : decide (v46 < ((v45.length : Nat) : Int))
          · simp only [c52, cond_false] at hh47
            simp only [Option.bind_some, nextO_inr] at hh47
            obtain rfl := Option.some.inj hh47
            try dsimp only at hr
            obtain rfl := Option.some.inj hr
            try simp only [go_sem, c52]
            all_goals (try refine end_pure ?_)
            all_goals (try simp only [go_sem, c52])
            all_goals (try (first | rfl | exact ⟨rfl, rfl⟩ | (simp; done)))
          simp only [c52, cond_true] at hh47
          obtain ⟨x53, g54, hh47⟩ := bK hh47
          have f55 := idxO_rng g54
          have f56 : (encI v45).getD (Int.toNat v46) [] = [(.int .i64 x53)] := idxO_map _ g54
          try simp only [go_sem, c52, f55, f56]
          refine X_any0 mixed (p := [(0, 0), (1, 0), (2, 0), (3, 0), (4, 0), (5, 0), (6, 0), (7, 0), (8, 0), (9, 0), (10, 0), (11, 0), (12, 0), (13, 0), (14, 0), (15, 0), (16, 0), (17, 0), (18, 0), (19, 0), (20, 0), (21, 3)]) (by kernel_rfl) (by simp [LeH, get]) ?_
          obtain ⟨x57, g58, hh47⟩ := bK hh47
          have f59 := idxO_rng g58
          have f60 : (encP v32).getD (Int.toNat (IntKind.i64.wrap (Int.tdiv x53 8))) [] = [(.str x57.name), (.bool x57.depot), (.int .i64 x57.inn), (.int .i64 x57.out), (.int .i64 x57.slots), (.int .i64 x57.base)] := idxO_map _ g58
          simp only [Option.bind_some, nextO_inl] at hh47
          try simp only [go_sem, f59, f60, f55, f56]
          exact ih48 ((v45.set (Int.toNat v46) (IntKind.i64.wrap ((IntKind.i64.wrap (x57.base + (Int.tmod x53 8))) - 1))), (IntKind.i64.wrap (v46 + 1))) _ hh47 ((Wk.forget (by simp [Le, LeE, LeH, get, envIds, hpIds, KeepH, D.ids, idsL, AO.ids, setL, base, ZE])))
        simp only [c42, cond_true] at hr
        obtain rfl := Option.some.inj hr
        try simp only [go_sem, c41, c42]
        all_goals (try refine end_pure ?_)
        all_goals (try simp only [go_sem, c41, c42])
        all_goals (try (first | rfl | exact ⟨rfl, rfl⟩ | (simp; done)))
      simp only [c41, cond_true] at hh36
      obtain ⟨x63, g64, hh36⟩ := bK hh36
      have f65 := idxO_rng g64
      have f66 : (encP v32).getD (Int.toNat v33) [] = [(.str x63.name), (.bool x63.depot), (.int .i64 x63.inn), (.int .i64 x63.out), (.int .i64 x63.slots), (.int .i64 x63.base)] := idxO_map _ g64
      obtain ⟨x67, g68, hh36⟩ := bK hh36
      have f69 := idxO_rng g68
      have f70 : (encP (v32.set (Int.toNat v33) (⟨x63.name, x63.depot, x63.inn, x63.out, x63.slots, v35⟩ : Spr))).getD (Int.toNat v33) [] = [(.str x67.name), (.bool x67.depot), (.int .i64 x67.inn), (.int .i64 x67.out), (.int .i64 x67.slots), (.int .i64 x67.base)] := idxO_map _ g68
      have f71 := f69
      try simp only [List.length_set] at f71
      cases c72 : x67.depot
      · simp only [c72, cond_false] at hh36
        simp only [Option.bind_some, nextO_inl] at hh36
        try simp only [go_sem, c41, f65, f66, f69, f70, f71, c72]
        exact ih37 ((v32.set (Int.toNat v33) (⟨x63.name, x63.depot, x63.inn, x63.out, x63.slots, v35⟩ : Spr)), (IntKind.i64.wrap (v33 + 1)), v34, (IntKind.i64.wrap (v35 + x67.slots))) _ hh36 ((Wk.forget (by simp [Le, LeE, LeH, get, envIds, hpIds, KeepH, D.ids, idsL, AO.ids, setL, base, ZE, c72])))
      simp only [c72, cond_true] at hh36
      simp only [Option.bind_some, nextO_inl] at hh36
      try simp only [go_sem, c41, f65, f66, f69, f70, f71, c72]
      exact ih37 ((v32.set (Int.toNat v33) (⟨x63.name, x63.depot, x63.inn, x63.out, x63.slots, v35⟩ : Spr)), (IntKind.i64.wrap (v33 + 1)), (IntKind.i64.wrap (v34 + 1)), (IntKind.i64.wrap (v35 + x67.slots))) _ hh36 ((Wk.forget (by simp [Le, LeE, LeH, get, envIds, hpIds, KeepH, D.ids, idsL, AO.ids, setL, base, ZE, c72])))
    simp only [c27, cond_true] at hr
    obtain rfl := Option.some.inj hr
    try simp only [go_sem, c26, c27]
    all_goals (try refine end_pure ?_)
    all_goals (try simp only [go_sem, c26, c27])
    all_goals (try (first | rfl | exact ⟨rfl, rfl⟩ | (simp; done)))
  simp only [c26, cond_true] at hh21
  obtain ⟨x98, g99, hh21⟩ := bK hh21
  have f100 := idxO_rng g99
  have f101 : (encC a0).getD (Int.toNat v20) [] = [(.int .i64 x98.word), (.int .i64 x98.line), (.sl (encS x98.names)), (.sl (encI x98.nums))] := idxO_map _ g99
  obtain ⟨⟨x102, x103, x104, x105, x106, x107, x108, x109, x110, x111⟩, g112, hh21⟩ := bK hh21
  try simp only [go_sem, c26, f100, f101]
  refine Cc_of (r03_builder_one_vok v11 v12 v13 v14 v15 v16 v17 v18 v19 (⟨x98.word, x98.line, x98.names, x98.nums⟩ : Dc) _ g112) ?_
  rintro h' r ⟨rfl, rfl⟩
  cases c113 : decide (x102 = 0)
  · simp only [c113, cond_false] at hh21
    try simp only [go_sem, c113]
    refine X_any [] mixed (p := [(0, 0), (1, 0), (2, 0), (3, 0), (4, 0), (5, 0), (6, 0), (7, 2), (8, 0), (9, 0)]) (by kernel_rfl) (by simp [LeH, get]) ?_
    simp only [Option.bind_some, nextO_inr] at hh21
    obtain rfl := Option.some.inj hh21
    try dsimp only at hr
    obtain rfl := Option.some.inj hr
    try simp only [go_sem, f100, f101]
    all_goals (try refine end_pure ?_)
    all_goals (try simp only [go_sem, f100, f101])
    all_goals (try (first | rfl | exact ⟨rfl, rfl⟩ | (simp; done)))
  simp only [c113, cond_true] at hh21
  simp only [Option.bind_some, nextO_inl] at hh21
  try simp only [go_sem, c113]
  exact ih22 (x103, x104, x105, x106, x107, x108, x109, x110, x111, (IntKind.i64.wrap (v20 + 1))) _ hh21 ((Wk.forget (by simp [Le, LeE, LeH, get, envIds, hpIds, KeepH, D.ids, idsL, AO.ids, setL, base, ZE])))
noncomputable def mk_SameInts_L1 (a0 : List Int) (a1 : List Int) : Int → Option ((Int) ⊕ (Int ⊕ Bool))
  | v3 => cond (decide (v3 < ((a0.length : Nat) : Int))) (Option.bind (idxO a0 v3) fun x10 => Option.bind (idxO a1 v3) fun x14 => cond (decide (x10 = x14)) (some (Sum.inl (IntKind.i64.wrap (v3 + 1)))) (some (Sum.inr (.inr ((false : Bool)))))) (some (Sum.inr (.inl v3)))
theorem mk_SameInts_L1_eq (a0 : List Int) (a1 : List Int) (v3 : Int) : mk_SameInts_L1 a0 a1 v3 = cond (decide (v3 < ((a0.length : Nat) : Int))) (Option.bind (idxO a0 v3) fun x10 => Option.bind (idxO a1 v3) fun x14 => cond (decide (x10 = x14)) (some (Sum.inl (IntKind.i64.wrap (v3 + 1)))) (some (Sum.inr (.inr ((false : Bool)))))) (some (Sum.inr (.inl v3))) := rfl
noncomputable def mk_SameInts_v (a0 : List Int) (a1 : List Int) : Option (Bool) :=
  cond (decide (((a0.length : Nat) : Int) = ((a1.length : Nat) : Int))) (Option.bind (loopO (mk_SameInts_L1 a0 a1) 0) (fun | .inl v19 => some true | .inr (r20) => some r20)) (some false)
theorem mk_SameInts_vok (a0 : List Int) (a1 : List Int) (r : Bool) (hr : mk_SameInts_v a0 a1 = some r) :
    ACalls Try.prog 13 [.p (.sl (encI a0)), .p (.sl (encI a1))] [] fun h d => h = [] ∧ d = .p (.bool r) := by
  refine ACalls_X Try.func13 rfl enters13 (by simp [Try.f13]) ?_
  unfold mk_SameInts_v at hr
  cases c1 : decide (((a0.length : Nat) : Int) = ((a1.length : Nat) : Int))
  · simp only [c1, cond_false] at hr
    obtain rfl := Option.some.inj hr
    try simp only [go_sem, c1]
    all_goals (try refine end_pure ?_)
    all_goals (try simp only [go_sem, c1])
    all_goals (try (first | rfl | exact ⟨rfl, rfl⟩ | (simp; done)))
  simp only [c1, cond_true] at hr
  obtain ⟨e7, g8, hr⟩ := bE hr
  try simp only [go_sem, c1]
  refine X_loopO g8 (fun q : Int => ⟨[(0, .p (.sl (encI a0))), (1, .p (.sl (encI a1))), (5, .p (.int .i64 q))], [], 26⟩) ((Wk.forget (by simp [Le, LeE, LeH, get, envIds, hpIds, KeepH, D.ids, idsL, AO.ids, setL, base, ZE]))) ?_
  rintro v3 m6 hh4 ih5
  rw [mk_SameInts_L1_eq] at hh4
  cases c9 : decide (v3 < ((a0.length : Nat) : Int))
  · simp only [c9, cond_false] at hh4
    simp only [Option.bind_some, nextO_inr] at hh4
    obtain rfl := Option.some.inj hh4
    try dsimp only at hr
    obtain rfl := Option.some.inj hr
    try simp only [go_sem, c9]
    all_goals (try refine end_pure ?_)
    all_goals (try simp only [go_sem, c9])
    all_goals (try (first | rfl | exact ⟨rfl, rfl⟩ | (simp; done)))
  simp only [c9, cond_true] at hh4
  try simp only [go_sem, c9]
  refine X_any0 mixed (p := [(0, 0), (1, 0), (2, 0), (3, 0), (4, 0), (5, 0), (6, 0), (7, 0), (8, 0)]) (by kernel_rfl) (by simp [LeH, get]) ?_
  obtain ⟨x10, g11, hh4⟩ := bK hh4
  have f12 := idxO_rng g11
  have f13 : (encI a0).getD (Int.toNat v3) [] = [(.int .i64 x10)] := idxO_map _ g11
  obtain ⟨x14, g15, hh4⟩ := bK hh4
  have f16 := idxO_rng g15
  have f17 : (encI a1).getD (Int.toNat v3) [] = [(.int .i64 x14)] := idxO_map _ g15
  cases c18 : decide (x10 = x14)
  · simp only [c18, cond_false] at hh4
    simp only [Option.bind_some, nextO_inr] at hh4
    obtain rfl := Option.some.inj hh4
    try dsimp only at hr
    obtain rfl := Option.some.inj hr
    try simp only [go_sem, f12, f13, f16, f17, c18]
    all_goals (try refine end_pure ?_)
    all_goals (try simp only [go_sem, f12, f13, f16, f17, c18])
    all_goals (try (first | rfl | exact ⟨rfl, rfl⟩ | (simp; done)))
  simp only [c18, cond_true] at hh4
  simp only [Option.bind_some, nextO_inl] at hh4
  try simp only [go_sem, f12, f13, f16, f17, c18]
  exact ih5 (IntKind.i64.wrap (v3 + 1)) _ hh4 ((Wk.forget (by simp [Le, LeE, LeH, get, envIds, hpIds, KeepH, D.ids, idsL, AO.ids, setL, base, ZE])))
noncomputable def mk_SameLists_L1 (a0 : List (List Int)) (a1 : List (List Int)) : Int → Option ((Int) ⊕ (Int ⊕ Bool))
  | v3 => cond (decide (v3 < ((a0.length : Nat) : Int))) (Option.bind (idxO a0 v3) fun x10 => Option.bind (idxO a1 v3) fun x14 => Option.bind (mk_SameInts_v x10 x14) fun x18 => cond x18 (some (Sum.inl (IntKind.i64.wrap (v3 + 1)))) (some (Sum.inr (.inr ((false : Bool)))))) (some (Sum.inr (.inl v3)))
theorem mk_SameLists_L1_eq (a0 : List (List Int)) (a1 : List (List Int)) (v3 : Int) : mk_SameLists_L1 a0 a1 v3 = cond (decide (v3 < ((a0.length : Nat) : Int))) (Option.bind (idxO a0 v3) fun x10 => Option.bind (idxO a1 v3) fun x14 => Option.bind (mk_SameInts_v x10 x14) fun x18 => cond x18 (some (Sum.inl (IntKind.i64.wrap (v3 + 1)))) (some (Sum.inr (.inr ((false : Bool)))))) (some (Sum.inr (.inl v3))) := rfl
noncomputable def mk_SameLists_v (a0 : List (List Int)) (a1 : List (List Int)) : Option (Bool) :=
  cond (decide (((a0.length : Nat) : Int) = ((a1.length : Nat) : Int))) (Option.bind (loopO (mk_SameLists_L1 a0 a1) 0) (fun | .inl v21 => some true | .inr (r22) => some r22)) (some false)
theorem mk_SameLists_vok (a0 : List (List Int)) (a1 : List (List Int)) (r : Bool) (hr : mk_SameLists_v a0 a1 = some r) :
    ACalls Try.prog 12 [.p (.sl (encG a0)), .p (.sl (encG a1))] [] fun h d => h = [] ∧ d = .p (.bool r) := by
  refine ACalls_X Try.func12 rfl enters12 (by simp [Try.f12]) ?_
  unfold mk_SameLists_v at hr
  cases c1 : decide (((a0.length : Nat) : Int) = ((a1.length : Nat) : Int))
  · simp only [c1, cond_false] at hr
    obtain rfl := Option.some.inj hr
    try simp only [go_sem, c1]
    all_goals (try refine end_pure ?_)
    all_goals (try simp only [go_sem, c1])
    all_goals (try (first | rfl | exact ⟨rfl, rfl⟩ | (simp; done)))
  simp only [c1, cond_true] at hr
  obtain ⟨e7, g8, hr⟩ := bE hr
  try simp only [go_sem, c1]
  refine X_loopO g8 (fun q : Int => ⟨[(0, .p (.sl (encG a0))), (1, .p (.sl (encG a1))), (5, .p (.int .i64 q))], [], 27⟩) ((Wk.forget (by simp [Le, LeE, LeH, get, envIds, hpIds, KeepH, D.ids, idsL, AO.ids, setL, base, ZE]))) ?_
  rintro v3 m6 hh4 ih5
  rw [mk_SameLists_L1_eq] at hh4
  cases c9 : decide (v3 < ((a0.length : Nat) : Int))
  · simp only [c9, cond_false] at hh4
    simp only [Option.bind_some, nextO_inr] at hh4
    obtain rfl := Option.some.inj hh4
    try dsimp only at hr
    obtain rfl := Option.some.inj hr
    try simp only [go_sem, c9]
    all_goals (try refine end_pure ?_)
    all_goals (try simp only [go_sem, c9])
    all_goals (try (first | rfl | exact ⟨rfl, rfl⟩ | (simp; done)))
  simp only [c9, cond_true] at hh4
  try simp only [go_sem, c9]
  refine X_any0 mixed (p := [(0, 0), (1, 0), (2, 0), (3, 0), (4, 0), (5, 0), (6, 0), (7, 0), (8, 2), (9, 0)]) (by kernel_rfl) (by simp [LeH, get]) ?_
  obtain ⟨x10, g11, hh4⟩ := bK hh4
  have f12 := idxO_rng g11
  have f13 : (encG a0).getD (Int.toNat v3) [] = [(.sl (encI x10))] := idxO_map _ g11
  obtain ⟨x14, g15, hh4⟩ := bK hh4
  have f16 := idxO_rng g15
  have f17 : (encG a1).getD (Int.toNat v3) [] = [(.sl (encI x14))] := idxO_map _ g15
  obtain ⟨x18, g19, hh4⟩ := bK hh4
  try simp only [go_sem, f12, f13, f16, f17]
  refine Gh_of (mk_SameInts_vok x10 x14 _ g19) ?_
  rintro h' r ⟨rfl, rfl⟩
  cases c20 : x18
  · simp only [c20, cond_false] at hh4
    simp only [Option.bind_some, nextO_inr] at hh4
    obtain rfl := Option.some.inj hh4
    try dsimp only at hr
    obtain rfl := Option.some.inj hr
    try simp only [go_sem, c20]
    all_goals (try refine end_pure ?_)
    all_goals (try simp only [go_sem, c20])
    all_goals (try (first | rfl | exact ⟨rfl, rfl⟩ | (simp; done)))
  simp only [c20, cond_true] at hh4
  simp only [Option.bind_some, nextO_inl] at hh4
  try simp only [go_sem, c20]
  exact ih5 (IntKind.i64.wrap (v3 + 1)) _ hh4 ((Wk.forget (by simp [Le, LeE, LeH, get, envIds, hpIds, KeepH, D.ids, idsL, AO.ids, setL, base, ZE, c20])))
noncomputable def sameNet_L1 (a0 : Nt) (a1 : Nt) : Int → Option ((Int) ⊕ (Int ⊕ Bool))
  | v19 => cond (decide (v19 < ((a0.spurs.length : Nat) : Int))) (Option.bind (idxO a0.spurs v19) fun x26 => Option.bind (idxO a1.spurs v19) fun x30 => cond (decide (x26.name = x30.name) && ((x26.depot == x30.depot) && (decide (x26.inn = x30.inn) && (decide (x26.out = x30.out) && (decide (x26.slots = x30.slots) && decide (x26.base = x30.base)))))) (some (Sum.inl (IntKind.i64.wrap (v19 + 1)))) (some (Sum.inr (.inr ((false : Bool)))))) (some (Sum.inr (.inl v19)))
theorem sameNet_L1_eq (a0 : Nt) (a1 : Nt) (v19 : Int) : sameNet_L1 a0 a1 v19 = cond (decide (v19 < ((a0.spurs.length : Nat) : Int))) (Option.bind (idxO a0.spurs v19) fun x26 => Option.bind (idxO a1.spurs v19) fun x30 => cond (decide (x26.name = x30.name) && ((x26.depot == x30.depot) && (decide (x26.inn = x30.inn) && (decide (x26.out = x30.out) && (decide (x26.slots = x30.slots) && decide (x26.base = x30.base)))))) (some (Sum.inl (IntKind.i64.wrap (v19 + 1)))) (some (Sum.inr (.inr ((false : Bool)))))) (some (Sum.inr (.inl v19))) := rfl
noncomputable def sameNet_L2 (a0 : Nt) (a1 : Nt) : Int → Option ((Int) ⊕ (Int ⊕ Bool))
  | v11 => cond (decide (v11 < ((a0.blocks.length : Nat) : Int))) (Option.bind (idxO a0.blocks v11) fun x37 => Option.bind (idxO a1.blocks v11) fun x41 => cond (decide (x37.name = x41.name) && (decide (x37.x = x41.x) && decide (x37.y = x41.y))) (some (Sum.inl (IntKind.i64.wrap (v11 + 1)))) (some (Sum.inr (.inr ((false : Bool)))))) (some (Sum.inr (.inl v11)))
theorem sameNet_L2_eq (a0 : Nt) (a1 : Nt) (v11 : Int) : sameNet_L2 a0 a1 v11 = cond (decide (v11 < ((a0.blocks.length : Nat) : Int))) (Option.bind (idxO a0.blocks v11) fun x37 => Option.bind (idxO a1.blocks v11) fun x41 => cond (decide (x37.name = x41.name) && (decide (x37.x = x41.x) && decide (x37.y = x41.y))) (some (Sum.inl (IntKind.i64.wrap (v11 + 1)))) (some (Sum.inr (.inr ((false : Bool)))))) (some (Sum.inr (.inl v11))) := rfl
noncomputable def sameNet_v (a0 : Nt) (a1 : Nt) : Option (Bool) :=
  cond (decide (((a0.blocks.length : Nat) : Int) = ((a1.blocks.length : Nat) : Int))) (Option.bind (mk_SameLists_v a0.next a1.next) fun x2 => cond x2 (cond (decide (((a0.spurs.length : Nat) : Int) = ((a1.spurs.length : Nat) : Int))) (Option.bind (mk_SameInts_v a0.robots a1.robots) fun x6 => cond x6 (cond (decide (a0.cq = a1.cq) && (decide (a0.ca = a1.ca) && (decide (a0.cd = a1.cd) && decide (a0.cp = a1.cp)))) (Option.bind (loopO (sameNet_L2 a0 a1) 0) (fun | .inl v46 => Option.bind (loopO (sameNet_L1 a0 a1) 0) (fun | .inl v64 => some true | .inr (r65) => some r65) | .inr (r66) => some r66)) (some false)) (some false)) (some false)) (some false)) (some false)
theorem sameNet_vok (a0 : Nt) (a1 : Nt) (r : Bool) (hr : sameNet_v a0 a1 = some r) :
    ACalls Try.prog 10 [.agg [.p (.sl (encK a0.blocks)), .p (.sl (encG a0.next)), .p (.sl (encP a0.spurs)), .p (.sl (encI a0.robots)), .p (.int .i64 a0.cq), .p (.int .i64 a0.ca), .p (.int .i64 a0.cd), .p (.int .i64 a0.cp)], .agg [.p (.sl (encK a1.blocks)), .p (.sl (encG a1.next)), .p (.sl (encP a1.spurs)), .p (.sl (encI a1.robots)), .p (.int .i64 a1.cq), .p (.int .i64 a1.ca), .p (.int .i64 a1.cd), .p (.int .i64 a1.cp)]] [] fun h d => h = [] ∧ d = .p (.bool r) := by
  refine ACalls_X Try.func10 rfl enters10 (by simp [Try.f10]) ?_
  unfold sameNet_v at hr
  cases c1 : decide (((a0.blocks.length : Nat) : Int) = ((a1.blocks.length : Nat) : Int))
  · simp only [c1, cond_false] at hr
    obtain rfl := Option.some.inj hr
    try simp only [go_sem, c1]
    all_goals (try refine end_pure ?_)
    all_goals (try simp only [go_sem, c1])
    all_goals (try (first | rfl | exact ⟨rfl, rfl⟩ | (simp; done)))
  simp only [c1, cond_true] at hr
  obtain ⟨x2, g3, hr⟩ := bE hr
  try simp only [go_sem, c1]
  refine Cc_of (mk_SameLists_vok a0.next a1.next _ g3) ?_
  rintro h' r ⟨rfl, rfl⟩
  cases c4 : x2
  · simp only [c4, cond_false] at hr
    obtain rfl := Option.some.inj hr
    try simp only [go_sem, c1, c4]
    all_goals (try refine end_pure ?_)
    all_goals (try simp only [go_sem, c1, c4])
    all_goals (try (first | rfl | exact ⟨rfl, rfl⟩ | (simp; done)))
  simp only [c4, cond_true] at hr
  cases c5 : decide (((a0.spurs.length : Nat) : Int) = ((a1.spurs.length : Nat) : Int))
  · simp only [c5, cond_false] at hr
    obtain rfl := Option.some.inj hr
    try simp only [go_sem, c1, c4, c5]
    all_goals (try refine end_pure ?_)
    all_goals (try simp only [go_sem, c1, c4, c5])
    all_goals (try (first | rfl | exact ⟨rfl, rfl⟩ | (simp; done)))
  simp only [c5, cond_true] at hr
  obtain ⟨x6, g7, hr⟩ := bE hr
  try simp only [go_sem, c1, c4, c5]
  refine Cc_of (mk_SameInts_vok a0.robots a1.robots _ g7) ?_
  rintro h' r ⟨rfl, rfl⟩
  cases c8 : x6
  · simp only [c8, cond_false] at hr
    obtain rfl := Option.some.inj hr
    try simp only [go_sem, c5, c8, c4]
    all_goals (try refine end_pure ?_)
    all_goals (try simp only [go_sem, c5, c8, c4])
    all_goals (try (first | rfl | exact ⟨rfl, rfl⟩ | (simp; done)))
  simp only [c8, cond_true] at hr
  cases c9 : decide (a0.cq = a1.cq) && (decide (a0.ca = a1.ca) && (decide (a0.cd = a1.cd) && decide (a0.cp = a1.cp)))
  · simp only [c9, cond_false] at hr
    obtain rfl := Option.some.inj hr
    try simp only [go_sem, c5, c8, c9, c4]
    all_goals (try refine end_pure ?_)
    all_goals (try simp only [go_sem, c5, c8, c9, c4])
    all_goals (try (first | rfl | exact ⟨rfl, rfl⟩ | (simp; done)))
  simp only [c9, cond_true] at hr
  obtain ⟨e15, g16, hr⟩ := bE hr
  try simp only [go_sem, c5, c8, c9, c4]
  refine X_loopO g16 (fun q : Int => ⟨[(2, .ptr 2 0), (3, .ptr 3 0), (5, .p (.int .i64 q))], [(2, .box [.p (.sl (encK a0.blocks)), .p (.sl (encG a0.next)), .p (.sl (encP a0.spurs)), .p (.sl (encI a0.robots)), .p (.int .i64 a0.cq), .p (.int .i64 a0.ca), .p (.int .i64 a0.cd), .p (.int .i64 a0.cp)]), (3, .box [.p (.sl (encK a1.blocks)), .p (.sl (encG a1.next)), .p (.sl (encP a1.spurs)), .p (.sl (encI a1.robots)), .p (.int .i64 a1.cq), .p (.int .i64 a1.ca), .p (.int .i64 a1.cd), .p (.int .i64 a1.cp)])], 82⟩) ((Wk.forget (by simp [Le, LeE, LeH, get, envIds, hpIds, KeepH, D.ids, idsL, AO.ids, setL, base, ZE, c4, c8]))) ?_
  rintro v11 m14 hh12 ih13
  rw [sameNet_L2_eq] at hh12
  cases c17 : decide (v11 < ((a0.blocks.length : Nat) : Int))
  · simp only [c17, cond_false] at hh12
    simp only [Option.bind_some, nextO_inr] at hh12
    obtain rfl := Option.some.inj hh12
    try dsimp only at hr
    obtain ⟨e23, g24, hr⟩ := bE hr
    try simp only [go_sem, c17, c4, c8]
    refine X_loopO g24 (fun q : Int => ⟨[(2, .ptr 2 0), (3, .ptr 3 0), (6, .p (.int .i64 q))], [(2, .box [.p (.sl (encK a0.blocks)), .p (.sl (encG a0.next)), .p (.sl (encP a0.spurs)), .p (.sl (encI a0.robots)), .p (.int .i64 a0.cq), .p (.int .i64 a0.ca), .p (.int .i64 a0.cd), .p (.int .i64 a0.cp)]), (3, .box [.p (.sl (encK a1.blocks)), .p (.sl (encG a1.next)), .p (.sl (encP a1.spurs)), .p (.sl (encI a1.robots)), .p (.int .i64 a1.cq), .p (.int .i64 a1.ca), .p (.int .i64 a1.cd), .p (.int .i64 a1.cp)])], 82⟩) ((Wk.forget (by simp [Le, LeE, LeH, get, envIds, hpIds, KeepH, D.ids, idsL, AO.ids, setL, base, ZE, c4, c8]))) ?_
    rintro v19 m22 hh20 ih21
    rw [sameNet_L1_eq] at hh20
    cases c25 : decide (v19 < ((a0.spurs.length : Nat) : Int))
    · simp only [c25, cond_false] at hh20
      simp only [Option.bind_some, nextO_inr] at hh20
      obtain rfl := Option.some.inj hh20
      try dsimp only at hr
      obtain rfl := Option.some.inj hr
      try simp only [go_sem, c25, c4, c8]
      all_goals (try refine end_pure ?_)
      all_goals (try simp only [go_sem, c25, c4, c8])
      all_goals (try (first | rfl | exact ⟨rfl, rfl⟩ | (simp; done)))
    simp only [c25, cond_true] at hh20
    try simp only [go_sem, c25, c4, c8]
    refine X_any0 mixed (p := [(0, 0), (1, 0), (2, 0), (3, 0), (4, 0), (5, 0), (6, 0), (7, 0), (8, 0), (9, 0), (10, 0)]) (by kernel_rfl) (by simp [LeH, get]) ?_
    obtain ⟨x26, g27, hh20⟩ := bK hh20
    have f28 := idxO_rng g27
    have f29 : (encP a0.spurs).getD (Int.toNat v19) [] = [(.str x26.name), (.bool x26.depot), (.int .i64 x26.inn), (.int .i64 x26.out), (.int .i64 x26.slots), (.int .i64 x26.base)] := idxO_map _ g27
    obtain ⟨x30, g31, hh20⟩ := bK hh20
    have f32 := idxO_rng g31
    have f33 : (encP a1.spurs).getD (Int.toNat v19) [] = [(.str x30.name), (.bool x30.depot), (.int .i64 x30.inn), (.int .i64 x30.out), (.int .i64 x30.slots), (.int .i64 x30.base)] := idxO_map _ g31
    cases c34 : decide (x26.name = x30.name) && ((x26.depot == x30.depot) && (decide (x26.inn = x30.inn) && (decide (x26.out = x30.out) && (decide (x26.slots = x30.slots) && decide (x26.base = x30.base)))))
    · simp only [c34, cond_false] at hh20
      simp only [Option.bind_some, nextO_inr] at hh20
      obtain rfl := Option.some.inj hh20
      try dsimp only at hr
      obtain rfl := Option.some.inj hr
      try simp only [go_sem, f28, f29, f32, f33, c34, c4, c8]
      all_goals (try refine end_pure ?_)
      all_goals (try simp only [go_sem, f28, f29, f32, f33, c34, c4, c8])
      all_goals (try (first | rfl | exact ⟨rfl, rfl⟩ | (simp; done)))
    simp only [c34, cond_true] at hh20
    simp only [Option.bind_some, nextO_inl] at hh20
    try simp only [go_sem, f28, f29, f32, f33, c34, c4, c8]
    exact ih21 (IntKind.i64.wrap (v19 + 1)) _ hh20 ((Wk.forget (by simp [Le, LeE, LeH, get, envIds, hpIds, KeepH, D.ids, idsL, AO.ids, setL, base, ZE, c4, c8])))
  simp only [c17, cond_true] at hh12
  try simp only [go_sem, c17, c4, c8]
  refine X_any0 mixed (p := [(0, 0), (1, 0), (2, 0), (3, 0), (4, 0), (5, 0), (6, 0), (7, 0), (8, 0), (9, 0), (10, 0)]) (by kernel_rfl) (by simp [LeH, get]) ?_
  obtain ⟨x37, g38, hh12⟩ := bK hh12
  have f39 := idxO_rng g38
  have f40 : (encK a0.blocks).getD (Int.toNat v11) [] = [(.str x37.name), (.int .i64 x37.x), (.int .i64 x37.y)] := idxO_map _ g38
  obtain ⟨x41, g42, hh12⟩ := bK hh12
  have f43 := idxO_rng g42
  have f44 : (encK a1.blocks).getD (Int.toNat v11) [] = [(.str x41.name), (.int .i64 x41.x), (.int .i64 x41.y)] := idxO_map _ g42
  cases c45 : decide (x37.name = x41.name) && (decide (x37.x = x41.x) && decide (x37.y = x41.y))
  · simp only [c45, cond_false] at hh12
    simp only [Option.bind_some, nextO_inr] at hh12
    obtain rfl := Option.some.inj hh12
    try dsimp only at hr
    obtain rfl := Option.some.inj hr
    try simp only [go_sem, f39, f40, f43, f44, c45, c4, c8]
    all_goals (try refine end_pure ?_)
    all_goals (try simp only [go_sem, f39, f40, f43, f44, c45, c4, c8])
    all_goals (try (first | rfl | exact ⟨rfl, rfl⟩ | (simp; done)))
  simp only [c45, cond_true] at hh12
  simp only [Option.bind_some, nextO_inl] at hh12
  try simp only [go_sem, f39, f40, f43, f44, c45, c4, c8]
  exact ih13 (IntKind.i64.wrap (v11 + 1)) _ hh12 ((Wk.forget (by simp [Le, LeE, LeH, get, envIds, hpIds, KeepH, D.ids, idsL, AO.ids, setL, base, ZE, c4, c8])))
noncomputable def netmap_within_v (a0 : Int) (a1 : Int) (a2 : Int) : Option (Bool) :=
  cond (decide (a1 ≤ a0)) (some (decide (a0 ≤ a2))) (some false)
theorem netmap_within_vok (a0 : Int) (a1 : Int) (a2 : Int) (r : Bool) (hr : netmap_within_v a0 a1 a2 = some r) :
    ACalls Try.prog 24 [.p (.int .i64 a0), .p (.int .i64 a1), .p (.int .i64 a2)] [] fun h d => h = [] ∧ d = .p (.bool r) := by
  refine ACalls_X Try.func24 rfl enters24 (by simp [Try.f24]) ?_
  unfold netmap_within_v at hr
  cases c1 : decide (a1 ≤ a0)
  · simp only [c1, cond_false] at hr
    obtain rfl := Option.some.inj hr
    try simp only [go_sem, c1]
    all_goals (try refine end_pure ?_)
    all_goals (try simp only [go_sem, c1])
    all_goals (try (first | rfl | exact ⟨rfl, rfl⟩ | (simp; done)))
  simp only [c1, cond_true] at hr
  obtain rfl := Option.some.inj hr
  try simp only [go_sem, c1]
  all_goals (try refine end_pure ?_)
  all_goals (try simp only [go_sem, c1])
  all_goals (try (first | rfl | exact ⟨rfl, rfl⟩ | (simp; done)))
noncomputable def netmap_validConfig_v (a0 : Cfg4) : Option (Bool) :=
  Option.bind (netmap_within_v a0.cq 1 8) fun x1 => cond x1 (Option.bind (netmap_within_v a0.ca 0 4) fun x4 => cond x4 (Option.bind (netmap_within_v a0.cd 0 3) fun x7 => cond x7 (Option.bind (netmap_within_v a0.cp 1 16) fun x10 => some x10) (some false)) (some false)) (some false)
theorem netmap_validConfig_vok (a0 : Cfg4) (r : Bool) (hr : netmap_validConfig_v a0 = some r) :
    ACalls Try.prog 25 [.agg [.p (.int .i64 a0.cq), .p (.int .i64 a0.ca), .p (.int .i64 a0.cd), .p (.int .i64 a0.cp)]] [] fun h d => h = [] ∧ d = .p (.bool r) := by
  refine ACalls_X Try.func25 rfl enters25 (by simp [Try.f25]) ?_
  unfold netmap_validConfig_v at hr
  obtain ⟨x1, g2, hr⟩ := bE hr
  try simp only [go_sem]
  refine Cc_of (netmap_within_vok a0.cq 1 8 _ g2) ?_
  rintro h' r ⟨rfl, rfl⟩
  cases c3 : x1
  · simp only [c3, cond_false] at hr
    obtain rfl := Option.some.inj hr
    try simp only [go_sem, c3]
    all_goals (try refine end_pure ?_)
    all_goals (try simp only [go_sem, c3])
    all_goals (try (first | rfl | exact ⟨rfl, rfl⟩ | (simp; done)))
  simp only [c3, cond_true] at hr
  obtain ⟨x4, g5, hr⟩ := bE hr
  try simp only [go_sem, c3]
  refine Cc_of (netmap_within_vok a0.ca 0 4 _ g5) ?_
  rintro h' r ⟨rfl, rfl⟩
  cases c6 : x4
  · simp only [c6, cond_false] at hr
    obtain rfl := Option.some.inj hr
    try simp only [go_sem, c3, c6]
    all_goals (try refine end_pure ?_)
    all_goals (try simp only [go_sem, c3, c6])
    all_goals (try (first | rfl | exact ⟨rfl, rfl⟩ | (simp; done)))
  simp only [c6, cond_true] at hr
  obtain ⟨x7, g8, hr⟩ := bE hr
  try simp only [go_sem, c3, c6]
  refine Cc_of (netmap_within_vok a0.cd 0 3 _ g8) ?_
  rintro h' r ⟨rfl, rfl⟩
  cases c9 : x7
  · simp only [c9, cond_false] at hr
    obtain rfl := Option.some.inj hr
    try simp only [go_sem, c6, c9, c3]
    all_goals (try refine end_pure ?_)
    all_goals (try simp only [go_sem, c6, c9, c3])
    all_goals (try (first | rfl | exact ⟨rfl, rfl⟩ | (simp; done)))
  simp only [c9, cond_true] at hr
  obtain ⟨x10, g11, hr⟩ := bE hr
  try simp only [go_sem, c6, c9, c3]
  refine Cc_of (netmap_within_vok a0.cp 1 16 _ g11) ?_
  rintro h' r ⟨rfl, rfl⟩
  obtain rfl := Option.some.inj hr
  try simp only [go_sem, c9, c3, c6]
  all_goals (try refine end_pure ?_)
  all_goals (try simp only [go_sem, c9, c3, c6])
  all_goals (try (first | rfl | exact ⟨rfl, rfl⟩ | (simp; done)))
noncomputable def netmap_validNext_L1 (a0 : List Int) (a1 : Int) (a2 : Int) : Int × Int → Option ((Int × Int) ⊕ ((Int × Int) ⊕ Bool))
  | (v3, v4) => cond (decide (v3 < ((a0.length : Nat) : Int))) (Option.bind (idxO a0 v3) fun x11 => cond (decide (x11 ≤ v4)) (some (Sum.inr (.inr ((false : Bool))))) (cond (decide (a2 ≤ x11)) (some (Sum.inr (.inr ((false : Bool))))) (cond (decide (x11 = a1)) (some (Sum.inr (.inr ((false : Bool))))) (some (Sum.inl ((IntKind.i64.wrap (v3 + 1)), x11)))))) (some (Sum.inr (.inl (v3, v4))))
theorem netmap_validNext_L1_eq (a0 : List Int) (a1 : Int) (a2 : Int) (v3 : Int) (v4 : Int) : netmap_validNext_L1 a0 a1 a2 (v3, v4) = cond (decide (v3 < ((a0.length : Nat) : Int))) (Option.bind (idxO a0 v3) fun x11 => cond (decide (x11 ≤ v4)) (some (Sum.inr (.inr ((false : Bool))))) (cond (decide (a2 ≤ x11)) (some (Sum.inr (.inr ((false : Bool))))) (cond (decide (x11 = a1)) (some (Sum.inr (.inr ((false : Bool))))) (some (Sum.inl ((IntKind.i64.wrap (v3 + 1)), x11)))))) (some (Sum.inr (.inl (v3, v4)))) := rfl
noncomputable def netmap_validNext_v (a0 : List Int) (a1 : Int) (a2 : Int) : Option (Bool) :=
  Option.bind (loopO (netmap_validNext_L1 a0 a1 a2) (0, (-1))) (fun | .inl (v18, v19) => some (decide (((a0.length : Nat) : Int) ≤ 4)) | .inr (r20) => some r20)
theorem netmap_validNext_vok (a0 : List Int) (a1 : Int) (a2 : Int) (r : Bool) (hr : netmap_validNext_v a0 a1 a2 = some r) :
    ACalls Try.prog 27 [.p (.sl (encI a0)), .p (.int .i64 a1), .p (.int .i64 a2)] [] fun h d => h = [] ∧ d = .p (.bool r) := by
  refine ACalls_X Try.func27 rfl enters27 (by simp [Try.f27]) ?_
  unfold netmap_validNext_v at hr
  obtain ⟨e8, g9, hr⟩ := bE hr
  try simp only [go_sem]
  refine X_loopO g9 (fun q : Int × Int => ⟨[(0, .p (.sl (encI a0))), (1, .p (.int .i64 a1)), (2, .p (.int .i64 a2)), (7, .p (.int .i64 q.2)), (10, .p (.sl (encI a0))), (11, .p (.int .i64 ((a0.length : Nat) : Int))), (12, .p (.int .i64 q.1))], [], 34⟩) ((Wk.forget (by simp [Le, LeE, LeH, get, envIds, hpIds, KeepH, D.ids, idsL, AO.ids, setL, base, ZE]))) ?_
  rintro ⟨v3, v4⟩ m7 hh5 ih6
  rw [netmap_validNext_L1_eq] at hh5
  cases c10 : decide (v3 < ((a0.length : Nat) : Int))
  · simp only [c10, cond_false] at hh5
    simp only [Option.bind_some, nextO_inr] at hh5
    obtain rfl := Option.some.inj hh5
    try dsimp only at hr
    obtain rfl := Option.some.inj hr
    try simp only [go_sem, c10]
    all_goals (try refine end_pure ?_)
    all_goals (try simp only [go_sem, c10])
    all_goals (try (first | rfl | exact ⟨rfl, rfl⟩ | (simp; done)))
  simp only [c10, cond_true] at hh5
  obtain ⟨x11, g12, hh5⟩ := bK hh5
  have f13 := idxO_rng g12
  have f14 : (encI a0).getD (Int.toNat v3) [] = [(.int .i64 x11)] := idxO_map _ g12
  cases c15 : decide (x11 ≤ v4)
  · simp only [c15, cond_false] at hh5
    cases c16 : decide (a2 ≤ x11)
    · simp only [c16, cond_false] at hh5
      cases c17 : decide (x11 = a1)
      · simp only [c17, cond_false] at hh5
        simp only [Option.bind_some, nextO_inl] at hh5
        try simp only [go_sem, c10, f13, f14, c15, c16, c17]
        exact ih6 ((IntKind.i64.wrap (v3 + 1)), x11) _ hh5 ((Wk.forget (by simp [Le, LeE, LeH, get, envIds, hpIds, KeepH, D.ids, idsL, AO.ids, setL, base, ZE])))
      simp only [c17, cond_true] at hh5
      simp only [Option.bind_some, nextO_inr] at hh5
      obtain rfl := Option.some.inj hh5
      try dsimp only at hr
      obtain rfl := Option.some.inj hr
      try simp only [go_sem, c10, f13, f14, c15, c16, c17]
      all_goals (try refine end_pure ?_)
      all_goals (try simp only [go_sem, c10, f13, f14, c15, c16, c17])
      all_goals (try (first | rfl | exact ⟨rfl, rfl⟩ | (simp; done)))
    simp only [c16, cond_true] at hh5
    simp only [Option.bind_some, nextO_inr] at hh5
    obtain rfl := Option.some.inj hh5
    try dsimp only at hr
    obtain rfl := Option.some.inj hr
    try simp only [go_sem, c10, f13, f14, c15, c16]
    all_goals (try refine end_pure ?_)
    all_goals (try simp only [go_sem, c10, f13, f14, c15, c16])
    all_goals (try (first | rfl | exact ⟨rfl, rfl⟩ | (simp; done)))
  simp only [c15, cond_true] at hh5
  simp only [Option.bind_some, nextO_inr] at hh5
  obtain rfl := Option.some.inj hh5
  try dsimp only at hr
  obtain rfl := Option.some.inj hr
  try simp only [go_sem, c10, f13, f14, c15]
  all_goals (try refine end_pure ?_)
  all_goals (try simp only [go_sem, c10, f13, f14, c15])
  all_goals (try (first | rfl | exact ⟨rfl, rfl⟩ | (simp; done)))
noncomputable def netmap_Valid_L1 (a0 : Nt) : (List (Int × Bool)) × Int → Option (((List (Int × Bool)) × Int) ⊕ (((List (Int × Bool)) × Int)))
  | (v37, v38) => cond (decide (v38 < ((a0.robots.length : Nat) : Int))) (Option.bind (idxO a0.robots v38) fun x45 => some (Sum.inl ((delB v37 x45), (IntKind.i64.wrap (v38 + 1))))) (some (Sum.inr (v37, v38)))
theorem netmap_Valid_L1_eq (a0 : Nt) (v37 : List (Int × Bool)) (v38 : Int) : netmap_Valid_L1 a0 (v37, v38) = cond (decide (v38 < ((a0.robots.length : Nat) : Int))) (Option.bind (idxO a0.robots v38) fun x45 => some (Sum.inl ((delB v37 x45), (IntKind.i64.wrap (v38 + 1))))) (some (Sum.inr (v37, v38))) := rfl
noncomputable def netmap_Valid_L2 (a0 : Nt) : (List (Int × Bool)) × Bool × Int → Option (((List (Int × Bool)) × Bool × Int) ⊕ (((List (Int × Bool)) × Bool × Int)))
  | (v54, v55, v56) => cond (decide (v56 < ((a0.robots.length : Nat) : Int))) (Option.bind (idxO a0.robots v56) fun x63 => cond v55 (some (Sum.inl ((delB v54 x63), ((getB v54 x63).getD false), (IntKind.i64.wrap (v56 + 1))))) (some (Sum.inl ((delB v54 x63), false, (IntKind.i64.wrap (v56 + 1)))))) (some (Sum.inr (v54, v55, v56)))
theorem netmap_Valid_L2_eq (a0 : Nt) (v54 : List (Int × Bool)) (v55 : Bool) (v56 : Int) : netmap_Valid_L2 a0 (v54, v55, v56) = cond (decide (v56 < ((a0.robots.length : Nat) : Int))) (Option.bind (idxO a0.robots v56) fun x63 => cond v55 (some (Sum.inl ((delB v54 x63), ((getB v54 x63).getD false), (IntKind.i64.wrap (v56 + 1))))) (some (Sum.inl ((delB v54 x63), false, (IntKind.i64.wrap (v56 + 1)))))) (some (Sum.inr (v54, v55, v56))) := rfl
noncomputable def netmap_Valid_L3 (x71 : Spr) : (List (Int × Bool)) × Int × Int → Option (((List (Int × Bool)) × Int × Int) ⊕ (((List (Int × Bool)) × Int × Int)))
  | (v91, v92, v93) => cond (decide (v92 < x71.slots)) (cond x71.depot (some (Sum.inl ((putB v91 v93 true), (IntKind.i64.wrap (v92 + 1)), (IntKind.i64.wrap (v93 + 1))))) (some (Sum.inl (v91, (IntKind.i64.wrap (v92 + 1)), (IntKind.i64.wrap (v93 + 1)))))) (some (Sum.inr (v91, v92, v93)))
theorem netmap_Valid_L3_eq (x71 : Spr) (v91 : List (Int × Bool)) (v92 : Int) (v93 : Int) : netmap_Valid_L3 x71 (v91, v92, v93) = cond (decide (v92 < x71.slots)) (cond x71.depot (some (Sum.inl ((putB v91 v93 true), (IntKind.i64.wrap (v92 + 1)), (IntKind.i64.wrap (v93 + 1))))) (some (Sum.inl (v91, (IntKind.i64.wrap (v92 + 1)), (IntKind.i64.wrap (v93 + 1)))))) (some (Sum.inr (v91, v92, v93))) := rfl
noncomputable def netmap_Valid_L4 (a0 : Nt) : (List (List UInt8 × Int)) × (List (Int × Bool)) × Int × Int → Option (((List (List UInt8 × Int)) × (List (Int × Bool)) × Int × Int) ⊕ (((List (List UInt8 × Int)) × (List (Int × Bool)) × Int × Int) ⊕ Bool))
  | (v24, v25, v26, v27) => cond (decide (v27 < ((a0.spurs.length : Nat) : Int))) (Option.bind (idxO a0.spurs v27) fun x71 => Option.bind (fname_v x71.name) fun x75 => cond x75 (Option.bind (netmap_within_v x71.inn 0 (IntKind.i64.wrap (((a0.blocks.length : Nat) : Int) - 1))) fun x78 => cond x78 (Option.bind (netmap_within_v x71.out 0 (IntKind.i64.wrap (((a0.blocks.length : Nat) : Int) - 1))) fun x81 => cond x81 (Option.bind (netmap_within_v x71.slots 1 4) fun x84 => cond x84 (cond (decide (x71.base = v26)) (Option.bind (loopO (netmap_Valid_L3 x71) (v25, 0, v26)) (fun (v101, v102, v103) => some (Sum.inl ((putS v24 x71.name (IntKind.i64.wrap (((getS v24 x71.name).getD 0) + 1))), v101, v103, (IntKind.i64.wrap (v27 + 1)))))) (some (Sum.inr (.inr ((false : Bool)))))) (some (Sum.inr (.inr ((false : Bool)))))) (some (Sum.inr (.inr ((false : Bool)))))) (some (Sum.inr (.inr ((false : Bool)))))) (some (Sum.inr (.inr ((false : Bool)))))) (some (Sum.inr (.inl (v24, v25, v26, v27))))
theorem netmap_Valid_L4_eq (a0 : Nt) (v24 : List (List UInt8 × Int)) (v25 : List (Int × Bool)) (v26 : Int) (v27 : Int) : netmap_Valid_L4 a0 (v24, v25, v26, v27) = cond (decide (v27 < ((a0.spurs.length : Nat) : Int))) (Option.bind (idxO a0.spurs v27) fun x71 => Option.bind (fname_v x71.name) fun x75 => cond x75 (Option.bind (netmap_within_v x71.inn 0 (IntKind.i64.wrap (((a0.blocks.length : Nat) : Int) - 1))) fun x78 => cond x78 (Option.bind (netmap_within_v x71.out 0 (IntKind.i64.wrap (((a0.blocks.length : Nat) : Int) - 1))) fun x81 => cond x81 (Option.bind (netmap_within_v x71.slots 1 4) fun x84 => cond x84 (cond (decide (x71.base = v26)) (Option.bind (loopO (netmap_Valid_L3 x71) (v25, 0, v26)) (fun (v101, v102, v103) => some (Sum.inl ((putS v24 x71.name (IntKind.i64.wrap (((getS v24 x71.name).getD 0) + 1))), v101, v103, (IntKind.i64.wrap (v27 + 1)))))) (some (Sum.inr (.inr ((false : Bool)))))) (some (Sum.inr (.inr ((false : Bool)))))) (some (Sum.inr (.inr ((false : Bool)))))) (some (Sum.inr (.inr ((false : Bool)))))) (some (Sum.inr (.inr ((false : Bool)))))) (some (Sum.inr (.inl (v24, v25, v26, v27)))) := rfl
noncomputable def netmap_Valid_L5 (a0 : Nt) : (List (List UInt8 × Int)) × Int → Option (((List (List UInt8 × Int)) × Int) ⊕ (((List (List UInt8 × Int)) × Int) ⊕ Bool))
  | (v12, v13) => cond (decide (v13 < ((a0.blocks.length : Nat) : Int))) (Option.bind (idxO a0.blocks v13) fun x146 => Option.bind (fname_v x146.name) fun x150 => cond x150 (Option.bind (netmap_within_v x146.x (-9999) 9999) fun x153 => cond x153 (Option.bind (netmap_within_v x146.y (-9999) 9999) fun x156 => cond x156 (Option.bind (idxO a0.next v13) fun x159 => Option.bind (netmap_validNext_v x159 v13 ((a0.blocks.length : Nat) : Int)) fun x163 => cond x163 (some (Sum.inl ((putS v12 x146.name (IntKind.i64.wrap (((getS v12 x146.name).getD 0) + 1))), (IntKind.i64.wrap (v13 + 1))))) (some (Sum.inr (.inr ((false : Bool)))))) (some (Sum.inr (.inr ((false : Bool)))))) (some (Sum.inr (.inr ((false : Bool)))))) (some (Sum.inr (.inr ((false : Bool)))))) (some (Sum.inr (.inl (v12, v13))))
theorem netmap_Valid_L5_eq (a0 : Nt) (v12 : List (List UInt8 × Int)) (v13 : Int) : netmap_Valid_L5 a0 (v12, v13) = cond (decide (v13 < ((a0.blocks.length : Nat) : Int))) (Option.bind (idxO a0.blocks v13) fun x146 => Option.bind (fname_v x146.name) fun x150 => cond x150 (Option.bind (netmap_within_v x146.x (-9999) 9999) fun x153 => cond x153 (Option.bind (netmap_within_v x146.y (-9999) 9999) fun x156 => cond x156 (Option.bind (idxO a0.next v13) fun x159 => Option.bind (netmap_validNext_v x159 v13 ((a0.blocks.length : Nat) : Int)) fun x163 => cond x163 (some (Sum.inl ((putS v12 x146.name (IntKind.i64.wrap (((getS v12 x146.name).getD 0) + 1))), (IntKind.i64.wrap (v13 + 1))))) (some (Sum.inr (.inr ((false : Bool)))))) (some (Sum.inr (.inr ((false : Bool)))))) (some (Sum.inr (.inr ((false : Bool)))))) (some (Sum.inr (.inr ((false : Bool)))))) (some (Sum.inr (.inl (v12, v13)))) := rfl
noncomputable def netmap_Valid_v (a0 : Nt) : Option (Bool) :=
  Option.bind (netmap_within_v ((a0.blocks.length : Nat) : Int) 1 24) fun x1 => cond x1 (cond (decide (((a0.next.length : Nat) : Int) = ((a0.blocks.length : Nat) : Int))) (cond (decide (6 < ((a0.spurs.length : Nat) : Int))) (some false) (cond (decide (8 < ((a0.robots.length : Nat) : Int))) (some false) (Option.bind (netmap_validConfig_v (⟨a0.cq, a0.ca, a0.cd, a0.cp⟩ : Cfg4)) fun x7 => cond x7 (Option.bind (loopO (netmap_Valid_L5 a0) ([], 0)) (fun | .inl (v166, v167) => Option.bind (loopO (netmap_Valid_L4 a0) (v166, [], ((a0.blocks.length : Nat) : Int), 0)) (fun | .inl (v252, v253, v254, v255) => cond (decide (0 < ((v253.length : Nat) : Int))) (Option.bind (loopO (netmap_Valid_L2 a0) (v253, decide (((v252.length : Nat) : Int) = (IntKind.i64.wrap (((a0.blocks.length : Nat) : Int) + ((a0.spurs.length : Nat) : Int)))), 0)) (fun (v290, v291, v292) => some v291)) (Option.bind (loopO (netmap_Valid_L1 a0) (v253, 0)) (fun (v271, v272) => some false)) | .inr (r293) => some r293) | .inr (r294) => some r294)) (some false)))) (some false)) (some false)
theorem netmap_Valid_vok (a0 : Nt) (r : Bool) (hr : netmap_Valid_v a0 = some r) :
    ACalls Try.prog 14 [.agg [.p (.sl (encK a0.blocks)), .p (.sl (encG a0.next)), .p (.sl (encP a0.spurs)), .p (.sl (encI a0.robots)), .p (.int .i64 a0.cq), .p (.int .i64 a0.ca), .p (.int .i64 a0.cd), .p (.int .i64 a0.cp)]] [] fun h d => h = [] ∧ d = .p (.bool r) := by
  refine ACalls_X Try.func14 rfl enters14 (by simp [Try.f14]) ?_
  unfold netmap_Valid_v at hr
  obtain ⟨x1, g2, hr⟩ := bE hr
  try simp only [go_sem]
  refine Cc_of (netmap_within_vok ((a0.blocks.length : Nat) : Int) 1 24 _ g2) ?_
  rintro h' r ⟨rfl, rfl⟩
  cases c3 : x1
  · simp only [c3, cond_false] at hr
    obtain rfl := Option.some.inj hr
    try simp only [go_sem, c3]
    all_goals (try refine end_pure ?_)
    all_goals (try simp only [go_sem, c3])
    all_goals (try (first | rfl | exact ⟨rfl, rfl⟩ | (simp; done)))
  simp only [c3, cond_true] at hr
  cases c4 : decide (((a0.next.length : Nat) : Int) = ((a0.blocks.length : Nat) : Int))
  · simp only [c4, cond_false] at hr
    obtain rfl := Option.some.inj hr
    try simp only [go_sem, c3, c4]
    all_goals (try refine end_pure ?_)
    all_goals (try simp only [go_sem, c3, c4])
    all_goals (try (first | rfl | exact ⟨rfl, rfl⟩ | (simp; done)))
  simp only [c4, cond_true] at hr
  cases c5 : decide (6 < ((a0.spurs.length : Nat) : Int))
  · simp only [c5, cond_false] at hr
    cases c6 : decide (8 < ((a0.robots.length : Nat) : Int))
    · simp only [c6, cond_false] at hr
      obtain ⟨x7, g8, hr⟩ := bE hr
      try simp only [go_sem, c3, c4, c5, c6]
      refine Cc_of (netmap_validConfig_vok (⟨a0.cq, a0.ca, a0.cd, a0.cp⟩ : Cfg4) _ g8) ?_
      rintro h' r ⟨rfl, rfl⟩
      cases c9 : x7
      · simp only [c9, cond_false] at hr
        obtain rfl := Option.some.inj hr
        try simp only [go_sem, c6, c9, c3]
        all_goals (try refine end_pure ?_)
        all_goals (try simp only [go_sem, c6, c9, c3])
        all_goals (try (first | rfl | exact ⟨rfl, rfl⟩ | (simp; done)))
      simp only [c9, cond_true] at hr
      obtain ⟨e17, g18, hr⟩ := bE hr
      try simp only [go_sem, c6, c9, c3]
      refine X_loopO g18 (fun q : (List (List UInt8 × Int)) × Int => ⟨[(1, .ptr 1 0), (3, .mv 45), (47, .p (.sl (encK a0.blocks))), (48, .p (.int .i64 ((a0.blocks.length : Nat) : Int))), (49, .p (.int .i64 q.2))], [(1, .box [.p (.sl (encK a0.blocks)), .p (.sl (encG a0.next)), .p (.sl (encP a0.spurs)), .p (.sl (encI a0.robots)), .p (.int .i64 a0.cq), .p (.int .i64 a0.ca), .p (.int .i64 a0.cd), .p (.int .i64 a0.cp)]), (45, .mp (mpS q.1))], 185⟩) ((Wk.forget (by simp [Le, LeE, LeH, get, envIds, hpIds, KeepH, D.ids, idsL, AO.ids, setL, base, ZE, c3, c9]))) ?_
      rintro ⟨v12, v13⟩ m16 hh14 ih15
      rw [netmap_Valid_L5_eq] at hh14
      cases c19 : decide (v13 < ((a0.blocks.length : Nat) : Int))
      · simp only [c19, cond_false] at hh14
        simp only [Option.bind_some, nextO_inr] at hh14
        obtain rfl := Option.some.inj hh14
        try dsimp only at hr
        obtain ⟨e31, g32, hr⟩ := bE hr
        try simp only [go_sem, c19, c3, c9]
        refine X_loopO g32 (fun q : (List (List UInt8 × Int)) × (List (Int × Bool)) × Int × Int => ⟨[(1, .ptr 1 0), (3, .mv 45), (6, .p (.int .i64 q.2.2.1)), (7, .mv 92), (94, .p (.sl (encP a0.spurs))), (95, .p (.int .i64 ((a0.spurs.length : Nat) : Int))), (96, .p (.int .i64 q.2.2.2))], [(1, .box [.p (.sl (encK a0.blocks)), .p (.sl (encG a0.next)), .p (.sl (encP a0.spurs)), .p (.sl (encI a0.robots)), .p (.int .i64 a0.cq), .p (.int .i64 a0.ca), .p (.int .i64 a0.cd), .p (.int .i64 a0.cp)]), (45, .mp (mpS q.1)), (92, .mp (mpB q.2.1))], 185⟩) ((Wk.forget (by simp [Le, LeE, LeH, get, envIds, hpIds, KeepH, D.ids, idsL, AO.ids, setL, base, ZE, c3, c9]))) ?_
        rintro ⟨v24, v25, v26, v27⟩ m30 hh28 ih29
        rw [netmap_Valid_L4_eq] at hh28
        cases c33 : decide (v27 < ((a0.spurs.length : Nat) : Int))
        · simp only [c33, cond_false] at hh28
          simp only [Option.bind_some, nextO_inr] at hh28
          obtain rfl := Option.some.inj hh28
          try dsimp only at hr
          try simp only [go_sem, c33, c3, c9]
          refine Af_maplen rfl rfl rfl rfl mp76 rfl rfl ?_
          cases c34 : decide (0 < ((v25.length : Nat) : Int))
          · simp only [c34, cond_false] at hr
            obtain ⟨e42, g43, hr⟩ := bE hr
            try simp only [go_sem, c34, c3, c9]
            refine X_loopO g43 (fun q : (List (Int × Bool)) × Int => ⟨[(7, .mv 92), (10, .p (.bool false)), (169, .p (.sl (encI a0.robots))), (170, .p (.int .i64 ((a0.robots.length : Nat) : Int))), (171, .p (.int .i64 q.2))], [(92, .mp (mpB q.1))], 185⟩) ((Wk.forget (by simp [Le, LeE, LeH, get, envIds, hpIds, KeepH, D.ids, idsL, AO.ids, setL, base, ZE, c3, c9]))) ?_
            rintro ⟨v37, v38⟩ m41 hh39 ih40
            rw [netmap_Valid_L1_eq] at hh39
            cases c44 : decide (v38 < ((a0.robots.length : Nat) : Int))
            · simp only [c44, cond_false] at hh39
              simp only [Option.bind_some, nextO_inr] at hh39
              obtain rfl := Option.some.inj hh39
              try dsimp only at hr
              obtain rfl := Option.some.inj hr
              try simp only [go_sem, c44, c3, c9]
              all_goals (try refine end_pure ?_)
              all_goals (try simp only [go_sem, c44, c3, c9])
              all_goals (try (first | rfl | exact ⟨rfl, rfl⟩ | (simp; done)))
            simp only [c44, cond_true] at hh39
            obtain ⟨x45, g46, hh39⟩ := bK hh39
            have f47 := idxO_rng g46
            have f48 : (encI a0.robots).getD (Int.toNat v38) [] = [(.int .i64 x45)] := idxO_map _ g46
            try simp only [go_sem, c44, f47, f48, c3, c9]
            refine Af_mapdel rfl rfl rfl rfl mp76 rfl rfl rfl rfl (mfit_B _ _) ?_
            simp only [Option.bind_some, nextO_inl] at hh39
            try simp only [go_sem, c3, c9]
            exact ih40 ((delB v37 x45), (IntKind.i64.wrap (v38 + 1))) _ hh39 ((Wk.forget (by simp [Le, LeE, LeH, get, envIds, hpIds, KeepH, D.ids, idsL, AO.ids, setL, base, ZE, c3, c9])))
          simp only [c34, cond_true] at hr
          try simp only [go_sem, c34, c3, c9]
          refine Af_maplen rfl rfl rfl rfl mp60 rfl rfl ?_
          obtain ⟨e60, g61, hr⟩ := bE hr
          try simp only [go_sem, c34, c3, c9]
          refine X_loopO g61 (fun q : (List (Int × Bool)) × Bool × Int => ⟨[(7, .mv 92), (10, .p (.bool q.2.1)), (169, .p (.sl (encI a0.robots))), (170, .p (.int .i64 ((a0.robots.length : Nat) : Int))), (171, .p (.int .i64 q.2.2))], [(92, .mp (mpB q.1))], 185⟩) ((Wk.forget (by simp [Le, LeE, LeH, get, envIds, hpIds, KeepH, D.ids, idsL, AO.ids, setL, base, ZE, c3, c9]))) ?_
          rintro ⟨v54, v55, v56⟩ m59 hh57 ih58
          rw [netmap_Valid_L2_eq] at hh57
          cases c62 : decide (v56 < ((a0.robots.length : Nat) : Int))
          · simp only [c62, cond_false] at hh57
            simp only [Option.bind_some, nextO_inr] at hh57
            obtain rfl := Option.some.inj hh57
            try dsimp only at hr
            obtain rfl := Option.some.inj hr
            try simp only [go_sem, c62, c3, c9]
            all_goals (try refine end_pure ?_)
            all_goals (try simp only [go_sem, c62, c3, c9])
            all_goals (try (first | rfl | exact ⟨rfl, rfl⟩ | (simp; done)))
          simp only [c62, cond_true] at hh57
          obtain ⟨x63, g64, hh57⟩ := bK hh57
          have f65 := idxO_rng g64
          have f66 : (encI a0.robots).getD (Int.toNat v56) [] = [(.int .i64 x63)] := idxO_map _ g64
          cases c67 : v55
          · simp only [c67, cond_false] at hh57
            try simp only [go_sem, c62, f65, f66, c67, c3, c9]
            refine Af_mapdel rfl rfl rfl rfl mp76 rfl rfl rfl rfl (mfit_B _ _) ?_
            simp only [Option.bind_some, nextO_inl] at hh57
            try simp only [go_sem, c3, c9, c67]
            exact ih58 ((delB v54 x63), false, (IntKind.i64.wrap (v56 + 1))) _ hh57 ((Wk.forget (by simp [Le, LeE, LeH, get, envIds, hpIds, KeepH, D.ids, idsL, AO.ids, setL, base, ZE, c3, c9, c67])))
          simp only [c67, cond_true] at hh57
          try simp only [go_sem, c62, f65, f66, c67, c3, c9]
          refine Af_mapdel rfl rfl rfl rfl mp76 rfl rfl rfl rfl (mfit_B _ _) ?_
          simp only [Option.bind_some, nextO_inl] at hh57
          try simp only [go_sem, c3, c9, c67]
          exact ih58 ((delB v54 x63), ((getB v54 x63).getD false), (IntKind.i64.wrap (v56 + 1))) _ hh57 ((Wk.forget (by simp [Le, LeE, LeH, get, envIds, hpIds, KeepH, D.ids, idsL, AO.ids, setL, base, ZE, c3, c9, c67])))
        simp only [c33, cond_true] at hh28
        obtain ⟨x71, g72, hh28⟩ := bK hh28
        have f73 := idxO_rng g72
        have f74 : (encP a0.spurs).getD (Int.toNat v27) [] = [(.str x71.name), (.bool x71.depot), (.int .i64 x71.inn), (.int .i64 x71.out), (.int .i64 x71.slots), (.int .i64 x71.base)] := idxO_map _ g72
        obtain ⟨x75, g76, hh28⟩ := bK hh28
        try simp only [go_sem, c33, f73, f74, c3, c9]
        refine Cc_of (fname_vok x71.name _ g76) ?_
        rintro h' r ⟨rfl, rfl⟩
        cases c77 : x75
        · simp only [c77, cond_false] at hh28
          simp only [Option.bind_some, nextO_inr] at hh28
          obtain rfl := Option.some.inj hh28
          try dsimp only at hr
          obtain rfl := Option.some.inj hr
          try simp only [go_sem, c77, c3, c9]
          all_goals (try refine end_pure ?_)
          all_goals (try simp only [go_sem, c77, c3, c9])
          all_goals (try (first | rfl | exact ⟨rfl, rfl⟩ | (simp; done)))
        simp only [c77, cond_true] at hh28
        obtain ⟨x78, g79, hh28⟩ := bK hh28
        try simp only [go_sem, c77, c3, c9]
        refine Cc_of (netmap_within_vok x71.inn 0 (IntKind.i64.wrap (((a0.blocks.length : Nat) : Int) - 1)) _ g79) ?_
        rintro h' r ⟨rfl, rfl⟩
        cases c80 : x78
        · simp only [c80, cond_false] at hh28
          simp only [Option.bind_some, nextO_inr] at hh28
          obtain rfl := Option.some.inj hh28
          try dsimp only at hr
          obtain rfl := Option.some.inj hr
          try simp only [go_sem, c77, c80, c3, c9]
          all_goals (try refine end_pure ?_)
          all_goals (try simp only [go_sem, c77, c80, c3, c9])
          all_goals (try (first | rfl | exact ⟨rfl, rfl⟩ | (simp; done)))
        simp only [c80, cond_true] at hh28
        obtain ⟨x81, g82, hh28⟩ := bK hh28
        try simp only [go_sem, c77, c80, c3, c9]
        refine Cc_of (netmap_within_vok x71.out 0 (IntKind.i64.wrap (((a0.blocks.length : Nat) : Int) - 1)) _ g82) ?_
        rintro h' r ⟨rfl, rfl⟩
        cases c83 : x81
        · simp only [c83, cond_false] at hh28
          simp only [Option.bind_some, nextO_inr] at hh28
          obtain rfl := Option.some.inj hh28
          try dsimp only at hr
          obtain rfl := Option.some.inj hr
          try simp only [go_sem, c80, c83, c3, c9, c77]
          all_goals (try refine end_pure ?_)
          all_goals (try simp only [go_sem, c80, c83, c3, c9, c77])
          all_goals (try (first | rfl | exact ⟨rfl, rfl⟩ | (simp; done)))
        simp only [c83, cond_true] at hh28
        obtain ⟨x84, g85, hh28⟩ := bK hh28
        try simp only [go_sem, c80, c83, c3, c9, c77]
        refine Cc_of (netmap_within_vok x71.slots 1 4 _ g85) ?_
        rintro h' r ⟨rfl, rfl⟩
        cases c86 : x84
        · simp only [c86, cond_false] at hh28
          simp only [Option.bind_some, nextO_inr] at hh28
          obtain rfl := Option.some.inj hh28
          try dsimp only at hr
          obtain rfl := Option.some.inj hr
          try simp only [go_sem, c83, c86, c3, c9, c77, c80]
          all_goals (try refine end_pure ?_)
          all_goals (try simp only [go_sem, c83, c86, c3, c9, c77, c80])
          all_goals (try (first | rfl | exact ⟨rfl, rfl⟩ | (simp; done)))
        simp only [c86, cond_true] at hh28
        cases c87 : decide (x71.base = v26)
        · simp only [c87, cond_false] at hh28
          simp only [Option.bind_some, nextO_inr] at hh28
          obtain rfl := Option.some.inj hh28
          try dsimp only at hr
          obtain rfl := Option.some.inj hr
          try simp only [go_sem, c83, c86, c87, c3, c9, c77, c80]
          all_goals (try refine end_pure ?_)
          all_goals (try simp only [go_sem, c83, c86, c87, c3, c9, c77, c80])
          all_goals (try (first | rfl | exact ⟨rfl, rfl⟩ | (simp; done)))
        simp only [c87, cond_true] at hh28
        obtain ⟨e97, g98, hh28⟩ := bK hh28
        try simp only [go_sem, c83, c86, c87, c3, c9, c77, c80]
        refine X_loopO g98 (fun q : (List (Int × Bool)) × Int × Int => ⟨[(1, .ptr 1 0), (3, .mv 45), (6, .p (.int .i64 q.2.2)), (7, .mv 92), (9, .ptr 9 0), (94, .p (.sl (encP a0.spurs))), (95, .p (.int .i64 ((a0.spurs.length : Nat) : Int))), (96, .p (.int .i64 v27)), (142, .p (.int .i64 x71.slots)), (143, .p (.int .i64 q.2.1))], [(1, .box [.p (.sl (encK a0.blocks)), .p (.sl (encG a0.next)), .p (.sl (encP a0.spurs)), .p (.sl (encI a0.robots)), .p (.int .i64 a0.cq), .p (.int .i64 a0.ca), .p (.int .i64 a0.cd), .p (.int .i64 a0.cp)]), (9, .box [.p (.str x71.name), .p (.bool x71.depot), .p (.int .i64 x71.inn), .p (.int .i64 x71.out), .p (.int .i64 x71.slots), .p (.int .i64 x71.base)]), (45, .mp (mpS (putS v24 x71.name (IntKind.i64.wrap (((getS v24 x71.name).getD 0) + 1))))), (92, .mp (mpB q.1))], 185⟩) ((Wk.forget (by simp [Le, LeE, LeH, get, envIds, hpIds, KeepH, D.ids, idsL, AO.ids, setL, base, ZE, c3, c9, c77, c80, c83, c86]))) ?_
        rintro ⟨v91, v92, v93⟩ m96 hh94 ih95
        rw [netmap_Valid_L3_eq] at hh94
        cases c99 : decide (v92 < x71.slots)
        · simp only [c99, cond_false] at hh94
          simp only [Option.bind_some, nextO_inr] at hh94
          obtain rfl := Option.some.inj hh94
          try dsimp only at hh28
          simp only [Option.bind_some, nextO_inl] at hh28
          try simp only [go_sem, c99, c3, c9, c77, c80, c83, c86]
          exact ih29 ((putS v24 x71.name (IntKind.i64.wrap (((getS v24 x71.name).getD 0) + 1))), v91, v93, (IntKind.i64.wrap (v27 + 1))) _ hh28 ((Wk.forget (by simp [Le, LeE, LeH, get, envIds, hpIds, KeepH, D.ids, idsL, AO.ids, setL, base, ZE, c3, c9, c77, c80, c83, c86])))
        simp only [c99, cond_true] at hh94
        cases c100 : x71.depot
        · simp only [c100, cond_false] at hh94
          simp only [Option.bind_some, nextO_inl] at hh94
          try simp only [go_sem, c99, c100, c3, c9, c77, c80, c83, c86]
          exact ih95 (v91, (IntKind.i64.wrap (v92 + 1)), (IntKind.i64.wrap (v93 + 1))) _ hh94 ((Wk.forget (by simp [Le, LeE, LeH, get, envIds, hpIds, KeepH, D.ids, idsL, AO.ids, setL, base, ZE, c3, c9, c77, c80, c83, c86, c100])))
        simp only [c100, cond_true] at hh94
        simp only [Option.bind_some, nextO_inl] at hh94
        try simp only [go_sem, c99, c100, c3, c9, c77, c80, c83, c86]
        exact ih95 ((putB v91 v93 true), (IntKind.i64.wrap (v92 + 1)), (IntKind.i64.wrap (v93 + 1))) _ hh94 ((Wk.forget (by simp [Le, LeE, LeH, get, envIds, hpIds, KeepH, D.ids, idsL, AO.ids, setL, base, ZE, c3, c9, c77, c80, c83, c86, c100])))
      simp only [c19, cond_true] at hh14
      obtain ⟨x146, g147, hh14⟩ := bK hh14
      have f148 := idxO_rng g147
      have f149 : (encK a0.blocks).getD (Int.toNat v13) [] = [(.str x146.name), (.int .i64 x146.x), (.int .i64 x146.y)] := idxO_map _ g147
      try simp only [go_sem, c19, f148, f149, c3, c9]
      refine X_any0 mixed (p := [(0, 0), (1, 0), (2, 2), (3, 0), (4, 0), (5, 0), (6, 0), (7, 2), (8, 0), (9, 0), (10, 0), (11, 0), (12, 0), (13, 2), (14, 0), (15, 0), (16, 0), (17, 0), (18, 0), (19, 0), (20, 0), (21, 0), (22, 0), (23, 0), (24, 0), (25, 0), (26, 2), (27, 0), (28, 0)]) (by kernel_rfl) (by simp [LeH, get]) ?_
      obtain ⟨x150, g151, hh14⟩ := bK hh14
      try simp only [go_sem, c3, c9]
      refine Gh_of (fname_vok x146.name _ g151) ?_
      rintro h' r ⟨rfl, rfl⟩
      cases c152 : x150
      · simp only [c152, cond_false] at hh14
        simp only [Option.bind_some, nextO_inr] at hh14
        obtain rfl := Option.some.inj hh14
        try dsimp only at hr
        obtain rfl := Option.some.inj hr
        try simp only [go_sem, c152, c3, c9]
        all_goals (try refine end_pure ?_)
        all_goals (try simp only [go_sem, c152, c3, c9])
        all_goals (try (first | rfl | exact ⟨rfl, rfl⟩ | (simp; done)))
      simp only [c152, cond_true] at hh14
      obtain ⟨x153, g154, hh14⟩ := bK hh14
      try simp only [go_sem, c152, c3, c9]
      refine Gh_of (netmap_within_vok x146.x (-9999) 9999 _ g154) ?_
      rintro h' r ⟨rfl, rfl⟩
      cases c155 : x153
      · simp only [c155, cond_false] at hh14
        simp only [Option.bind_some, nextO_inr] at hh14
        obtain rfl := Option.some.inj hh14
        try dsimp only at hr
        obtain rfl := Option.some.inj hr
        try simp only [go_sem, c152, c155, c3, c9]
        all_goals (try refine end_pure ?_)
        all_goals (try simp only [go_sem, c152, c155, c3, c9])
        all_goals (try (first | rfl | exact ⟨rfl, rfl⟩ | (simp; done)))
      simp only [c155, cond_true] at hh14
      obtain ⟨x156, g157, hh14⟩ := bK hh14
      try simp only [go_sem, c152, c155, c3, c9]
      refine Gh_of (netmap_within_vok x146.y (-9999) 9999 _ g157) ?_
      rintro h' r ⟨rfl, rfl⟩
      cases c158 : x156
      · simp only [c158, cond_false] at hh14
        simp only [Option.bind_some, nextO_inr] at hh14
        obtain rfl := Option.some.inj hh14
        try dsimp only at hr
        obtain rfl := Option.some.inj hr
        try simp only [go_sem, c155, c158, c3, c9, c152]
        all_goals (try refine end_pure ?_)
        all_goals (try simp only [go_sem, c155, c158, c3, c9, c152])
        all_goals (try (first | rfl | exact ⟨rfl, rfl⟩ | (simp; done)))
      simp only [c158, cond_true] at hh14
      obtain ⟨x159, g160, hh14⟩ := bK hh14
      have f161 := idxO_rng g160
      have f162 : (encG a0.next).getD (Int.toNat v13) [] = [(.sl (encI x159))] := idxO_map _ g160
      obtain ⟨x163, g164, hh14⟩ := bK hh14
      try simp only [go_sem, c155, c158, f161, f162, c3, c9, c152]
      refine Gh_of (netmap_validNext_vok x159 v13 ((a0.blocks.length : Nat) : Int) _ g164) ?_
      rintro h' r ⟨rfl, rfl⟩
      cases c165 : x163
      · simp only [c165, cond_false] at hh14
        simp only [Option.bind_some, nextO_inr] at hh14
        obtain rfl := Option.some.inj hh14
        try dsimp only at hr
        obtain rfl := Option.some.inj hr
        try simp only [go_sem, c158, c165, c3, c9, c152, c155]
        all_goals (try refine end_pure ?_)
        all_goals (try simp only [go_sem, c158, c165, c3, c9, c152, c155])
        all_goals (try (first | rfl | exact ⟨rfl, rfl⟩ | (simp; done)))
      simp only [c165, cond_true] at hh14
      simp only [Option.bind_some, nextO_inl] at hh14
      try simp only [go_sem, c158, c165, c3, c9, c152, c155]
      exact ih15 ((putS v12 x146.name (IntKind.i64.wrap (((getS v12 x146.name).getD 0) + 1))), (IntKind.i64.wrap (v13 + 1))) _ hh14 ((Wk.forget (by simp [Le, LeE, LeH, get, envIds, hpIds, KeepH, D.ids, idsL, AO.ids, setL, base, ZE, c3, c9, c152, c155, c158, c165])))
    simp only [c6, cond_true] at hr
    obtain rfl := Option.some.inj hr
    try simp only [go_sem, c3, c4, c5, c6]
    all_goals (try refine end_pure ?_)
    all_goals (try simp only [go_sem, c3, c4, c5, c6])
    all_goals (try (first | rfl | exact ⟨rfl, rfl⟩ | (simp; done)))
  simp only [c5, cond_true] at hr
  obtain rfl := Option.some.inj hr
  try simp only [go_sem, c3, c4, c5]
  all_goals (try refine end_pure ?_)
  all_goals (try simp only [go_sem, c3, c4, c5])
  all_goals (try (first | rfl | exact ⟨rfl, rfl⟩ | (simp; done)))
noncomputable def example03_v  : Option ((List Dc)) :=
  some [(⟨1, 1, [[97]], [0, 0]⟩ : Dc), (⟨1, 2, [[98]], [1, 0]⟩ : Dc), (⟨2, 3, [[97], [98], [97]], []⟩ : Dc), (⟨4, 4, [[100], [97], [98]], [2]⟩ : Dc), (⟨5, 5, [[100]], [2]⟩ : Dc)]
theorem example03_vok  (r : (List Dc)) (hr : example03_v  = some r) :
    ACalls Try.prog 11 [] [] fun h d => h = [] ∧ d = .p (.sl (encC r)) := by
  refine ACalls_X Try.func11 rfl enters11 (by simp [Try.f11]) ?_
  unfold example03_v at hr
  obtain rfl := Option.some.inj hr
  try simp only [go_sem]
  all_goals (try refine end_pure ?_)
  all_goals (try simp only [go_sem])
  all_goals (try (first | rfl | exact ⟨rfl, rfl⟩ | (simp; done)))
end Go.Am
end
section
namespace Go.Am
open Go Go.Proofs
set_option maxRecDepth 100000
set_option linter.unusedVariables false
set_option linter.unusedSimpArgs false
theorem loopO_thru {σ ε : Type} {step : σ → Option (σ ⊕ ε)} (n : Nat) (S : Nat → σ) (out : ε) (h1 : ∀ i, i < n → step (S i) = some (.inl (S (i + 1)))) (h2 : step (S n) = some (.inr out)) : loopO step (S 0) = some out := by
  have := loopO_for n S out (fun _ => none) (fun i hi _ => h1 i hi) (fun _ => h2)
  rw [this]
  have : (List.range n).findSome? (fun _ => (none : Option ε)) = none := by rw [List.findSome?_eq_none_iff]; simp
  rw [this]; rfl
theorem loopO_all {σ ε : Type} {step : σ → Option (σ ⊕ ε)} (n : Nat) (S : Nat → σ) (out bad : ε) (good : Nat → Bool)
    (h1 : ∀ i, i < n → (∀ j, j < i → good j = true) → step (S i) = some (if good i = true then .inl (S (i + 1)) else .inr bad)) (h2 : (∀ j, j < n → good j = true) → step (S n) = some (.inr out)) :
    loopO step (S 0) = some (if (∀ j, j < n → good j = true) then out else bad) := by
  have h := loopO_for n S out (fun i => if good i = true then none else some bad)
    (fun i hi hj => by
      rw [h1 i hi (fun j hj2 => by have := hj j hj2; by_cases g : good j = true; exact g; simp [g] at this)]
      by_cases g : good i = true <;> simp [g])
    (fun hj => h2 (fun j hj2 => by have := hj j hj2; by_cases g : good j = true; exact g; simp [g] at this))
  rw [h]
  by_cases g : ∀ j, j < n → good j = true
  · rw [if_pos g]
    have : (List.range n).findSome? (fun i => if good i = true then none else some bad) = none := by
      rw [List.findSome?_eq_none_iff]
      intro x hx
      simp [g x (by simpa using hx)]
    rw [this]; rfl
  · rw [if_neg g]
    cases hf : (List.range n).findSome? (fun i => if good i = true then none else some bad) with
    | none =>
      exfalso
      rw [List.findSome?_eq_none_iff] at hf
      refine g fun j hj => ?_
      have := hf j (by simpa using hj)
      by_cases g2 : good j = true
      · exact g2
      · simp [g2] at this
    | some e =>
      obtain ⟨i, hi, he⟩ := List.exists_of_findSome?_eq_some hf
      by_cases g2 : good i = true
      · simp [g2] at he
      · simp [g2] at he; simp [he]
theorem idxO_at {α : Type} (l : List α) (i : Nat) (x : α) (h : i < l.length) : idxO l (i : Int) = some (l.getD i x) := by rw [idxO_nat]; simp [List.getD, h]
theorem lt_c {i n : Nat} (h : i < n) : decide ((i : Int) < ((n : Nat) : Int)) = true := decide_eq_true (by omega)
theorem lt_n {n : Nat} : decide ((n : Int) < ((n : Nat) : Int)) = false := decide_eq_false (by omega)
end Go.Am
end
section
namespace Go.Am
open Go Go.Proofs
set_option maxRecDepth 100000
set_option linter.unusedVariables false
set_option linter.unusedSimpArgs false
theorem within_v (a lo hi : Int) : netmap_within_v a lo hi = some (decide (lo ≤ a) && decide (a ≤ hi)) := by
  unfold netmap_within_v
  cases decide (lo ≤ a) <;> rfl
theorem cond4 : ∀ b1 b2 b3 b4 : Bool, cond b1 (cond b2 (cond b3 (some b4) (some false)) (some false)) (some false) = some (b1 && (b2 && (b3 && b4))) := by decide
theorem validConfig_v (q a d p : Int) : netmap_validConfig_v ⟨q, a, d, p⟩ = some (decide (cfgP q a d p)) := by
  unfold netmap_validConfig_v
  simp only [within_v, Option.bind_some]
  rw [cond4]
  congr 1
  rw [Bool.eq_iff_iff]
  simp only [Bool.and_eq_true, decide_eq_true_eq]
  exact ⟨fun ⟨⟨a1, a2⟩, ⟨b1, b2⟩, ⟨c1, c2⟩, d1, d2⟩ => ⟨a1, a2, b1, b2, c1, c2, d1, d2⟩, fun ⟨a1, a2, b1, b2, c1, c2, d1, d2⟩ => ⟨⟨a1, a2⟩, ⟨b1, b2⟩, ⟨c1, c2⟩, d1, d2⟩⟩
def lastV (l : List Int) (i : Nat) : Int := if i = 0 then -1 else l.getD (i - 1) 0
theorem validNext_v (l : List Int) (i nb : Nat) (hl : l.length ≤ 10000000) : netmap_validNext_v l (i : Int) (nb : Int) = some (decide (rowP nb i l ∧ l.length ≤ 4)) := by
  have h := loopO_all (step := netmap_validNext_L1 l (i : Int) (nb : Int)) l.length (fun k => ((k : Int), lastV l k)) (Sum.inl ((l.length : Int), lastV l l.length)) (Sum.inr false) (fun k => decide (okAt nb i l k))
    (fun k hk hj => by
      rw [netmap_validNext_L1_eq, lt_c hk, cond_true, idxO_at l k 0 hk, Option.bind_some]
      have hw := wrap_sm (show k < 10000000 by omega)
      have hprev : 0 < k → 0 ≤ l.getD (k - 1) 0 := fun h => by have := of_decide_eq_true (hj (k - 1) (by omega)); exact this.1
      have hlast : lastV l (k + 1) = l.getD k 0 := by unfold lastV; rw [if_neg (by omega)]; rfl
      by_cases c1 : l.getD k 0 ≤ lastV l k
      · rw [decide_eq_true c1, cond_true, if_neg]
        intro h
        have := of_decide_eq_true h
        unfold lastV at c1
        split at c1
        · have := this.1; omega
        · have := this.2.2.2 (by omega); omega
      · rw [decide_eq_false c1, cond_false]
        by_cases c2 : (nb : Int) ≤ l.getD k 0
        · rw [decide_eq_true c2, cond_true, if_neg]
          intro h
          have := (of_decide_eq_true h).2.1; omega
        · rw [decide_eq_false c2, cond_false]
          by_cases c3 : l.getD k 0 = (i : Int)
          · rw [decide_eq_true c3, cond_true, if_neg]
            intro h
            exact (of_decide_eq_true h).2.2.1 c3
          · rw [decide_eq_false c3, cond_false, if_pos, hw, hlast]
            refine decide_eq_true ⟨?_, by omega, c3, fun h => ?_⟩
            · unfold lastV at c1
              split at c1
              · omega
              · have := hprev (by omega); omega
            · unfold lastV at c1
              rw [if_neg (by omega)] at c1
              omega)
    (fun _ => by rw [netmap_validNext_L1_eq, lt_n, cond_false])
  unfold netmap_validNext_v
  rw [show ((0 : Int), (-1 : Int)) = (((0 : Nat) : Int), lastV l 0) from rfl, h, Option.bind_some]
  by_cases g : ∀ j, j < l.length → decide (okAt nb i l j) = true
  · rw [if_pos g]
    simp only
    congr 1
    have hr : rowP nb i l := fun k hk => of_decide_eq_true (g k hk)
    by_cases h4 : l.length ≤ 4
    · rw [decide_eq_true (show (l.length : Int) ≤ 4 by omega), decide_eq_true ⟨hr, h4⟩]
    · rw [decide_eq_false (show ¬ (l.length : Int) ≤ 4 by omega), decide_eq_false (fun h => h4 h.2)]
  · rw [if_neg g]
    simp only
    congr 1
    symm
    exact decide_eq_false fun h => g fun j hj => decide_eq_true (h.1 j hj)
def cntS : List (List UInt8 × Int) → List (List UInt8) → List (List UInt8 × Int)
  | m, [] => m
  | m, x :: r => cntS (putS m x (IntKind.i64.wrap ((getS m x).getD 0 + 1))) r
theorem cntS_snoc (m : List (List UInt8 × Int)) (l : List (List UInt8)) (x : List UInt8) : cntS m (l ++ [x]) = putS (cntS m l) x (IntKind.i64.wrap ((getS (cntS m l) x).getD 0 + 1)) := by
  induction l generalizing m with
  | nil => rfl
  | cons y r ih => simp only [List.cons_append, cntS]; exact ih _
theorem cntS_app (m : List (List UInt8 × Int)) (a b : List (List UInt8)) : cntS m (a ++ b) = cntS (cntS m a) b := by
  induction a generalizing m with
  | nil => rfl
  | cons y r ih => simp only [List.cons_append, cntS]; exact ih _
theorem putS_keys (m : List (List UInt8 × Int)) (k : List UInt8) (v : Int) : (putS m k v).map (·.1) = if k ∈ m.map (·.1) then m.map (·.1) else m.map (·.1) ++ [k] := by
  induction m with
  | nil => simp [putS]
  | cons p r ih =>
    simp only [putS]
    by_cases h : p.1 = k
    · simp [h]
    · rw [if_neg h, List.map_cons, ih]
      by_cases h2 : k ∈ r.map (·.1)
      · rw [if_pos h2, if_pos (by simp only [List.map_cons, List.mem_cons]; exact .inr h2)]; rfl
      · rw [if_neg h2, if_neg (by simp only [List.map_cons, List.mem_cons, not_or]; exact ⟨Ne.symm h, h2⟩)]; rfl
theorem cntS_keys : ∀ (l : List (List UInt8)) (m : List (List UInt8 × Int)), (m.map (·.1)).Nodup → ((cntS m l).map (·.1)).Nodup ∧ (cntS m l).length ≤ m.length + l.length ∧ ((cntS m l).length = m.length + l.length ↔ (m.map (·.1) ++ l).Nodup)
  | [], m, h => by simp [cntS, h]
  | x :: r, m, h => by
    simp only [cntS]
    have hk := putS_keys m x (IntKind.i64.wrap ((getS m x).getD 0 + 1))
    have hlen : (putS m x (IntKind.i64.wrap ((getS m x).getD 0 + 1))).length = if x ∈ m.map (·.1) then m.length else m.length + 1 := by
      have := congrArg List.length hk
      rw [List.length_map] at this
      rw [this]; split <;> simp
    have hnd : ((putS m x (IntKind.i64.wrap ((getS m x).getD 0 + 1))).map (·.1)).Nodup := by
      rw [hk]
      split
      · exact h
      · rename_i hx
        rw [List.nodup_append]
        exact ⟨h, by simp, fun a ha b hb => by simp at hb; subst hb; intro e; subst e; exact hx ha⟩
    obtain ⟨h1, h2, h3⟩ := cntS_keys r _ hnd
    refine ⟨h1, by rw [hlen] at h2; split at h2 <;> simp <;> omega, ?_⟩
    by_cases hx : x ∈ m.map (·.1)
    · rw [hlen, if_pos hx] at h2
      constructor
      · intro he; simp at he; omega
      · intro hn
        rw [List.nodup_append] at hn
        exact (hn.2.2 x hx x (by simp) rfl).elim
    · rw [hlen, if_neg hx, hk, if_neg hx] at h3
      rw [show m.length + (x :: r).length = m.length + 1 + r.length by simp; omega, h3, List.append_assoc]
      rfl
end Go.Am
end
section
namespace Go.Am
open Go Go.Proofs
set_option maxRecDepth 100000
set_option linter.unusedVariables false
set_option linter.unusedSimpArgs false
theorem getB_cons (p : Int × Bool) (r : List (Int × Bool)) (x : Int) : getB (p :: r) x = if p.1 = x then some p.2 else getB r x := by
  unfold getB
  rw [List.find?_cons]
  by_cases h : p.1 = x
  · simp [h]
  · rw [if_neg h, beq_eq_false_iff_ne.2 h]
theorem putB_cons (p : Int × Bool) (r : List (Int × Bool)) (k : Int) (v : Bool) : putB (p :: r) k v = if p.1 = k then (k, v) :: r else p :: putB r k v := rfl
theorem delB_cons (p : Int × Bool) (r : List (Int × Bool)) (k : Int) : delB (p :: r) k = if p.1 = k then r else p :: delB r k := rfl
theorem getB_putB (m : List (Int × Bool)) (k : Int) (v : Bool) (x : Int) : getB (putB m k v) x = if x = k then some v else getB m x := by
  induction m with
  | nil =>
    have : putB [] k v = [(k, v)] := rfl
    rw [this, getB_cons]
    by_cases h : x = k
    · rw [if_pos h, if_pos h.symm]
    · rw [if_neg h, if_neg (Ne.symm h)]
  | cons p r ih =>
    rw [putB_cons, getB_cons]
    by_cases h : p.1 = k
    · rw [if_pos h, getB_cons]
      by_cases h2 : x = k
      · rw [if_pos h2, if_pos h2.symm]
      · rw [if_neg h2, if_neg (Ne.symm h2), if_neg (fun e => h2 (by rw [← e, ← h]))]
    · rw [if_neg h, getB_cons, ih]
      by_cases h2 : p.1 = x
      · rw [if_pos h2, if_pos h2, if_neg (fun e => h (by rw [h2, e]))]
      · rw [if_neg h2, if_neg h2]
theorem putB_keys (m : List (Int × Bool)) (k : Int) (v : Bool) : (putB m k v).map (·.1) = if k ∈ m.map (·.1) then m.map (·.1) else m.map (·.1) ++ [k] := by
  induction m with
  | nil => simp [putB]
  | cons p r ih =>
    rw [putB_cons]
    by_cases h : p.1 = k
    · simp [h]
    · rw [if_neg h, List.map_cons, ih]
      by_cases h2 : k ∈ r.map (·.1)
      · rw [if_pos h2, if_pos (by simp only [List.map_cons, List.mem_cons]; exact .inr h2)]; rfl
      · rw [if_neg h2, if_neg (by simp only [List.map_cons, List.mem_cons, not_or]; exact ⟨Ne.symm h, h2⟩)]; rfl
theorem delB_mem (m : List (Int × Bool)) (k x : Int) (h : x ∈ (delB m k).map (·.1)) : x ∈ m.map (·.1) := by
  induction m with
  | nil => exact h
  | cons p r ih =>
    rw [delB_cons] at h
    split at h
    · simp only [List.map_cons, List.mem_cons]; exact .inr h
    · simp only [List.map_cons, List.mem_cons] at h ⊢
      exact h.imp id ih
theorem getB_none (m : List (Int × Bool)) (x : Int) : getB m x = none ↔ x ∉ m.map (·.1) := by
  induction m with
  | nil => simp [getB]
  | cons p r ih =>
    rw [getB_cons]
    by_cases h : p.1 = x
    · simp [h]
    · rw [if_neg h, ih]; simp [Ne.symm h]
theorem delB_get (m : List (Int × Bool)) (k x : Int) (hn : (m.map (·.1)).Nodup) : ((delB m k).map (·.1)).Nodup ∧ getB (delB m k) x = if x = k then none else getB m x := by
  induction m with
  | nil => exact ⟨hn, by simp [delB, getB]⟩
  | cons p r ih =>
    simp only [List.map_cons, List.nodup_cons] at hn
    obtain ⟨h1, h2⟩ := ih hn.2
    rw [delB_cons]
    by_cases h : p.1 = k
    · rw [if_pos h]
      refine ⟨hn.2, ?_⟩
      by_cases hx : x = k
      · rw [if_pos hx, getB_none, hx, ← h]; exact hn.1
      · rw [if_neg hx, getB_cons, if_neg (fun e => hx (by rw [← e, h]))]
    · rw [if_neg h]
      refine ⟨by simp only [List.map_cons, List.nodup_cons]; exact ⟨fun hm => hn.1 (delB_mem r k _ hm), h1⟩, ?_⟩
      rw [getB_cons, getB_cons, h2]
      by_cases hp : p.1 = x
      · rw [if_pos hp, if_pos hp, if_neg (fun e => h (by rw [hp, e]))]
      · rw [if_neg hp, if_neg hp]
def MB (m : List (Int × Bool)) (f : Int → Bool) : Prop := (m.map (·.1)).Nodup ∧ ∀ x, getB m x = if f x = true then some true else none
theorem MB.nil : MB [] (fun _ => false) := ⟨by simp, fun x => by simp [getB]⟩
theorem MB.put {m : List (Int × Bool)} {f : Int → Bool} (h : MB m f) (k : Int) : MB (putB m k true) (fun x => f x || decide (x = k)) := by
  refine ⟨?_, fun x => ?_⟩
  · rw [putB_keys]
    split
    · exact h.1
    · rename_i hx
      rw [List.nodup_append]
      exact ⟨h.1, by simp, fun a ha b hb => by simp at hb; subst hb; intro e; subst e; exact hx ha⟩
  · rw [getB_putB, h.2]
    by_cases hx : x = k
    · simp [hx]
    · simp [hx]
theorem MB.del {m : List (Int × Bool)} {f : Int → Bool} (h : MB m f) (k : Int) : MB (delB m k) (fun x => f x && !decide (x = k)) := by
  refine ⟨(delB_get m k 0 h.1).1, fun x => ?_⟩
  rw [(delB_get m k x h.1).2, h.2]
  by_cases hx : x = k
  · simp [hx]
  · simp [hx]
theorem MB.pos {m : List (Int × Bool)} {f : Int → Bool} (h : MB m f) : 0 < m.length ↔ ∃ x, f x = true := by
  constructor
  · intro hm
    obtain ⟨p, r, rfl⟩ : ∃ p r, m = p :: r := by cases m with | nil => simp at hm | cons p r => exact ⟨p, r, rfl⟩
    refine ⟨p.1, ?_⟩
    have := h.2 p.1
    rw [getB_cons, if_pos rfl] at this
    by_cases hf : f p.1 = true
    · exact hf
    · rw [if_neg hf] at this; cases this
  · rintro ⟨x, hx⟩
    cases m with
    | nil => have := h.2 x; rw [if_pos hx] at this; simp [getB] at this
    | cons p r => simp
theorem MB.congr {m : List (Int × Bool)} {f g : Int → Bool} (h : MB m f) (e : ∀ x, f x = g x) : MB m g := ⟨h.1, fun x => by rw [← e]; exact h.2 x⟩
def putN (m : List (Int × Bool)) (b : Int) : Nat → List (Int × Bool)
  | 0 => m
  | n + 1 => putB (putN m b n) (b + n) true
theorem MB.putN {m : List (Int × Bool)} {f : Int → Bool} (h : MB m f) (b : Int) : ∀ n : Nat, MB (putN m b n) (fun x => f x || (decide (b ≤ x) && decide (x < b + n)))
  | 0 => h.congr fun x => by
    have : (decide (b ≤ x) && decide (x < b + ((0 : Nat) : Int))) = false := by
      rw [Bool.and_eq_false_iff]
      by_cases h : b ≤ x
      · exact .inr (decide_eq_false (by omega))
      · exact .inl (decide_eq_false h)
    rw [this, Bool.or_false]
  | n + 1 => (MB.put (h.putN b n) (b + n)).congr fun x => by
    rw [Bool.or_assoc]
    congr 1
    rw [Bool.eq_iff_iff]
    simp only [Bool.or_eq_true, Bool.and_eq_true, decide_eq_true_eq]
    omega
def depM (m : List (Int × Bool)) (s : Spr) : List (Int × Bool) := if s.depot = true then putN m s.base s.slots.toNat else m
theorem MB.dep {m : List (Int × Bool)} {f : Int → Bool} (h : MB m f) (s : Spr) (hs : 0 ≤ s.slots) : MB (depM m s) (fun x => f x || inD x s) := by
  unfold depM inD
  cases s.depot
  · exact h.congr fun x => by simp
  · refine (h.putN s.base s.slots.toNat).congr fun x => ?_
    rw [Int.toNat_of_nonneg hs]; simp
theorem MB.deps {m : List (Int × Bool)} {f : Int → Bool} : ∀ (l : List Spr) (h : MB m f), (∀ s ∈ l, 0 ≤ s.slots) → MB (l.foldl depM m) (fun x => f x || l.any (inD x))
  | [], h, _ => h.congr fun x => by simp
  | s :: r, h, hs => by
    rw [List.foldl_cons]
    exact (MB.deps r (h.dep s (hs s (by simp))) (fun t ht => hs t (by simp [ht]))).congr fun x => by simp [Bool.or_assoc]
end Go.Am
end
