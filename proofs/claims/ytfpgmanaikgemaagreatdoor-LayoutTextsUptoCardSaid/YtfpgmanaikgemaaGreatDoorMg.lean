/- Texts of this proof, merged: Desc, Lfmt. -/
import Derived.Test.YtfpgmanaikgemaaGreatDoorMf
section
/- The reference's Describe. -/
namespace Go.Am
open Go Go.Proofs
set_option maxRecDepth 100000
set_option linter.unusedVariables false
set_option linter.unusedSimpArgs false
def bnm (n : Nt) (x : Int) : List UInt8 := (n.blocks.getD x.toNat blk0).name
def blkD (b : Blk) : Dc := ⟨1, 0, [b.name], [b.x, b.y]⟩
def lanD (n : Nt) (i : Nat) (x : Int) : Dc := ⟨2, 0, [(n.blocks.getD i blk0).name, bnm n x], []⟩
def lanL (n : Nt) (i : Nat) : List Dc := (n.next.getD i []).map (lanD n i)
def sprD (n : Nt) (s : Spr) : Dc := ⟨if s.depot then 4 else 3, 0, [s.name, bnm n s.inn, bnm n s.out], [s.slots]⟩
def inS (x : Int) (s : Spr) : Bool := decide (s.base ≤ x) && decide (x < s.base + s.slots)
def robD (r : Int) (s : Spr) : Dc := ⟨5, 0, [s.name], [r - s.base + 1]⟩
def robL (n : Nt) (r : Int) (k : Nat) : List Dc := ((n.spurs.take k).filter (inS r)).map (robD r)
def desc1 (n : Nt) : List Dc := n.blocks.map blkD
def desc2 (n : Nt) (i : Nat) : List Dc := (List.range i).flatMap (lanL n)
def desc3 (n : Nt) : List Dc := n.spurs.map (sprD n)
def desc4 (n : Nt) (i : Nat) : List Dc := (n.robots.take i).flatMap fun r => robL n r n.spurs.length
def desc0 (n : Nt) : List Dc := desc1 n ++ desc2 n n.blocks.length ++ desc3 n ++ desc4 n n.robots.length ++ [⟨6, 0, [], [n.cq, n.ca, n.cd, n.cp]⟩]
def numD : Nat → List Dc → List Dc
  | _, [] => []
  | i, x :: r => ⟨x.word, (i : Int) + 1, x.names, x.nums⟩ :: numD (i + 1) r
def descV (n : Nt) : List Dc := numD 0 (desc0 n)
theorem numD_len : ∀ (i : Nat) (l : List Dc), (numD i l).length = l.length
  | _, [] => rfl
  | i, _ :: r => by simp [numD, numD_len (i + 1) r]
theorem desc2_succ (n : Nt) (i : Nat) : desc2 n (i + 1) = desc2 n i ++ lanL n i := by simp [desc2, List.range_succ, List.flatMap_append]
theorem desc4_succ (n : Nt) (i : Nat) (h : i < n.robots.length) : desc4 n (i + 1) = desc4 n i ++ robL n (n.robots.getD i 0) n.spurs.length := by
  unfold desc4; rw [take_snoc n.robots i 0 h, List.flatMap_append]; simp
theorem robL_succ (n : Nt) (r : Int) (k : Nat) (h : k < n.spurs.length) : robL n r (k + 1) = robL n r k ++ (if inS r (n.spurs.getD k spr0) then [robD r (n.spurs.getD k spr0)] else []) := by
  unfold robL
  rw [take_snoc n.spurs k spr0 h, List.filter_append, List.map_append]
  generalize n.spurs.getD k spr0 = s
  cases hh : inS r s <;> simp [hh]
theorem encC_setx (l : List Dc) (i : Nat) (x : Dc) : encC (l.set i x) = (encC l).set i [.int .i64 x.word, .int .i64 x.line, .sl (encS x.names), .sl (encI x.nums)] := by simp [encC, List.map_set]
theorem numD_app : ∀ (i : Nat) (a b : List Dc), numD i (a ++ b) = numD i a ++ numD (i + a.length) b
  | _, [], _ => by simp [numD]
  | i, x :: r, b => by simp only [List.cons_append, numD, numD_app (i + 1) r b, List.length_cons]; rw [show i + 1 + r.length = i + (r.length + 1) by omega]
theorem numD_set (L : List Dc) (i : Nat) (h : i < L.length) : (numD 0 (L.take i) ++ L.drop i).set i ⟨(L.getD i dc0).word, (i : Int) + 1, (L.getD i dc0).names, (L.getD i dc0).nums⟩ = numD 0 (L.take (i + 1)) ++ L.drop (i + 1) := by
  rw [take_snoc L i dc0 h, numD_app, drop_getD L i dc0 h, List.set_append_right _ _ (by rw [numD_len]; simp; omega), numD_len, List.length_take, show min i L.length = i by omega]
  simp [numD]
set_option maxHeartbeats 1600000 in
theorem describe_ok (n : Nt) (hn : validN n) : ACalls Tryz.prog 7 [.agg n.cs] [] fun h r => h = [] ∧ r = .tup [.p (.sl (encC (descV n))), .p (.int .i64 0)] := by
  have hV := validN_ok n (small_of_valid hn)
  rw [decide_eq_true hn] at hV
  obtain ⟨⟨hb1, hb24, hnl, hrows⟩, hs6, hnm, hr8, hcf, hsp, hrb, hdp⟩ := hn
  refine ACalls_X Tryz.func7 rfl enters7 (by simp [Tryz.f7]) ?_
  simp only [go_sem, ↓reduceIte, Nat.reduceLT, Nat.reduceLeDiff, Nat.reduceEqDiff, Nat.reduceAdd, Nat.reduceMul, Nat.reduceSub, reduceCtorEq, Int.reduceLT, Int.reduceLE, Int.reduceEq, Int.reduceToNat, decide_true, decide_false, Int.reduceNeg, Int.cast_ofNat_Int, sg, AO.sg, Option.isNone_none, Nt.cs]
  refine Cc_of ((hV)) ?_
  rintro h' r ⟨rfl, rfl⟩
  simp only [go_sem, ↓reduceIte, Nat.reduceLT, Nat.reduceLeDiff, Nat.reduceEqDiff, Nat.reduceAdd, Nat.reduceMul, Nat.reduceSub, reduceCtorEq, Int.reduceLT, Int.reduceLE, Int.reduceEq, Int.reduceToNat, decide_true, decide_false, Int.reduceNeg, Int.cast_ofNat_Int, sg, AO.sg, Option.isNone_none]
  refine X_loop_inv (fun q : Nat × List Dc => ⟨[(1, .ptr 1 0), (4, .ref 43 0 q.2.length q.2.length), (5, .p (.int .i64 (q.1 : Nat)))], [(1, .box (Nt.cs n)), (43, .arr 72 4 (encC q.2))], 210⟩)
    (fun q => q.1 ≤ n.blocks.length ∧ q.2.length = q.1 ∧ q.2 = (n.blocks.take q.1).map blkD) (fun q => n.blocks.length - q.1) (0, []) ⟨Nat.zero_le _, rfl, rfl⟩ ((Wk.nil (t := 4) (q := 43) (sz := 4) 72 rfl rfl (by decide)).trans (Wk.forget (by simp [Le, LeE, LeH, get, envIds, hpIds, KeepH, D.ids, idsL, AO.ids, setL, base, Nt.cs, encC]))) ?_
  rintro ⟨i, acc⟩ m ⟨hi, hal, hacc⟩ ih
  simp only at hi hal hacc
  cases c1 : decide ((i : Int) < (n.blocks.length : Int))
  rotate_left
  · have hit : i < n.blocks.length := by have := of_decide_eq_true c1; omega
    have hw := wrap_succ i (by omega)
    have hg := encK_get n.blocks i hit
    have hi0 : (0 : Int) ≤ (i : Int) ∧ (i : Int) < (n.blocks.length : Int) := by omega
    have hts := take_snoc n.blocks i blk0 hit
    simp only [go_sem, ↓reduceIte, Nat.reduceLT, Nat.reduceLeDiff, Nat.reduceEqDiff, Nat.reduceAdd, Nat.reduceMul, Nat.reduceSub, reduceCtorEq, Int.reduceLT, Int.reduceLE, Int.reduceEq, Int.reduceToNat, decide_true, decide_false, Int.reduceNeg, Int.cast_ofNat_Int, sg, AO.sg, Option.isNone_none, Nt.cs, encK_len, c1, Int.toNat_natCast, hg, hi0, encC_len]
    refine ⟨⟨wid1 _ _ rfl, by omega⟩, ?_⟩
    simp only [go_sem, ↓reduceIte, Nat.reduceLT, Nat.reduceLeDiff, Nat.reduceEqDiff, Nat.reduceAdd, Nat.reduceMul, Nat.reduceSub, reduceCtorEq, Int.reduceLT, Int.reduceLE, Int.reduceEq, Int.reduceToNat, decide_true, decide_false, Int.reduceNeg, Int.cast_ofNat_Int, sg, AO.sg, Option.isNone_none, hw]
    refine ih (i + 1, acc ++ [blkD (n.blocks.getD i blk0)]) _ ⟨hit, by simp [hal], by simp only; rw [hts, List.map_append, hacc]; rfl⟩ (by simp only; omega) ?_
    (refine Wk.forget ?_; simp [Le, LeE, LeH, get, envIds, hpIds, KeepH, D.ids, idsL, AO.ids, setL, base, Nt.cs, encC_snoc, encC_len, blkD, encS, encI]; done)
  have hie : i = n.blocks.length := by have := of_decide_eq_false c1; omega
  subst hie
  rw [List.take_length] at hacc
  have hd1 : acc = desc1 n := hacc
  clear ih hacc
  simp only [go_sem, ↓reduceIte, Nat.reduceLT, Nat.reduceLeDiff, Nat.reduceEqDiff, Nat.reduceAdd, Nat.reduceMul, Nat.reduceSub, reduceCtorEq, Int.reduceLT, Int.reduceLE, Int.reduceEq, Int.reduceToNat, decide_true, decide_false, Int.reduceNeg, Int.cast_ofNat_Int, sg, AO.sg, Option.isNone_none, Nt.cs, encK_len, c1]
  refine X_loop_inv (fun q : Nat × List Dc => ⟨[(1, .ptr 1 0), (4, .ref 43 0 q.2.length q.2.length), (7, .p (.int .i64 (q.1 : Nat)))], [(1, .box (Nt.cs n)), (43, .arr 72 4 (encC q.2))], 210⟩)
    (fun q => q.1 ≤ n.blocks.length ∧ q.2.length ≤ 24 + 4 * q.1 ∧ q.2 = desc1 n ++ desc2 n q.1) (fun q => n.blocks.length - q.1) (0, acc) ⟨Nat.zero_le _, by simp only; omega, by simp [hd1, desc2]⟩ (Wk.forget (by simp [Le, LeE, LeH, get, envIds, hpIds, KeepH, D.ids, idsL, AO.ids, setL, base, Nt.cs, encC])) ?_
  rintro ⟨i, acc2⟩ m2 ⟨hi, hal2, hacc2⟩ ih
  simp only at hi hal2 hacc2
  cases c2 : decide ((i : Int) < (n.blocks.length : Int))
  rotate_left
  · have hit : i < n.blocks.length := by have := of_decide_eq_true c2; omega
    have hw := wrap_succ i (by omega)
    have hg := encK_get n.blocks i hit
    have hi0 : (0 : Int) ≤ (i : Int) ∧ (i : Int) < (n.blocks.length : Int) := by omega
    have hi1 : (0 : Int) ≤ (i : Int) ∧ (i : Int) < (n.next.length : Int) := by omega
    have hgn := encG_get n.next i (by omega)
    obtain ⟨_, hr4, hrow⟩ := hrows i hit
    have hlan : lanL n i = (n.next.getD i []).map (lanD n i) := rfl
    generalize n.next.getD i [] = row at *
    simp only [go_sem, ↓reduceIte, Nat.reduceLT, Nat.reduceLeDiff, Nat.reduceEqDiff, Nat.reduceAdd, Nat.reduceMul, Nat.reduceSub, reduceCtorEq, Int.reduceLT, Int.reduceLE, Int.reduceEq, Int.reduceToNat, decide_true, decide_false, Int.reduceNeg, Int.cast_ofNat_Int, sg, AO.sg, Option.isNone_none, Nt.cs, encK_len, c2]
    refine X_loop_inv (fun q : Nat × List Dc => ⟨[(1, .ptr 1 0), (4, .ref 43 0 q.2.length q.2.length), (7, .p (.int .i64 (i : Nat))), (8, .p (.int .i64 (q.1 : Nat)))], [(1, .box (Nt.cs n)), (43, .arr 72 4 (encC q.2))], 210⟩)
      (fun q => q.1 ≤ row.length ∧ q.2.length = acc2.length + q.1 ∧ q.2 = acc2 ++ (row.take q.1).map (lanD n i)) (fun q => row.length - q.1) (0, acc2) ⟨Nat.zero_le _, rfl, by simp⟩ (Wk.forget (by simp [Le, LeE, LeH, get, envIds, hpIds, KeepH, D.ids, idsL, AO.ids, setL, base, Nt.cs, encC])) ?_
    rintro ⟨k, acc3⟩ m3 ⟨hk, hal3, hacc3⟩ ih2
    simp only at hk hal3 hacc3
    cases c3 : decide ((k : Int) < (row.length : Int))
    · have hke : k = row.length := by have := of_decide_eq_false c3; omega
      subst hke
      simp only [go_sem, ↓reduceIte, Nat.reduceLT, Nat.reduceLeDiff, Nat.reduceEqDiff, Nat.reduceAdd, Nat.reduceMul, Nat.reduceSub, reduceCtorEq, Int.reduceLT, Int.reduceLE, Int.reduceEq, Int.reduceToNat, decide_true, decide_false, Int.reduceNeg, Int.cast_ofNat_Int, sg, AO.sg, Option.isNone_none, Nt.cs, encG_len, encI_len, Int.toNat_natCast, hgn, hi1, c3, hw]
      refine ih (i + 1, acc3) _ ⟨hit, by simp only; omega, by simp only; rw [hacc3, List.take_length, desc2_succ, hlan, hacc2, List.append_assoc]⟩ (by simp only; omega) ?_
      (refine Wk.forget ?_; simp [Le, LeE, LeH, get, envIds, hpIds, KeepH, D.ids, idsL, AO.ids, setL, base, Nt.cs]; done)
    have hkt : k < row.length := by have := of_decide_eq_true c3; omega
    have hwk := wrap_succ k (by omega)
    have hk0 : (0 : Int) ≤ (k : Int) ∧ (k : Int) < (row.length : Int) := by omega
    have hro := hrow k hkt
    obtain ⟨x, hx⟩ : ∃ x : Nat, row.getD k 0 = (x : Int) := ⟨(row.getD k 0).toNat, by have := hro.1; omega⟩
    have hxb : x < n.blocks.length := by have := hro.2.1; omega
    have hgk := encI_get row k hkt
    rw [hx] at hgk
    have hgx := encK_get n.blocks x hxb
    have hx0 : (0 : Int) ≤ (x : Int) ∧ (x : Int) < (n.blocks.length : Int) := by omega
    have hts := take_snoc row k 0 hkt
    rw [hx] at hts
    simp only [go_sem, ↓reduceIte, Nat.reduceLT, Nat.reduceLeDiff, Nat.reduceEqDiff, Nat.reduceAdd, Nat.reduceMul, Nat.reduceSub, reduceCtorEq, Int.reduceLT, Int.reduceLE, Int.reduceEq, Int.reduceToNat, decide_true, decide_false, Int.reduceNeg, Int.cast_ofNat_Int, sg, AO.sg, Option.isNone_none, Nt.cs, encG_len, encI_len, Int.toNat_natCast, hgn, hi1, c3]
    refine X_any [(1, .box (Nt.cs n))] mixed (p := [(0, 0), (1, 0), (2, 0), (3, 0), (4, 0), (5, 0), (6, 0), (7, 0), (8, 0), (9, 0), (10, 0), (11, 0), (12, 0), (13, 0), (14, 0), (15, 0), (16, 0), (17, 0), (18, 0), (19, 0), (20, 1), (21, 0), (22, 2), (23, 2), (24, 0)]) (by kernel_rfl) (by simp [LeH, get, Nt.cs]) ?_
    simp only [go_sem, ↓reduceIte, Nat.reduceLT, Nat.reduceLeDiff, Nat.reduceEqDiff, Nat.reduceAdd, Nat.reduceMul, Nat.reduceSub, reduceCtorEq, Int.reduceLT, Int.reduceLE, Int.reduceEq, Int.reduceToNat, decide_true, decide_false, Int.reduceNeg, Int.cast_ofNat_Int, sg, AO.sg, Option.isNone_none, Nt.cs, encK_len, encG_len, encI_len, Int.toNat_natCast, hgn, hi1, hg, hi0, hgk, hk0, hgx, hx0, encC_len]
    refine ⟨⟨wid1 _ _ rfl, by omega⟩, ?_⟩
    simp only [go_sem, ↓reduceIte, Nat.reduceLT, Nat.reduceLeDiff, Nat.reduceEqDiff, Nat.reduceAdd, Nat.reduceMul, Nat.reduceSub, reduceCtorEq, Int.reduceLT, Int.reduceLE, Int.reduceEq, Int.reduceToNat, decide_true, decide_false, Int.reduceNeg, Int.cast_ofNat_Int, sg, AO.sg, Option.isNone_none, hwk]
    refine ih2 (k + 1, acc3 ++ [lanD n i (x : Int)]) _ ⟨hkt, by simp; omega, by simp only; rw [hts, List.map_append, hacc3, List.append_assoc]; rfl⟩ (by simp only; omega) ?_
    (refine Wk.forget ?_; simp [Le, LeE, LeH, get, envIds, hpIds, KeepH, D.ids, idsL, AO.ids, setL, base, Nt.cs, encC_snoc, encC_len, lanD, bnm, encS, encI]; done)
  have hie : i = n.blocks.length := by have := of_decide_eq_false c2; omega
  subst hie
  clear ih
  simp only [go_sem, ↓reduceIte, Nat.reduceLT, Nat.reduceLeDiff, Nat.reduceEqDiff, Nat.reduceAdd, Nat.reduceMul, Nat.reduceSub, reduceCtorEq, Int.reduceLT, Int.reduceLE, Int.reduceEq, Int.reduceToNat, decide_true, decide_false, Int.reduceNeg, Int.cast_ofNat_Int, sg, AO.sg, Option.isNone_none, Nt.cs, encK_len, c2]
  refine X_loop_inv (fun q : Nat × List Dc => ⟨[(1, .ptr 1 0), (4, .ref 43 0 q.2.length q.2.length), (9, .p (.int .i64 (q.1 : Nat)))], [(1, .box (Nt.cs n)), (43, .arr 72 4 (encC q.2))], 210⟩)
    (fun q => q.1 ≤ n.spurs.length ∧ q.2.length ≤ 200 + q.1 ∧ q.2 = desc1 n ++ desc2 n n.blocks.length ++ (n.spurs.take q.1).map (sprD n)) (fun q => n.spurs.length - q.1) (0, acc2) ⟨Nat.zero_le _, by simp only; omega, by simp [hacc2]⟩ (Wk.forget (by simp [Le, LeE, LeH, get, envIds, hpIds, KeepH, D.ids, idsL, AO.ids, setL, base, Nt.cs, encC])) ?_
  rintro ⟨i, acc3⟩ m4 ⟨hi2, hal3, hacc3⟩ ih
  simp only at hi2 hal3 hacc3
  cases c4 : decide ((i : Int) < (n.spurs.length : Int))
  rotate_left
  · have hit : i < n.spurs.length := by have := of_decide_eq_true c4; omega
    have hw := wrap_succ i (by omega)
    have hg := encP_get n.spurs i hit
    have hi0 : (0 : Int) ≤ (i : Int) ∧ (i : Int) < (n.spurs.length : Int) := by omega
    have hts := take_snoc n.spurs i spr0 hit
    obtain ⟨g1, g2, g3, g4, _⟩ := hsp i hit
    generalize n.spurs.getD i spr0 = s at *
    obtain ⟨nm, dp, inn, out, sl, bs⟩ := s
    simp only at g1 g2 g3 g4
    obtain ⟨x, rfl⟩ : ∃ x : Nat, inn = (x : Int) := ⟨inn.toNat, by omega⟩
    obtain ⟨y, rfl⟩ : ∃ y : Nat, out = (y : Int) := ⟨out.toNat, by omega⟩
    have hgx := encK_get n.blocks x (by omega)
    have hgy := encK_get n.blocks y (by omega)
    have hx0 : (0 : Int) ≤ (x : Int) ∧ (x : Int) < (n.blocks.length : Int) := by omega
    have hy0 : (0 : Int) ≤ (y : Int) ∧ (y : Int) < (n.blocks.length : Int) := by omega
    simp only [go_sem, ↓reduceIte, Nat.reduceLT, Nat.reduceLeDiff, Nat.reduceEqDiff, Nat.reduceAdd, Nat.reduceMul, Nat.reduceSub, reduceCtorEq, Int.reduceLT, Int.reduceLE, Int.reduceEq, Int.reduceToNat, decide_true, decide_false, Int.reduceNeg, Int.cast_ofNat_Int, sg, AO.sg, Option.isNone_none, Nt.cs, encP_len, c4, Int.toNat_natCast, hg, hi0]
    refine X_any0 mixed (p := [(0, 0), (1, 0), (2, 0), (3, 0), (4, 0), (5, 0), (6, 0), (7, 0), (8, 0), (9, 0), (10, 0), (11, 0), (12, 0), (13, 0), (14, 0), (15, 0), (17, 0), (18, 0), (16, 1), (19, 1), (20, 0), (21, 1), (22, 3)]) (by kernel_rfl) (by simp [LeH, get]) ?_
    simp only [go_sem, ↓reduceIte, Nat.reduceLT, Nat.reduceLeDiff, Nat.reduceEqDiff, Nat.reduceAdd, Nat.reduceMul, Nat.reduceSub, reduceCtorEq, Int.reduceLT, Int.reduceLE, Int.reduceEq, Int.reduceToNat, decide_true, decide_false, Int.reduceNeg, Int.cast_ofNat_Int, sg, AO.sg, Option.isNone_none, Nt.cs, encK_len, Int.toNat_natCast, hgx, hgy, hx0, hy0]
    cases dp
    · simp only [go_sem, ↓reduceIte, Nat.reduceLT, Nat.reduceLeDiff, Nat.reduceEqDiff, Nat.reduceAdd, Nat.reduceMul, Nat.reduceSub, reduceCtorEq, Int.reduceLT, Int.reduceLE, Int.reduceEq, Int.reduceToNat, decide_true, decide_false, Int.reduceNeg, Int.cast_ofNat_Int, sg, AO.sg, Option.isNone_none, encC_len]
      refine ⟨⟨wid1 _ _ rfl, by omega⟩, ?_⟩
      simp only [go_sem, ↓reduceIte, Nat.reduceLT, Nat.reduceLeDiff, Nat.reduceEqDiff, Nat.reduceAdd, Nat.reduceMul, Nat.reduceSub, reduceCtorEq, Int.reduceLT, Int.reduceLE, Int.reduceEq, Int.reduceToNat, decide_true, decide_false, Int.reduceNeg, Int.cast_ofNat_Int, sg, AO.sg, Option.isNone_none, hw]
      refine ih (i + 1, acc3 ++ [sprD n ⟨nm, false, (x : Int), (y : Int), sl, bs⟩]) _ ⟨hit, by simp; omega, by simp only; rw [hts, List.map_append, hacc3, List.append_assoc]; rfl⟩ (by simp only; omega) ?_
      (refine Wk.forget ?_; simp [Le, LeE, LeH, get, envIds, hpIds, KeepH, D.ids, idsL, AO.ids, setL, base, Nt.cs, encC_snoc, encC_len, sprD, bnm, encS, encI]; done)
    · simp only [go_sem, ↓reduceIte, Nat.reduceLT, Nat.reduceLeDiff, Nat.reduceEqDiff, Nat.reduceAdd, Nat.reduceMul, Nat.reduceSub, reduceCtorEq, Int.reduceLT, Int.reduceLE, Int.reduceEq, Int.reduceToNat, decide_true, decide_false, Int.reduceNeg, Int.cast_ofNat_Int, sg, AO.sg, Option.isNone_none, encC_len]
      refine ⟨⟨wid1 _ _ rfl, by omega⟩, ?_⟩
      simp only [go_sem, ↓reduceIte, Nat.reduceLT, Nat.reduceLeDiff, Nat.reduceEqDiff, Nat.reduceAdd, Nat.reduceMul, Nat.reduceSub, reduceCtorEq, Int.reduceLT, Int.reduceLE, Int.reduceEq, Int.reduceToNat, decide_true, decide_false, Int.reduceNeg, Int.cast_ofNat_Int, sg, AO.sg, Option.isNone_none, hw]
      refine ih (i + 1, acc3 ++ [sprD n ⟨nm, true, (x : Int), (y : Int), sl, bs⟩]) _ ⟨hit, by simp; omega, by simp only; rw [hts, List.map_append, hacc3, List.append_assoc]; rfl⟩ (by simp only; omega) ?_
      (refine Wk.forget ?_; simp [Le, LeE, LeH, get, envIds, hpIds, KeepH, D.ids, idsL, AO.ids, setL, base, Nt.cs, encC_snoc, encC_len, sprD, bnm, encS, encI]; done)
  have hie : i = n.spurs.length := by have := of_decide_eq_false c4; omega
  subst hie
  clear ih
  simp only [go_sem, ↓reduceIte, Nat.reduceLT, Nat.reduceLeDiff, Nat.reduceEqDiff, Nat.reduceAdd, Nat.reduceMul, Nat.reduceSub, reduceCtorEq, Int.reduceLT, Int.reduceLE, Int.reduceEq, Int.reduceToNat, decide_true, decide_false, Int.reduceNeg, Int.cast_ofNat_Int, sg, AO.sg, Option.isNone_none, Nt.cs, encP_len, c4]
  have hd3e : acc3 = desc1 n ++ desc2 n n.blocks.length ++ desc3 n := by rw [hacc3, List.take_length]; rfl
  have hd3 : True := trivial
  have hbnd : ∀ k, k < n.spurs.length → 0 ≤ (n.spurs.getD k spr0).base ∧ (n.spurs.getD k spr0).base ≤ 1000 ∧ 1 ≤ (n.spurs.getD k spr0).slots ∧ (n.spurs.getD k spr0).slots ≤ 4 := fun k hk => by
    have h3 := hsp k hk
    have h4 := sumS_rng n.blocks.length n.spurs k (by omega) (fun j hj => hsp j (by omega))
    obtain ⟨_, _, _, _, h5, h6, h7⟩ := h3
    omega
  refine X_loop_inv (fun q : Nat × List Dc => ⟨[(1, .ptr 1 0), (4, .ref 43 0 q.2.length q.2.length), (12, .p (.int .i64 (q.1 : Nat)))], [(1, .box (Nt.cs n)), (43, .arr 72 4 (encC q.2))], 210⟩)
    (fun q => q.1 ≤ n.robots.length ∧ q.2.length ≤ 300 + 6 * q.1 ∧ q.2 = acc3 ++ desc4 n q.1) (fun q => n.robots.length - q.1) (0, acc3) ⟨Nat.zero_le _, by simp only; omega, by simp [desc4]⟩ (Wk.forget (by simp [Le, LeE, LeH, get, envIds, hpIds, KeepH, D.ids, idsL, AO.ids, setL, base, Nt.cs, encC])) ?_
  rintro ⟨i, acc4⟩ m5 ⟨hi3, hal4, hacc4⟩ ih
  simp only at hi3 hal4 hacc4
  cases c5 : decide ((i : Int) < (n.robots.length : Int))
  rotate_left
  · have hit : i < n.robots.length := by have := of_decide_eq_true c5; omega
    have hw := wrap_succ i (by omega)
    have hgr := encI_get n.robots i hit
    have hi0 : (0 : Int) ≤ (i : Int) ∧ (i : Int) < (n.robots.length : Int) := by omega
    have hd4 := desc4_succ n i hit
    have hrng : ∃ s ∈ n.spurs, inD (n.robots.getD i 0) s = true := List.any_eq_true.1 (hrb i hit).1
    generalize n.robots.getD i 0 = x at *
    simp only [go_sem, ↓reduceIte, Nat.reduceLT, Nat.reduceLeDiff, Nat.reduceEqDiff, Nat.reduceAdd, Nat.reduceMul, Nat.reduceSub, reduceCtorEq, Int.reduceLT, Int.reduceLE, Int.reduceEq, Int.reduceToNat, decide_true, decide_false, Int.reduceNeg, Int.cast_ofNat_Int, sg, AO.sg, Option.isNone_none, Nt.cs, encI_len, c5]
    refine X_loop_inv (fun q : Nat × List Dc => ⟨[(1, .ptr 1 0), (4, .ref 43 0 q.2.length q.2.length), (12, .p (.int .i64 (i : Nat))), (13, .p (.int .i64 (q.1 : Nat)))], [(1, .box (Nt.cs n)), (43, .arr 72 4 (encC q.2))], 210⟩)
      (fun q => q.1 ≤ n.spurs.length ∧ q.2.length ≤ acc4.length + q.1 ∧ q.2 = acc4 ++ robL n x q.1) (fun q => n.spurs.length - q.1) (0, acc4) ⟨Nat.zero_le _, by simp, by simp [robL]⟩ (Wk.forget (by simp [Le, LeE, LeH, get, envIds, hpIds, KeepH, D.ids, idsL, AO.ids, setL, base, Nt.cs, encC])) ?_
    rintro ⟨k, acc5⟩ m6 ⟨hk, hal5, hacc5⟩ ih2
    simp only at hk hal5 hacc5
    cases c6 : decide ((k : Int) < (n.spurs.length : Int))
    · have hke : k = n.spurs.length := by have := of_decide_eq_false c6; omega
      subst hke
      simp only [go_sem, ↓reduceIte, Nat.reduceLT, Nat.reduceLeDiff, Nat.reduceEqDiff, Nat.reduceAdd, Nat.reduceMul, Nat.reduceSub, reduceCtorEq, Int.reduceLT, Int.reduceLE, Int.reduceEq, Int.reduceToNat, decide_true, decide_false, Int.reduceNeg, Int.cast_ofNat_Int, sg, AO.sg, Option.isNone_none, Nt.cs, encP_len, c6, hw]
      refine ih (i + 1, acc5) _ ⟨hit, by simp only; omega, by simp only; rw [hacc5, hd4, hacc4, List.append_assoc]⟩ (by simp only; omega) ?_
      (refine Wk.forget ?_; simp [Le, LeE, LeH, get, envIds, hpIds, KeepH, D.ids, idsL, AO.ids, setL, base, Nt.cs]; done)
    have hkt : k < n.spurs.length := by have := of_decide_eq_true c6; omega
    have hwk := wrap_succ k (by omega)
    have hgk := encP_get n.spurs k hkt
    have hk0 : (0 : Int) ≤ (k : Int) ∧ (k : Int) < (n.spurs.length : Int) := by omega
    have hb := hbnd k hkt
    have hrs := robL_succ n x k hkt
    generalize n.spurs.getD k spr0 = s at *
    obtain ⟨nm, dp, inn, out, sl, bs⟩ := s
    simp only at hb
    have hwb : IntKind.i64.wrap (bs + sl) = bs + sl := by rw [wrap_i64_id] <;> omega
    simp only [go_sem, ↓reduceIte, Nat.reduceLT, Nat.reduceLeDiff, Nat.reduceEqDiff, Nat.reduceAdd, Nat.reduceMul, Nat.reduceSub, reduceCtorEq, Int.reduceLT, Int.reduceLE, Int.reduceEq, Int.reduceToNat, decide_true, decide_false, Int.reduceNeg, Int.cast_ofNat_Int, sg, AO.sg, Option.isNone_none, Nt.cs, encP_len, c6, Int.toNat_natCast, hgk, hk0]
    refine X_any0 mixed (p := [(0, 0), (1, 0), (2, 0), (3, 0), (4, 0), (5, 0), (6, 0), (7, 0), (8, 0), (9, 0), (10, 0), (11, 0), (12, 0), (13, 0), (14, 0), (15, 0), (16, 0), (17, 0), (18, 0), (19, 0), (20, 0)]) (by kernel_rfl) (by simp [LeH, get]) ?_
    cases c7 : decide (bs ≤ x)
    · simp only [go_sem, ↓reduceIte, Nat.reduceLT, Nat.reduceLeDiff, Nat.reduceEqDiff, Nat.reduceAdd, Nat.reduceMul, Nat.reduceSub, reduceCtorEq, Int.reduceLT, Int.reduceLE, Int.reduceEq, Int.reduceToNat, decide_true, decide_false, Int.reduceNeg, Int.cast_ofNat_Int, sg, AO.sg, Option.isNone_none, Nt.cs, encI_len, Int.toNat_natCast, hgr, hi0, c7, hwk]
      refine ih2 (k + 1, acc5) _ ⟨hkt, by simp only; omega, by simp only; rw [hrs, hacc5]; simp [inS, c7]⟩ (by simp only; omega) ?_
      (refine Wk.forget ?_; simp [Le, LeE, LeH, get, envIds, hpIds, KeepH, D.ids, idsL, AO.ids, setL, base, Nt.cs]; done)
    cases c8 : decide (x < bs + sl)
    · simp only [go_sem, ↓reduceIte, Nat.reduceLT, Nat.reduceLeDiff, Nat.reduceEqDiff, Nat.reduceAdd, Nat.reduceMul, Nat.reduceSub, reduceCtorEq, Int.reduceLT, Int.reduceLE, Int.reduceEq, Int.reduceToNat, decide_true, decide_false, Int.reduceNeg, Int.cast_ofNat_Int, sg, AO.sg, Option.isNone_none, Nt.cs, encI_len, Int.toNat_natCast, hgr, hi0, c7, hwb, c8, hwk]
      refine ih2 (k + 1, acc5) _ ⟨hkt, by simp only; omega, by simp only; rw [hrs, hacc5]; simp [inS, c7, c8]⟩ (by simp only; omega) ?_
      (refine Wk.forget ?_; simp [Le, LeE, LeH, get, envIds, hpIds, KeepH, D.ids, idsL, AO.ids, setL, base, Nt.cs]; done)
    have hx1 := of_decide_eq_true c7
    have hx2 := of_decide_eq_true c8
    have hwd : IntKind.i64.wrap (x - bs) = x - bs := by rw [wrap_i64_id] <;> omega
    have hwe : IntKind.i64.wrap (x - bs + 1) = x - bs + 1 := by rw [wrap_i64_id] <;> omega
    simp only [go_sem, ↓reduceIte, Nat.reduceLT, Nat.reduceLeDiff, Nat.reduceEqDiff, Nat.reduceAdd, Nat.reduceMul, Nat.reduceSub, reduceCtorEq, Int.reduceLT, Int.reduceLE, Int.reduceEq, Int.reduceToNat, decide_true, decide_false, Int.reduceNeg, Int.cast_ofNat_Int, sg, AO.sg, Option.isNone_none, Nt.cs, encI_len, Int.toNat_natCast, hgr, hi0, c7, hwb, c8]
    refine X_any [(1, .box (Nt.cs n)), (14, .box [.p (.str nm), .p (.bool dp), .p (.int .i64 inn), .p (.int .i64 out), .p (.int .i64 sl), .p (.int .i64 bs)])] mixed (p := [(0, 0), (1, 0), (2, 0), (4, 0), (5, 0), (6, 0), (7, 0), (8, 0), (9, 0), (10, 0), (11, 0), (12, 0), (3, 1), (13, 1), (14, 0), (15, 2), (16, 2), (17, 0)]) (by kernel_rfl) (by simp [LeH, get, Nt.cs]) ?_
    simp only [go_sem, ↓reduceIte, Nat.reduceLT, Nat.reduceLeDiff, Nat.reduceEqDiff, Nat.reduceAdd, Nat.reduceMul, Nat.reduceSub, reduceCtorEq, Int.reduceLT, Int.reduceLE, Int.reduceEq, Int.reduceToNat, decide_true, decide_false, Int.reduceNeg, Int.cast_ofNat_Int, sg, AO.sg, Option.isNone_none, Nt.cs, encI_len, Int.toNat_natCast, hgr, hi0, hwd, hwe, encC_len]
    refine ⟨⟨wid1 _ _ rfl, by omega⟩, ?_⟩
    simp only [go_sem, ↓reduceIte, Nat.reduceLT, Nat.reduceLeDiff, Nat.reduceEqDiff, Nat.reduceAdd, Nat.reduceMul, Nat.reduceSub, reduceCtorEq, Int.reduceLT, Int.reduceLE, Int.reduceEq, Int.reduceToNat, decide_true, decide_false, Int.reduceNeg, Int.cast_ofNat_Int, sg, AO.sg, Option.isNone_none, hwk]
    refine ih2 (k + 1, acc5 ++ [robD x ⟨nm, dp, inn, out, sl, bs⟩]) _ ⟨hkt, by simp; omega, by simp only; rw [hrs, hacc5]; simp [inS, c7, c8]⟩ (by simp only; omega) ?_
    (refine Wk.forget ?_; simp [Le, LeE, LeH, get, envIds, hpIds, KeepH, D.ids, idsL, AO.ids, setL, base, Nt.cs, encC_snoc, encC_len, robD, encS, encI]; done)
  have hie : i = n.robots.length := by have := of_decide_eq_false c5; omega
  subst hie
  clear ih
  simp only [go_sem, ↓reduceIte, Nat.reduceLT, Nat.reduceLeDiff, Nat.reduceEqDiff, Nat.reduceAdd, Nat.reduceMul, Nat.reduceSub, reduceCtorEq, Int.reduceLT, Int.reduceLE, Int.reduceEq, Int.reduceToNat, decide_true, decide_false, Int.reduceNeg, Int.cast_ofNat_Int, sg, AO.sg, Option.isNone_none, Nt.cs, encI_len, c5, encC_len]
  refine ⟨⟨wid1 _ _ rfl, by omega⟩, ?_⟩
  have hd0 : acc4 ++ [⟨6, 0, [], [n.cq, n.ca, n.cd, n.cp]⟩] = desc0 n := by rw [hacc4, hd3e]; rfl
  have hLn : (desc0 n).length ≤ 400 := by rw [← hd0]; simp; omega
  have hdv : numD 0 (desc0 n) = descV n := rfl
  generalize desc0 n = L at *
  refine X_loop_inv (fun q : Nat × List Dc => ⟨[(4, .ref 43 0 q.2.length q.2.length), (16, .p (.int .i64 (q.1 : Nat)))], [(43, .arr 72 4 (encC q.2))], 210⟩)
    (fun q => q.1 ≤ L.length ∧ q.2 = numD 0 (L.take q.1) ++ L.drop q.1) (fun q => L.length - q.1) (0, L) ⟨Nat.zero_le _, by simp [numD]⟩ (Wk.forget (by simp [Le, LeE, LeH, get, envIds, hpIds, KeepH, D.ids, idsL, AO.ids, setL, base, ← hd0, encC_snoc, encS, encI, encC_len])) ?_
  rintro ⟨i, o⟩ m7 ⟨hi4, ho⟩ ih
  simp only at hi4 ho
  have hol : o.length = L.length := by rw [ho]; simp [numD_len]; omega
  cases c9 : decide ((i : Int) < (L.length : Int))
  · have hie : i = L.length := by have := of_decide_eq_false c9; omega
    subst hie
    simp only [go_sem, ↓reduceIte, Nat.reduceLT, Nat.reduceLeDiff, Nat.reduceEqDiff, Nat.reduceAdd, Nat.reduceMul, Nat.reduceSub, reduceCtorEq, Int.reduceLT, Int.reduceLE, Int.reduceEq, Int.reduceToNat, decide_true, decide_false, Int.reduceNeg, Int.cast_ofNat_Int, sg, AO.sg, Option.isNone_none, encC_len, hol, c9]
    refine end_pure ?_
    simp only [go_sem, ↓reduceIte, Nat.reduceLT, Nat.reduceLeDiff, Nat.reduceEqDiff, Nat.reduceAdd, Nat.reduceMul, Nat.reduceSub, reduceCtorEq, Int.reduceLT, Int.reduceLE, Int.reduceEq, Int.reduceToNat, decide_true, decide_false, Int.reduceNeg, Int.cast_ofNat_Int, sg, AO.sg, Option.isNone_none]
    rw [List.take_length, List.drop_length, List.append_nil] at ho
    subst ho
    rw [← hdv, List.take_of_length_le (by rw [encC_len]; omega)]
    try exact ⟨by rw [encC_len]; omega, rfl⟩
  · have hit : i < L.length := by have := of_decide_eq_true c9; omega
    have hw := wrap_succ i (by omega)
    have hi0 : (0 : Int) ≤ (i : Int) ∧ (i : Int) < (L.length : Int) := by omega
    have hgx := encC_get o i (by omega)
    have hox : o.getD i dc0 = L.getD i dc0 := by
      rw [ho, List.getD, List.getElem?_append_right (by rw [numD_len, List.length_take]; omega), List.getElem?_drop, numD_len, List.length_take, List.getD]
      congr 2; omega
    rw [hox] at hgx
    have hset := numD_set L i hit
    rw [← ho] at hset
    generalize L.getD i dc0 = x at *
    simp only [go_sem, ↓reduceIte, Nat.reduceLT, Nat.reduceLeDiff, Nat.reduceEqDiff, Nat.reduceAdd, Nat.reduceMul, Nat.reduceSub, reduceCtorEq, Int.reduceLT, Int.reduceLE, Int.reduceEq, Int.reduceToNat, decide_true, decide_false, Int.reduceNeg, Int.cast_ofNat_Int, sg, AO.sg, Option.isNone_none, encC_len, hol, c9, Int.toNat_natCast, hi0, hgx, hw]
    refine ih (i + 1, o.set i ⟨x.word, (i : Int) + 1, x.names, x.nums⟩) _ ⟨hit, hset⟩ (by simp only; omega) ?_
    (refine Wk.forget ?_; simp [Le, LeE, LeH, get, envIds, hpIds, KeepH, D.ids, idsL, AO.ids, setL, base, encC_setx, encC_len, hol]; done)
end Go.Am
end

section
/- LayoutFormats, as a contract. -/
namespace Go.Am
open Go Go.Proofs
set_option maxRecDepth 100000
set_option linter.unusedVariables false
set_option linter.unusedSimpArgs false
def smallD (d : List Dc) : Prop := d.length ≤ 2000000 ∧ ∀ x ∈ d, x.names.length ≤ 2000000 ∧ x.nums.length ≤ 2000000
theorem fmtV_small (k : Nat) : ∀ (d : List Dc) (acc : List Ln), (∀ x ∈ d, x.names.length ≤ k ∧ x.nums.length ≤ k) → (∀ x ∈ acc, x.fs.length ≤ 1 + 2 * k) → (fmtV d acc).1.length ≤ acc.length + d.length ∧ ∀ x ∈ (fmtV d acc).1, x.fs.length ≤ 1 + 2 * k
  | [], acc, _, h => by simpa [fmtV] using h
  | x :: r, acc, hd, h => by
    simp only [fmtV]
    split
    · have hx := hd x (by simp)
      have ih := fmtV_small k r (acc ++ [⟨x.line, formLine x⟩]) (fun y hy => hd y (by simp [hy])) (fun y hy => by
        rcases List.mem_append.1 hy with h1 | h1
        · exact h y h1
        · simp only [List.mem_singleton] at h1; subst h1; simp [formLine]; omega)
      simp only [List.length_append, List.length_cons, List.length_nil] at ih ⊢
      exact ⟨by omega, ih.2⟩
    · simp
theorem numD_mem : ∀ (i : Nat) (l : List Dc) (x : Dc), x ∈ numD i l → ∃ y ∈ l, x.names = y.names ∧ x.nums = y.nums
  | _, [], x, h => by simp [numD] at h
  | i, y :: r, x, h => by
    simp only [numD, List.mem_cons] at h
    rcases h with rfl | h
    · exact ⟨y, by simp, rfl, rfl⟩
    · obtain ⟨z, hz, h1⟩ := numD_mem (i + 1) r x h
      exact ⟨z, by simp [hz], h1⟩
theorem flatMap_len {α β : Type} (f : α → List β) (k : Nat) : ∀ l : List α, (∀ x ∈ l, (f x).length ≤ k) → (l.flatMap f).length ≤ l.length * k
  | [], _ => by simp
  | x :: r, h => by
    have h1 := h x (by simp)
    have h2 := flatMap_len f k r (fun y hy => h y (by simp [hy]))
    simp only [List.flatMap_cons, List.length_append, List.length_cons, Nat.add_mul, Nat.one_mul]; omega
theorem descV_small (n : Nt) (hn : validN n) : smallD (descV n) := by
  obtain ⟨⟨hb1, hb24, hnl, hrows⟩, hs6, hnm, hr8, hcf, hsp, hrb, hdp⟩ := hn
  have hl2 : (desc2 n n.blocks.length).length ≤ n.blocks.length * 4 := by
    have := flatMap_len (lanL n) 4 (List.range n.blocks.length) (fun i hi => by
      have := (hrows i (List.mem_range.1 hi)).2.1
      simp only [lanL, List.length_map]; omega)
    simpa [desc2] using this
  have hl4 : (desc4 n n.robots.length).length ≤ n.robots.length * 6 := by
    have := flatMap_len (fun r => robL n r n.spurs.length) 6 (n.robots.take n.robots.length) (fun r _ => by
      simp only [robL, List.length_map]
      exact Nat.le_trans (List.length_filter_le _ _) (by simp; omega))
    simpa [desc4] using this
  have hmem : ∀ x ∈ desc0 n, x.names.length ≤ 3 ∧ x.nums.length ≤ 4 := by
    intro x hx
    simp only [desc0, List.mem_append, List.mem_singleton] at hx
    rcases hx with (((hx | hx) | hx) | hx) | rfl
    · obtain ⟨b, _, rfl⟩ := List.mem_map.1 hx; simp [blkD]
    · obtain ⟨i, _, hx⟩ := List.mem_flatMap.1 hx
      obtain ⟨y, _, rfl⟩ := List.mem_map.1 hx; simp [lanD]
    · obtain ⟨b, _, rfl⟩ := List.mem_map.1 hx; simp [sprD]
    · obtain ⟨r, _, hx⟩ := List.mem_flatMap.1 hx
      obtain ⟨y, _, rfl⟩ := List.mem_map.1 hx; simp [robD]
    · simp
  refine ⟨?_, fun x hx => ?_⟩
  · have : (desc0 n).length ≤ 2000000 := by
      simp only [desc0, List.length_append, desc1, desc3, List.length_map, List.length_cons, List.length_nil]; omega
    simpa [descV, numD_len] using this
  · obtain ⟨y, hy, h1, h2⟩ := numD_mem 0 _ x hx
    have := hmem y hy
    rw [h1, h2]; omega
end Go.Am
end
