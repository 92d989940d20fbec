/- The reference's slots and fleet. -/
import Derived.Test.YtefdjkakojfhnaaDoorGirx
namespace Go.Am
open Go Go.Proofs
set_option maxRecDepth 100000
set_option linter.unusedVariables false
set_option linter.unusedSimpArgs false
def cellsV (n : Nt) : Int := (n.blocks.length : Int) + sumS n.spurs
theorem sumS_mono {nb : Nat} {l : List Spr} (h : spursP nb l) : ∀ (k i : Nat), i + k ≤ l.length → sumS (l.take i) ≤ sumS (l.take (i + k))
  | 0, _, _ => Int.le_refl _
  | k + 1, i, hk => by
    have h1 := sumS_mono h k i (by omega)
    have h2 := h (i + k) (by omega)
    obtain ⟨_, _, _, _, h5, _, _⟩ := h2
    rw [show i + (k + 1) = (i + k) + 1 by omega, take_snoc l (i + k) spr0 (by omega), sumS_snoc]
    omega
theorem spur_rng {nb : Nat} {l : List Spr} (h : spursP nb l) {i : Nat} (hi : i < l.length) :
    (nb : Int) ≤ (l.getD i spr0).base ∧ (l.getD i spr0).base + (l.getD i spr0).slots ≤ (nb : Int) + sumS l ∧ (l.getD i spr0).base = (nb : Int) + sumS (l.take i) := by
  obtain ⟨_, _, _, _, h5, h6, h7⟩ := h i hi
  have h1 := sumS_rng nb l i (by omega) (fun j hj => h j (by omega))
  have h2 := sumS_mono h (l.length - (i + 1)) (i + 1) (by omega)
  rw [show i + 1 + (l.length - (i + 1)) = l.length by omega, List.take_length, take_snoc l i spr0 hi, sumS_snoc] at h2
  omega
theorem sumS_all {nb : Nat} {l : List Spr} (h : spursP nb l) : 0 ≤ sumS l ∧ sumS l ≤ 4 * l.length := by
  have := sumS_rng nb l l.length (Nat.le_refl _) h
  rw [List.take_length] at this
  exact this
theorem cells_ok (n : Nt) (hn : validN n) : ACalls Tryd.prog 71 [.agg n.cs] [] fun h r => h = [] ∧ r = .p (.int .i64 (cellsV n)) := by
  obtain ⟨e1, e2, e3, e4, e5, hsp, e7, e8⟩ := hn
  have hb24 := e1.2.1
  refine ACalls_X Tryd.func71 rfl enters71 (by simp [Tryd.f71]) ?_
  simp only [go_sem, ↓reduceIte, Nat.reduceLT, Nat.reduceLeDiff, Nat.reduceEqDiff, Nat.reduceAdd, Nat.reduceMul, Nat.reduceSub, reduceCtorEq, Int.reduceLT, Int.reduceLE, Int.reduceEq, Int.reduceToNat, decide_true, decide_false, Int.reduceNeg, Int.cast_ofNat_Int, sg, AO.sg, Option.isNone_none, Nt.cs, encK_len]
  refine X_loop_inv (fun i : Nat => ⟨[(1, .ptr 1 0), (3, .p (.int .i64 ((n.blocks.length : Int) + sumS (n.spurs.take i)))), (4, .p (.int .i64 (i : Nat)))], [(1, .box (Nt.cs n))], 24⟩)
    (fun i => i ≤ n.spurs.length) (fun i => n.spurs.length - i) 0 (Nat.zero_le _) (Wk.forget (by simp [Le, LeE, LeH, get, envIds, hpIds, KeepH, D.ids, idsL, AO.ids, setL, base, Nt.cs, sumS])) ?_
  rintro i m hi ih
  simp only [go_sem, ↓reduceIte, Nat.reduceLT, Nat.reduceLeDiff, Nat.reduceEqDiff, Nat.reduceAdd, Nat.reduceMul, Nat.reduceSub, reduceCtorEq, Int.reduceLT, Int.reduceLE, Int.reduceEq, Int.reduceToNat, decide_true, decide_false, Int.reduceNeg, Int.cast_ofNat_Int, sg, AO.sg, Option.isNone_none, Nt.cs, encP_len]
  refine Cn_split (fun h2 => ?_) (fun h2 => ?_)
  · have hlt : i < n.spurs.length := by simp at h2; omega
    have hw := wrap_succ i (by omega)
    have hg := encP_get n.spurs i hlt
    have hi0 : (0 : Int) ≤ (i : Int) ∧ (i : Int) < (n.spurs.length : Int) := by omega
    have hr := sumS_rng n.blocks.length n.spurs (i + 1) hlt (fun j hj => hsp j (by omega))
    have hts : sumS (n.spurs.take (i + 1)) = sumS (n.spurs.take i) + (n.spurs.getD i spr0).slots := by rw [take_snoc n.spurs i spr0 hlt, sumS_snoc]
    rw [hts] at hr
    have hwb : IntKind.i64.wrap ((n.blocks.length : Int) + sumS (n.spurs.take i) + (n.spurs.getD i spr0).slots) = (n.blocks.length : Int) + sumS (n.spurs.take i) + (n.spurs.getD i spr0).slots := by rw [wrap_i64_id] <;> omega
    simp only [go_sem, ↓reduceIte, Nat.reduceLT, Nat.reduceLeDiff, Nat.reduceEqDiff, Nat.reduceAdd, Nat.reduceMul, Nat.reduceSub, reduceCtorEq, Int.reduceLT, Int.reduceLE, Int.reduceEq, Int.reduceToNat, decide_true, decide_false, Int.reduceNeg, Int.cast_ofNat_Int, sg, AO.sg, Option.isNone_none, Nt.cs, encP_len, Int.toNat_natCast, hg, hi0, hwb, hw]
    refine ih (i + 1) _ hlt (by omega) ?_
    (refine Wk.forget ?_; simp [Le, LeE, LeH, get, envIds, hpIds, KeepH, D.ids, idsL, AO.ids, setL, base, Nt.cs, hts, Int.add_assoc]; done)
  · simp only [go_sem, ↓reduceIte, Nat.reduceLT, Nat.reduceLeDiff, Nat.reduceEqDiff, Nat.reduceAdd, Nat.reduceMul, Nat.reduceSub, reduceCtorEq, Int.reduceLT, Int.reduceLE, Int.reduceEq, Int.reduceToNat, decide_true, decide_false, Int.reduceNeg, Int.cast_ofNat_Int, sg, AO.sg, Option.isNone_none]
    have : i = n.spurs.length := by simp at h2; omega
    subst this
    rw [List.take_length]
    rfl
def openB (sh : List Bool) (s : Spr) : Bool := !sh.getD s.inn.toNat false && (!sh.getD s.out.toNat false && (List.range s.slots.toNat).all fun j => !sh.getD (s.base.toNat + j) false)
theorem open_ok (n : Nt) (hn : validN n) (sh : List Bool) (hsh : (sh.length : Int) = cellsV n) (s : Nat) (hs : s < n.spurs.length) :
    ACalls Tryd.prog 93 [.agg n.cs, .p (.sl (encT sh)), .p (.int .i64 (s : Nat))] [] fun h r => h = [] ∧ r = .p (.bool (openB sh (n.spurs.getD s spr0))) := by
  obtain ⟨e1, e2, e3, e4, e5, hsp, e7, e8⟩ := hn
  have hb24 := e1.2.1
  obtain ⟨i1, i2, i3, i4, i5, i6, i7⟩ := hsp s hs
  obtain ⟨r1, r2, r3⟩ := spur_rng hsp hs
  have hall := sumS_all hsp
  have hg := encP_get n.spurs s hs
  have hs0 : (0 : Int) ≤ (s : Int) ∧ (s : Int) < (n.spurs.length : Int) := by omega
  unfold cellsV at hsh
  refine ACalls_X Tryd.func93 rfl enters93 (by simp [Tryd.f93]) ?_
  simp only [go_sem, ↓reduceIte, Nat.reduceLT, Nat.reduceLeDiff, Nat.reduceEqDiff, Nat.reduceAdd, Nat.reduceMul, Nat.reduceSub, reduceCtorEq, Int.reduceLT, Int.reduceLE, Int.reduceEq, Int.reduceToNat, decide_true, decide_false, Int.reduceNeg, Int.cast_ofNat_Int, sg, AO.sg, Option.isNone_none, Nt.cs, encP_len, Int.toNat_natCast, hg, hs0]
  generalize n.spurs.getD s spr0 = sp at *
  clear hg
  obtain ⟨nm, dp, inn, out, sl, bs⟩ := sp
  simp only at i1 i2 i3 i4 i5 i6 i7 r1 r2 r3
  obtain ⟨a, rfl⟩ : ∃ a : Nat, inn = (a : Int) := ⟨inn.toNat, by omega⟩
  obtain ⟨b, rfl⟩ : ∃ b : Nat, out = (b : Int) := ⟨out.toNat, by omega⟩
  obtain ⟨c, rfl⟩ : ∃ c : Nat, bs = (c : Int) := ⟨bs.toNat, by omega⟩
  obtain ⟨d, rfl⟩ : ∃ d : Nat, sl = (d : Int) := ⟨sl.toNat, by omega⟩
  have ha := encT_get sh a (by omega)
  have hb := encT_get sh b (by omega)
  have ha0 : (0 : Int) ≤ (a : Int) ∧ (a : Int) < (sh.length : Int) := by omega
  have hb0 : (0 : Int) ≤ (b : Int) ∧ (b : Int) < (sh.length : Int) := by omega
  have hO : openB sh ⟨nm, dp, a, b, d, c⟩ = (!sh.getD a false && (!sh.getD b false && (List.range d).all fun j => !sh.getD (c + j) false)) := by simp [openB]
  cases c1 : sh.getD a false
  rotate_left
  · simp only [go_sem, ↓reduceIte, Nat.reduceLT, Nat.reduceLeDiff, Nat.reduceEqDiff, Nat.reduceAdd, Nat.reduceMul, Nat.reduceSub, reduceCtorEq, Int.reduceLT, Int.reduceLE, Int.reduceEq, Int.reduceToNat, decide_true, decide_false, Int.reduceNeg, Int.cast_ofNat_Int, sg, AO.sg, Option.isNone_none, encT_len, Int.toNat_natCast, ha, ha0, c1]
    rw [hO, c1]; simp
  cases c2 : sh.getD b false
  rotate_left
  · simp only [go_sem, ↓reduceIte, Nat.reduceLT, Nat.reduceLeDiff, Nat.reduceEqDiff, Nat.reduceAdd, Nat.reduceMul, Nat.reduceSub, reduceCtorEq, Int.reduceLT, Int.reduceLE, Int.reduceEq, Int.reduceToNat, decide_true, decide_false, Int.reduceNeg, Int.cast_ofNat_Int, sg, AO.sg, Option.isNone_none, encT_len, Int.toNat_natCast, ha, ha0, c1, hb, hb0, c2]
    rw [hO, c1, c2]; simp
  simp only [go_sem, ↓reduceIte, Nat.reduceLT, Nat.reduceLeDiff, Nat.reduceEqDiff, Nat.reduceAdd, Nat.reduceMul, Nat.reduceSub, reduceCtorEq, Int.reduceLT, Int.reduceLE, Int.reduceEq, Int.reduceToNat, decide_true, decide_false, Int.reduceNeg, Int.cast_ofNat_Int, sg, AO.sg, Option.isNone_none, encT_len, Int.toNat_natCast, ha, ha0, c1, hb, hb0, c2]
  rw [hO, c1, c2]
  refine X_loop_inv (fun j : Nat => ⟨[(1, .p (.sl (encT sh))), (7, .ptr 7 0), (8, .p (.int .i64 ((c + j : Nat) : Int)))], [(7, .box [.p (.str nm), .p (.bool dp), .p (.int .i64 (a : Nat)), .p (.int .i64 (b : Nat)), .p (.int .i64 (d : Nat)), .p (.int .i64 (c : Nat))])], 41⟩)
    (fun j => j ≤ d ∧ ∀ u, u < j → sh.getD (c + u) false = false) (fun j => d - j) 0 ⟨Nat.zero_le _, fun u hu => absurd hu (Nat.not_lt_zero _)⟩ (Wk.forget (by simp [Le, LeE, LeH, get, envIds, hpIds, KeepH, D.ids, idsL, AO.ids, setL, base])) ?_
  rintro j m ⟨hj, hall2⟩ ih
  have hwe : IntKind.i64.wrap ((c : Int) + (d : Int)) = (c : Int) + (d : Int) := by rw [wrap_i64_id] <;> omega
  simp only [go_sem, ↓reduceIte, Nat.reduceLT, Nat.reduceLeDiff, Nat.reduceEqDiff, Nat.reduceAdd, Nat.reduceMul, Nat.reduceSub, reduceCtorEq, Int.reduceLT, Int.reduceLE, Int.reduceEq, Int.reduceToNat, decide_true, decide_false, Int.reduceNeg, Int.cast_ofNat_Int, sg, AO.sg, Option.isNone_none, hwe]
  refine Cn_split (fun h2 => ?_) (fun h2 => ?_)
  · have hjt : j < d := by simp at h2; omega
    have hw := wrap_succ (c + j) (by omega)
    have hgj := encT_get sh (c + j) (by omega)
    have hj0 : (0 : Int) ≤ ((c + j : Nat) : Int) ∧ ((c + j : Nat) : Int) < (sh.length : Int) := by omega
    simp only [go_sem, ↓reduceIte, Nat.reduceLT, Nat.reduceLeDiff, Nat.reduceEqDiff, Nat.reduceAdd, Nat.reduceMul, Nat.reduceSub, reduceCtorEq, Int.reduceLT, Int.reduceLE, Int.reduceEq, Int.reduceToNat, decide_true, decide_false, Int.reduceNeg, Int.cast_ofNat_Int, sg, AO.sg, Option.isNone_none, encT_len, Int.toNat_natCast, hgj, hj0]
    cases c3 : sh.getD (c + j) false
    · simp only [go_sem, ↓reduceIte, Nat.reduceLT, Nat.reduceLeDiff, Nat.reduceEqDiff, Nat.reduceAdd, Nat.reduceMul, Nat.reduceSub, reduceCtorEq, Int.reduceLT, Int.reduceLE, Int.reduceEq, Int.reduceToNat, decide_true, decide_false, Int.reduceNeg, Int.cast_ofNat_Int, sg, AO.sg, Option.isNone_none, c3, hw]
      refine ih (j + 1) _ ⟨hjt, fun u hu => ?_⟩ (by omega) ?_
      · rcases Nat.lt_succ_iff_lt_or_eq.1 hu with h5 | rfl
        · exact hall2 u h5
        · exact c3
      · (refine Wk.forget ?_; simp [Le, LeE, LeH, get, envIds, hpIds, KeepH, D.ids, idsL, AO.ids, setL, base, Nat.add_assoc]; done)
    · simp only [go_sem, ↓reduceIte, Nat.reduceLT, Nat.reduceLeDiff, Nat.reduceEqDiff, Nat.reduceAdd, Nat.reduceMul, Nat.reduceSub, reduceCtorEq, Int.reduceLT, Int.reduceLE, Int.reduceEq, Int.reduceToNat, decide_true, decide_false, Int.reduceNeg, Int.cast_ofNat_Int, sg, AO.sg, Option.isNone_none, c3]
      have hex : ((List.range d).all fun j => !sh.getD (c + j) false) = false := by
        rw [List.all_eq_false]
        exact ⟨j, List.mem_range.2 hjt, by rw [c3]; simp⟩
      rw [hex]
  · simp only [go_sem, ↓reduceIte, Nat.reduceLT, Nat.reduceLeDiff, Nat.reduceEqDiff, Nat.reduceAdd, Nat.reduceMul, Nat.reduceSub, reduceCtorEq, Int.reduceLT, Int.reduceLE, Int.reduceEq, Int.reduceToNat, decide_true, decide_false, Int.reduceNeg, Int.cast_ofNat_Int, sg, AO.sg, Option.isNone_none]
    have : j = d := by simp at h2; omega
    subst this
    have hal : ((List.range j).all fun j => !sh.getD (c + j) false) = true := by
      rw [List.all_eq_true]
      intro u hu
      rw [hall2 u (List.mem_range.1 hu)]; rfl
    rw [hal]
/-- The slots of the open depots. -/
def slotsV (sh : List Bool) : List Spr → Int
  | [] => 0
  | s :: r => (if s.depot && openB sh s then s.slots else 0) + slotsV sh r
theorem slotsV_snoc (sh : List Bool) (l : List Spr) (s : Spr) : slotsV sh (l ++ [s]) = slotsV sh l + (if s.depot && openB sh s then s.slots else 0) := by
  induction l with
  | nil => simp [slotsV]
  | cons x r ih => simp only [List.cons_append, slotsV, ih]; omega
theorem slotsV_rng (sh : List Bool) {nb : Nat} {l : List Spr} (h : spursP nb l) : ∀ k, k ≤ l.length → 0 ≤ slotsV sh (l.take k) ∧ slotsV sh (l.take k) ≤ 4 * k
  | 0, _ => by simp [slotsV]
  | k + 1, hk => by
    have h1 := slotsV_rng sh h k (by omega)
    obtain ⟨_, _, _, _, h5, h6, _⟩ := h k (by omega)
    rw [take_snoc l k spr0 (by omega), slotsV_snoc]
    split <;> omega
theorem slots_ok (n : Nt) (hn : validN n) (sh : List Bool) (hsh : (sh.length : Int) = cellsV n) :
    ACalls Tryd.prog 70 [.agg n.cs, .p (.sl (encT sh))] [] fun h r => h = [] ∧ r = .p (.int .i64 (slotsV sh n.spurs)) := by
  have hO := fun s hs => open_ok n hn sh hsh s hs
  obtain ⟨e1, e2, e3, e4, e5, hsp, e7, e8⟩ := hn
  refine ACalls_X Tryd.func70 rfl enters70 (by simp [Tryd.f70]) ?_
  simp only [go_sem, ↓reduceIte, Nat.reduceLT, Nat.reduceLeDiff, Nat.reduceEqDiff, Nat.reduceAdd, Nat.reduceMul, Nat.reduceSub, reduceCtorEq, Int.reduceLT, Int.reduceLE, Int.reduceEq, Int.reduceToNat, decide_true, decide_false, Int.reduceNeg, Int.cast_ofNat_Int, sg, AO.sg, Option.isNone_none, Nt.cs]
  refine X_loop_inv (fun i : Nat => ⟨[(1, .p (.sl (encT sh))), (2, .ptr 2 0), (5, .p (.int .i64 (slotsV sh (n.spurs.take i)))), (6, .p (.int .i64 (i : Nat)))], [(2, .box (Nt.cs n))], 35⟩)
    (fun i => i ≤ n.spurs.length) (fun i => n.spurs.length - i) 0 (Nat.zero_le _) (Wk.forget (by simp [Le, LeE, LeH, get, envIds, hpIds, KeepH, D.ids, idsL, AO.ids, setL, base, Nt.cs, slotsV])) ?_
  rintro i m hi ih
  simp only [go_sem, ↓reduceIte, Nat.reduceLT, Nat.reduceLeDiff, Nat.reduceEqDiff, Nat.reduceAdd, Nat.reduceMul, Nat.reduceSub, reduceCtorEq, Int.reduceLT, Int.reduceLE, Int.reduceEq, Int.reduceToNat, decide_true, decide_false, Int.reduceNeg, Int.cast_ofNat_Int, sg, AO.sg, Option.isNone_none, Nt.cs, encP_len]
  refine Cn_split (fun h2 => ?_) (fun h2 => ?_)
  · have hlt : i < n.spurs.length := by simp at h2; omega
    have hw := wrap_succ i (by omega)
    have hg := encP_get n.spurs i hlt
    have hi0 : (0 : Int) ≤ (i : Int) ∧ (i : Int) < (n.spurs.length : Int) := by omega
    have hr := slotsV_rng sh hsp i hi
    have hts : slotsV sh (n.spurs.take (i + 1)) = slotsV sh (n.spurs.take i) + (if (n.spurs.getD i spr0).depot && openB sh (n.spurs.getD i spr0) then (n.spurs.getD i spr0).slots else 0) := by rw [take_snoc n.spurs i spr0 hlt, slotsV_snoc]
    have hOi := hO i hlt
    obtain ⟨_, _, _, _, i5, i6, _⟩ := hsp i hlt
    generalize n.spurs.getD i spr0 = s at *
    have hwb : IntKind.i64.wrap (slotsV sh (n.spurs.take i) + s.slots) = slotsV sh (n.spurs.take i) + s.slots := by rw [wrap_i64_id] <;> omega
    generalize slotsV sh (n.spurs.take i) = S at *
    cases c1 : s.depot
    · simp only [go_sem, ↓reduceIte, Nat.reduceLT, Nat.reduceLeDiff, Nat.reduceEqDiff, Nat.reduceAdd, Nat.reduceMul, Nat.reduceSub, reduceCtorEq, Int.reduceLT, Int.reduceLE, Int.reduceEq, Int.reduceToNat, decide_true, decide_false, Int.reduceNeg, Int.cast_ofNat_Int, sg, AO.sg, Option.isNone_none, Nt.cs, encP_len, Int.toNat_natCast, hg, hi0, c1, hw]
      refine ih (i + 1) _ hlt (by omega) ?_
      (refine Wk.forget ?_; simp [Le, LeE, LeH, get, envIds, hpIds, KeepH, D.ids, idsL, AO.ids, setL, base, Nt.cs, hts, c1]; done)
    simp only [go_sem, ↓reduceIte, Nat.reduceLT, Nat.reduceLeDiff, Nat.reduceEqDiff, Nat.reduceAdd, Nat.reduceMul, Nat.reduceSub, reduceCtorEq, Int.reduceLT, Int.reduceLE, Int.reduceEq, Int.reduceToNat, decide_true, decide_false, Int.reduceNeg, Int.cast_ofNat_Int, sg, AO.sg, Option.isNone_none, Nt.cs, encP_len, Int.toNat_natCast, hg, hi0, c1]
    refine Cc_of ((hOi)) ?_
    rintro h' r ⟨rfl, rfl⟩
    cases c2 : openB sh s
    · simp only [go_sem, ↓reduceIte, Nat.reduceLT, Nat.reduceLeDiff, Nat.reduceEqDiff, Nat.reduceAdd, Nat.reduceMul, Nat.reduceSub, reduceCtorEq, Int.reduceLT, Int.reduceLE, Int.reduceEq, Int.reduceToNat, decide_true, decide_false, Int.reduceNeg, Int.cast_ofNat_Int, sg, AO.sg, Option.isNone_none, c2, hw]
      refine ih (i + 1) _ hlt (by omega) ?_
      (refine Wk.forget ?_; simp [Le, LeE, LeH, get, envIds, hpIds, KeepH, D.ids, idsL, AO.ids, setL, base, Nt.cs, hts, c1, c2]; done)
    · simp only [go_sem, ↓reduceIte, Nat.reduceLT, Nat.reduceLeDiff, Nat.reduceEqDiff, Nat.reduceAdd, Nat.reduceMul, Nat.reduceSub, reduceCtorEq, Int.reduceLT, Int.reduceLE, Int.reduceEq, Int.reduceToNat, decide_true, decide_false, Int.reduceNeg, Int.cast_ofNat_Int, sg, AO.sg, Option.isNone_none, Nt.cs, encP_len, Int.toNat_natCast, hg, hi0, c1, c2, hwb, hw]
      refine ih (i + 1) _ hlt (by omega) ?_
      (refine Wk.forget ?_; simp [Le, LeE, LeH, get, envIds, hpIds, KeepH, D.ids, idsL, AO.ids, setL, base, Nt.cs, hts, c1, c2]; done)
  · simp only [go_sem, ↓reduceIte, Nat.reduceLT, Nat.reduceLeDiff, Nat.reduceEqDiff, Nat.reduceAdd, Nat.reduceMul, Nat.reduceSub, reduceCtorEq, Int.reduceLT, Int.reduceLE, Int.reduceEq, Int.reduceToNat, decide_true, decide_false, Int.reduceNeg, Int.cast_ofNat_Int, sg, AO.sg, Option.isNone_none]
    have : i = n.spurs.length := by simp at h2; omega
    subst this
    rw [List.take_length]
end Go.Am
