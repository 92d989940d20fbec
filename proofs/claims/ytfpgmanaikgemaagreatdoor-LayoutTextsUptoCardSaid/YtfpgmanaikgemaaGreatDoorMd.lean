/- Texts of this proof, merged: Netv, Hasi, Chkg, Nblk, Nnam. -/
import Derived.Test.YtfpgmanaikgemaaGreatDoorMc
section
/- Networks, by their cells. -/
namespace Go.Am
open Go Go.Proofs
set_option maxRecDepth 100000
set_option linter.unusedVariables false
set_option linter.unusedSimpArgs false
structure Blk where
  name : List UInt8
  x : Int
  y : Int
  deriving DecidableEq
structure Spr where
  name : List UInt8
  depot : Bool
  inn : Int
  out : Int
  slots : Int
  base : Int
  deriving DecidableEq
structure Nt where
  blocks : List Blk
  next : List (List Int)
  spurs : List Spr
  robots : List Int
  cq : Int
  ca : Int
  cd : Int
  cp : Int
  deriving DecidableEq
def blk0 : Blk := ⟨[], 0, 0⟩
def spr0 : Spr := ⟨[], false, 0, 0, 0, 0⟩
def encK (l : List Blk) : List (List Pd) := l.map fun b => [.str b.name, .int .i64 b.x, .int .i64 b.y]
def encG (l : List (List Int)) : List (List Pd) := l.map fun r => [.sl (encI r)]
def encP (l : List Spr) : List (List Pd) := l.map fun s => [.str s.name, .bool s.depot, .int .i64 s.inn, .int .i64 s.out, .int .i64 s.slots, .int .i64 s.base]
theorem encK_len (l : List Blk) : (encK l).length = l.length := by simp [encK]
theorem encG_len (l : List (List Int)) : (encG l).length = l.length := by simp [encG]
theorem encP_len (l : List Spr) : (encP l).length = l.length := by simp [encP]
theorem encK_get (l : List Blk) (i : Nat) (h : i < l.length) : (encK l).getD i [] = [.str (l.getD i blk0).name, .int .i64 (l.getD i blk0).x, .int .i64 (l.getD i blk0).y] := by simp [encK, List.getD, h]
theorem encG_get (l : List (List Int)) (i : Nat) (h : i < l.length) : (encG l).getD i [] = [.sl (encI (l.getD i []))] := by simp [encG, List.getD, h]
theorem encP_get (l : List Spr) (i : Nat) (h : i < l.length) : (encP l).getD i [] = [.str (l.getD i spr0).name, .bool (l.getD i spr0).depot, .int .i64 (l.getD i spr0).inn, .int .i64 (l.getD i spr0).out, .int .i64 (l.getD i spr0).slots, .int .i64 (l.getD i spr0).base] := by simp [encP, List.getD, h]
theorem encK_snoc (l : List Blk) (b : Blk) : encK (l ++ [b]) = encK l ++ [[.str b.name, .int .i64 b.x, .int .i64 b.y]] := by simp [encK]
theorem encG_snoc (l : List (List Int)) (r : List Int) : encG (l ++ [r]) = encG l ++ [[.sl (encI r)]] := by simp [encG]
theorem encP_snoc (l : List Spr) (s : Spr) : encP (l ++ [s]) = encP l ++ [[.str s.name, .bool s.depot, .int .i64 s.inn, .int .i64 s.out, .int .i64 s.slots, .int .i64 s.base]] := by simp [encP]
theorem encK_take (l : List Blk) (n : Nat) (h : l.length ≤ n) : (encK l).take n = encK l := List.take_of_length_le (by simpa [encK] using h)
theorem encG_take (l : List (List Int)) (n : Nat) (h : l.length ≤ n) : (encG l).take n = encG l := List.take_of_length_le (by simpa [encG] using h)
theorem encP_take (l : List Spr) (n : Nat) (h : l.length ≤ n) : (encP l).take n = encP l := List.take_of_length_le (by simpa [encP] using h)
theorem encG_set (l : List (List Int)) (i : Nat) (r : List Int) : encG (l.set i r) = (encG l).set i [.sl (encI r)] := by simp [encG, List.map_set]
def Nt.cs (n : Nt) : List D := [.p (.sl (encK n.blocks)), .p (.sl (encG n.next)), .p (.sl (encP n.spurs)), .p (.sl (encI n.robots)), .p (.int .i64 n.cq), .p (.int .i64 n.ca), .p (.int .i64 n.cd), .p (.int .i64 n.cp)]
/-- A number put into an ascending list. -/
def insV : List Int → Int → List Int
  | [], x => [x]
  | y :: r, x => if x < y then x :: y :: r else y :: insV r x
theorem insV_len (l : List Int) (x : Int) : (insV l x).length = l.length + 1 := by
  induction l with
  | nil => rfl
  | cons y r ih => unfold insV; split <;> simp [ih]
theorem insV_mem (l : List Int) (x z : Int) : z ∈ insV l x ↔ z = x ∨ z ∈ l := by
  induction l with
  | nil => simp [insV]
  | cons y r ih =>
    unfold insV
    split
    · simp
    · simp only [List.mem_cons, ih]; constructor <;> (rintro (h | h | h) <;> simp [h])
theorem insV_asc (l : List Int) (x : Int) (h : l.Pairwise (· < ·)) (hx : x ∉ l) : (insV l x).Pairwise (· < ·) := by
  induction l with
  | nil => simp [insV]
  | cons y r ih =>
    rw [List.pairwise_cons] at h
    unfold insV
    split
    · rename_i h1
      rw [List.pairwise_cons]
      refine ⟨fun z hz => ?_, List.pairwise_cons.2 h⟩
      rcases List.mem_cons.1 hz with rfl | hz
      · exact h1
      · have := h.1 z hz; omega
    · rename_i h1
      have hne : x ≠ y := fun e => hx (by simp [e])
      rw [List.pairwise_cons]
      refine ⟨fun z hz => ?_, ih h.2 (fun hm => hx (List.mem_cons_of_mem _ hm))⟩
      rcases (insV_mem r x z).1 hz with rfl | hz
      · omega
      · exact h.1 z hz
end Go.Am
end

section
/- The reference's Has and Insert. -/
namespace Go.Am
open Go Go.Proofs
set_option maxRecDepth 100000
set_option linter.unusedVariables false
set_option linter.unusedSimpArgs false
theorem has_ok (l : List Int) (x : Int) (hl : l.length ≤ 10000000) :
    ACalls Tryz.prog 32 [.p (.sl (encI l)), .p (.int .i64 x)] [] fun h r => h = [] ∧ r = .p (.bool (decide (x ∈ l))) := by
  refine ACalls_X Tryz.func32 rfl enters32 (by simp [Tryz.f32]) ?_
  simp only [go_sem, ↓reduceIte, Nat.reduceLT, Nat.reduceLeDiff, Nat.reduceEqDiff, Nat.reduceAdd, Nat.reduceMul, Nat.reduceSub, reduceCtorEq, Int.reduceLT, Int.reduceLE, Int.reduceEq, Int.reduceToNat, decide_true, decide_false, Int.reduceNeg, Int.cast_ofNat_Int, sg, AO.sg, Option.isNone_none, encI_len]
  refine X_loop_inv (fun i => ⟨[(0, .p (.sl (encI l))), (1, .p (.int .i64 x)), (5, .p (.int .i64 (i : Nat)))], [], 18⟩) (fun i => i ≤ l.length ∧ x ∉ l.take i) (fun i => l.length - i) 0 ⟨Nat.zero_le _, by simp⟩ (Wk.forget (by simp [Le, LeE, LeH, get, envIds, hpIds, KeepH, D.ids, idsL, AO.ids, setL, base, encI])) ?_
  rintro i n ⟨hi, he⟩ ih
  simp only [go_sem, ↓reduceIte, Nat.reduceLT, Nat.reduceLeDiff, Nat.reduceEqDiff, Nat.reduceAdd, Nat.reduceMul, Nat.reduceSub, reduceCtorEq, Int.reduceLT, Int.reduceLE, Int.reduceEq, Int.reduceToNat, decide_true, decide_false, Int.reduceNeg, Int.cast_ofNat_Int, sg, AO.sg, Option.isNone_none, encI_len]
  refine Cn_split (fun h2 => ?_) (fun h2 => ?_)
  · have hlt : i < l.length := by simp at h2; omega
    have hw := wrap_succ i (by omega)
    have hg := encI_get l i hlt
    have hx : l[i]? = some (l.getD i 0) := by simp [List.getD, hlt]
    have hi0 : (0 : Int) ≤ (i : Int) ∧ (i : Int) < (l.length : Int) := by omega
    have hmem := getD_mem l i 0 hlt
    generalize l.getD i 0 = y at *
    simp only [go_sem, ↓reduceIte, Nat.reduceLT, Nat.reduceLeDiff, Nat.reduceEqDiff, Nat.reduceAdd, Nat.reduceMul, Nat.reduceSub, reduceCtorEq, Int.reduceLT, Int.reduceLE, Int.reduceEq, Int.reduceToNat, decide_true, decide_false, Int.reduceNeg, Int.cast_ofNat_Int, sg, AO.sg, Option.isNone_none, encI_len, Int.toNat_natCast, hg, hi0]
    cases hv : decide (y = x)
    · simp only [go_sem, ↓reduceIte, Nat.reduceLT, Nat.reduceLeDiff, Nat.reduceEqDiff, Nat.reduceAdd, Nat.reduceMul, Nat.reduceSub, reduceCtorEq, Int.reduceLT, Int.reduceLE, Int.reduceEq, Int.reduceToNat, decide_true, decide_false, Int.reduceNeg, Int.cast_ofNat_Int, sg, AO.sg, Option.isNone_none, hv, hw]
      refine ih (i + 1) _ ⟨hlt, ?_⟩ (by omega) ?_
      · rw [List.take_add_one, hx]
        have : ¬ x = y := fun e => of_decide_eq_false hv e.symm
        simp [he, this]
      · (refine Wk.forget ?_; simp [Le, LeE, LeH, get, envIds, hpIds, KeepH, D.ids, idsL, AO.ids, setL, base, encI]; done)
    · simp only [go_sem, ↓reduceIte, Nat.reduceLT, Nat.reduceLeDiff, Nat.reduceEqDiff, Nat.reduceAdd, Nat.reduceMul, Nat.reduceSub, reduceCtorEq, Int.reduceLT, Int.reduceLE, Int.reduceEq, Int.reduceToNat, decide_true, decide_false, Int.reduceNeg, Int.cast_ofNat_Int, sg, AO.sg, Option.isNone_none, hv]
      have hm : x ∈ l := by rw [← of_decide_eq_true hv]; exact hmem
      simp [hm]
  · simp only [go_sem, ↓reduceIte, Nat.reduceLT, Nat.reduceLeDiff, Nat.reduceEqDiff, Nat.reduceAdd, Nat.reduceMul, Nat.reduceSub, reduceCtorEq, Int.reduceLT, Int.reduceLE, Int.reduceEq, Int.reduceToNat, decide_true, decide_false, Int.reduceNeg, Int.cast_ofNat_Int, sg, AO.sg, Option.isNone_none]
    have : i = l.length := by simp at h2; omega
    subst this
    rw [List.take_length] at he
    simp [he]
theorem has_own (l : List Int) (x : Int) (hl : l.length ≤ 10000000) :
    ACalls Tryz.prog 32 [.ref 1000000 0 l.length l.length, .p (.int .i64 x)] [(1000000, .arr 3 1 (encI l))] fun h r => h = [(1000000, .arr 3 1 (encI l))] ∧ r = .p (.bool (decide (x ∈ l))) := by
  refine ACalls_X Tryz.func32 rfl enters32 (by simp [Tryz.f32]) ?_
  simp only [go_sem, ↓reduceIte, Nat.reduceLT, Nat.reduceLeDiff, Nat.reduceEqDiff, Nat.reduceAdd, Nat.reduceMul, Nat.reduceSub, reduceCtorEq, Int.reduceLT, Int.reduceLE, Int.reduceEq, Int.reduceToNat, decide_true, decide_false, Int.reduceNeg, Int.cast_ofNat_Int, sg, AO.sg, Option.isNone_none, encI_len]
  refine X_loop_inv (fun i => ⟨[(0, .ref 1000000 0 l.length l.length), (1, .p (.int .i64 x)), (5, .p (.int .i64 (i : Nat)))], [(1000000, .arr 3 1 (encI l))], 18⟩) (fun i => i ≤ l.length ∧ x ∉ l.take i) (fun i => l.length - i) 0 ⟨Nat.zero_le _, by simp⟩ (Wk.forget (by simp [Le, LeE, LeH, get, envIds, hpIds, KeepH, D.ids, idsL, AO.ids, setL, base, encI])) ?_
  rintro i n ⟨hi, he⟩ ih
  simp only [go_sem, ↓reduceIte, Nat.reduceLT, Nat.reduceLeDiff, Nat.reduceEqDiff, Nat.reduceAdd, Nat.reduceMul, Nat.reduceSub, reduceCtorEq, Int.reduceLT, Int.reduceLE, Int.reduceEq, Int.reduceToNat, decide_true, decide_false, Int.reduceNeg, Int.cast_ofNat_Int, sg, AO.sg, Option.isNone_none, encI_len]
  refine Cn_split (fun h2 => ?_) (fun h2 => ?_)
  · have hlt : i < l.length := by simp at h2; omega
    have hw := wrap_succ i (by omega)
    have hg := encI_get l i hlt
    have hx : l[i]? = some (l.getD i 0) := by simp [List.getD, hlt]
    have hi0 : (0 : Int) ≤ (i : Int) ∧ (i : Int) < (l.length : Int) := by omega
    have hmem := getD_mem l i 0 hlt
    generalize l.getD i 0 = y at *
    simp only [go_sem, ↓reduceIte, Nat.reduceLT, Nat.reduceLeDiff, Nat.reduceEqDiff, Nat.reduceAdd, Nat.reduceMul, Nat.reduceSub, reduceCtorEq, Int.reduceLT, Int.reduceLE, Int.reduceEq, Int.reduceToNat, decide_true, decide_false, Int.reduceNeg, Int.cast_ofNat_Int, sg, AO.sg, Option.isNone_none, encI_len, Int.toNat_natCast, hg, hi0]
    cases hv : decide (y = x)
    · simp only [go_sem, ↓reduceIte, Nat.reduceLT, Nat.reduceLeDiff, Nat.reduceEqDiff, Nat.reduceAdd, Nat.reduceMul, Nat.reduceSub, reduceCtorEq, Int.reduceLT, Int.reduceLE, Int.reduceEq, Int.reduceToNat, decide_true, decide_false, Int.reduceNeg, Int.cast_ofNat_Int, sg, AO.sg, Option.isNone_none, hv, hw]
      refine ih (i + 1) _ ⟨hlt, ?_⟩ (by omega) ?_
      · rw [List.take_add_one, hx]
        have : ¬ x = y := fun e => of_decide_eq_false hv e.symm
        simp [he, this]
      · (refine Wk.forget ?_; simp [Le, LeE, LeH, get, envIds, hpIds, KeepH, D.ids, idsL, AO.ids, setL, base, encI]; done)
    · simp only [go_sem, ↓reduceIte, Nat.reduceLT, Nat.reduceLeDiff, Nat.reduceEqDiff, Nat.reduceAdd, Nat.reduceMul, Nat.reduceSub, reduceCtorEq, Int.reduceLT, Int.reduceLE, Int.reduceEq, Int.reduceToNat, decide_true, decide_false, Int.reduceNeg, Int.cast_ofNat_Int, sg, AO.sg, Option.isNone_none, hv]
      have hm : x ∈ l := by rw [← of_decide_eq_true hv]; exact hmem
      simp [hm]
  · simp only [go_sem, ↓reduceIte, Nat.reduceLT, Nat.reduceLeDiff, Nat.reduceEqDiff, Nat.reduceAdd, Nat.reduceMul, Nat.reduceSub, reduceCtorEq, Int.reduceLT, Int.reduceLE, Int.reduceEq, Int.reduceToNat, decide_true, decide_false, Int.reduceNeg, Int.cast_ofNat_Int, sg, AO.sg, Option.isNone_none]
    have : i = l.length := by simp at h2; omega
    subst this
    rw [List.take_length] at he
    simp [he]
theorem insert_ok (l : List Int) (x : Int) (hl : l.length ≤ 10000000) :
    ACalls Tryz.prog 70 [.p (.sl (encI l)), .p (.int .i64 x)] [] fun h r => h = [] ∧ r = .p (.sl (encI (insV l x))) := by
  refine ACalls_X Tryz.func70 rfl enters70 (by simp [Tryz.f70]) ?_
  simp only [go_sem, ↓reduceIte, Nat.reduceLT, Nat.reduceLeDiff, Nat.reduceEqDiff, Nat.reduceAdd, Nat.reduceMul, Nat.reduceSub, reduceCtorEq, Int.reduceLT, Int.reduceLE, Int.reduceEq, Int.reduceToNat, decide_true, decide_false, Int.reduceNeg, Int.cast_ofNat_Int, sg, AO.sg, Option.isNone_none, encI_len]
  refine X_loop_inv (fun q : Nat × Bool × List Int => ⟨[(0, .p (.sl (encI l))), (1, .p (.int .i64 x)), (5, .ref 27 0 q.2.2.length q.2.2.length), (6, .p (.bool q.2.1)), (7, .p (.int .i64 (q.1 : Nat)))], [(27, .arr 3 1 (encI q.2.2))], 42⟩)
    (fun q => q.1 ≤ l.length ∧ q.2.2.length ≤ q.1 + q.2.1.toNat ∧ q.2.2 ++ (if q.2.1 then l.drop q.1 else insV (l.drop q.1) x) = insV l x) (fun q => l.length - q.1) (0, false, []) ⟨Nat.zero_le _, by simp, by simp⟩ ((Wk.nil (t := 5) (q := 27) (sz := 1) 3 rfl rfl (by decide)).trans (Wk.forget (by simp [Le, LeE, LeH, get, envIds, hpIds, KeepH, D.ids, idsL, AO.ids, setL, base, encI]))) ?_
  rintro ⟨i, dn, acc⟩ n ⟨hi, ha, he⟩ ih
  simp only at hi ha he
  simp only [go_sem, ↓reduceIte, Nat.reduceLT, Nat.reduceLeDiff, Nat.reduceEqDiff, Nat.reduceAdd, Nat.reduceMul, Nat.reduceSub, reduceCtorEq, Int.reduceLT, Int.reduceLE, Int.reduceEq, Int.reduceToNat, decide_true, decide_false, Int.reduceNeg, Int.cast_ofNat_Int, sg, AO.sg, Option.isNone_none, encI_len]
  refine Cn_split (fun h2 => ?_) (fun h2 => ?_)
  · have hlt : i < l.length := by simp at h2; omega
    have hw := wrap_succ i (by omega)
    have hg := encI_get l i hlt
    have hi0 : (0 : Int) ≤ (i : Int) ∧ (i : Int) < (l.length : Int) := by omega
    rw [drop_getD l i 0 hlt] at he
    generalize l.getD i 0 = y at *
    cases dn
    · cases hv : decide (x < y)
      · have hv' : ¬ x < y := of_decide_eq_false hv
        simp only [go_sem, ↓reduceIte, Nat.reduceLT, Nat.reduceLeDiff, Nat.reduceEqDiff, Nat.reduceAdd, Nat.reduceMul, Nat.reduceSub, reduceCtorEq, Int.reduceLT, Int.reduceLE, Int.reduceEq, Int.reduceToNat, decide_true, decide_false, Int.reduceNeg, Int.cast_ofNat_Int, sg, AO.sg, Option.isNone_none, encI_len, Int.toNat_natCast, hg, hi0, hv, hv']
        refine ⟨⟨wid1 _ _ rfl, by simp at ha; omega⟩, ?_⟩
        simp only [go_sem, ↓reduceIte, Nat.reduceLT, Nat.reduceLeDiff, Nat.reduceEqDiff, Nat.reduceAdd, Nat.reduceMul, Nat.reduceSub, reduceCtorEq, Int.reduceLT, Int.reduceLE, Int.reduceEq, Int.reduceToNat, decide_true, decide_false, Int.reduceNeg, Int.cast_ofNat_Int, sg, AO.sg, Option.isNone_none, hw]
        refine ih (i + 1, false, acc ++ [y]) _ ⟨hlt, by simp at ha ⊢; omega, ?_⟩ (by simp only; omega) ?_
        · rw [← he]; simp [insV, hv']
        · (refine Wk.forget ?_; simp [Le, LeE, LeH, get, envIds, hpIds, KeepH, D.ids, idsL, AO.ids, setL, base, encI_snoc, encI_len]; done)
      · have hv' : x < y := of_decide_eq_true hv
        simp only [go_sem, ↓reduceIte, Nat.reduceLT, Nat.reduceLeDiff, Nat.reduceEqDiff, Nat.reduceAdd, Nat.reduceMul, Nat.reduceSub, reduceCtorEq, Int.reduceLT, Int.reduceLE, Int.reduceEq, Int.reduceToNat, decide_true, decide_false, Int.reduceNeg, Int.cast_ofNat_Int, sg, AO.sg, Option.isNone_none, encI_len, Int.toNat_natCast, hg, hi0, hv, hv']
        refine ⟨⟨wid1 _ _ rfl, by simp at ha; omega⟩, ⟨wid1 _ _ rfl, by simp at ha; simp [encI_len]; omega⟩, ?_⟩
        simp only [go_sem, ↓reduceIte, Nat.reduceLT, Nat.reduceLeDiff, Nat.reduceEqDiff, Nat.reduceAdd, Nat.reduceMul, Nat.reduceSub, reduceCtorEq, Int.reduceLT, Int.reduceLE, Int.reduceEq, Int.reduceToNat, decide_true, decide_false, Int.reduceNeg, Int.cast_ofNat_Int, sg, AO.sg, Option.isNone_none, hw]
        refine ih (i + 1, true, acc ++ [x] ++ [y]) _ ⟨hlt, by simp at ha ⊢; omega, ?_⟩ (by simp only; omega) ?_
        · rw [← he]; simp [insV, hv']
        · (refine Wk.forget ?_; simp [Le, LeE, LeH, get, envIds, hpIds, KeepH, D.ids, idsL, AO.ids, setL, base, encI]; done)
    · simp only [go_sem, ↓reduceIte, Nat.reduceLT, Nat.reduceLeDiff, Nat.reduceEqDiff, Nat.reduceAdd, Nat.reduceMul, Nat.reduceSub, reduceCtorEq, Int.reduceLT, Int.reduceLE, Int.reduceEq, Int.reduceToNat, decide_true, decide_false, Int.reduceNeg, Int.cast_ofNat_Int, sg, AO.sg, Option.isNone_none, encI_len, Int.toNat_natCast, hg, hi0]
      refine ⟨⟨wid1 _ _ rfl, by simp at ha; omega⟩, ?_⟩
      simp only [go_sem, ↓reduceIte, Nat.reduceLT, Nat.reduceLeDiff, Nat.reduceEqDiff, Nat.reduceAdd, Nat.reduceMul, Nat.reduceSub, reduceCtorEq, Int.reduceLT, Int.reduceLE, Int.reduceEq, Int.reduceToNat, decide_true, decide_false, Int.reduceNeg, Int.cast_ofNat_Int, sg, AO.sg, Option.isNone_none, hw]
      refine ih (i + 1, true, acc ++ [y]) _ ⟨hlt, by simp at ha ⊢; omega, ?_⟩ (by simp only; omega) ?_
      · rw [← he]; simp
      · (refine Wk.forget ?_; simp [Le, LeE, LeH, get, envIds, hpIds, KeepH, D.ids, idsL, AO.ids, setL, base, encI_snoc, encI_len]; done)
  · have : i = l.length := by simp at h2; omega
    subst this
    rw [List.drop_length] at he
    cases dn
    · simp only [go_sem, ↓reduceIte, Nat.reduceLT, Nat.reduceLeDiff, Nat.reduceEqDiff, Nat.reduceAdd, Nat.reduceMul, Nat.reduceSub, reduceCtorEq, Int.reduceLT, Int.reduceLE, Int.reduceEq, Int.reduceToNat, decide_true, decide_false, Int.reduceNeg, Int.cast_ofNat_Int, sg, AO.sg, Option.isNone_none, encI_len]
      refine ⟨⟨wid1 _ _ rfl, by simp at ha; omega⟩, ?_⟩
      refine end_pure ?_
      simp only [go_sem, ↓reduceIte, Nat.reduceLT, Nat.reduceLeDiff, Nat.reduceEqDiff, Nat.reduceAdd, Nat.reduceMul, Nat.reduceSub, reduceCtorEq, Int.reduceLT, Int.reduceLE, Int.reduceEq, Int.reduceToNat, decide_true, decide_false, Int.reduceNeg, Int.cast_ofNat_Int, sg, AO.sg, Option.isNone_none]
      rw [← he]
      rw [List.take_of_length_le (by simp [encI_len])]
      simp [insV, encI]
    · simp only [go_sem, ↓reduceIte, Nat.reduceLT, Nat.reduceLeDiff, Nat.reduceEqDiff, Nat.reduceAdd, Nat.reduceMul, Nat.reduceSub, reduceCtorEq, Int.reduceLT, Int.reduceLE, Int.reduceEq, Int.reduceToNat, decide_true, decide_false, Int.reduceNeg, Int.cast_ofNat_Int, sg, AO.sg, Option.isNone_none]
      refine end_pure ?_
      simp only [go_sem, ↓reduceIte, Nat.reduceLT, Nat.reduceLeDiff, Nat.reduceEqDiff, Nat.reduceAdd, Nat.reduceMul, Nat.reduceSub, reduceCtorEq, Int.reduceLT, Int.reduceLE, Int.reduceEq, Int.reduceToNat, decide_true, decide_false, Int.reduceNeg, Int.cast_ofNat_Int, sg, AO.sg, Option.isNone_none]
      rw [← he]
      simp [encI_take, encI_len]
end Go.Am
end

section
/- The reference's check of graphs. -/
namespace Go.Am
open Go Go.Proofs
set_option maxRecDepth 100000
set_option linter.unusedVariables false
set_option linter.unusedSimpArgs false
def okAt (nb i : Nat) (l : List Int) (k : Nat) : Prop := 0 ≤ l.getD k 0 ∧ l.getD k 0 < (nb : Int) ∧ l.getD k 0 ≠ (i : Int) ∧ (0 < k → l.getD (k - 1) 0 < l.getD k 0)
instance (nb i : Nat) (l : List Int) (k : Nat) : Decidable (okAt nb i l k) := by unfold okAt; exact inferInstance
def rowP (nb i : Nat) (l : List Int) : Prop := ∀ k, k < l.length → okAt nb i l k
instance (nb i : Nat) (l : List Int) : Decidable (rowP nb i l) := by unfold rowP; exact inferInstance
def gphP (g : List (List Int)) : Prop := g.length ≤ 24 ∧ ∀ i, i < g.length → rowP g.length i (g.getD i [])
instance (g : List (List Int)) : Decidable (gphP g) := by unfold gphP; exact inferInstance
def smallG (g : List (List Int)) : Prop := g.length ≤ 10000000 ∧ ∀ r ∈ g, r.length ≤ 10000000
theorem wrap_pred (m : Nat) (h : m < 9223372036854775807) : IntKind.i64.wrap (((m + 1 : Nat) : Int) - 1) = (m : Int) := by rw [wrap_i64_id] <;> omega
theorem valid4_ok (g : List (List Int)) (hg : smallG g) : ACalls Tryz.prog 140 [.p (.sl (encG g))] [] fun h r => h = [] ∧ r = .p (.bool (decide (gphP g))) := by
  obtain ⟨hg1, hg2⟩ := hg
  refine ACalls_X Tryz.func140 rfl enters140 (by simp [Tryz.f140]) ?_
  simp only [go_sem, ↓reduceIte, Nat.reduceLT, Nat.reduceLeDiff, Nat.reduceEqDiff, Nat.reduceAdd, Nat.reduceMul, Nat.reduceSub, reduceCtorEq, Int.reduceLT, Int.reduceLE, Int.reduceEq, Int.reduceToNat, decide_true, decide_false, Int.reduceNeg, Int.cast_ofNat_Int, sg, AO.sg, Option.isNone_none, encG_len]
  refine Cn_split (fun h1 => ?_) (fun h1 => ?_)
  · simp only [go_sem, ↓reduceIte, Nat.reduceLT, Nat.reduceLeDiff, Nat.reduceEqDiff, Nat.reduceAdd, Nat.reduceMul, Nat.reduceSub, reduceCtorEq, Int.reduceLT, Int.reduceLE, Int.reduceEq, Int.reduceToNat, decide_true, decide_false, Int.reduceNeg, Int.cast_ofNat_Int, sg, AO.sg, Option.isNone_none]
    rw [decide_eq_false (fun hp => ?_)]
    have := hp.1
    simp at h1
    omega
  have hlen : g.length ≤ 24 := by simp at h1; omega
  simp only [go_sem, ↓reduceIte, Nat.reduceLT, Nat.reduceLeDiff, Nat.reduceEqDiff, Nat.reduceAdd, Nat.reduceMul, Nat.reduceSub, reduceCtorEq, Int.reduceLT, Int.reduceLE, Int.reduceEq, Int.reduceToNat, decide_true, decide_false, Int.reduceNeg, Int.cast_ofNat_Int, sg, AO.sg, Option.isNone_none]
  refine X_loop_inv (fun i : Nat => ⟨[(0, .p (.sl (encG g))), (3, .p (.int .i64 (i : Nat)))], [], 60⟩) (fun i => i ≤ g.length ∧ ∀ j, j < i → rowP g.length j (g.getD j [])) (fun i => g.length - i) 0 ⟨Nat.zero_le _, fun j hj => absurd hj (Nat.not_lt_zero _)⟩ (Wk.forget (by simp [Le, LeE, LeH, get, envIds, hpIds, KeepH, D.ids, idsL, AO.ids, setL, base])) ?_
  rintro i n ⟨hi, hrows⟩ ih
  simp only [go_sem, ↓reduceIte, Nat.reduceLT, Nat.reduceLeDiff, Nat.reduceEqDiff, Nat.reduceAdd, Nat.reduceMul, Nat.reduceSub, reduceCtorEq, Int.reduceLT, Int.reduceLE, Int.reduceEq, Int.reduceToNat, decide_true, decide_false, Int.reduceNeg, Int.cast_ofNat_Int, sg, AO.sg, Option.isNone_none, encG_len]
  refine Cn_split (fun h2 => ?_) (fun h2 => ?_)
  rotate_left
  · simp only [go_sem, ↓reduceIte, Nat.reduceLT, Nat.reduceLeDiff, Nat.reduceEqDiff, Nat.reduceAdd, Nat.reduceMul, Nat.reduceSub, reduceCtorEq, Int.reduceLT, Int.reduceLE, Int.reduceEq, Int.reduceToNat, decide_true, decide_false, Int.reduceNeg, Int.cast_ofNat_Int, sg, AO.sg, Option.isNone_none]
    have : i = g.length := by simp at h2; omega
    subst this
    rw [decide_eq_true ⟨hlen, hrows⟩]
  have hlt : i < g.length := by simp at h2; omega
  have hw := wrap_succ i (by omega)
  have hrl := hg2 _ (getD_mem g i [] hlt)
  have hgi := encG_get g i hlt
  have hbad : ¬ rowP g.length i (g.getD i []) → decide (gphP g) = false := fun h => decide_eq_false (fun hp => h (hp.2 i hlt))
  have hgood : rowP g.length i (g.getD i []) → ∀ j, j < i + 1 → rowP g.length j (g.getD j []) := fun h j hj => by
    rcases Nat.lt_succ_iff_lt_or_eq.1 hj with h3 | rfl
    · exact hrows j h3
    · exact h
  generalize g.getD i [] = r at hrl hgi hbad hgood
  have hi0 : (0 : Int) ≤ (i : Int) ∧ (i : Int) < (g.length : Int) := by omega
  simp only [go_sem, ↓reduceIte, Nat.reduceLT, Nat.reduceLeDiff, Nat.reduceEqDiff, Nat.reduceAdd, Nat.reduceMul, Nat.reduceSub, reduceCtorEq, Int.reduceLT, Int.reduceLE, Int.reduceEq, Int.reduceToNat, decide_true, decide_false, Int.reduceNeg, Int.cast_ofNat_Int, sg, AO.sg, Option.isNone_none]
  refine X_loop_inv (fun k : Nat => ⟨[(0, .p (.sl (encG g))), (3, .p (.int .i64 (i : Nat))), (4, .p (.int .i64 (k : Nat)))], [], 60⟩) (fun k => k ≤ r.length ∧ ∀ j, j < k → okAt g.length i r j) (fun k => r.length - k) 0 ⟨Nat.zero_le _, fun j hj => absurd hj (Nat.not_lt_zero _)⟩ (Wk.forget (by simp [Le, LeE, LeH, get, envIds, hpIds, KeepH, D.ids, idsL, AO.ids, setL, base])) ?_
  rintro k n2 ⟨hk, hok⟩ ih2
  simp only [go_sem, ↓reduceIte, Nat.reduceLT, Nat.reduceLeDiff, Nat.reduceEqDiff, Nat.reduceAdd, Nat.reduceMul, Nat.reduceSub, reduceCtorEq, Int.reduceLT, Int.reduceLE, Int.reduceEq, Int.reduceToNat, decide_true, decide_false, Int.reduceNeg, Int.cast_ofNat_Int, sg, AO.sg, Option.isNone_none, encG_len, encI_len, Int.toNat_natCast, hgi, hi0]
  refine Cn_split (fun h3 => ?_) (fun h3 => ?_)
  rotate_left
  · have : k = r.length := by simp at h3; omega
    subst this
    simp only [go_sem, ↓reduceIte, Nat.reduceLT, Nat.reduceLeDiff, Nat.reduceEqDiff, Nat.reduceAdd, Nat.reduceMul, Nat.reduceSub, reduceCtorEq, Int.reduceLT, Int.reduceLE, Int.reduceEq, Int.reduceToNat, decide_true, decide_false, Int.reduceNeg, Int.cast_ofNat_Int, sg, AO.sg, Option.isNone_none, hw]
    refine ih (i + 1) _ ⟨hlt, hgood hok⟩ (by omega) ?_
    (refine Wk.forget ?_; simp [Le, LeE, LeH, get, envIds, hpIds, KeepH, D.ids, idsL, AO.ids, setL, base]; done)
  have hkt : k < r.length := by simp at h3; omega
  have hwk := wrap_succ k (by omega)
  have hgk := encI_get r k hkt
  have hk0 : (0 : Int) ≤ (k : Int) ∧ (k : Int) < (r.length : Int) := by omega
  have hat : okAt g.length i r k ↔ (0 ≤ r.getD k 0 ∧ r.getD k 0 < (g.length : Int) ∧ r.getD k 0 ≠ (i : Int) ∧ (0 < k → r.getD (k - 1) 0 < r.getD k 0)) := Iff.rfl
  have hne : ¬ okAt g.length i r k → decide (gphP g) = false := fun h => hbad (fun hp => h (hp k hkt))
  have hyes : okAt g.length i r k → ∀ j, j < k + 1 → okAt g.length i r j := fun h j hj => by
    rcases Nat.lt_succ_iff_lt_or_eq.1 hj with h4 | rfl
    · exact hok j h4
    · exact h
  rcases k with _ | m
  · have hz0 : (0 : Int) < (r.length : Int) := by omega
    have hwz : IntKind.i64.wrap (0 + 1) = 1 := rfl
    generalize r.getD 0 0 = y at hgk hat
    cases c1 : decide (y < 0)
    rotate_left
    · simp only [go_sem, ↓reduceIte, Nat.reduceLT, Nat.reduceLeDiff, Nat.reduceEqDiff, Nat.reduceAdd, Nat.reduceMul, Nat.reduceSub, reduceCtorEq, Int.reduceLT, Int.reduceLE, Int.reduceEq, Int.reduceToNat, decide_true, decide_false, Int.reduceNeg, Int.cast_ofNat_Int, sg, AO.sg, Option.isNone_none, encG_len, encI_len, Int.toNat_natCast, hgi, hi0, hgk, hz0, c1]
      rw [hne (fun hp => by have := hat.1 hp; simp at c1; omega)]
    cases c2 : decide ((g.length : Int) ≤ y)
    rotate_left
    · simp only [go_sem, ↓reduceIte, Nat.reduceLT, Nat.reduceLeDiff, Nat.reduceEqDiff, Nat.reduceAdd, Nat.reduceMul, Nat.reduceSub, reduceCtorEq, Int.reduceLT, Int.reduceLE, Int.reduceEq, Int.reduceToNat, decide_true, decide_false, Int.reduceNeg, Int.cast_ofNat_Int, sg, AO.sg, Option.isNone_none, encG_len, encI_len, Int.toNat_natCast, hgi, hi0, hgk, hz0, c1, c2]
      rw [hne (fun hp => by have := hat.1 hp; simp at c2; omega)]
    cases c3 : decide (y = (i : Int))
    rotate_left
    · simp only [go_sem, ↓reduceIte, Nat.reduceLT, Nat.reduceLeDiff, Nat.reduceEqDiff, Nat.reduceAdd, Nat.reduceMul, Nat.reduceSub, reduceCtorEq, Int.reduceLT, Int.reduceLE, Int.reduceEq, Int.reduceToNat, decide_true, decide_false, Int.reduceNeg, Int.cast_ofNat_Int, sg, AO.sg, Option.isNone_none, encG_len, encI_len, Int.toNat_natCast, hgi, hi0, hgk, hz0, c1, c2, c3]
      rw [hne (fun hp => by have := hat.1 hp; simp at c3; omega)]
    simp only [go_sem, ↓reduceIte, Nat.reduceLT, Nat.reduceLeDiff, Nat.reduceEqDiff, Nat.reduceAdd, Nat.reduceMul, Nat.reduceSub, reduceCtorEq, Int.reduceLT, Int.reduceLE, Int.reduceEq, Int.reduceToNat, decide_true, decide_false, Int.reduceNeg, Int.cast_ofNat_Int, sg, AO.sg, Option.isNone_none, encG_len, encI_len, Int.toNat_natCast, hgi, hi0, hgk, hz0, c1, c2, c3, hwz]
    refine ih2 (0 + 1) _ ⟨hkt, hyes (hat.2 (by simp at c1 c2 c3; exact ⟨by omega, by omega, c3, fun h => absurd h (Nat.lt_irrefl _)⟩))⟩ (by omega) ?_
    (refine Wk.forget ?_; simp [Le, LeE, LeH, get, envIds, hpIds, KeepH, D.ids, idsL, AO.ids, setL, base]; done)
  · have hmt : m < r.length := by omega
    have hgm := encI_get r m hmt
    have hm0 : (0 : Int) ≤ (m : Int) ∧ (m : Int) < (r.length : Int) := by omega
    have hwp := wrap_pred m (by omega)
    have hkp : (0 : Int) < ((m + 1 : Nat) : Int) := by omega
    rw [show m + 1 - 1 = m from rfl] at hat
    generalize r.getD (m + 1) 0 = y at hgk hat
    generalize r.getD m 0 = z at hgm hat
    cases c1 : decide (y < 0)
    rotate_left
    · simp only [go_sem, ↓reduceIte, Nat.reduceLT, Nat.reduceLeDiff, Nat.reduceEqDiff, Nat.reduceAdd, Nat.reduceMul, Nat.reduceSub, reduceCtorEq, Int.reduceLT, Int.reduceLE, Int.reduceEq, Int.reduceToNat, decide_true, decide_false, Int.reduceNeg, Int.cast_ofNat_Int, sg, AO.sg, Option.isNone_none, encG_len, encI_len, Int.toNat_natCast, hgi, hi0, hgk, hk0, c1]
      rw [hne (fun hp => by have := hat.1 hp; simp at c1; omega)]
    cases c2 : decide ((g.length : Int) ≤ y)
    rotate_left
    · simp only [go_sem, ↓reduceIte, Nat.reduceLT, Nat.reduceLeDiff, Nat.reduceEqDiff, Nat.reduceAdd, Nat.reduceMul, Nat.reduceSub, reduceCtorEq, Int.reduceLT, Int.reduceLE, Int.reduceEq, Int.reduceToNat, decide_true, decide_false, Int.reduceNeg, Int.cast_ofNat_Int, sg, AO.sg, Option.isNone_none, encG_len, encI_len, Int.toNat_natCast, hgi, hi0, hgk, hk0, c1, c2]
      rw [hne (fun hp => by have := hat.1 hp; simp at c2; omega)]
    cases c3 : decide (y = (i : Int))
    rotate_left
    · simp only [go_sem, ↓reduceIte, Nat.reduceLT, Nat.reduceLeDiff, Nat.reduceEqDiff, Nat.reduceAdd, Nat.reduceMul, Nat.reduceSub, reduceCtorEq, Int.reduceLT, Int.reduceLE, Int.reduceEq, Int.reduceToNat, decide_true, decide_false, Int.reduceNeg, Int.cast_ofNat_Int, sg, AO.sg, Option.isNone_none, encG_len, encI_len, Int.toNat_natCast, hgi, hi0, hgk, hk0, c1, c2, c3]
      rw [hne (fun hp => by have := hat.1 hp; simp at c3; omega)]
    cases c4 : decide (y ≤ z)
    rotate_left
    · simp only [go_sem, ↓reduceIte, Nat.reduceLT, Nat.reduceLeDiff, Nat.reduceEqDiff, Nat.reduceAdd, Nat.reduceMul, Nat.reduceSub, reduceCtorEq, Int.reduceLT, Int.reduceLE, Int.reduceEq, Int.reduceToNat, decide_true, decide_false, Int.reduceNeg, Int.cast_ofNat_Int, sg, AO.sg, Option.isNone_none, encG_len, encI_len, Int.toNat_natCast, hgi, hi0, hgk, hk0, hgm, hm0, hwp, hkp, c1, c2, c3, c4]
      rw [hne (fun hp => by have := (hat.1 hp).2.2.2 (by omega); simp at c4; omega)]
    simp only [go_sem, ↓reduceIte, Nat.reduceLT, Nat.reduceLeDiff, Nat.reduceEqDiff, Nat.reduceAdd, Nat.reduceMul, Nat.reduceSub, reduceCtorEq, Int.reduceLT, Int.reduceLE, Int.reduceEq, Int.reduceToNat, decide_true, decide_false, Int.reduceNeg, Int.cast_ofNat_Int, sg, AO.sg, Option.isNone_none, encG_len, encI_len, Int.toNat_natCast, hgi, hi0, hgk, hk0, hgm, hm0, hwp, hkp, c1, c2, c3, c4, hwk]
    refine ih2 (m + 1 + 1) _ ⟨hkt, hyes (hat.2 (by simp at c1 c2 c3 c4; exact ⟨by omega, by omega, c3, fun _ => by omega⟩))⟩ (by omega) ?_
    (refine Wk.forget ?_; simp [Le, LeE, LeH, get, envIds, hpIds, KeepH, D.ids, idsL, AO.ids, setL, base]; done)
end Go.Am
end

section
/- The reference's check of the blocks of a network. Its inner part began as Chkg's. -/
namespace Go.Am
open Go Go.Proofs
set_option maxRecDepth 100000
set_option linter.unusedVariables false
set_option linter.unusedSimpArgs false
def xyP (b : Blk) : Prop := -9999 ≤ b.x ∧ b.x ≤ 9999 ∧ -9999 ≤ b.y ∧ b.y ≤ 9999
instance (b : Blk) : Decidable (xyP b) := by unfold xyP; exact inferInstance
def blocksP (n : Nt) : Prop := 1 ≤ n.blocks.length ∧ n.blocks.length ≤ 24 ∧ n.next.length = n.blocks.length ∧ ∀ i, i < n.blocks.length → xyP (n.blocks.getD i blk0) ∧ (n.next.getD i []).length ≤ 4 ∧ rowP n.blocks.length i (n.next.getD i [])
instance (n : Nt) : Decidable (blocksP n) := by unfold blocksP; exact inferInstance
set_option maxHeartbeats 800000 in
theorem blocks_ok (n : Nt) (hb : n.blocks.length ≤ 10000000) (hg : smallG n.next) : ACalls Tryz.prog 67 [.agg n.cs] [] fun h r => h = [] ∧ r = .p (.bool (decide (blocksP n))) := by
  obtain ⟨hg1, hg2⟩ := hg
  obtain ⟨bl, nx, sp, rb, cq, ca, cd, cp⟩ := n
  simp only at hb hg1 hg2
  refine ACalls_X Tryz.func67 rfl enters67 (by simp [Tryz.f67]) ?_
  cases d1 : decide ((bl.length : Int) < 1)
  rotate_left
  · simp only [go_sem, ↓reduceIte, Nat.reduceLT, Nat.reduceLeDiff, Nat.reduceEqDiff, Nat.reduceAdd, Nat.reduceMul, Nat.reduceSub, reduceCtorEq, Int.reduceLT, Int.reduceLE, Int.reduceEq, Int.reduceToNat, decide_true, decide_false, Int.reduceNeg, Int.cast_ofNat_Int, sg, AO.sg, Option.isNone_none, Nt.cs, encK_len, encG_len, d1]
    rw [decide_eq_false (fun hp => by have := hp.1; have hd := of_decide_eq_true d1; simp only at this; omega)]
  cases d2 : decide (24 < (bl.length : Int))
  rotate_left
  · simp only [go_sem, ↓reduceIte, Nat.reduceLT, Nat.reduceLeDiff, Nat.reduceEqDiff, Nat.reduceAdd, Nat.reduceMul, Nat.reduceSub, reduceCtorEq, Int.reduceLT, Int.reduceLE, Int.reduceEq, Int.reduceToNat, decide_true, decide_false, Int.reduceNeg, Int.cast_ofNat_Int, sg, AO.sg, Option.isNone_none, Nt.cs, encK_len, encG_len, d1, d2]
    rw [decide_eq_false (fun hp => by have := hp.2.1; simp at d2; simp only at this; omega)]
  cases d3 : decide ((nx.length : Int) = (bl.length : Int))
  · simp only [go_sem, ↓reduceIte, Nat.reduceLT, Nat.reduceLeDiff, Nat.reduceEqDiff, Nat.reduceAdd, Nat.reduceMul, Nat.reduceSub, reduceCtorEq, Int.reduceLT, Int.reduceLE, Int.reduceEq, Int.reduceToNat, decide_true, decide_false, Int.reduceNeg, Int.cast_ofNat_Int, sg, AO.sg, Option.isNone_none, Nt.cs, encK_len, encG_len, d1, d2, d3]
    rw [decide_eq_false (fun hp => by have := hp.2.2.1; have hd := of_decide_eq_false d3; simp only at this; omega)]
  have hl1 : 1 ≤ bl.length := by have := of_decide_eq_false d1; omega
  have hl2 : bl.length ≤ 24 := by have := of_decide_eq_false d2; omega
  have hl3 : nx.length = bl.length := by have := of_decide_eq_true d3; omega
  simp only [go_sem, ↓reduceIte, Nat.reduceLT, Nat.reduceLeDiff, Nat.reduceEqDiff, Nat.reduceAdd, Nat.reduceMul, Nat.reduceSub, reduceCtorEq, Int.reduceLT, Int.reduceLE, Int.reduceEq, Int.reduceToNat, decide_true, decide_false, Int.reduceNeg, Int.cast_ofNat_Int, sg, AO.sg, Option.isNone_none, Nt.cs, encK_len, encG_len, d1, d2, d3]
  clear d1 d2 d3
  refine X_loop_inv (fun i : Nat => ⟨[(1, .ptr 1 0), (3, .p (.int .i64 (i : Nat)))], [(1, .box (Nt.cs ⟨bl, nx, sp, rb, cq, ca, cd, cp⟩))], 114⟩) (fun i => i ≤ bl.length ∧ ∀ j, j < i → xyP (bl.getD j blk0) ∧ (nx.getD j []).length ≤ 4 ∧ rowP bl.length j (nx.getD j [])) (fun i => bl.length - i) 0 ⟨Nat.zero_le _, fun j hj => absurd hj (Nat.not_lt_zero _)⟩ (Wk.forget (by simp [Le, LeE, LeH, get, envIds, hpIds, KeepH, D.ids, idsL, AO.ids, setL, base, Nt.cs])) ?_
  rintro i n ⟨hi, hrows⟩ ih
  simp only [go_sem, ↓reduceIte, Nat.reduceLT, Nat.reduceLeDiff, Nat.reduceEqDiff, Nat.reduceAdd, Nat.reduceMul, Nat.reduceSub, reduceCtorEq, Int.reduceLT, Int.reduceLE, Int.reduceEq, Int.reduceToNat, decide_true, decide_false, Int.reduceNeg, Int.cast_ofNat_Int, sg, AO.sg, Option.isNone_none, Nt.cs, encK_len]
  refine Cn_split (fun h2 => ?_) (fun h2 => ?_)
  rotate_left
  · simp only [go_sem, ↓reduceIte, Nat.reduceLT, Nat.reduceLeDiff, Nat.reduceEqDiff, Nat.reduceAdd, Nat.reduceMul, Nat.reduceSub, reduceCtorEq, Int.reduceLT, Int.reduceLE, Int.reduceEq, Int.reduceToNat, decide_true, decide_false, Int.reduceNeg, Int.cast_ofNat_Int, sg, AO.sg, Option.isNone_none]
    have : i = bl.length := by simp at h2; omega
    subst this
    rw [decide_eq_true ⟨hl1, hl2, hl3, hrows⟩]
  have hlt : i < bl.length := by simp at h2; omega
  have hw := wrap_succ i (by omega)
  have hrl := hg2 _ (getD_mem nx i [] (by omega))
  have hgi := encG_get nx i (by omega)
  have hgb := encK_get bl i hlt
  have hbad2 : ¬ (xyP (bl.getD i blk0) ∧ (nx.getD i []).length ≤ 4 ∧ rowP bl.length i (nx.getD i [])) → decide (blocksP ⟨bl, nx, sp, rb, cq, ca, cd, cp⟩) = false := fun h => decide_eq_false (fun hp => h (hp.2.2.2 i hlt))
  have hgood2 : (xyP (bl.getD i blk0) ∧ (nx.getD i []).length ≤ 4 ∧ rowP bl.length i (nx.getD i [])) → ∀ j, j < i + 1 → xyP (bl.getD j blk0) ∧ (nx.getD j []).length ≤ 4 ∧ rowP bl.length j (nx.getD j []) := fun h j hj => by
    rcases Nat.lt_succ_iff_lt_or_eq.1 hj with h3 | rfl
    · exact hrows j h3
    · exact h
  generalize nx.getD i [] = r at hrl hgi hbad2 hgood2
  generalize bl.getD i blk0 = b at hgb hbad2 hgood2
  have hi0 : (0 : Int) ≤ (i : Int) ∧ (i : Int) < (nx.length : Int) := by omega
  have hi1 : (i : Int) < (bl.length : Int) := by omega
  cases c1 : decide (b.x < -9999)
  rotate_left
  · simp only [go_sem, ↓reduceIte, Nat.reduceLT, Nat.reduceLeDiff, Nat.reduceEqDiff, Nat.reduceAdd, Nat.reduceMul, Nat.reduceSub, reduceCtorEq, Int.reduceLT, Int.reduceLE, Int.reduceEq, Int.reduceToNat, decide_true, decide_false, Int.reduceNeg, Int.cast_ofNat_Int, sg, AO.sg, Option.isNone_none, encG_len, encK_len, encI_len, Nt.cs, Int.toNat_natCast, hgi, hgb, hi0, hi1, c1]
    rw [hbad2 (fun hp => by have := hp.1.1; simp at c1; omega)]
  cases c2 : decide (9999 < b.x)
  rotate_left
  · simp only [go_sem, ↓reduceIte, Nat.reduceLT, Nat.reduceLeDiff, Nat.reduceEqDiff, Nat.reduceAdd, Nat.reduceMul, Nat.reduceSub, reduceCtorEq, Int.reduceLT, Int.reduceLE, Int.reduceEq, Int.reduceToNat, decide_true, decide_false, Int.reduceNeg, Int.cast_ofNat_Int, sg, AO.sg, Option.isNone_none, encG_len, encK_len, encI_len, Nt.cs, Int.toNat_natCast, hgi, hgb, hi0, hi1, c1, c2]
    rw [hbad2 (fun hp => by have := hp.1.2.1; simp at c2; omega)]
  cases c3 : decide (b.y < -9999)
  rotate_left
  · simp only [go_sem, ↓reduceIte, Nat.reduceLT, Nat.reduceLeDiff, Nat.reduceEqDiff, Nat.reduceAdd, Nat.reduceMul, Nat.reduceSub, reduceCtorEq, Int.reduceLT, Int.reduceLE, Int.reduceEq, Int.reduceToNat, decide_true, decide_false, Int.reduceNeg, Int.cast_ofNat_Int, sg, AO.sg, Option.isNone_none, encG_len, encK_len, encI_len, Nt.cs, Int.toNat_natCast, hgi, hgb, hi0, hi1, c1, c2, c3]
    rw [hbad2 (fun hp => by have := hp.1.2.2.1; simp at c3; omega)]
  cases c4 : decide (9999 < b.y)
  rotate_left
  · simp only [go_sem, ↓reduceIte, Nat.reduceLT, Nat.reduceLeDiff, Nat.reduceEqDiff, Nat.reduceAdd, Nat.reduceMul, Nat.reduceSub, reduceCtorEq, Int.reduceLT, Int.reduceLE, Int.reduceEq, Int.reduceToNat, decide_true, decide_false, Int.reduceNeg, Int.cast_ofNat_Int, sg, AO.sg, Option.isNone_none, encG_len, encK_len, encI_len, Nt.cs, Int.toNat_natCast, hgi, hgb, hi0, hi1, c1, c2, c3, c4]
    rw [hbad2 (fun hp => by have := hp.1.2.2.2; simp at c4; omega)]
  cases c5 : decide (4 < (r.length : Int))
  rotate_left
  · simp only [go_sem, ↓reduceIte, Nat.reduceLT, Nat.reduceLeDiff, Nat.reduceEqDiff, Nat.reduceAdd, Nat.reduceMul, Nat.reduceSub, reduceCtorEq, Int.reduceLT, Int.reduceLE, Int.reduceEq, Int.reduceToNat, decide_true, decide_false, Int.reduceNeg, Int.cast_ofNat_Int, sg, AO.sg, Option.isNone_none, encG_len, encK_len, encI_len, Nt.cs, Int.toNat_natCast, hgi, hgb, hi0, hi1, c1, c2, c3, c4, c5]
    rw [hbad2 (fun hp => by have := hp.2.1; simp at c5; omega)]
  simp only [go_sem, ↓reduceIte, Nat.reduceLT, Nat.reduceLeDiff, Nat.reduceEqDiff, Nat.reduceAdd, Nat.reduceMul, Nat.reduceSub, reduceCtorEq, Int.reduceLT, Int.reduceLE, Int.reduceEq, Int.reduceToNat, decide_true, decide_false, Int.reduceNeg, Int.cast_ofNat_Int, sg, AO.sg, Option.isNone_none, encG_len, encK_len, encI_len, Nt.cs, Int.toNat_natCast, hgi, hgb, hi0, hi1, c1, c2, c3, c4, c5]
  have hxy : xyP b := by simp at c1 c2 c3 c4; exact ⟨c1, c2, c3, c4⟩
  have hr4 : r.length ≤ 4 := by simp at c5; omega
  clear c1 c2 c3 c4 c5
  have hbad : ¬ rowP bl.length i r → decide (blocksP ⟨bl, nx, sp, rb, cq, ca, cd, cp⟩) = false := fun h => hbad2 (fun hp => h hp.2.2)
  have hgood : rowP bl.length i r → ∀ j, j < i + 1 → xyP (bl.getD j blk0) ∧ (nx.getD j []).length ≤ 4 ∧ rowP bl.length j (nx.getD j []) := fun h => hgood2 ⟨hxy, hr4, h⟩
  refine X_loop_inv (fun k : Nat => ⟨[(1, .ptr 1 0), (3, .p (.int .i64 (i : Nat))), (4, .ptr 4 0), (5, .p (.int .i64 (k : Nat)))], [(1, .box (Nt.cs ⟨bl, nx, sp, rb, cq, ca, cd, cp⟩)), (4, .box [.p (.str b.name), .p (.int .i64 b.x), .p (.int .i64 b.y)])], 114⟩) (fun k => k ≤ r.length ∧ ∀ j, j < k → okAt bl.length i r j) (fun k => r.length - k) 0 ⟨Nat.zero_le _, fun j hj => absurd hj (Nat.not_lt_zero _)⟩ (Wk.forget (by simp [Le, LeE, LeH, get, envIds, hpIds, KeepH, D.ids, idsL, AO.ids, setL, base, Nt.cs])) ?_
  rintro k n2 ⟨hk, hok⟩ ih2
  simp only [go_sem, ↓reduceIte, Nat.reduceLT, Nat.reduceLeDiff, Nat.reduceEqDiff, Nat.reduceAdd, Nat.reduceMul, Nat.reduceSub, reduceCtorEq, Int.reduceLT, Int.reduceLE, Int.reduceEq, Int.reduceToNat, decide_true, decide_false, Int.reduceNeg, Int.cast_ofNat_Int, sg, AO.sg, Option.isNone_none, encG_len, encK_len, encI_len, Nt.cs, Int.toNat_natCast, hgi, hi0, hi1]
  refine Cn_split (fun h3 => ?_) (fun h3 => ?_)
  rotate_left
  · have : k = r.length := by simp at h3; omega
    subst this
    simp only [go_sem, ↓reduceIte, Nat.reduceLT, Nat.reduceLeDiff, Nat.reduceEqDiff, Nat.reduceAdd, Nat.reduceMul, Nat.reduceSub, reduceCtorEq, Int.reduceLT, Int.reduceLE, Int.reduceEq, Int.reduceToNat, decide_true, decide_false, Int.reduceNeg, Int.cast_ofNat_Int, sg, AO.sg, Option.isNone_none, hw]
    refine ih (i + 1) _ ⟨hlt, hgood hok⟩ (by omega) ?_
    (refine Wk.forget ?_; simp [Le, LeE, LeH, get, envIds, hpIds, KeepH, D.ids, idsL, AO.ids, setL, base, Nt.cs]; done)
  have hkt : k < r.length := by simp at h3; omega
  have hwk := wrap_succ k (by omega)
  have hgk := encI_get r k hkt
  have hk0 : (0 : Int) ≤ (k : Int) ∧ (k : Int) < (r.length : Int) := by omega
  have hat : okAt bl.length i r k ↔ (0 ≤ r.getD k 0 ∧ r.getD k 0 < (bl.length : Int) ∧ r.getD k 0 ≠ (i : Int) ∧ (0 < k → r.getD (k - 1) 0 < r.getD k 0)) := Iff.rfl
  have hne : ¬ okAt bl.length i r k → decide (blocksP ⟨bl, nx, sp, rb, cq, ca, cd, cp⟩) = false := fun h => hbad (fun hp => h (hp k hkt))
  have hyes : okAt bl.length i r k → ∀ j, j < k + 1 → okAt bl.length i r j := fun h j hj => by
    rcases Nat.lt_succ_iff_lt_or_eq.1 hj with h4 | rfl
    · exact hok j h4
    · exact h
  rcases k with _ | m
  · have hz0 : (0 : Int) < (r.length : Int) := by omega
    have hwz : IntKind.i64.wrap (0 + 1) = 1 := rfl
    generalize r.getD 0 0 = y at hgk hat
    cases c1 : decide (y < 0)
    rotate_left
    · simp only [go_sem, ↓reduceIte, Nat.reduceLT, Nat.reduceLeDiff, Nat.reduceEqDiff, Nat.reduceAdd, Nat.reduceMul, Nat.reduceSub, reduceCtorEq, Int.reduceLT, Int.reduceLE, Int.reduceEq, Int.reduceToNat, decide_true, decide_false, Int.reduceNeg, Int.cast_ofNat_Int, sg, AO.sg, Option.isNone_none, encG_len, encK_len, encI_len, Nt.cs, Int.toNat_natCast, hgi, hi0, hi1, hgk, hz0, c1]
      rw [hne (fun hp => by have := hat.1 hp; simp at c1; omega)]
    cases c2 : decide ((bl.length : Int) ≤ y)
    rotate_left
    · simp only [go_sem, ↓reduceIte, Nat.reduceLT, Nat.reduceLeDiff, Nat.reduceEqDiff, Nat.reduceAdd, Nat.reduceMul, Nat.reduceSub, reduceCtorEq, Int.reduceLT, Int.reduceLE, Int.reduceEq, Int.reduceToNat, decide_true, decide_false, Int.reduceNeg, Int.cast_ofNat_Int, sg, AO.sg, Option.isNone_none, encG_len, encK_len, encI_len, Nt.cs, Int.toNat_natCast, hgi, hi0, hi1, hgk, hz0, c1, c2]
      rw [hne (fun hp => by have := hat.1 hp; simp at c2; omega)]
    cases c3 : decide (y = (i : Int))
    rotate_left
    · simp only [go_sem, ↓reduceIte, Nat.reduceLT, Nat.reduceLeDiff, Nat.reduceEqDiff, Nat.reduceAdd, Nat.reduceMul, Nat.reduceSub, reduceCtorEq, Int.reduceLT, Int.reduceLE, Int.reduceEq, Int.reduceToNat, decide_true, decide_false, Int.reduceNeg, Int.cast_ofNat_Int, sg, AO.sg, Option.isNone_none, encG_len, encK_len, encI_len, Nt.cs, Int.toNat_natCast, hgi, hi0, hi1, hgk, hz0, c1, c2, c3]
      rw [hne (fun hp => by have := hat.1 hp; simp at c3; omega)]
    simp only [go_sem, ↓reduceIte, Nat.reduceLT, Nat.reduceLeDiff, Nat.reduceEqDiff, Nat.reduceAdd, Nat.reduceMul, Nat.reduceSub, reduceCtorEq, Int.reduceLT, Int.reduceLE, Int.reduceEq, Int.reduceToNat, decide_true, decide_false, Int.reduceNeg, Int.cast_ofNat_Int, sg, AO.sg, Option.isNone_none, encG_len, encK_len, encI_len, Nt.cs, Int.toNat_natCast, hgi, hi0, hi1, hgk, hz0, c1, c2, c3, hwz]
    refine ih2 (0 + 1) _ ⟨hkt, hyes (hat.2 (by simp at c1 c2 c3; exact ⟨by omega, by omega, c3, fun h => absurd h (Nat.lt_irrefl _)⟩))⟩ (by omega) ?_
    (refine Wk.forget ?_; simp [Le, LeE, LeH, get, envIds, hpIds, KeepH, D.ids, idsL, AO.ids, setL, base, Nt.cs]; done)
  · have hmt : m < r.length := by omega
    have hgm := encI_get r m hmt
    have hm0 : (0 : Int) ≤ (m : Int) ∧ (m : Int) < (r.length : Int) := by omega
    have hwp := wrap_pred m (by omega)
    have hkp : (0 : Int) < ((m + 1 : Nat) : Int) := by omega
    rw [show m + 1 - 1 = m from rfl] at hat
    generalize r.getD (m + 1) 0 = y at hgk hat
    generalize r.getD m 0 = z at hgm hat
    cases c1 : decide (y < 0)
    rotate_left
    · simp only [go_sem, ↓reduceIte, Nat.reduceLT, Nat.reduceLeDiff, Nat.reduceEqDiff, Nat.reduceAdd, Nat.reduceMul, Nat.reduceSub, reduceCtorEq, Int.reduceLT, Int.reduceLE, Int.reduceEq, Int.reduceToNat, decide_true, decide_false, Int.reduceNeg, Int.cast_ofNat_Int, sg, AO.sg, Option.isNone_none, encG_len, encK_len, encI_len, Nt.cs, Int.toNat_natCast, hgi, hi0, hi1, hgk, hk0, c1]
      rw [hne (fun hp => by have := hat.1 hp; simp at c1; omega)]
    cases c2 : decide ((bl.length : Int) ≤ y)
    rotate_left
    · simp only [go_sem, ↓reduceIte, Nat.reduceLT, Nat.reduceLeDiff, Nat.reduceEqDiff, Nat.reduceAdd, Nat.reduceMul, Nat.reduceSub, reduceCtorEq, Int.reduceLT, Int.reduceLE, Int.reduceEq, Int.reduceToNat, decide_true, decide_false, Int.reduceNeg, Int.cast_ofNat_Int, sg, AO.sg, Option.isNone_none, encG_len, encK_len, encI_len, Nt.cs, Int.toNat_natCast, hgi, hi0, hi1, hgk, hk0, c1, c2]
      rw [hne (fun hp => by have := hat.1 hp; simp at c2; omega)]
    cases c3 : decide (y = (i : Int))
    rotate_left
    · simp only [go_sem, ↓reduceIte, Nat.reduceLT, Nat.reduceLeDiff, Nat.reduceEqDiff, Nat.reduceAdd, Nat.reduceMul, Nat.reduceSub, reduceCtorEq, Int.reduceLT, Int.reduceLE, Int.reduceEq, Int.reduceToNat, decide_true, decide_false, Int.reduceNeg, Int.cast_ofNat_Int, sg, AO.sg, Option.isNone_none, encG_len, encK_len, encI_len, Nt.cs, Int.toNat_natCast, hgi, hi0, hi1, hgk, hk0, c1, c2, c3]
      rw [hne (fun hp => by have := hat.1 hp; simp at c3; omega)]
    cases c4 : decide (y ≤ z)
    rotate_left
    · simp only [go_sem, ↓reduceIte, Nat.reduceLT, Nat.reduceLeDiff, Nat.reduceEqDiff, Nat.reduceAdd, Nat.reduceMul, Nat.reduceSub, reduceCtorEq, Int.reduceLT, Int.reduceLE, Int.reduceEq, Int.reduceToNat, decide_true, decide_false, Int.reduceNeg, Int.cast_ofNat_Int, sg, AO.sg, Option.isNone_none, encG_len, encK_len, encI_len, Nt.cs, Int.toNat_natCast, hgi, hi0, hi1, hgk, hk0, hgm, hm0, hwp, hkp, c1, c2, c3, c4]
      rw [hne (fun hp => by have := (hat.1 hp).2.2.2 (by omega); simp at c4; omega)]
    simp only [go_sem, ↓reduceIte, Nat.reduceLT, Nat.reduceLeDiff, Nat.reduceEqDiff, Nat.reduceAdd, Nat.reduceMul, Nat.reduceSub, reduceCtorEq, Int.reduceLT, Int.reduceLE, Int.reduceEq, Int.reduceToNat, decide_true, decide_false, Int.reduceNeg, Int.cast_ofNat_Int, sg, AO.sg, Option.isNone_none, encG_len, encK_len, encI_len, Nt.cs, Int.toNat_natCast, hgi, hi0, hi1, hgk, hk0, hgm, hm0, hwp, hkp, c1, c2, c3, c4, hwk]
    refine ih2 (m + 1 + 1) _ ⟨hkt, hyes (hat.2 (by simp at c1 c2 c3 c4; exact ⟨by omega, by omega, c3, fun _ => by omega⟩))⟩ (by omega) ?_
    (refine Wk.forget ?_; simp [Le, LeE, LeH, get, envIds, hpIds, KeepH, D.ids, idsL, AO.ids, setL, base, Nt.cs]; done)
end Go.Am
end

section
/- The reference's check of names, of configurations; its count of cells. -/
namespace Go.Am
open Go Go.Proofs
set_option maxRecDepth 100000
set_option linter.unusedVariables false
set_option linter.unusedSimpArgs false
def namesN (n : Nt) : List (List UInt8) := n.blocks.map Blk.name ++ n.spurs.map Spr.name
def namesP (n : Nt) : Prop := ∀ i, i < (namesN n).length → nameB ((namesN n).getD i []) = true ∧ ∀ k, k < i → (namesN n).getD i [] ≠ (namesN n).getD k []
instance (n : Nt) : Decidable (namesP n) := by unfold namesP; exact inferInstance
theorem take_map_snoc {α β : Type} (f : α → β) (l : List α) (i : Nat) (x : α) (h : i < l.length) : (l.take (i + 1)).map f = (l.take i).map f ++ [f (l.getD i x)] := by
  rw [List.take_add_one, List.map_append, List.getD, List.getElem?_eq_getElem h]; rfl
theorem names_ok (n : Nt) (hb : n.blocks.length ≤ 10000000) (hs : n.spurs.length ≤ 10000000) : ACalls Tryz.prog 68 [.agg n.cs] [] fun h r => h = [] ∧ r = .p (.bool (decide (namesP n))) := by
  generalize hL : namesN n = L
  have hLl : L.length = n.blocks.length + n.spurs.length := by rw [← hL]; simp [namesN]
  refine ACalls_X Tryz.func68 rfl enters68 (by simp [Tryz.f68]) ?_
  simp only [go_sem, ↓reduceIte, Nat.reduceLT, Nat.reduceLeDiff, Nat.reduceEqDiff, Nat.reduceAdd, Nat.reduceMul, Nat.reduceSub, reduceCtorEq, Int.reduceLT, Int.reduceLE, Int.reduceEq, Int.reduceToNat, decide_true, decide_false, Int.reduceNeg, Int.cast_ofNat_Int, sg, AO.sg, Option.isNone_none, Nt.cs]
  refine X_loop_inv (fun i : Nat => ⟨[(1, .ptr 1 0), (3, .ref 23 0 i i), (4, .p (.int .i64 (i : Nat)))], [(1, .box (Nt.cs n)), (23, .arr 9 1 (encS ((n.blocks.take i).map Blk.name)))], 66⟩) (fun i => i ≤ n.blocks.length) (fun i => n.blocks.length - i) 0 (Nat.zero_le _) ((Wk.nil (t := 3) (q := 23) (sz := 1) 9 rfl rfl (by decide)).trans (Wk.forget (by simp [Le, LeE, LeH, get, envIds, hpIds, KeepH, D.ids, idsL, AO.ids, setL, base, Nt.cs, encS]))) ?_
  rintro i m hi ih
  have hll : (encS ((n.blocks.take i).map Blk.name)).length = i := by rw [encS_len]; simp; omega
  simp only [go_sem, ↓reduceIte, Nat.reduceLT, Nat.reduceLeDiff, Nat.reduceEqDiff, Nat.reduceAdd, Nat.reduceMul, Nat.reduceSub, reduceCtorEq, Int.reduceLT, Int.reduceLE, Int.reduceEq, Int.reduceToNat, decide_true, decide_false, Int.reduceNeg, Int.cast_ofNat_Int, sg, AO.sg, Option.isNone_none, Nt.cs, encK_len]
  refine Cn_split (fun h2 => ?_) (fun h2 => ?_)
  · have hlt : i < n.blocks.length := by simp at h2; omega
    have hw := wrap_succ i (by omega)
    have hgb := encK_get n.blocks i hlt
    have hi0 : (0 : Int) ≤ (i : Int) ∧ (i : Int) < (n.blocks.length : Int) := by omega
    simp only [go_sem, ↓reduceIte, Nat.reduceLT, Nat.reduceLeDiff, Nat.reduceEqDiff, Nat.reduceAdd, Nat.reduceMul, Nat.reduceSub, reduceCtorEq, Int.reduceLT, Int.reduceLE, Int.reduceEq, Int.reduceToNat, decide_true, decide_false, Int.reduceNeg, Int.cast_ofNat_Int, sg, AO.sg, Option.isNone_none, encK_len, Nt.cs, Int.toNat_natCast, hgb, hi0, hll]
    refine ⟨⟨wid1 _ _ rfl, by omega⟩, ?_⟩
    simp only [go_sem, ↓reduceIte, Nat.reduceLT, Nat.reduceLeDiff, Nat.reduceEqDiff, Nat.reduceAdd, Nat.reduceMul, Nat.reduceSub, reduceCtorEq, Int.reduceLT, Int.reduceLE, Int.reduceEq, Int.reduceToNat, decide_true, decide_false, Int.reduceNeg, Int.cast_ofNat_Int, sg, AO.sg, Option.isNone_none, hw]
    refine ih (i + 1) _ hlt (by omega) ?_
    (refine Wk.forget ?_; simp [Le, LeE, LeH, get, envIds, hpIds, KeepH, D.ids, idsL, AO.ids, setL, base, Nt.cs, take_map_snoc Blk.name n.blocks i blk0 hlt, encS_snoc, hll, -List.map_take]; done)
  have : i = n.blocks.length := by simp at h2; omega
  subst this
  clear ih hll
  simp only [go_sem, ↓reduceIte, Nat.reduceLT, Nat.reduceLeDiff, Nat.reduceEqDiff, Nat.reduceAdd, Nat.reduceMul, Nat.reduceSub, reduceCtorEq, Int.reduceLT, Int.reduceLE, Int.reduceEq, Int.reduceToNat, decide_true, decide_false, Int.reduceNeg, Int.cast_ofNat_Int, sg, AO.sg, Option.isNone_none]
  refine X_loop_inv (fun i : Nat => ⟨[(1, .ptr 1 0), (3, .ref 23 0 (n.blocks.length + i) (n.blocks.length + i)), (5, .p (.int .i64 (i : Nat)))], [(1, .box (Nt.cs n)), (23, .arr 9 1 (encS (n.blocks.map Blk.name ++ (n.spurs.take i).map Spr.name)))], 66⟩) (fun i => i ≤ n.spurs.length) (fun i => n.spurs.length - i) 0 (Nat.zero_le _) (Wk.forget (by simp [Le, LeE, LeH, get, envIds, hpIds, KeepH, D.ids, idsL, AO.ids, setL, base, Nt.cs, encS])) ?_
  rintro i m2 hi2 ih
  have hll : (encS (n.blocks.map Blk.name ++ (n.spurs.take i).map Spr.name)).length = n.blocks.length + i := by rw [encS_len]; simp; omega
  simp only [go_sem, ↓reduceIte, Nat.reduceLT, Nat.reduceLeDiff, Nat.reduceEqDiff, Nat.reduceAdd, Nat.reduceMul, Nat.reduceSub, reduceCtorEq, Int.reduceLT, Int.reduceLE, Int.reduceEq, Int.reduceToNat, decide_true, decide_false, Int.reduceNeg, Int.cast_ofNat_Int, sg, AO.sg, Option.isNone_none, Nt.cs, encP_len]
  refine Cn_split (fun h2 => ?_) (fun h2 => ?_)
  · have hlt : i < n.spurs.length := by simp at h2; omega
    have hw := wrap_succ i (by omega)
    have hgb := encP_get n.spurs i hlt
    have hi0 : (0 : Int) ≤ (i : Int) ∧ (i : Int) < (n.spurs.length : Int) := by omega
    simp only [go_sem, ↓reduceIte, Nat.reduceLT, Nat.reduceLeDiff, Nat.reduceEqDiff, Nat.reduceAdd, Nat.reduceMul, Nat.reduceSub, reduceCtorEq, Int.reduceLT, Int.reduceLE, Int.reduceEq, Int.reduceToNat, decide_true, decide_false, Int.reduceNeg, Int.cast_ofNat_Int, sg, AO.sg, Option.isNone_none, encP_len, Nt.cs, Int.toNat_natCast, hgb, hi0, hll]
    refine ⟨⟨wid1 _ _ rfl, by omega⟩, ?_⟩
    simp only [go_sem, ↓reduceIte, Nat.reduceLT, Nat.reduceLeDiff, Nat.reduceEqDiff, Nat.reduceAdd, Nat.reduceMul, Nat.reduceSub, reduceCtorEq, Int.reduceLT, Int.reduceLE, Int.reduceEq, Int.reduceToNat, decide_true, decide_false, Int.reduceNeg, Int.cast_ofNat_Int, sg, AO.sg, Option.isNone_none, hw]
    refine ih (i + 1) _ hlt (by omega) ?_
    (refine Wk.forget ?_; simp [Le, LeE, LeH, get, envIds, hpIds, KeepH, D.ids, idsL, AO.ids, setL, base, Nt.cs, take_map_snoc Spr.name n.spurs i spr0 hlt, encS_snoc, ← List.append_assoc, Nat.add_assoc, hll, -List.map_take]; done)
  have : i = n.spurs.length := by simp at h2; omega
  subst this
  clear ih hll
  rw [List.take_length, show n.blocks.map Blk.name ++ n.spurs.map Spr.name = L from hL, ← hLl]
  simp only [go_sem, ↓reduceIte, Nat.reduceLT, Nat.reduceLeDiff, Nat.reduceEqDiff, Nat.reduceAdd, Nat.reduceMul, Nat.reduceSub, reduceCtorEq, Int.reduceLT, Int.reduceLE, Int.reduceEq, Int.reduceToNat, decide_true, decide_false, Int.reduceNeg, Int.cast_ofNat_Int, sg, AO.sg, Option.isNone_none]
  have hP : namesP n ↔ ∀ i, i < L.length → nameB (L.getD i []) = true ∧ ∀ k, k < i → L.getD i [] ≠ L.getD k [] := by unfold namesP; rw [hL]
  refine X_loop_inv (fun i : Nat => ⟨[(3, .ref 23 0 L.length L.length), (6, .p (.int .i64 (i : Nat)))], [(23, .arr 9 1 (encS L))], 66⟩) (fun i => i ≤ L.length ∧ ∀ j, j < i → nameB (L.getD j []) = true ∧ ∀ k, k < j → L.getD j [] ≠ L.getD k []) (fun i => L.length - i) 0 ⟨Nat.zero_le _, fun j hj => absurd hj (Nat.not_lt_zero _)⟩ (Wk.forget (by simp [Le, LeE, LeH, get, envIds, hpIds, KeepH, D.ids, idsL, AO.ids, setL, base, Nt.cs, encS])) ?_
  rintro i m3 ⟨hi3, hall⟩ ih
  simp only [go_sem, ↓reduceIte, Nat.reduceLT, Nat.reduceLeDiff, Nat.reduceEqDiff, Nat.reduceAdd, Nat.reduceMul, Nat.reduceSub, reduceCtorEq, Int.reduceLT, Int.reduceLE, Int.reduceEq, Int.reduceToNat, decide_true, decide_false, Int.reduceNeg, Int.cast_ofNat_Int, sg, AO.sg, Option.isNone_none, encS_len]
  refine Cn_split (fun h3 => ?_) (fun h3 => ?_)
  rotate_left
  · simp only [go_sem, ↓reduceIte, Nat.reduceLT, Nat.reduceLeDiff, Nat.reduceEqDiff, Nat.reduceAdd, Nat.reduceMul, Nat.reduceSub, reduceCtorEq, Int.reduceLT, Int.reduceLE, Int.reduceEq, Int.reduceToNat, decide_true, decide_false, Int.reduceNeg, Int.cast_ofNat_Int, sg, AO.sg, Option.isNone_none]
    have : i = L.length := by simp at h3; omega
    subst this
    rw [decide_eq_true (hP.2 hall)]
    try simp
  have hlt : i < L.length := by simp at h3; omega
  have hw := wrap_succ i (by omega)
  have hgi := encS_get L i hlt
  have hi0 : (0 : Int) ≤ (i : Int) ∧ (i : Int) < (L.length : Int) := by omega
  simp only [go_sem, ↓reduceIte, Nat.reduceLT, Nat.reduceLeDiff, Nat.reduceEqDiff, Nat.reduceAdd, Nat.reduceMul, Nat.reduceSub, reduceCtorEq, Int.reduceLT, Int.reduceLE, Int.reduceEq, Int.reduceToNat, decide_true, decide_false, Int.reduceNeg, Int.cast_ofNat_Int, sg, AO.sg, Option.isNone_none, encS_len, Int.toNat_natCast, hgi, hi0]
  refine Cc_of ((name2_ok _)) ?_
  rintro h' r ⟨rfl, rfl⟩
  cases hn : nameB (L.getD i [])
  · simp only [go_sem, ↓reduceIte, Nat.reduceLT, Nat.reduceLeDiff, Nat.reduceEqDiff, Nat.reduceAdd, Nat.reduceMul, Nat.reduceSub, reduceCtorEq, Int.reduceLT, Int.reduceLE, Int.reduceEq, Int.reduceToNat, decide_true, decide_false, Int.reduceNeg, Int.cast_ofNat_Int, sg, AO.sg, Option.isNone_none, hn]
    rw [decide_eq_false (fun hp => by have := (hP.1 hp i hlt).1; rw [hn] at this; cases this)]
    try simp
  simp only [go_sem, ↓reduceIte, Nat.reduceLT, Nat.reduceLeDiff, Nat.reduceEqDiff, Nat.reduceAdd, Nat.reduceMul, Nat.reduceSub, reduceCtorEq, Int.reduceLT, Int.reduceLE, Int.reduceEq, Int.reduceToNat, decide_true, decide_false, Int.reduceNeg, Int.cast_ofNat_Int, sg, AO.sg, Option.isNone_none, hn]
  refine X_loop_inv (fun k : Nat => ⟨[(3, .ref 23 0 L.length L.length), (6, .p (.int .i64 (i : Nat))), (7, .p (.int .i64 (k : Nat)))], [(23, .arr 9 1 (encS L))], 66⟩) (fun k => k ≤ i ∧ ∀ j, j < k → L.getD i [] ≠ L.getD j []) (fun k => i - k) 0 ⟨Nat.zero_le _, fun j hj => absurd hj (Nat.not_lt_zero _)⟩ (Wk.forget (by simp [Le, LeE, LeH, get, envIds, hpIds, KeepH, D.ids, idsL, AO.ids, setL, base, encS])) ?_
  rintro k m4 ⟨hk, hne⟩ ih2
  simp only [go_sem, ↓reduceIte, Nat.reduceLT, Nat.reduceLeDiff, Nat.reduceEqDiff, Nat.reduceAdd, Nat.reduceMul, Nat.reduceSub, reduceCtorEq, Int.reduceLT, Int.reduceLE, Int.reduceEq, Int.reduceToNat, decide_true, decide_false, Int.reduceNeg, Int.cast_ofNat_Int, sg, AO.sg, Option.isNone_none]
  refine Cn_split (fun h4 => ?_) (fun h4 => ?_)
  · have hkt : k < i := by simp at h4; omega
    have hwk := wrap_succ k (by omega)
    have hgk := encS_get L k (by omega)
    have hk0 : (0 : Int) ≤ (k : Int) ∧ (k : Int) < (L.length : Int) := by omega
    simp only [go_sem, ↓reduceIte, Nat.reduceLT, Nat.reduceLeDiff, Nat.reduceEqDiff, Nat.reduceAdd, Nat.reduceMul, Nat.reduceSub, reduceCtorEq, Int.reduceLT, Int.reduceLE, Int.reduceEq, Int.reduceToNat, decide_true, decide_false, Int.reduceNeg, Int.cast_ofNat_Int, sg, AO.sg, Option.isNone_none]
    refine X_any [(23, .arr 9 1 (encS L))] mixed (p := [(0, 0), (1, 0), (2, 0), (3, 0), (4, 0), (5, 0), (6, 0), (7, 0), (8, 0)]) (by kernel_rfl) (by simp [LeH, get]) ?_
    simp only [go_sem, ↓reduceIte, Nat.reduceLT, Nat.reduceLeDiff, Nat.reduceEqDiff, Nat.reduceAdd, Nat.reduceMul, Nat.reduceSub, reduceCtorEq, Int.reduceLT, Int.reduceLE, Int.reduceEq, Int.reduceToNat, decide_true, decide_false, Int.reduceNeg, Int.cast_ofNat_Int, sg, AO.sg, Option.isNone_none, encS_len, Int.toNat_natCast, hgi, hi0, hgk, hk0]
    cases he : decide (L.getD i [] = L.getD k [])
    · simp only [go_sem, ↓reduceIte, Nat.reduceLT, Nat.reduceLeDiff, Nat.reduceEqDiff, Nat.reduceAdd, Nat.reduceMul, Nat.reduceSub, reduceCtorEq, Int.reduceLT, Int.reduceLE, Int.reduceEq, Int.reduceToNat, decide_true, decide_false, Int.reduceNeg, Int.cast_ofNat_Int, sg, AO.sg, Option.isNone_none, he, hwk]
      refine ih2 (k + 1) _ ⟨hkt, fun j hj => ?_⟩ (by omega) ?_
      · rcases Nat.lt_succ_iff_lt_or_eq.1 hj with h5 | rfl
        · exact hne j h5
        · exact of_decide_eq_false he
      · (refine Wk.forget ?_; simp [Le, LeE, LeH, get, envIds, hpIds, KeepH, D.ids, idsL, AO.ids, setL, base]; done)
    · simp only [go_sem, ↓reduceIte, Nat.reduceLT, Nat.reduceLeDiff, Nat.reduceEqDiff, Nat.reduceAdd, Nat.reduceMul, Nat.reduceSub, reduceCtorEq, Int.reduceLT, Int.reduceLE, Int.reduceEq, Int.reduceToNat, decide_true, decide_false, Int.reduceNeg, Int.cast_ofNat_Int, sg, AO.sg, Option.isNone_none, he]
      rw [decide_eq_false (fun hp => (hP.1 hp i hlt).2 k hkt (of_decide_eq_true he))]
      try simp
  · have : k = i := by simp at h4; omega
    subst this
    simp only [go_sem, ↓reduceIte, Nat.reduceLT, Nat.reduceLeDiff, Nat.reduceEqDiff, Nat.reduceAdd, Nat.reduceMul, Nat.reduceSub, reduceCtorEq, Int.reduceLT, Int.reduceLE, Int.reduceEq, Int.reduceToNat, decide_true, decide_false, Int.reduceNeg, Int.cast_ofNat_Int, sg, AO.sg, Option.isNone_none, hw]
    refine ih (k + 1) _ ⟨hlt, fun j hj => ?_⟩ (by omega) ?_
    · rcases Nat.lt_succ_iff_lt_or_eq.1 hj with h5 | rfl
      · exact hall j h5
      · exact ⟨hn, hne⟩
    · (refine Wk.forget ?_; simp [Le, LeE, LeH, get, envIds, hpIds, KeepH, D.ids, idsL, AO.ids, setL, base]; done)
def cfgP (cq ca cd cp : Int) : Prop := 1 ≤ cq ∧ cq ≤ 8 ∧ 0 ≤ ca ∧ ca ≤ 4 ∧ 0 ≤ cd ∧ cd ≤ 3 ∧ 1 ≤ cp ∧ cp ≤ 16
instance (cq ca cd cp : Int) : Decidable (cfgP cq ca cd cp) := by unfold cfgP; exact inferInstance
theorem configured_ok (cq ca cd cp : Int) : ACalls Tryz.prog 69 [.agg [.p (.int .i64 cq), .p (.int .i64 ca), .p (.int .i64 cd), .p (.int .i64 cp)]] [] fun h r => h = [] ∧ r = .p (.bool (decide (cfgP cq ca cd cp))) := by
  refine ACalls_X Tryz.func69 rfl enters69 (by simp [Tryz.f69]) ?_
  by_cases h1 : 1 ≤ cq
  rotate_left
  · simp only [go_sem, ↓reduceIte, Nat.reduceLT, Nat.reduceLeDiff, Nat.reduceEqDiff, Nat.reduceAdd, Nat.reduceMul, Nat.reduceSub, reduceCtorEq, Int.reduceLT, Int.reduceLE, Int.reduceEq, Int.reduceToNat, decide_true, decide_false, Int.reduceNeg, Int.cast_ofNat_Int, sg, AO.sg, Option.isNone_none, h1]; simp [cfgP, h1]
  by_cases h2 : cq ≤ 8
  rotate_left
  · simp only [go_sem, ↓reduceIte, Nat.reduceLT, Nat.reduceLeDiff, Nat.reduceEqDiff, Nat.reduceAdd, Nat.reduceMul, Nat.reduceSub, reduceCtorEq, Int.reduceLT, Int.reduceLE, Int.reduceEq, Int.reduceToNat, decide_true, decide_false, Int.reduceNeg, Int.cast_ofNat_Int, sg, AO.sg, Option.isNone_none, h1, h2]; simp [cfgP, h2]
  by_cases h3 : 0 ≤ ca
  rotate_left
  · simp only [go_sem, ↓reduceIte, Nat.reduceLT, Nat.reduceLeDiff, Nat.reduceEqDiff, Nat.reduceAdd, Nat.reduceMul, Nat.reduceSub, reduceCtorEq, Int.reduceLT, Int.reduceLE, Int.reduceEq, Int.reduceToNat, decide_true, decide_false, Int.reduceNeg, Int.cast_ofNat_Int, sg, AO.sg, Option.isNone_none, h1, h2, h3]; simp [cfgP, h3]
  by_cases h4 : ca ≤ 4
  rotate_left
  · simp only [go_sem, ↓reduceIte, Nat.reduceLT, Nat.reduceLeDiff, Nat.reduceEqDiff, Nat.reduceAdd, Nat.reduceMul, Nat.reduceSub, reduceCtorEq, Int.reduceLT, Int.reduceLE, Int.reduceEq, Int.reduceToNat, decide_true, decide_false, Int.reduceNeg, Int.cast_ofNat_Int, sg, AO.sg, Option.isNone_none, h1, h2, h3, h4]; simp [cfgP, h4]
  by_cases h5 : 0 ≤ cd
  rotate_left
  · simp only [go_sem, ↓reduceIte, Nat.reduceLT, Nat.reduceLeDiff, Nat.reduceEqDiff, Nat.reduceAdd, Nat.reduceMul, Nat.reduceSub, reduceCtorEq, Int.reduceLT, Int.reduceLE, Int.reduceEq, Int.reduceToNat, decide_true, decide_false, Int.reduceNeg, Int.cast_ofNat_Int, sg, AO.sg, Option.isNone_none, h1, h2, h3, h4, h5]; simp [cfgP, h5]
  by_cases h6 : cd ≤ 3
  rotate_left
  · simp only [go_sem, ↓reduceIte, Nat.reduceLT, Nat.reduceLeDiff, Nat.reduceEqDiff, Nat.reduceAdd, Nat.reduceMul, Nat.reduceSub, reduceCtorEq, Int.reduceLT, Int.reduceLE, Int.reduceEq, Int.reduceToNat, decide_true, decide_false, Int.reduceNeg, Int.cast_ofNat_Int, sg, AO.sg, Option.isNone_none, h1, h2, h3, h4, h5, h6]; simp [cfgP, h6]
  by_cases h7 : 1 ≤ cp
  rotate_left
  · simp only [go_sem, ↓reduceIte, Nat.reduceLT, Nat.reduceLeDiff, Nat.reduceEqDiff, Nat.reduceAdd, Nat.reduceMul, Nat.reduceSub, reduceCtorEq, Int.reduceLT, Int.reduceLE, Int.reduceEq, Int.reduceToNat, decide_true, decide_false, Int.reduceNeg, Int.cast_ofNat_Int, sg, AO.sg, Option.isNone_none, h1, h2, h3, h4, h5, h6, h7]; simp [cfgP, h7]
  by_cases h8 : cp ≤ 16
  · simp only [go_sem, ↓reduceIte, Nat.reduceLT, Nat.reduceLeDiff, Nat.reduceEqDiff, Nat.reduceAdd, Nat.reduceMul, Nat.reduceSub, reduceCtorEq, Int.reduceLT, Int.reduceLE, Int.reduceEq, Int.reduceToNat, decide_true, decide_false, Int.reduceNeg, Int.cast_ofNat_Int, sg, AO.sg, Option.isNone_none, h1, h2, h3, h4, h5, h6, h7, h8]; simp [cfgP, h1, h2, h3, h4, h5, h6, h7, h8]
  · simp only [go_sem, ↓reduceIte, Nat.reduceLT, Nat.reduceLeDiff, Nat.reduceEqDiff, Nat.reduceAdd, Nat.reduceMul, Nat.reduceSub, reduceCtorEq, Int.reduceLT, Int.reduceLE, Int.reduceEq, Int.reduceToNat, decide_true, decide_false, Int.reduceNeg, Int.cast_ofNat_Int, sg, AO.sg, Option.isNone_none, h1, h2, h3, h4, h5, h6, h7, h8]; simp [cfgP, h8]
end Go.Am
end
