/- Texts of this proof, merged: Made, Type, Lett, Name, Namr, Pref, Numb, Numr. -/
import Derived.Test.YtfpgmanaikgemaaGreatDoorBase
import Derived.Test.YtfpgmanaikgemaaGreatDoorShelf
section
/- The generators' tape, and the comparisons of the statements' own package. -/
namespace Go.Am
open Go Go.Proofs
set_option maxRecDepth 100000
set_option linter.unusedVariables false
set_option linter.unusedSimpArgs false

def encI (l : List Int) : List (List Pd) := l.map fun n => [.int .i64 n]
def encS (l : List (List UInt8)) : List (List Pd) := l.map fun s => [.str s]
theorem encI_len (l : List Int) : (encI l).length = l.length := by simp [encI]
theorem encI_get (l : List Int) (i : Nat) (h : i < l.length) : (encI l).getD i [] = [.int .i64 (l.getD i 0)] := by simp [encI, List.getD, h]
theorem encS_len (l : List (List UInt8)) : (encS l).length = l.length := by simp [encS]
theorem encS_get (l : List (List UInt8)) (i : Nat) (h : i < l.length) : (encS l).getD i [] = [.str (l.getD i [])] := by simp [encS, List.getD, h]
theorem encI_snoc (l : List Int) (x : Int) : encI (l ++ [x]) = encI l ++ [[.int .i64 x]] := by simp [encI]
theorem encS_snoc (l : List (List UInt8)) (x : List UInt8) : encS (l ++ [x]) = encS l ++ [[.str x]] := by simp [encS]
theorem encI_take (l : List Int) (n : Nat) (h : l.length ≤ n) : (encI l).take n = encI l := List.take_of_length_le (by simpa [encI] using h)
theorem encS_take (l : List (List UInt8)) (n : Nat) (h : l.length ≤ n) : (encS l).take n = encS l := List.take_of_length_le (by simpa [encS] using h)
theorem wid1 (n : Nat) (x : List Pd) (h : x.length = n) : Wid n [x] := by simp [Wid, h]
theorem encS_set (l : List (List UInt8)) (i : Nat) (x : List UInt8) : encS (l.set i x) = (encS l).set i [.str x] := by simp [encS, List.map_set]
theorem encI_set (l : List Int) (i : Nat) (x : Int) : encI (l.set i x) = (encI l).set i [.int .i64 x] := by simp [encI, List.map_set]
theorem getD_mem {α : Type} (l : List α) (i : Nat) (x : α) (h : i < l.length) : l.getD i x ∈ l := by simp only [List.getD, List.getElem?_eq_getElem h, Option.getD_some]; exact List.getElem_mem h
theorem drop_getD {α : Type} (l : List α) (i : Nat) (x : α) (h : i < l.length) : l.drop i = l.getD i x :: l.drop (i + 1) := by rw [List.drop_eq_getElem_cons h]; simp [List.getD, h]
def In64 (x : Int) : Prop := -9223372036854775808 ≤ x ∧ x ≤ 9223372036854775807
theorem wrap_succ (i : Nat) (h : i < 9223372036854775807) : IntKind.i64.wrap ((i : Int) + 1) = ((i + 1 : Nat) : Int) := by rw [wrap_i64_id] <;> omega

def cut (v n : Int) : Int := if n ≤ 1 then 0 else if v.tmod n < 0 then v.tmod n + n else v.tmod n
theorem cut_lt (v n : Int) : 0 ≤ cut v n ∧ (cut v n < n ∨ cut v n = 0) := by
  unfold cut
  split
  · omega
  · have h1 := Int.tmod_lt_of_pos v (show 0 < n by omega)
    have h2 := Int.lt_tmod_of_pos v (show 0 < n by omega)
    split <;> omega
theorem cut_ok (v n : Int) (hn : In64 n) : ACalls Tryz.prog 48 [.p (.int .i64 v), .p (.int .i64 n)] [] fun h r => h = [] ∧ r = .p (.int .i64 (cut v n)) := by
  unfold In64 at hn
  refine ACalls_X Tryz.func48 rfl enters48 (by simp [Tryz.f48]) ?_
  simp only [go_sem, ↓reduceIte, Nat.reduceLT, Nat.reduceLeDiff, Nat.reduceEqDiff, Nat.reduceAdd, Nat.reduceMul, Nat.reduceSub, reduceCtorEq, Int.reduceLT, Int.reduceLE, Int.reduceEq, Int.reduceToNat, decide_true, decide_false, Int.reduceNeg, Int.cast_ofNat_Int, sg, AO.sg, Option.isNone_none]
  refine Cn_split (fun h1 => ?_) (fun h1 => ?_)
  · simp only [go_sem, ↓reduceIte, Nat.reduceLT, Nat.reduceLeDiff, Nat.reduceEqDiff, Nat.reduceAdd, Nat.reduceMul, Nat.reduceSub, reduceCtorEq, Int.reduceLT, Int.reduceLE, Int.reduceEq, Int.reduceToNat, decide_true, decide_false, Int.reduceNeg, Int.cast_ofNat_Int, sg, AO.sg, Option.isNone_none]
    simp at h1
    simp [cut, h1]
  · simp only [go_sem, ↓reduceIte, Nat.reduceLT, Nat.reduceLeDiff, Nat.reduceEqDiff, Nat.reduceAdd, Nat.reduceMul, Nat.reduceSub, reduceCtorEq, Int.reduceLT, Int.reduceLE, Int.reduceEq, Int.reduceToNat, decide_true, decide_false, Int.reduceNeg, Int.cast_ofNat_Int, sg, AO.sg, Option.isNone_none]
    simp at h1
    refine ⟨by omega, ?_⟩
    refine Cn_split (fun h2 => ?_) (fun h2 => ?_)
    · simp at h2
      have h3 : IntKind.i64.wrap (v.tmod n + n) = v.tmod n + n := by
        have h4 := Int.tmod_lt_of_pos v (show 0 < n by omega)
        have h5 := Int.lt_tmod_of_pos v (show 0 < n by omega)
        rw [wrap_i64_id] <;> omega
      simp only [go_sem, ↓reduceIte, Nat.reduceLT, Nat.reduceLeDiff, Nat.reduceEqDiff, Nat.reduceAdd, Nat.reduceMul, Nat.reduceSub, reduceCtorEq, Int.reduceLT, Int.reduceLE, Int.reduceEq, Int.reduceToNat, decide_true, decide_false, Int.reduceNeg, Int.cast_ofNat_Int, sg, AO.sg, Option.isNone_none, h3]
      simp only [cut, h2, if_true, true_and]
      rw [if_neg (by omega)]
    · simp only [go_sem, ↓reduceIte, Nat.reduceLT, Nat.reduceLeDiff, Nat.reduceEqDiff, Nat.reduceAdd, Nat.reduceMul, Nat.reduceSub, reduceCtorEq, Int.reduceLT, Int.reduceLE, Int.reduceEq, Int.reduceToNat, decide_true, decide_false, Int.reduceNeg, Int.cast_ofNat_Int, sg, AO.sg, Option.isNone_none]
      simp at h2
      simp only [cut, true_and]
      rw [if_neg (by omega), if_neg (by omega)]

/-- What a tape gives. -/
def nextV (l : List Int) (at_ : Nat) (n : Int) : Int := cut (if at_ < l.length then l.getD at_ 0 else ((at_ : Int) * 7).tmod 11) n
theorem nextV_lt (l : List Int) (at_ : Nat) (n : Int) : 0 ≤ nextV l at_ n ∧ (nextV l at_ n < n ∨ nextV l at_ n = 0) := cut_lt _ _
theorem nextV_rng (l : List Int) (at_ : Nat) (n : Int) (hn : 0 < n) : ∃ k : Nat, nextV l at_ n = (k : Int) ∧ (k : Int) < n := by
  have h := nextV_lt l at_ n
  exact ⟨(nextV l at_ n).toNat, by omega, by omega⟩
theorem in64_small (n : Int) (h0 : 0 ≤ n) (h1 : n ≤ 1000000) : In64 n := by unfold In64; omega
theorem encB_len (l : List UInt8) : (encB l).length = l.length := by simp [encB]
theorem encB_get (l : List UInt8) (i : Nat) (h : i < l.length) : (encB l).getD i [] = [.int .u8 (l.getD i 0).toNat] := by simp [encB, List.getD, h]
theorem encB_snoc (l : List UInt8) (b : UInt8) : encB (l ++ [b]) = encB l ++ [[.int .u8 b.toNat]] := by simp [encB]
def tapeC (l : List Int) (at_ : Nat) : List D := [.p (.sl (encI l)), .p (.int .i64 (at_ : Nat))]
theorem next_ok (l : List Int) (at_ : Nat) (n : Int) (hat : at_ < 1000000000000) (hn : In64 n) :
    ACalls Tryz.prog 28 [.ptr 1000000 0, .p (.int .i64 n)] [(1000000, .box (tapeC l at_))] fun h r => h = [(1000000, .box (tapeC l (at_ + 1)))] ∧ r = .p (.int .i64 (nextV l at_ n)) := by
  refine ACalls_X Tryz.func28 rfl enters28 (by simp [Tryz.f28]) ?_
  have h7 : IntKind.i64.wrap ((at_ : Int) * 7) = (at_ : Int) * 7 := by rw [wrap_i64_id] <;> omega
  have h8 : IntKind.i64.wrap ((at_ : Int) + 1) = ((at_ + 1 : Nat) : Int) := by rw [wrap_i64_id] <;> omega
  unfold tapeC
  simp only [go_sem, ↓reduceIte, Nat.reduceLT, Nat.reduceLeDiff, Nat.reduceEqDiff, Nat.reduceAdd, Nat.reduceMul, Nat.reduceSub, reduceCtorEq, Int.reduceLT, Int.reduceLE, Int.reduceEq, Int.reduceToNat, decide_true, decide_false, Int.reduceNeg, Int.cast_ofNat_Int, sg, AO.sg, Option.isNone_none, h7]
  refine X_any [(1000000, .box [.p (.sl (encI l)), .p (.int .i64 (at_ : Nat))])] mixed (p := [(0, 0), (1, 0), (2, 0), (3, 0), (4, 0), (5, 0), (6, 0), (7, 0), (8, 0), (9, 0)]) (by kernel_rfl) (by simp [LeH, get]) ?_
  simp only [go_sem, ↓reduceIte, Nat.reduceLT, Nat.reduceLeDiff, Nat.reduceEqDiff, Nat.reduceAdd, Nat.reduceMul, Nat.reduceSub, reduceCtorEq, Int.reduceLT, Int.reduceLE, Int.reduceEq, Int.reduceToNat, decide_true, decide_false, Int.reduceNeg, Int.cast_ofNat_Int, sg, AO.sg, Option.isNone_none, h7, encI_len]
  refine Cn_split (fun h1 => ?_) (fun h1 => ?_)
  · have hlt : at_ < l.length := by simp at h1; omega
    refine X_any [(1000000, .box [.p (.sl (encI l)), .p (.int .i64 (at_ : Nat))])] mixed (p := [(0, 0), (1, 0), (2, 0), (3, 0), (4, 0), (5, 0), (6, 0), (7, 0), (8, 0), (9, 0), (10, 0)]) (by kernel_rfl) (by simp [LeH, get]) ?_
    simp only [go_sem, ↓reduceIte, Nat.reduceLT, Nat.reduceLeDiff, Nat.reduceEqDiff, Nat.reduceAdd, Nat.reduceMul, Nat.reduceSub, reduceCtorEq, Int.reduceLT, Int.reduceLE, Int.reduceEq, Int.reduceToNat, decide_true, decide_false, Int.reduceNeg, Int.cast_ofNat_Int, sg, AO.sg, Option.isNone_none, h8, encI_len, Int.toNat_natCast, encI_get l at_ hlt]
    refine ⟨by omega, Cc_of (cut_ok _ _ hn) ?_⟩
    rintro h' r ⟨rfl, rfl⟩
    simp only [go_sem, ↓reduceIte, Nat.reduceLT, Nat.reduceLeDiff, Nat.reduceEqDiff, Nat.reduceAdd, Nat.reduceMul, Nat.reduceSub, reduceCtorEq, Int.reduceLT, Int.reduceLE, Int.reduceEq, Int.reduceToNat, decide_true, decide_false, Int.reduceNeg, Int.cast_ofNat_Int, sg, AO.sg, Option.isNone_none, h8]
    simp [nextV, hlt]
  · simp only [go_sem, ↓reduceIte, Nat.reduceLT, Nat.reduceLeDiff, Nat.reduceEqDiff, Nat.reduceAdd, Nat.reduceMul, Nat.reduceSub, reduceCtorEq, Int.reduceLT, Int.reduceLE, Int.reduceEq, Int.reduceToNat, decide_true, decide_false, Int.reduceNeg, Int.cast_ofNat_Int, sg, AO.sg, Option.isNone_none, h8]
    refine Cc_of (cut_ok _ _ hn) ?_
    rintro h' r ⟨rfl, rfl⟩
    simp only [go_sem, ↓reduceIte, Nat.reduceLT, Nat.reduceLeDiff, Nat.reduceEqDiff, Nat.reduceAdd, Nat.reduceMul, Nat.reduceSub, reduceCtorEq, Int.reduceLT, Int.reduceLE, Int.reduceEq, Int.reduceToNat, decide_true, decide_false, Int.reduceNeg, Int.cast_ofNat_Int, sg, AO.sg, Option.isNone_none, h8]
    have : ¬ at_ < l.length := by simp at h1; omega
    simp [nextV, this]

theorem sameInts_ok (a b : List Int) (ha : a.length ≤ 140737488355328) : ACalls Tryz.prog 44 [.p (.sl (encI a)), .p (.sl (encI b))] [] fun h r => h = [] ∧ r = .p (.bool (decide (a = b))) := by
  refine ACalls_X Tryz.func44 rfl enters44 (by simp [Tryz.f44]) ?_
  simp only [go_sem, ↓reduceIte, Nat.reduceLT, Nat.reduceLeDiff, Nat.reduceEqDiff, Nat.reduceAdd, Nat.reduceMul, Nat.reduceSub, reduceCtorEq, Int.reduceLT, Int.reduceLE, Int.reduceEq, Int.reduceToNat, decide_true, decide_false, Int.reduceNeg, Int.cast_ofNat_Int, sg, AO.sg, Option.isNone_none, encI_len]
  refine Cn_split (fun h1 => ?_) (fun h1 => ?_)
  · simp only [go_sem, ↓reduceIte, Nat.reduceLT, Nat.reduceLeDiff, Nat.reduceEqDiff, Nat.reduceAdd, Nat.reduceMul, Nat.reduceSub, reduceCtorEq, Int.reduceLT, Int.reduceLE, Int.reduceEq, Int.reduceToNat, decide_true, decide_false, Int.reduceNeg, Int.cast_ofNat_Int, sg, AO.sg, Option.isNone_none, encI_len]
    simp at h1
    have : a ≠ b := fun e => h1 (by rw [e])
    simp [this]
  · have hl : a.length = b.length := by simp at h1; omega
    simp only [go_sem, ↓reduceIte, Nat.reduceLT, Nat.reduceLeDiff, Nat.reduceEqDiff, Nat.reduceAdd, Nat.reduceMul, Nat.reduceSub, reduceCtorEq, Int.reduceLT, Int.reduceLE, Int.reduceEq, Int.reduceToNat, decide_true, decide_false, Int.reduceNeg, Int.cast_ofNat_Int, sg, AO.sg, Option.isNone_none, encI_len]
    refine X_loop_inv (fun i => ⟨[(0, .p (.sl (encI a))), (1, .p (.sl (encI b))), (5, .p (.int .i64 (i : Nat)))], [], 26⟩) (fun i => i ≤ a.length ∧ a.take i = b.take i) (fun i => a.length - i) 0 ⟨Nat.zero_le _, by simp⟩
      (Wk.forget (by simp [Le, LeE, LeH, get, envIds, hpIds, KeepH, D.ids])) ?_
    rintro i n ⟨hi, he⟩ ih
    simp only [go_sem, ↓reduceIte, Nat.reduceLT, Nat.reduceLeDiff, Nat.reduceEqDiff, Nat.reduceAdd, Nat.reduceMul, Nat.reduceSub, reduceCtorEq, Int.reduceLT, Int.reduceLE, Int.reduceEq, Int.reduceToNat, decide_true, decide_false, Int.reduceNeg, Int.cast_ofNat_Int, sg, AO.sg, Option.isNone_none, encI_len]
    refine Cn_split (fun h2 => ?_) (fun h2 => ?_)
    · have hlt : i < a.length := by simp at h2; omega
      have hlt' : i < b.length := by omega
      simp only [go_sem, ↓reduceIte, Nat.reduceLT, Nat.reduceLeDiff, Nat.reduceEqDiff, Nat.reduceAdd, Nat.reduceMul, Nat.reduceSub, reduceCtorEq, Int.reduceLT, Int.reduceLE, Int.reduceEq, Int.reduceToNat, decide_true, decide_false, Int.reduceNeg, Int.cast_ofNat_Int, sg, AO.sg, Option.isNone_none, encI_len]
      refine X_any [] mixed (p := [(0, 0), (1, 0), (2, 0), (3, 0), (4, 0), (5, 0), (6, 0), (7, 0), (8, 0)]) (by kernel_rfl) trivial ?_
      simp only [go_sem, ↓reduceIte, Nat.reduceLT, Nat.reduceLeDiff, Nat.reduceEqDiff, Nat.reduceAdd, Nat.reduceMul, Nat.reduceSub, reduceCtorEq, Int.reduceLT, Int.reduceLE, Int.reduceEq, Int.reduceToNat, decide_true, decide_false, Int.reduceNeg, Int.cast_ofNat_Int, sg, AO.sg, Option.isNone_none, encI_len, Int.toNat_natCast, encI_get a i hlt, encI_get b i hlt']
      refine ⟨by omega, by omega, ?_⟩
      refine Cn_split (fun h3 => ?_) (fun h3 => ?_)
      · simp only [go_sem, ↓reduceIte, Nat.reduceLT, Nat.reduceLeDiff, Nat.reduceEqDiff, Nat.reduceAdd, Nat.reduceMul, Nat.reduceSub, reduceCtorEq, Int.reduceLT, Int.reduceLE, Int.reduceEq, Int.reduceToNat, decide_true, decide_false, Int.reduceNeg, Int.cast_ofNat_Int, sg, AO.sg, Option.isNone_none, encI_len]
        have : a ≠ b := fun e => by subst e; simp at h3
        simp [this]
      · simp only [go_sem, ↓reduceIte, Nat.reduceLT, Nat.reduceLeDiff, Nat.reduceEqDiff, Nat.reduceAdd, Nat.reduceMul, Nat.reduceSub, reduceCtorEq, Int.reduceLT, Int.reduceLE, Int.reduceEq, Int.reduceToNat, decide_true, decide_false, Int.reduceNeg, Int.cast_ofNat_Int, sg, AO.sg, Option.isNone_none, encI_len, wrap_succ i (by omega)]
        refine ih (i + 1) _ ⟨hlt, ?_⟩ (by omega) (Wk.forget (by simp [Le, LeE, LeH, get, envIds, hpIds, KeepH, D.ids]))
        simp [List.getD, hlt, hlt'] at h3
        rw [List.take_succ_eq_append_getElem hlt, List.take_succ_eq_append_getElem hlt', he, h3]
    · simp only [go_sem, ↓reduceIte, Nat.reduceLT, Nat.reduceLeDiff, Nat.reduceEqDiff, Nat.reduceAdd, Nat.reduceMul, Nat.reduceSub, reduceCtorEq, Int.reduceLT, Int.reduceLE, Int.reduceEq, Int.reduceToNat, decide_true, decide_false, Int.reduceNeg, Int.cast_ofNat_Int, sg, AO.sg, Option.isNone_none, encI_len]
      have : i = a.length := by simp at h2; omega
      subst this
      rw [List.take_length, hl, List.take_length] at he
      simp [he]

theorem sameStrings_ok (a b : List (List UInt8)) (ha : a.length ≤ 140737488355328) : ACalls Tryz.prog 43 [.p (.sl (encS a)), .p (.sl (encS b))] [] fun h r => h = [] ∧ r = .p (.bool (decide (a = b))) := by
  refine ACalls_X Tryz.func43 rfl enters43 (by simp [Tryz.f43]) ?_
  simp only [go_sem, ↓reduceIte, Nat.reduceLT, Nat.reduceLeDiff, Nat.reduceEqDiff, Nat.reduceAdd, Nat.reduceMul, Nat.reduceSub, reduceCtorEq, Int.reduceLT, Int.reduceLE, Int.reduceEq, Int.reduceToNat, decide_true, decide_false, Int.reduceNeg, Int.cast_ofNat_Int, sg, AO.sg, Option.isNone_none, encS_len]
  refine Cn_split (fun h1 => ?_) (fun h1 => ?_)
  · simp only [go_sem, ↓reduceIte, Nat.reduceLT, Nat.reduceLeDiff, Nat.reduceEqDiff, Nat.reduceAdd, Nat.reduceMul, Nat.reduceSub, reduceCtorEq, Int.reduceLT, Int.reduceLE, Int.reduceEq, Int.reduceToNat, decide_true, decide_false, Int.reduceNeg, Int.cast_ofNat_Int, sg, AO.sg, Option.isNone_none, encS_len]
    simp at h1
    have : a ≠ b := fun e => h1 (by rw [e])
    simp [this]
  · have hl : a.length = b.length := by simp at h1; omega
    simp only [go_sem, ↓reduceIte, Nat.reduceLT, Nat.reduceLeDiff, Nat.reduceEqDiff, Nat.reduceAdd, Nat.reduceMul, Nat.reduceSub, reduceCtorEq, Int.reduceLT, Int.reduceLE, Int.reduceEq, Int.reduceToNat, decide_true, decide_false, Int.reduceNeg, Int.cast_ofNat_Int, sg, AO.sg, Option.isNone_none, encS_len]
    refine X_loop_inv (fun i => ⟨[(0, .p (.sl (encS a))), (1, .p (.sl (encS b))), (5, .p (.int .i64 (i : Nat)))], [], 26⟩) (fun i => i ≤ a.length ∧ a.take i = b.take i) (fun i => a.length - i) 0 ⟨Nat.zero_le _, by simp⟩
      (Wk.forget (by simp [Le, LeE, LeH, get, envIds, hpIds, KeepH, D.ids])) ?_
    rintro i n ⟨hi, he⟩ ih
    simp only [go_sem, ↓reduceIte, Nat.reduceLT, Nat.reduceLeDiff, Nat.reduceEqDiff, Nat.reduceAdd, Nat.reduceMul, Nat.reduceSub, reduceCtorEq, Int.reduceLT, Int.reduceLE, Int.reduceEq, Int.reduceToNat, decide_true, decide_false, Int.reduceNeg, Int.cast_ofNat_Int, sg, AO.sg, Option.isNone_none, encS_len]
    refine Cn_split (fun h2 => ?_) (fun h2 => ?_)
    · have hlt : i < a.length := by simp at h2; omega
      have hlt' : i < b.length := by omega
      simp only [go_sem, ↓reduceIte, Nat.reduceLT, Nat.reduceLeDiff, Nat.reduceEqDiff, Nat.reduceAdd, Nat.reduceMul, Nat.reduceSub, reduceCtorEq, Int.reduceLT, Int.reduceLE, Int.reduceEq, Int.reduceToNat, decide_true, decide_false, Int.reduceNeg, Int.cast_ofNat_Int, sg, AO.sg, Option.isNone_none, encS_len]
      refine X_any [] mixed (p := [(0, 0), (1, 0), (2, 0), (3, 0), (4, 0), (5, 0), (6, 0), (7, 0), (8, 0)]) (by kernel_rfl) trivial ?_
      simp only [go_sem, ↓reduceIte, Nat.reduceLT, Nat.reduceLeDiff, Nat.reduceEqDiff, Nat.reduceAdd, Nat.reduceMul, Nat.reduceSub, reduceCtorEq, Int.reduceLT, Int.reduceLE, Int.reduceEq, Int.reduceToNat, decide_true, decide_false, Int.reduceNeg, Int.cast_ofNat_Int, sg, AO.sg, Option.isNone_none, encS_len, Int.toNat_natCast, encS_get a i hlt, encS_get b i hlt']
      refine ⟨by omega, by omega, ?_⟩
      refine Cn_split (fun h3 => ?_) (fun h3 => ?_)
      · simp only [go_sem, ↓reduceIte, Nat.reduceLT, Nat.reduceLeDiff, Nat.reduceEqDiff, Nat.reduceAdd, Nat.reduceMul, Nat.reduceSub, reduceCtorEq, Int.reduceLT, Int.reduceLE, Int.reduceEq, Int.reduceToNat, decide_true, decide_false, Int.reduceNeg, Int.cast_ofNat_Int, sg, AO.sg, Option.isNone_none, encS_len]
        have : a ≠ b := fun e => by subst e; simp at h3
        simp [this]
      · simp only [go_sem, ↓reduceIte, Nat.reduceLT, Nat.reduceLeDiff, Nat.reduceEqDiff, Nat.reduceAdd, Nat.reduceMul, Nat.reduceSub, reduceCtorEq, Int.reduceLT, Int.reduceLE, Int.reduceEq, Int.reduceToNat, decide_true, decide_false, Int.reduceNeg, Int.cast_ofNat_Int, sg, AO.sg, Option.isNone_none, encS_len, wrap_succ i (by omega)]
        refine ih (i + 1) _ ⟨hlt, ?_⟩ (by omega) (Wk.forget (by simp [Le, LeE, LeH, get, envIds, hpIds, KeepH, D.ids]))
        simp [List.getD, hlt, hlt'] at h3
        rw [List.take_succ_eq_append_getElem hlt, List.take_succ_eq_append_getElem hlt', he, h3]
    · simp only [go_sem, ↓reduceIte, Nat.reduceLT, Nat.reduceLeDiff, Nat.reduceEqDiff, Nat.reduceAdd, Nat.reduceMul, Nat.reduceSub, reduceCtorEq, Int.reduceLT, Int.reduceLE, Int.reduceEq, Int.reduceToNat, decide_true, decide_false, Int.reduceNeg, Int.cast_ofNat_Int, sg, AO.sg, Option.isNone_none, encS_len]
      have : i = a.length := by simp at h2; omega
      subst this
      rw [List.take_length, hl, List.take_length] at he
      simp [he]
end Go.Am
end

section
/- Lines and declarations, by their cells. -/
namespace Go.Am
open Go Go.Proofs
set_option maxRecDepth 100000
set_option linter.unusedVariables false
set_option linter.unusedSimpArgs false
structure Dc where
  word : Int
  line : Int
  names : List (List UInt8)
  nums : List Int
  deriving DecidableEq
def dc0 : Dc := ⟨0, 0, [], []⟩
def Dc.d (x : Dc) : D := .agg [.p (.int .i64 x.word), .p (.int .i64 x.line), .p (.sl (encS x.names)), .p (.sl (encI x.nums))]
structure Ln where
  num : Int
  fs : List (List UInt8)
  deriving DecidableEq
def ln0 : Ln := ⟨0, []⟩
def encL (l : List Ln) : List (List Pd) := l.map fun x => [.int .i64 x.num, .sl (encS x.fs)]
theorem encL_len (l : List Ln) : (encL l).length = l.length := by simp [encL]
theorem encL_get (l : List Ln) (i : Nat) (h : i < l.length) : (encL l).getD i [] = [.int .i64 (l.getD i ln0).num, .sl (encS (l.getD i ln0).fs)] := by simp [encL, List.getD, h]
theorem encL_snoc (l : List Ln) (x : Ln) : encL (l ++ [x]) = encL l ++ [[.int .i64 x.num, .sl (encS x.fs)]] := by simp [encL]
theorem encL_take (l : List Ln) (n : Nat) (h : l.length ≤ n) : (encL l).take n = encL l := List.take_of_length_le (by simpa [encL] using h)
def encC (l : List Dc) : List (List Pd) := l.map fun x => [.int .i64 x.word, .int .i64 x.line, .sl (encS x.names), .sl (encI x.nums)]
theorem encC_len (l : List Dc) : (encC l).length = l.length := by simp [encC]
theorem encC_get (l : List Dc) (i : Nat) (h : i < l.length) : (encC l).getD i [] = [.int .i64 (l.getD i dc0).word, .int .i64 (l.getD i dc0).line, .sl (encS (l.getD i dc0).names), .sl (encI (l.getD i dc0).nums)] := by simp [encC, List.getD, h]
theorem encC_snoc (l : List Dc) (x : Dc) : encC (l ++ [x]) = encC l ++ [[.int .i64 x.word, .int .i64 x.line, .sl (encS x.names), .sl (encI x.nums)]] := by simp [encC]
theorem encC_take (l : List Dc) (n : Nat) (h : l.length ≤ n) : (encC l).take n = encC l := List.take_of_length_le (by simpa [encC] using h)
end Go.Am
end

section
/- Letters. -/
namespace Go.Am
open Go Go.Proofs
set_option maxRecDepth 100000
set_option linter.unusedVariables false
set_option linter.unusedSimpArgs false
def letterB (c : Int) : Bool := decide (97 ≤ c ∧ c ≤ 122) || decide (65 ≤ c ∧ c ≤ 90)
theorem letter1_ok (c : Int) : ACalls Tryz.prog 110 [.p (.int .u8 c)] [] fun h r => h = [] ∧ r = .p (.bool (letterB c)) := by
  refine ACalls_X Tryz.func110 rfl enters110 (by simp [Tryz.f110]) ?_
  by_cases h1 : 97 ≤ c <;> by_cases h2 : c ≤ 122 <;> by_cases h3 : 65 ≤ c <;> by_cases h4 : c ≤ 90 <;> (try omega) <;>
  · simp only [go_sem, ↓reduceIte, Nat.reduceLT, Nat.reduceLeDiff, Nat.reduceEqDiff, Nat.reduceAdd, Nat.reduceMul, Nat.reduceSub, reduceCtorEq, Int.reduceLT, Int.reduceLE, Int.reduceEq, Int.reduceToNat, decide_true, decide_false, Int.reduceNeg, Int.cast_ofNat_Int, sg, AO.sg, Option.isNone_none, h1, h2, h3, h4]
    simp [letterB, h1, h2, h3, h4]
theorem letter2_ok (c : Int) : ACalls Tryz.prog 141 [.p (.int .u8 c)] [] fun h r => h = [] ∧ r = .p (.bool (letterB c)) := by
  refine ACalls_X Tryz.func141 rfl enters141 (by simp [Tryz.f141]) ?_
  by_cases h1 : 97 ≤ c <;> by_cases h2 : c ≤ 122 <;> by_cases h3 : 65 ≤ c <;> by_cases h4 : c ≤ 90 <;> (try omega) <;>
  · simp only [go_sem, ↓reduceIte, Nat.reduceLT, Nat.reduceLeDiff, Nat.reduceEqDiff, Nat.reduceAdd, Nat.reduceMul, Nat.reduceSub, reduceCtorEq, Int.reduceLT, Int.reduceLE, Int.reduceEq, Int.reduceToNat, decide_true, decide_false, Int.reduceNeg, Int.cast_ofNat_Int, sg, AO.sg, Option.isNone_none, h1, h2, h3, h4]
    simp [letterB, h1, h2, h3, h4]
end Go.Am
end

section
/- Names. -/
namespace Go.Am
open Go Go.Proofs
set_option maxRecDepth 100000
set_option linter.unusedVariables false
set_option linter.unusedSimpArgs false
def chB (c : Int) : Bool := letterB c || decide (48 ≤ c ∧ c ≤ 57) || decide (c = 45) || decide (c = 95)
def nameB (l : List UInt8) : Bool := match l with
  | [] => false
  | b :: _ => decide (l.length ≤ 12) && letterB b.toNat && l.all fun c => chB c.toNat
theorem chB_split (c : Int) : chB c = (letterB c || (decide (48 ≤ c) && decide (c ≤ 57)) || decide (c = 45) || decide (c = 95)) := by simp [chB]
theorem name1_ok (l : List UInt8) : ACalls Tryz.prog 61 [.p (.str l)] [] fun h r => h = [] ∧ r = .p (.bool (nameB l)) := by
  refine ACalls_X Tryz.func61 rfl enters61 (by simp [Tryz.f61]) ?_
  cases l with
  | nil =>
    simp only [go_sem, ↓reduceIte, Nat.reduceLT, Nat.reduceLeDiff, Nat.reduceEqDiff, Nat.reduceAdd, Nat.reduceMul, Nat.reduceSub, reduceCtorEq, Int.reduceLT, Int.reduceLE, Int.reduceEq, Int.reduceToNat, decide_true, decide_false, Int.reduceNeg, Int.cast_ofNat_Int, sg, AO.sg, Option.isNone_none]
    rfl
  | cons b l =>
    by_cases hL : (12 : Int) < ((l.length + 1 : Nat) : Int)
    · simp only [go_sem, ↓reduceIte, Nat.reduceLT, Nat.reduceLeDiff, Nat.reduceEqDiff, Nat.reduceAdd, Nat.reduceMul, Nat.reduceSub, reduceCtorEq, Int.reduceLT, Int.reduceLE, Int.reduceEq, Int.reduceToNat, decide_true, decide_false, Int.reduceNeg, Int.cast_ofNat_Int, sg, AO.sg, Option.isNone_none, hL]
      have : ¬ l.length + 1 ≤ 12 := by omega
      simp [nameB, this]
    · simp only [go_sem, ↓reduceIte, Nat.reduceLT, Nat.reduceLeDiff, Nat.reduceEqDiff, Nat.reduceAdd, Nat.reduceMul, Nat.reduceSub, reduceCtorEq, Int.reduceLT, Int.reduceLE, Int.reduceEq, Int.reduceToNat, decide_true, decide_false, Int.reduceNeg, Int.cast_ofNat_Int, sg, AO.sg, Option.isNone_none, hL, List.getD_cons_zero]
      refine ⟨by omega, Cc_of (letter1_ok _) ?_⟩
      rintro h' r ⟨rfl, rfl⟩
      simp only [go_sem, ↓reduceIte, Nat.reduceLT, Nat.reduceLeDiff, Nat.reduceEqDiff, Nat.reduceAdd, Nat.reduceMul, Nat.reduceSub, reduceCtorEq, Int.reduceLT, Int.reduceLE, Int.reduceEq, Int.reduceToNat, decide_true, decide_false, Int.reduceNeg, Int.cast_ofNat_Int, sg, AO.sg, Option.isNone_none, hL]
      cases hb : letterB b.toNat
      · simp only [go_sem, ↓reduceIte, Nat.reduceLT, Nat.reduceLeDiff, Nat.reduceEqDiff, Nat.reduceAdd, Nat.reduceMul, Nat.reduceSub, reduceCtorEq, Int.reduceLT, Int.reduceLE, Int.reduceEq, Int.reduceToNat, decide_true, decide_false, Int.reduceNeg, Int.cast_ofNat_Int, sg, AO.sg, Option.isNone_none]
        simp [nameB, hb]
      · simp only [go_sem, ↓reduceIte, Nat.reduceLT, Nat.reduceLeDiff, Nat.reduceEqDiff, Nat.reduceAdd, Nat.reduceMul, Nat.reduceSub, reduceCtorEq, Int.reduceLT, Int.reduceLE, Int.reduceEq, Int.reduceToNat, decide_true, decide_false, Int.reduceNeg, Int.cast_ofNat_Int, sg, AO.sg, Option.isNone_none]
        refine Af_bytes rfl ti9 ti89 ti5 rfl ?_
        simp only [go_sem, ↓reduceIte, Nat.reduceLT, Nat.reduceLeDiff, Nat.reduceEqDiff, Nat.reduceAdd, Nat.reduceMul, Nat.reduceSub, reduceCtorEq, Int.reduceLT, Int.reduceLE, Int.reduceEq, Int.reduceToNat, decide_true, decide_false, Int.reduceNeg, Int.cast_ofNat_Int, sg, AO.sg, Option.isNone_none, encB_len]
        refine X_loop_inv (fun i => ⟨[(19, .p (.sl (encB (b :: l)))), (20, .p (.int .i64 ((l.length + 1 : Nat) : Int))), (21, .p (.int .i64 (i : Nat)))], [], 45⟩) (fun i => i ≤ l.length + 1 ∧ ∀ j, j < i → chB ((b :: l).getD j 0).toNat = true) (fun i => l.length + 1 - i) 0 ⟨Nat.zero_le _, by simp⟩
          (Wk.forget (by simp [Le, LeE, LeH, get, envIds, hpIds, KeepH, D.ids])) ?_
        rintro i n ⟨hi, he⟩ ih
        simp only [go_sem, ↓reduceIte, Nat.reduceLT, Nat.reduceLeDiff, Nat.reduceEqDiff, Nat.reduceAdd, Nat.reduceMul, Nat.reduceSub, reduceCtorEq, Int.reduceLT, Int.reduceLE, Int.reduceEq, Int.reduceToNat, decide_true, decide_false, Int.reduceNeg, Int.cast_ofNat_Int, sg, AO.sg, Option.isNone_none, encB_len]
        refine Cn_split (fun h2 => ?_) (fun h2 => ?_)
        · have hlt : i < (b :: l).length := by simp at h2 ⊢; omega
          simp only [go_sem, ↓reduceIte, Nat.reduceLT, Nat.reduceLeDiff, Nat.reduceEqDiff, Nat.reduceAdd, Nat.reduceMul, Nat.reduceSub, reduceCtorEq, Int.reduceLT, Int.reduceLE, Int.reduceEq, Int.reduceToNat, decide_true, decide_false, Int.reduceNeg, Int.cast_ofNat_Int, sg, AO.sg, Option.isNone_none, encB_len, Int.toNat_natCast, encB_get (b :: l) i hlt]
          have hw := wrap_succ i (by omega)
          generalize hcc : (((b :: l).getD i 0).toNat : Int) = c
          refine ⟨by simp at hlt; omega, Cc_of (letter1_ok _) ?_⟩
          rintro h' r ⟨rfl, rfl⟩
          have hno : chB c = false → nameB (b :: l) = false := by
            intro hf
            have : ((b :: l).all fun c => chB c.toNat) = false := by
              rw [Bool.eq_false_iff]
              intro ht
              have := List.all_eq_true.1 ht ((b :: l).getD i 0) (by simp only [List.getD, List.getElem?_eq_getElem hlt, Option.getD_some]; exact List.getElem_mem hlt)
              rw [hcc, hf] at this
              cases this
            simp only [nameB, this, Bool.and_false]
          have hyes : chB c = true → ∀ j, j < i + 1 → chB ((b :: l).getD j 0).toNat = true := by
            intro ht j hj
            rcases Nat.lt_succ_iff_lt_or_eq.1 hj with hj | rfl
            · exact he j hj
            · rw [hcc]; exact ht
          have hle : i + 1 ≤ l.length + 1 := by simp only [List.length_cons] at hlt; omega
          cases hlc : letterB c
          · by_cases h48 : c < 48 <;> by_cases h57 : 57 < c <;> by_cases h45 : c = 45 <;> by_cases h95 : c = 95 <;> (try omega) <;>
            · simp only [go_sem, ↓reduceIte, Nat.reduceLT, Nat.reduceLeDiff, Nat.reduceEqDiff, Nat.reduceAdd, Nat.reduceMul, Nat.reduceSub, reduceCtorEq, Int.reduceLT, Int.reduceLE, Int.reduceEq, Int.reduceToNat, decide_true, decide_false, Int.reduceNeg, Int.cast_ofNat_Int, sg, AO.sg, Option.isNone_none, hlc, h48, h57, h45, h95, hw]
              first
                | exact ⟨trivial, by rw [hno (by simp [chB_split, hlc]; omega)]⟩
                | exact ⟨rfl, by rw [hno (by simp [chB_split, hlc]; omega)]⟩
                | (rw [hno (by simp [chB_split, hlc]; omega)])
                | exact ih (i + 1) _ ⟨hle, hyes (by simp [chB_split, hlc]; omega)⟩ (by omega) (Wk.forget (by simp [Le, LeE, LeH, get, envIds, hpIds, KeepH, D.ids]))
          · simp only [go_sem, ↓reduceIte, Nat.reduceLT, Nat.reduceLeDiff, Nat.reduceEqDiff, Nat.reduceAdd, Nat.reduceMul, Nat.reduceSub, reduceCtorEq, Int.reduceLT, Int.reduceLE, Int.reduceEq, Int.reduceToNat, decide_true, decide_false, Int.reduceNeg, Int.cast_ofNat_Int, sg, AO.sg, Option.isNone_none, hlc, hw]
            exact ih (i + 1) _ ⟨hle, hyes (by simp [chB_split, hlc])⟩ (by omega) (Wk.forget (by simp [Le, LeE, LeH, get, envIds, hpIds, KeepH, D.ids]))
        · simp only [go_sem, ↓reduceIte, Nat.reduceLT, Nat.reduceLeDiff, Nat.reduceEqDiff, Nat.reduceAdd, Nat.reduceMul, Nat.reduceSub, reduceCtorEq, Int.reduceLT, Int.reduceLE, Int.reduceEq, Int.reduceToNat, decide_true, decide_false, Int.reduceNeg, Int.cast_ofNat_Int, sg, AO.sg, Option.isNone_none]
          have hi2 : i = l.length + 1 := by simp at h2; omega
          have hall : ((b :: l).all fun c => chB c.toNat) = true := by
            refine List.all_eq_true.2 fun x hx => ?_
            obtain ⟨j, hj, rfl⟩ := List.mem_iff_getElem.1 hx
            have := he j (by simp at hj; omega)
            simpa only [List.getD, List.getElem?_eq_getElem hj, Option.getD_some] using this
          have h12 : l.length + 1 ≤ 12 := by omega
          simp only [nameB, hall, hb, List.length_cons, h12, decide_true, Bool.and_self, and_self]
end Go.Am
end

section
/- Names, in the reference. -/
namespace Go.Am
open Go Go.Proofs
set_option maxRecDepth 100000
set_option linter.unusedVariables false
set_option linter.unusedSimpArgs false
theorem name2_ok (l : List UInt8) : ACalls Tryz.prog 99 [.p (.str l)] [] fun h r => h = [] ∧ r = .p (.bool (nameB l)) := by
  refine ACalls_X Tryz.func99 rfl enters99 (by simp [Tryz.f99]) ?_
  cases l with
  | nil =>
    simp only [go_sem, ↓reduceIte, Nat.reduceLT, Nat.reduceLeDiff, Nat.reduceEqDiff, Nat.reduceAdd, Nat.reduceMul, Nat.reduceSub, reduceCtorEq, Int.reduceLT, Int.reduceLE, Int.reduceEq, Int.reduceToNat, decide_true, decide_false, Int.reduceNeg, Int.cast_ofNat_Int, sg, AO.sg, Option.isNone_none]
    rfl
  | cons b l =>
    by_cases hL : (12 : Int) < ((l.length + 1 : Nat) : Int)
    · simp only [go_sem, ↓reduceIte, Nat.reduceLT, Nat.reduceLeDiff, Nat.reduceEqDiff, Nat.reduceAdd, Nat.reduceMul, Nat.reduceSub, reduceCtorEq, Int.reduceLT, Int.reduceLE, Int.reduceEq, Int.reduceToNat, decide_true, decide_false, Int.reduceNeg, Int.cast_ofNat_Int, sg, AO.sg, Option.isNone_none, hL]
      have : ¬ l.length + 1 ≤ 12 := by omega
      simp [nameB, this]
    · simp only [go_sem, ↓reduceIte, Nat.reduceLT, Nat.reduceLeDiff, Nat.reduceEqDiff, Nat.reduceAdd, Nat.reduceMul, Nat.reduceSub, reduceCtorEq, Int.reduceLT, Int.reduceLE, Int.reduceEq, Int.reduceToNat, decide_true, decide_false, Int.reduceNeg, Int.cast_ofNat_Int, sg, AO.sg, Option.isNone_none, hL, List.getD_cons_zero]
      refine ⟨by omega, Cc_of (letter2_ok _) ?_⟩
      rintro h' r ⟨rfl, rfl⟩
      simp only [go_sem, ↓reduceIte, Nat.reduceLT, Nat.reduceLeDiff, Nat.reduceEqDiff, Nat.reduceAdd, Nat.reduceMul, Nat.reduceSub, reduceCtorEq, Int.reduceLT, Int.reduceLE, Int.reduceEq, Int.reduceToNat, decide_true, decide_false, Int.reduceNeg, Int.cast_ofNat_Int, sg, AO.sg, Option.isNone_none, hL]
      cases hb : letterB b.toNat
      · simp only [go_sem, ↓reduceIte, Nat.reduceLT, Nat.reduceLeDiff, Nat.reduceEqDiff, Nat.reduceAdd, Nat.reduceMul, Nat.reduceSub, reduceCtorEq, Int.reduceLT, Int.reduceLE, Int.reduceEq, Int.reduceToNat, decide_true, decide_false, Int.reduceNeg, Int.cast_ofNat_Int, sg, AO.sg, Option.isNone_none]
        simp [nameB, hb]
      · simp only [go_sem, ↓reduceIte, Nat.reduceLT, Nat.reduceLeDiff, Nat.reduceEqDiff, Nat.reduceAdd, Nat.reduceMul, Nat.reduceSub, reduceCtorEq, Int.reduceLT, Int.reduceLE, Int.reduceEq, Int.reduceToNat, decide_true, decide_false, Int.reduceNeg, Int.cast_ofNat_Int, sg, AO.sg, Option.isNone_none]
        refine X_loop_inv (fun i => ⟨[(0, .p (.str (b :: l))), (3, .p (.int .i64 (i : Nat)))], [], 46⟩) (fun i => i ≤ l.length + 1 ∧ ∀ j, j < i → chB ((b :: l).getD j 0).toNat = true) (fun i => l.length + 1 - i) 0 ⟨Nat.zero_le _, by simp⟩
          (Wk.forget (by simp [Le, LeE, LeH, get, envIds, hpIds, KeepH, D.ids])) ?_
        rintro i n ⟨hi, he⟩ ih
        simp only [go_sem, ↓reduceIte, Nat.reduceLT, Nat.reduceLeDiff, Nat.reduceEqDiff, Nat.reduceAdd, Nat.reduceMul, Nat.reduceSub, reduceCtorEq, Int.reduceLT, Int.reduceLE, Int.reduceEq, Int.reduceToNat, decide_true, decide_false, Int.reduceNeg, Int.cast_ofNat_Int, sg, AO.sg, Option.isNone_none]
        refine Cn_split (fun h2 => ?_) (fun h2 => ?_)
        · have hlt : i < (b :: l).length := by simp at h2 ⊢; omega
          simp only [go_sem, ↓reduceIte, Nat.reduceLT, Nat.reduceLeDiff, Nat.reduceEqDiff, Nat.reduceAdd, Nat.reduceMul, Nat.reduceSub, reduceCtorEq, Int.reduceLT, Int.reduceLE, Int.reduceEq, Int.reduceToNat, decide_true, decide_false, Int.reduceNeg, Int.cast_ofNat_Int, sg, AO.sg, Option.isNone_none, Int.toNat_natCast]
          have hw := wrap_succ i (by omega)
          generalize hcc : (((b :: l).getD i 0).toNat : Int) = c
          refine ⟨by simp at hlt; omega, Cc_of (letter2_ok _) ?_⟩
          rintro h' r ⟨rfl, rfl⟩
          have hno : chB c = false → nameB (b :: l) = false := by
            intro hf
            have : ((b :: l).all fun c => chB c.toNat) = false := by
              rw [Bool.eq_false_iff]
              intro ht
              have := List.all_eq_true.1 ht ((b :: l).getD i 0) (by simp only [List.getD, List.getElem?_eq_getElem hlt, Option.getD_some]; exact List.getElem_mem hlt)
              rw [hcc, hf] at this
              cases this
            simp only [nameB, this, Bool.and_false]
          have hyes : chB c = true → ∀ j, j < i + 1 → chB ((b :: l).getD j 0).toNat = true := by
            intro ht j hj
            rcases Nat.lt_succ_iff_lt_or_eq.1 hj with hj | rfl
            · exact he j hj
            · rw [hcc]; exact ht
          have hle : i + 1 ≤ l.length + 1 := by simp only [List.length_cons] at hlt; omega
          cases hlc : letterB c
          · by_cases h48 : c < 48 <;> by_cases h57 : 57 < c <;> by_cases h45 : c = 45 <;> by_cases h95 : c = 95 <;> (try omega) <;>
            · simp only [go_sem, ↓reduceIte, Nat.reduceLT, Nat.reduceLeDiff, Nat.reduceEqDiff, Nat.reduceAdd, Nat.reduceMul, Nat.reduceSub, reduceCtorEq, Int.reduceLT, Int.reduceLE, Int.reduceEq, Int.reduceToNat, decide_true, decide_false, Int.reduceNeg, Int.cast_ofNat_Int, sg, AO.sg, Option.isNone_none, hlc, h48, h57, h45, h95, hw]
              first
                | exact ⟨trivial, by rw [hno (by simp [chB_split, hlc]; omega)]⟩
                | exact ⟨rfl, by rw [hno (by simp [chB_split, hlc]; omega)]⟩
                | (rw [hno (by simp [chB_split, hlc]; omega)])
                | exact ih (i + 1) _ ⟨hle, hyes (by simp [chB_split, hlc]; omega)⟩ (by omega) (Wk.forget (by simp [Le, LeE, LeH, get, envIds, hpIds, KeepH, D.ids]))
          · simp only [go_sem, ↓reduceIte, Nat.reduceLT, Nat.reduceLeDiff, Nat.reduceEqDiff, Nat.reduceAdd, Nat.reduceMul, Nat.reduceSub, reduceCtorEq, Int.reduceLT, Int.reduceLE, Int.reduceEq, Int.reduceToNat, decide_true, decide_false, Int.reduceNeg, Int.cast_ofNat_Int, sg, AO.sg, Option.isNone_none, hlc, hw]
            exact ih (i + 1) _ ⟨hle, hyes (by simp [chB_split, hlc])⟩ (by omega) (Wk.forget (by simp [Le, LeE, LeH, get, envIds, hpIds, KeepH, D.ids]))
        · simp only [go_sem, ↓reduceIte, Nat.reduceLT, Nat.reduceLeDiff, Nat.reduceEqDiff, Nat.reduceAdd, Nat.reduceMul, Nat.reduceSub, reduceCtorEq, Int.reduceLT, Int.reduceLE, Int.reduceEq, Int.reduceToNat, decide_true, decide_false, Int.reduceNeg, Int.cast_ofNat_Int, sg, AO.sg, Option.isNone_none]
          have hi2 : i = l.length + 1 := by simp at h2; omega
          have hall : ((b :: l).all fun c => chB c.toNat) = true := by
            refine List.all_eq_true.2 fun x hx => ?_
            obtain ⟨j, hj, rfl⟩ := List.mem_iff_getElem.1 hx
            have := he j (by simp at hj; omega)
            simpa only [List.getD, List.getElem?_eq_getElem hj, Option.getD_some] using this
          have h12 : l.length + 1 ≤ 12 := by omega
          simp only [nameB, hall, hb, List.length_cons, h12, decide_true, Bool.and_self, and_self]
end Go.Am
end

section
/- Prefixes. -/
namespace Go.Am
open Go Go.Proofs
set_option maxRecDepth 100000
set_option linter.unusedVariables false
set_option linter.unusedSimpArgs false
def hasP (s p : List UInt8) : Bool := decide (p.length ≤ s.length) && decide (s.take p.length = p)
theorem hasPrefix_ok (s p : List UInt8) : ACalls Tryz.prog 120 [.p (.str s), .p (.str p)] [] fun h r => h = [] ∧ r = .p (.bool (hasP s p)) := by
  refine ACalls_X Tryz.func120 rfl enters120 (by simp [Tryz.f120]) ?_
  by_cases h1 : (p.length : Int) ≤ s.length
  · simp only [go_sem, ↓reduceIte, Nat.reduceLT, Nat.reduceLeDiff, Nat.reduceEqDiff, Nat.reduceAdd, Nat.reduceMul, Nat.reduceSub, reduceCtorEq, Int.reduceLT, Int.reduceLE, Int.reduceEq, Int.reduceToNat, decide_true, decide_false, Int.reduceNeg, Int.cast_ofNat_Int, sg, AO.sg, Option.isNone_none, h1, Int.toNat_natCast]
    refine ⟨by omega, ?_⟩
    have h2 : p.length ≤ s.length := by omega
    simp [hasP, h2]
  · simp only [go_sem, ↓reduceIte, Nat.reduceLT, Nat.reduceLeDiff, Nat.reduceEqDiff, Nat.reduceAdd, Nat.reduceMul, Nat.reduceSub, reduceCtorEq, Int.reduceLT, Int.reduceLE, Int.reduceEq, Int.reduceToNat, decide_true, decide_false, Int.reduceNeg, Int.cast_ofNat_Int, sg, AO.sg, Option.isNone_none, h1]
    have h2 : ¬ p.length ≤ s.length := by omega
    simp [hasP, h2]
theorem cutPrefix1_ok (s p : List UInt8) : ACalls Tryz.prog 156 [.p (.str s), .p (.str p)] [] fun h r => h = [] ∧ r = .tup [.p (.str (if hasP s p then s.drop p.length else s)), .p (.bool (hasP s p))] := by
  refine ACalls_X Tryz.func156 rfl enters156 (by simp [Tryz.f156]) ?_
  simp only [go_sem, ↓reduceIte, Nat.reduceLT, Nat.reduceLeDiff, Nat.reduceEqDiff, Nat.reduceAdd, Nat.reduceMul, Nat.reduceSub, reduceCtorEq, Int.reduceLT, Int.reduceLE, Int.reduceEq, Int.reduceToNat, decide_true, decide_false, Int.reduceNeg, Int.cast_ofNat_Int, sg, AO.sg, Option.isNone_none]
  refine Cc_of (hasPrefix_ok s p) ?_
  rintro h' r ⟨rfl, rfl⟩
  simp only [go_sem, ↓reduceIte, Nat.reduceLT, Nat.reduceLeDiff, Nat.reduceEqDiff, Nat.reduceAdd, Nat.reduceMul, Nat.reduceSub, reduceCtorEq, Int.reduceLT, Int.reduceLE, Int.reduceEq, Int.reduceToNat, decide_true, decide_false, Int.reduceNeg, Int.cast_ofNat_Int, sg, AO.sg, Option.isNone_none]
  cases hp : hasP s p
  · simp only [go_sem, ↓reduceIte, Nat.reduceLT, Nat.reduceLeDiff, Nat.reduceEqDiff, Nat.reduceAdd, Nat.reduceMul, Nat.reduceSub, reduceCtorEq, Int.reduceLT, Int.reduceLE, Int.reduceEq, Int.reduceToNat, decide_true, decide_false, Int.reduceNeg, Int.cast_ofNat_Int, sg, AO.sg, Option.isNone_none]
    refine end_own ?_
    simp only [go_sem, ↓reduceIte, Nat.reduceLT, Nat.reduceLeDiff, Nat.reduceEqDiff, Nat.reduceAdd, Nat.reduceMul, Nat.reduceSub, reduceCtorEq, Int.reduceLT, Int.reduceLE, Int.reduceEq, Int.reduceToNat, decide_true, decide_false, Int.reduceNeg, Int.cast_ofNat_Int, sg, AO.sg, Option.isNone_none]
    try simp
  · simp only [go_sem, ↓reduceIte, Nat.reduceLT, Nat.reduceLeDiff, Nat.reduceEqDiff, Nat.reduceAdd, Nat.reduceMul, Nat.reduceSub, reduceCtorEq, Int.reduceLT, Int.reduceLE, Int.reduceEq, Int.reduceToNat, decide_true, decide_false, Int.reduceNeg, Int.cast_ofNat_Int, sg, AO.sg, Option.isNone_none, Int.toNat_natCast]
    have h1 : p.length ≤ s.length := by
      simp only [hasP, Bool.and_eq_true, decide_eq_true_eq] at hp; exact hp.1
    refine ⟨by omega, end_own ?_⟩
    simp only [go_sem, ↓reduceIte, Nat.reduceLT, Nat.reduceLeDiff, Nat.reduceEqDiff, Nat.reduceAdd, Nat.reduceMul, Nat.reduceSub, reduceCtorEq, Int.reduceLT, Int.reduceLE, Int.reduceEq, Int.reduceToNat, decide_true, decide_false, Int.reduceNeg, Int.cast_ofNat_Int, sg, AO.sg, Option.isNone_none]
    try simp
theorem cutPrefix_ok (s p : List UInt8) : ACalls Tryz.prog 125 [.p (.str s), .p (.str p)] [] fun h r => h = [] ∧ r = .tup [.p (.str (if hasP s p then s.drop p.length else s)), .p (.bool (hasP s p))] := by
  refine ACalls_X Tryz.func125 rfl enters125 (by simp [Tryz.f125]) ?_
  simp only [go_sem, ↓reduceIte, Nat.reduceLT, Nat.reduceLeDiff, Nat.reduceEqDiff, Nat.reduceAdd, Nat.reduceMul, Nat.reduceSub, reduceCtorEq, Int.reduceLT, Int.reduceLE, Int.reduceEq, Int.reduceToNat, decide_true, decide_false, Int.reduceNeg, Int.cast_ofNat_Int, sg, AO.sg, Option.isNone_none]
  refine Cc_of (cutPrefix1_ok s p) ?_
  rintro h' r ⟨rfl, rfl⟩
  simp only [go_sem, ↓reduceIte, Nat.reduceLT, Nat.reduceLeDiff, Nat.reduceEqDiff, Nat.reduceAdd, Nat.reduceMul, Nat.reduceSub, reduceCtorEq, Int.reduceLT, Int.reduceLE, Int.reduceEq, Int.reduceToNat, decide_true, decide_false, Int.reduceNeg, Int.cast_ofNat_Int, sg, AO.sg, Option.isNone_none]
  refine end_own ?_
  simp only [go_sem, ↓reduceIte, Nat.reduceLT, Nat.reduceLeDiff, Nat.reduceEqDiff, Nat.reduceAdd, Nat.reduceMul, Nat.reduceSub, reduceCtorEq, Int.reduceLT, Int.reduceLE, Int.reduceEq, Int.reduceToNat, decide_true, decide_false, Int.reduceNeg, Int.cast_ofNat_Int, sg, AO.sg, Option.isNone_none]
end Go.Am
end

section
/- Numbers. -/
namespace Go.Am
open Go Go.Proofs
set_option maxRecDepth 100000
set_option linter.unusedVariables false
set_option linter.unusedSimpArgs false
def valD (l : List UInt8) : Int := l.foldl (fun n c => 10 * n + ((c.toNat : Int) - 48)) 0
def digB (c : Int) : Bool := decide (48 ≤ c) && decide (c ≤ 57)
def digsB (l : List UInt8) : Bool := l.all fun c => digB c.toNat
def numOf (neg : Bool) (l : List UInt8) : Int × Bool :=
  match l with
  | [] => (0, false)
  | b :: r => if 4 < r.length + 1 ∨ ((b.toNat : Int) = 48 ∧ (neg = true ∨ 1 < r.length + 1)) then (0, false)
    else if digsB (b :: r) then (if neg then 0 - valD (b :: r) else valD (b :: r), true) else (0, false)
def numV (s : List UInt8) : Int × Bool := if hasP s [45] then numOf true (s.drop 1) else numOf false s
theorem valD_succ (l : List UInt8) (i : Nat) (h : i < l.length) : valD (l.take (i + 1)) = 10 * valD (l.take i) + (((l.getD i 0).toNat : Int) - 48) := by
  unfold valD
  rw [List.take_succ_eq_append_getElem h, List.foldl_append]
  simp [List.getD, h]
theorem valD_le (l : List UInt8) (h : ∀ c ∈ l, 48 ≤ c.toNat ∧ c.toNat ≤ 57) : ∀ (i : Nat), i ≤ l.length → i ≤ 4 → 0 ≤ valD (l.take i) ∧ valD (l.take i) < 10 ^ i := by
  intro i
  induction i with
  | zero => intro _ _; simp [valD]
  | succ i ih =>
    intro h1 h2
    have h3 := ih (by omega) (by omega)
    rw [valD_succ l i (by omega)]
    have h4 := h (l.getD i 0) (by simp only [List.getD, List.getElem?_eq_getElem (show i < l.length by omega), Option.getD_some]; exact List.getElem_mem _)
    have : (10 : Int) ^ (i + 1) = 10 * 10 ^ i := by rw [Int.pow_succ]; omega
    omega
theorem p10 (i : Nat) (h : i ≤ 4) : (10 : Int) ^ i ≤ 10000 := by
  rcases i with _ | _ | _ | _ | _ | i <;> simp at * <;> omega
theorem number1_ok (s : List UInt8) : ACalls Tryz.prog 86 [.p (.str s)] [] fun h r => h = [] ∧ r = .tup [.p (.int .i64 (numV s).1), .p (.bool (numV s).2)] := by
  refine ACalls_X Tryz.func86 rfl enters86 (by simp [Tryz.f86]) ?_
  simp only [go_sem, ↓reduceIte, Nat.reduceLT, Nat.reduceLeDiff, Nat.reduceEqDiff, Nat.reduceAdd, Nat.reduceMul, Nat.reduceSub, reduceCtorEq, Int.reduceLT, Int.reduceLE, Int.reduceEq, Int.reduceToNat, decide_true, decide_false, Int.reduceNeg, Int.cast_ofNat_Int, sg, AO.sg, Option.isNone_none]
  refine Cc_of (cutPrefix_ok s [45]) ?_
  rintro h' r ⟨rfl, rfl⟩
  simp only [go_sem, ↓reduceIte, Nat.reduceLT, Nat.reduceLeDiff, Nat.reduceEqDiff, Nat.reduceAdd, Nat.reduceMul, Nat.reduceSub, reduceCtorEq, Int.reduceLT, Int.reduceLE, Int.reduceEq, Int.reduceToNat, decide_true, decide_false, Int.reduceNeg, Int.cast_ofNat_Int, sg, AO.sg, Option.isNone_none]
  have key : numV s = numOf (hasP s [45]) (if hasP s [45] = true then List.drop 1 s else s) := by
    unfold numV
    cases hasP s [45] <;> rfl
  rw [key]
  clear key
  generalize hasP s [45] = neg
  generalize (if neg = true then List.drop 1 s else s) = l
  cases l with
  | nil =>
    simp only [go_sem, ↓reduceIte, Nat.reduceLT, Nat.reduceLeDiff, Nat.reduceEqDiff, Nat.reduceAdd, Nat.reduceMul, Nat.reduceSub, reduceCtorEq, Int.reduceLT, Int.reduceLE, Int.reduceEq, Int.reduceToNat, decide_true, decide_false, Int.reduceNeg, Int.cast_ofNat_Int, sg, AO.sg, Option.isNone_none]
    refine end_own ?_
    simp only [go_sem, ↓reduceIte, Nat.reduceLT, Nat.reduceLeDiff, Nat.reduceEqDiff, Nat.reduceAdd, Nat.reduceMul, Nat.reduceSub, reduceCtorEq, Int.reduceLT, Int.reduceLE, Int.reduceEq, Int.reduceToNat, decide_true, decide_false, Int.reduceNeg, Int.cast_ofNat_Int, sg, AO.sg, Option.isNone_none]
    try simp [numOf]
  | cons b l =>
    by_cases hL : (4 : Int) < ((l.length + 1 : Nat) : Int)
    · simp only [go_sem, ↓reduceIte, Nat.reduceLT, Nat.reduceLeDiff, Nat.reduceEqDiff, Nat.reduceAdd, Nat.reduceMul, Nat.reduceSub, reduceCtorEq, Int.reduceLT, Int.reduceLE, Int.reduceEq, Int.reduceToNat, decide_true, decide_false, Int.reduceNeg, Int.cast_ofNat_Int, sg, AO.sg, Option.isNone_none, hL]
      refine end_own ?_
      simp only [go_sem, ↓reduceIte, Nat.reduceLT, Nat.reduceLeDiff, Nat.reduceEqDiff, Nat.reduceAdd, Nat.reduceMul, Nat.reduceSub, reduceCtorEq, Int.reduceLT, Int.reduceLE, Int.reduceEq, Int.reduceToNat, decide_true, decide_false, Int.reduceNeg, Int.cast_ofNat_Int, sg, AO.sg, Option.isNone_none]
      have : 4 < l.length + 1 := by omega
      try simp [numOf, this]
    · have hL' : ¬ 4 < l.length + 1 := by omega
      have hlen : (b :: l).length ≤ 4 := by simp only [List.length_cons]; omega
      have bad : ∀ c : Int, (∃ i, i < (b :: l).length ∧ (((b :: l).getD i 0).toNat : Int) = c) → digB c = false → digsB (b :: l) = false := by
        rintro c ⟨i, hi, hc⟩ hf
        rw [Bool.eq_false_iff]
        intro ht
        have := List.all_eq_true.1 ht ((b :: l).getD i 0) (by simp only [List.getD, List.getElem?_eq_getElem hi, Option.getD_some]; exact List.getElem_mem hi)
        simp only [hc, hf] at this
        cases this
      by_cases hbad : (b.toNat : Int) = 48 ∧ (neg = true ∨ 1 < l.length + 1)
      · obtain ⟨h48, hn⟩ := hbad
        have hres : numOf neg (b :: l) = (0, false) := by simp only [numOf, h48, hn, and_self, or_true, if_true]
        cases neg
        · have h1 : (1 : Int) < ((l.length + 1 : Nat) : Int) := by simp at hn; omega
          simp only [go_sem, ↓reduceIte, Nat.reduceLT, Nat.reduceLeDiff, Nat.reduceEqDiff, Nat.reduceAdd, Nat.reduceMul, Nat.reduceSub, reduceCtorEq, Int.reduceLT, Int.reduceLE, Int.reduceEq, Int.reduceToNat, decide_true, decide_false, Int.reduceNeg, Int.cast_ofNat_Int, sg, AO.sg, Option.isNone_none, hL, List.getD_cons_zero, h48, h1]
          refine ⟨by omega, end_own ?_⟩
          simp only [go_sem, ↓reduceIte, Nat.reduceLT, Nat.reduceLeDiff, Nat.reduceEqDiff, Nat.reduceAdd, Nat.reduceMul, Nat.reduceSub, reduceCtorEq, Int.reduceLT, Int.reduceLE, Int.reduceEq, Int.reduceToNat, decide_true, decide_false, Int.reduceNeg, Int.cast_ofNat_Int, sg, AO.sg, Option.isNone_none, hres]
        · simp only [go_sem, ↓reduceIte, Nat.reduceLT, Nat.reduceLeDiff, Nat.reduceEqDiff, Nat.reduceAdd, Nat.reduceMul, Nat.reduceSub, reduceCtorEq, Int.reduceLT, Int.reduceLE, Int.reduceEq, Int.reduceToNat, decide_true, decide_false, Int.reduceNeg, Int.cast_ofNat_Int, sg, AO.sg, Option.isNone_none, hL, List.getD_cons_zero, h48]
          refine ⟨by omega, end_own ?_⟩
          simp only [go_sem, ↓reduceIte, Nat.reduceLT, Nat.reduceLeDiff, Nat.reduceEqDiff, Nat.reduceAdd, Nat.reduceMul, Nat.reduceSub, reduceCtorEq, Int.reduceLT, Int.reduceLE, Int.reduceEq, Int.reduceToNat, decide_true, decide_false, Int.reduceNeg, Int.cast_ofNat_Int, sg, AO.sg, Option.isNone_none, hres]
      · have hres : numOf neg (b :: l) = if digsB (b :: l) then (if neg then 0 - valD (b :: l) else valD (b :: l), true) else (0, false) := by
          simp only [numOf, hL', hbad, or_self, if_false]
        have hcase : ((b.toNat : Int) ≠ 48) ∨ ((b.toNat : Int) = 48 ∧ neg = false ∧ ¬ (1 : Int) < ((l.length + 1 : Nat) : Int)) := by
          by_cases h : (b.toNat : Int) = 48
          · right
            refine ⟨h, ?_, ?_⟩
            · cases neg
              · rfl
              · exact (hbad ⟨h, .inl rfl⟩).elim
            · intro h1
              exact hbad ⟨h, .inr (by omega)⟩
          · exact .inl h
        rcases hcase with h48 | ⟨h48, hng, h1⟩
        all_goals
          have hresA := hres
          first | rw [hng] at hresA | skip
          first
            | simp only [go_sem, ↓reduceIte, Nat.reduceLT, Nat.reduceLeDiff, Nat.reduceEqDiff, Nat.reduceAdd, Nat.reduceMul, Nat.reduceSub, reduceCtorEq, Int.reduceLT, Int.reduceLE, Int.reduceEq, Int.reduceToNat, decide_true, decide_false, Int.reduceNeg, Int.cast_ofNat_Int, sg, AO.sg, Option.isNone_none, hL, List.getD_cons_zero, h48, h1, hng]
            | simp only [go_sem, ↓reduceIte, Nat.reduceLT, Nat.reduceLeDiff, Nat.reduceEqDiff, Nat.reduceAdd, Nat.reduceMul, Nat.reduceSub, reduceCtorEq, Int.reduceLT, Int.reduceLE, Int.reduceEq, Int.reduceToNat, decide_true, decide_false, Int.reduceNeg, Int.cast_ofNat_Int, sg, AO.sg, Option.isNone_none, hL, List.getD_cons_zero, h48]
          refine ⟨by omega, Af_bytes rfl ti9 ti89 ti5 rfl ?_⟩
          simp only [go_sem, ↓reduceIte, Nat.reduceLT, Nat.reduceLeDiff, Nat.reduceEqDiff, Nat.reduceAdd, Nat.reduceMul, Nat.reduceSub, reduceCtorEq, Int.reduceLT, Int.reduceLE, Int.reduceEq, Int.reduceToNat, decide_true, decide_false, Int.reduceNeg, Int.cast_ofNat_Int, sg, AO.sg, Option.isNone_none, encB_len]
          refine X_loop_inv (fun i => ⟨[(35, .p (.sl (encB (b :: l)))), (36, .p (.int .i64 ((l.length + 1 : Nat) : Int))), (37, .p (.int .i64 (i : Nat))), (6, .p (.int .i64 (valD ((b :: l).take i)))), (5, .p (.bool neg))], [], 58⟩) (fun i => i ≤ l.length + 1 ∧ 0 ≤ valD ((b :: l).take i) ∧ valD ((b :: l).take i) < 10 ^ i ∧ ∀ j, j < i → digB ((b :: l).getD j 0).toNat = true) (fun i => l.length + 1 - i) 0 ⟨Nat.zero_le _, by simp [valD], by simp [valD], by simp⟩
            (Wk.forget (by first | (simp [Le, LeE, LeH, get, envIds, hpIds, KeepH, D.ids, valD]; done) | simp [Le, LeE, LeH, get, envIds, hpIds, KeepH, D.ids, valD, hng])) ?_
          rintro i n ⟨hi, hv0, hv1, he⟩ ih
          simp only [go_sem, ↓reduceIte, Nat.reduceLT, Nat.reduceLeDiff, Nat.reduceEqDiff, Nat.reduceAdd, Nat.reduceMul, Nat.reduceSub, reduceCtorEq, Int.reduceLT, Int.reduceLE, Int.reduceEq, Int.reduceToNat, decide_true, decide_false, Int.reduceNeg, Int.cast_ofNat_Int, sg, AO.sg, Option.isNone_none, encB_len]
          refine Cn_split (fun h2 => ?_) (fun h2 => ?_)
          · have hlt : i < (b :: l).length := by simp at h2 ⊢; omega
            simp only [go_sem, ↓reduceIte, Nat.reduceLT, Nat.reduceLeDiff, Nat.reduceEqDiff, Nat.reduceAdd, Nat.reduceMul, Nat.reduceSub, reduceCtorEq, Int.reduceLT, Int.reduceLE, Int.reduceEq, Int.reduceToNat, decide_true, decide_false, Int.reduceNeg, Int.cast_ofNat_Int, sg, AO.sg, Option.isNone_none, encB_len, Int.toNat_natCast, encB_get (b :: l) i hlt]
            have hw := wrap_succ i (by omega)
            have hsucc := valD_succ (b :: l) i hlt
            generalize hcc : (((b :: l).getD i 0).toNat : Int) = c at hsucc
            refine ⟨by simp only [List.length_cons] at hlt; omega, ?_⟩
            have hle : i + 1 ≤ l.length + 1 := by simp only [List.length_cons] at hlt; omega
            have hp : (10 : Int) ^ i ≤ 10000 := p10 i (by omega)
            have hp2 : (10 : Int) ^ (i + 1) = 10 * 10 ^ i := by rw [Int.pow_succ]; omega
            by_cases hd1 : c < 48
            · simp only [go_sem, ↓reduceIte, Nat.reduceLT, Nat.reduceLeDiff, Nat.reduceEqDiff, Nat.reduceAdd, Nat.reduceMul, Nat.reduceSub, reduceCtorEq, Int.reduceLT, Int.reduceLE, Int.reduceEq, Int.reduceToNat, decide_true, decide_false, Int.reduceNeg, Int.cast_ofNat_Int, sg, AO.sg, Option.isNone_none, hd1]
              refine end_own ?_
              simp only [go_sem, ↓reduceIte, Nat.reduceLT, Nat.reduceLeDiff, Nat.reduceEqDiff, Nat.reduceAdd, Nat.reduceMul, Nat.reduceSub, reduceCtorEq, Int.reduceLT, Int.reduceLE, Int.reduceEq, Int.reduceToNat, decide_true, decide_false, Int.reduceNeg, Int.cast_ofNat_Int, sg, AO.sg, Option.isNone_none, hresA, bad c ⟨i, hlt, hcc⟩ (by simp [digB]; omega)]
              try simp
            · by_cases hd2 : 57 < c
              · simp only [go_sem, ↓reduceIte, Nat.reduceLT, Nat.reduceLeDiff, Nat.reduceEqDiff, Nat.reduceAdd, Nat.reduceMul, Nat.reduceSub, reduceCtorEq, Int.reduceLT, Int.reduceLE, Int.reduceEq, Int.reduceToNat, decide_true, decide_false, Int.reduceNeg, Int.cast_ofNat_Int, sg, AO.sg, Option.isNone_none, hd1, hd2]
                refine end_own ?_
                simp only [go_sem, ↓reduceIte, Nat.reduceLT, Nat.reduceLeDiff, Nat.reduceEqDiff, Nat.reduceAdd, Nat.reduceMul, Nat.reduceSub, reduceCtorEq, Int.reduceLT, Int.reduceLE, Int.reduceEq, Int.reduceToNat, decide_true, decide_false, Int.reduceNeg, Int.cast_ofNat_Int, sg, AO.sg, Option.isNone_none, hresA, bad c ⟨i, hlt, hcc⟩ (by simp [digB]; omega)]
                try simp
              · have w1 : IntKind.i64.wrap (10 * valD ((b :: l).take i)) = 10 * valD ((b :: l).take i) := by rw [wrap_i64_id] <;> omega
                have w2 : IntKind.u8.wrap (c - 48) = c - 48 := by rw [IntKind.wrap_u8]; omega
                have w3 : IntKind.i64.wrap (c - 48) = c - 48 := by rw [wrap_i64_id] <;> omega
                have w4 : IntKind.i64.wrap (10 * valD ((b :: l).take i) + (c - 48)) = valD ((b :: l).take (i + 1)) := by rw [hsucc, wrap_i64_id] <;> omega
                simp only [go_sem, ↓reduceIte, Nat.reduceLT, Nat.reduceLeDiff, Nat.reduceEqDiff, Nat.reduceAdd, Nat.reduceMul, Nat.reduceSub, reduceCtorEq, Int.reduceLT, Int.reduceLE, Int.reduceEq, Int.reduceToNat, decide_true, decide_false, Int.reduceNeg, Int.cast_ofNat_Int, sg, AO.sg, Option.isNone_none, hd1, hd2, w1, w2, w3, w4, hw]
                refine ih (i + 1) _ ⟨hle, by omega, by omega, fun j hj => ?_⟩ (by omega) (Wk.forget (by simp [Le, LeE, LeH, get, envIds, hpIds, KeepH, D.ids]))
                rcases Nat.lt_succ_iff_lt_or_eq.1 hj with hj | rfl
                · exact he j hj
                · rw [hcc]; simp [digB]; omega
          · simp only [go_sem, ↓reduceIte, Nat.reduceLT, Nat.reduceLeDiff, Nat.reduceEqDiff, Nat.reduceAdd, Nat.reduceMul, Nat.reduceSub, reduceCtorEq, Int.reduceLT, Int.reduceLE, Int.reduceEq, Int.reduceToNat, decide_true, decide_false, Int.reduceNeg, Int.cast_ofNat_Int, sg, AO.sg, Option.isNone_none]
            have hi2 : i = (b :: l).length := by simp at h2 ⊢; omega
            have hall : digsB (b :: l) = true := by
              refine List.all_eq_true.2 fun x hx => ?_
              obtain ⟨j, hj, rfl⟩ := List.mem_iff_getElem.1 hx
              have := he j (by omega)
              simpa only [List.getD, List.getElem?_eq_getElem hj, Option.getD_some] using this
            have hp : (10 : Int) ^ i ≤ 10000 := p10 i (by omega)
            rw [hi2, List.take_length] at hv0 hv1
            rw [hi2, List.take_length]
            have w5 : IntKind.i64.wrap (0 - valD (b :: l)) = 0 - valD (b :: l) := by rw [← hi2] at hv1; rw [wrap_i64_id] <;> omega
            refine Cn_split (fun h3 => ?_) (fun h3 => ?_)
            · simp only [go_sem, ↓reduceIte, Nat.reduceLT, Nat.reduceLeDiff, Nat.reduceEqDiff, Nat.reduceAdd, Nat.reduceMul, Nat.reduceSub, reduceCtorEq, Int.reduceLT, Int.reduceLE, Int.reduceEq, Int.reduceToNat, decide_true, decide_false, Int.reduceNeg, Int.cast_ofNat_Int, sg, AO.sg, Option.isNone_none, w5]
              refine end_own ?_
              have hr3 := hres
              rw [h3] at hr3
              first | (simp only [go_sem, ↓reduceIte, Nat.reduceLT, Nat.reduceLeDiff, Nat.reduceEqDiff, Nat.reduceAdd, Nat.reduceMul, Nat.reduceSub, reduceCtorEq, Int.reduceLT, Int.reduceLE, Int.reduceEq, Int.reduceToNat, decide_true, decide_false, Int.reduceNeg, Int.cast_ofNat_Int, sg, AO.sg, Option.isNone_none, hr3, hall, h3]; done) | (simp only [go_sem, ↓reduceIte, Nat.reduceLT, Nat.reduceLeDiff, Nat.reduceEqDiff, Nat.reduceAdd, Nat.reduceMul, Nat.reduceSub, reduceCtorEq, Int.reduceLT, Int.reduceLE, Int.reduceEq, Int.reduceToNat, decide_true, decide_false, Int.reduceNeg, Int.cast_ofNat_Int, sg, AO.sg, Option.isNone_none, hr3, hall, h3]; simp; done) | (simp [hng] at h3; done)
            · simp only [go_sem, ↓reduceIte, Nat.reduceLT, Nat.reduceLeDiff, Nat.reduceEqDiff, Nat.reduceAdd, Nat.reduceMul, Nat.reduceSub, reduceCtorEq, Int.reduceLT, Int.reduceLE, Int.reduceEq, Int.reduceToNat, decide_true, decide_false, Int.reduceNeg, Int.cast_ofNat_Int, sg, AO.sg, Option.isNone_none]
              refine end_own ?_
              have hr3 := hres
              rw [h3] at hr3
              simp only [go_sem, ↓reduceIte, Nat.reduceLT, Nat.reduceLeDiff, Nat.reduceEqDiff, Nat.reduceAdd, Nat.reduceMul, Nat.reduceSub, reduceCtorEq, Int.reduceLT, Int.reduceLE, Int.reduceEq, Int.reduceToNat, decide_true, decide_false, Int.reduceNeg, Int.cast_ofNat_Int, sg, AO.sg, Option.isNone_none, hr3, hall, h3]
              try simp
end Go.Am
end

section
/- Numbers, in the reference. -/
namespace Go.Am
open Go Go.Proofs
set_option maxRecDepth 100000
set_option linter.unusedVariables false
set_option linter.unusedSimpArgs false
theorem number2_ok (s : List UInt8) : ACalls Tryz.prog 100 [.p (.str s)] [] fun h r => h = [] ∧ r = .tup [.p (.int .i64 (numV s).1), .p (.bool (numV s).2)] := by
  refine ACalls_X Tryz.func100 rfl enters100 (by simp [Tryz.f100]) ?_
  cases s with
  | nil =>
    simp only [go_sem, ↓reduceIte, Nat.reduceLT, Nat.reduceLeDiff, Nat.reduceEqDiff, Nat.reduceAdd, Nat.reduceMul, Nat.reduceSub, reduceCtorEq, Int.reduceLT, Int.reduceLE, Int.reduceEq, Int.reduceToNat, decide_true, decide_false, Int.reduceNeg, Int.cast_ofNat_Int, sg, AO.sg, Option.isNone_none]
    refine end_own ?_
    simp only [go_sem, ↓reduceIte, Nat.reduceLT, Nat.reduceLeDiff, Nat.reduceEqDiff, Nat.reduceAdd, Nat.reduceMul, Nat.reduceSub, reduceCtorEq, Int.reduceLT, Int.reduceLE, Int.reduceEq, Int.reduceToNat, decide_true, decide_false, Int.reduceNeg, Int.cast_ofNat_Int, sg, AO.sg, Option.isNone_none]
    try simp [numV, hasP, numOf]
  | cons c r =>
  by_cases hc : (c.toNat : Int) = 45
  · have hdr : List.drop 1 (List.take ((r.length + 1 : Nat) : Int).toNat (c :: r)) = r := by
      rw [Int.toNat_natCast, show r.length + 1 = (c :: r).length from rfl, List.take_length]; rfl
    have hk : numV (c :: r) = numOf true r := by
      have : c = 45 := UInt8.toNat_inj.1 (by simp; omega)
      subst this
      simp [numV, hasP]
    rw [hk]
    simp only [go_sem, ↓reduceIte, Nat.reduceLT, Nat.reduceLeDiff, Nat.reduceEqDiff, Nat.reduceAdd, Nat.reduceMul, Nat.reduceSub, reduceCtorEq, Int.reduceLT, Int.reduceLE, Int.reduceEq, Int.reduceToNat, decide_true, decide_false, Int.reduceNeg, Int.cast_ofNat_Int, sg, AO.sg, Option.isNone_none, hc, List.getD_cons_zero]
    refine ⟨by omega, by omega, ?_⟩
    simp only [go_sem, ↓reduceIte, Nat.reduceLT, Nat.reduceLeDiff, Nat.reduceEqDiff, Nat.reduceAdd, Nat.reduceMul, Nat.reduceSub, reduceCtorEq, Int.reduceLT, Int.reduceLE, Int.reduceEq, Int.reduceToNat, decide_true, decide_false, Int.reduceNeg, Int.cast_ofNat_Int, sg, AO.sg, Option.isNone_none, hdr]
    cases r with
    | nil =>
      simp only [go_sem, ↓reduceIte, Nat.reduceLT, Nat.reduceLeDiff, Nat.reduceEqDiff, Nat.reduceAdd, Nat.reduceMul, Nat.reduceSub, reduceCtorEq, Int.reduceLT, Int.reduceLE, Int.reduceEq, Int.reduceToNat, decide_true, decide_false, Int.reduceNeg, Int.cast_ofNat_Int, sg, AO.sg, Option.isNone_none]
      refine end_own ?_
      simp only [go_sem, ↓reduceIte, Nat.reduceLT, Nat.reduceLeDiff, Nat.reduceEqDiff, Nat.reduceAdd, Nat.reduceMul, Nat.reduceSub, reduceCtorEq, Int.reduceLT, Int.reduceLE, Int.reduceEq, Int.reduceToNat, decide_true, decide_false, Int.reduceNeg, Int.cast_ofNat_Int, sg, AO.sg, Option.isNone_none]
      try simp [numOf]
    | cons b l =>
      by_cases hL : (4 : Int) < ((l.length + 1 : Nat) : Int)
      · simp only [go_sem, ↓reduceIte, Nat.reduceLT, Nat.reduceLeDiff, Nat.reduceEqDiff, Nat.reduceAdd, Nat.reduceMul, Nat.reduceSub, reduceCtorEq, Int.reduceLT, Int.reduceLE, Int.reduceEq, Int.reduceToNat, decide_true, decide_false, Int.reduceNeg, Int.cast_ofNat_Int, sg, AO.sg, Option.isNone_none, hL]
        refine end_own ?_
        simp only [go_sem, ↓reduceIte, Nat.reduceLT, Nat.reduceLeDiff, Nat.reduceEqDiff, Nat.reduceAdd, Nat.reduceMul, Nat.reduceSub, reduceCtorEq, Int.reduceLT, Int.reduceLE, Int.reduceEq, Int.reduceToNat, decide_true, decide_false, Int.reduceNeg, Int.cast_ofNat_Int, sg, AO.sg, Option.isNone_none]
        have : 4 < l.length + 1 := by omega
        try simp [numOf, this]
      · have hL' : ¬ 4 < l.length + 1 := by omega
        have hlen : (b :: l).length ≤ 4 := by simp only [List.length_cons]; omega
        have bad : ∀ c : Int, (∃ i, i < (b :: l).length ∧ (((b :: l).getD i 0).toNat : Int) = c) → digB c = false → digsB (b :: l) = false := by
          rintro c ⟨i, hi, hc⟩ hf
          rw [Bool.eq_false_iff]
          intro ht
          have := List.all_eq_true.1 ht ((b :: l).getD i 0) (by simp only [List.getD, List.getElem?_eq_getElem hi, Option.getD_some]; exact List.getElem_mem hi)
          simp only [hc, hf] at this
          cases this
        by_cases h48 : (b.toNat : Int) = 48
        · have hres : numOf true (b :: l) = (0, false) := by simp only [numOf, h48, true_or, and_self, or_true, if_true]
          by_cases h1 : (1 : Int) < ((l.length + 1 : Nat) : Int)
          all_goals
            simp only [go_sem, ↓reduceIte, Nat.reduceLT, Nat.reduceLeDiff, Nat.reduceEqDiff, Nat.reduceAdd, Nat.reduceMul, Nat.reduceSub, reduceCtorEq, Int.reduceLT, Int.reduceLE, Int.reduceEq, Int.reduceToNat, decide_true, decide_false, Int.reduceNeg, Int.cast_ofNat_Int, sg, AO.sg, Option.isNone_none, hL, hdr, List.getD_cons_zero, h48, h1]
            refine ⟨by omega, end_own ?_⟩
            simp only [go_sem, ↓reduceIte, Nat.reduceLT, Nat.reduceLeDiff, Nat.reduceEqDiff, Nat.reduceAdd, Nat.reduceMul, Nat.reduceSub, reduceCtorEq, Int.reduceLT, Int.reduceLE, Int.reduceEq, Int.reduceToNat, decide_true, decide_false, Int.reduceNeg, Int.cast_ofNat_Int, sg, AO.sg, Option.isNone_none, hres]
        · have hres : numOf true (b :: l) = if digsB (b :: l) then (if true then 0 - valD (b :: l) else valD (b :: l), true) else (0, false) := by
            simp only [numOf, hL', h48, false_and, or_self, if_false]
          · have hresA := hres
            simp only [go_sem, ↓reduceIte, Nat.reduceLT, Nat.reduceLeDiff, Nat.reduceEqDiff, Nat.reduceAdd, Nat.reduceMul, Nat.reduceSub, reduceCtorEq, Int.reduceLT, Int.reduceLE, Int.reduceEq, Int.reduceToNat, decide_true, decide_false, Int.reduceNeg, Int.cast_ofNat_Int, sg, AO.sg, Option.isNone_none, hL, hdr, List.getD_cons_zero, h48]
            refine ⟨by omega, ?_⟩
            try simp only [go_sem, ↓reduceIte, Nat.reduceLT, Nat.reduceLeDiff, Nat.reduceEqDiff, Nat.reduceAdd, Nat.reduceMul, Nat.reduceSub, reduceCtorEq, Int.reduceLT, Int.reduceLE, Int.reduceEq, Int.reduceToNat, decide_true, decide_false, Int.reduceNeg, Int.cast_ofNat_Int, sg, AO.sg, Option.isNone_none]
            refine X_loop_inv (fun i => ⟨[(0, .p (.str (b :: l))), (6, .p (.int .i64 (i : Nat))), (5, .p (.int .i64 (valD ((b :: l).take i)))), (4, .p (.bool true))], [], 65⟩) (fun i => i ≤ l.length + 1 ∧ 0 ≤ valD ((b :: l).take i) ∧ valD ((b :: l).take i) < 10 ^ i ∧ ∀ j, j < i → digB ((b :: l).getD j 0).toNat = true) (fun i => l.length + 1 - i) 0 ⟨Nat.zero_le _, by simp [valD], by simp [valD], by simp⟩
              (Wk.forget (by first | (simp [Le, LeE, LeH, get, envIds, hpIds, KeepH, D.ids, valD]; done) | simp [Le, LeE, LeH, get, envIds, hpIds, KeepH, D.ids, valD, hng])) ?_
            rintro i n ⟨hi, hv0, hv1, he⟩ ih
            simp only [go_sem, ↓reduceIte, Nat.reduceLT, Nat.reduceLeDiff, Nat.reduceEqDiff, Nat.reduceAdd, Nat.reduceMul, Nat.reduceSub, reduceCtorEq, Int.reduceLT, Int.reduceLE, Int.reduceEq, Int.reduceToNat, decide_true, decide_false, Int.reduceNeg, Int.cast_ofNat_Int, sg, AO.sg, Option.isNone_none]
            refine Cn_split (fun h2 => ?_) (fun h2 => ?_)
            · have hlt : i < (b :: l).length := by simp at h2 ⊢; omega
              simp only [go_sem, ↓reduceIte, Nat.reduceLT, Nat.reduceLeDiff, Nat.reduceEqDiff, Nat.reduceAdd, Nat.reduceMul, Nat.reduceSub, reduceCtorEq, Int.reduceLT, Int.reduceLE, Int.reduceEq, Int.reduceToNat, decide_true, decide_false, Int.reduceNeg, Int.cast_ofNat_Int, sg, AO.sg, Option.isNone_none]
              have hw := wrap_succ i (by omega)
              have hsucc := valD_succ (b :: l) i hlt
              generalize hcc : (((b :: l).getD i 0).toNat : Int) = c at hsucc
              have hle : i + 1 ≤ l.length + 1 := by simp only [List.length_cons] at hlt; omega
              have hp : (10 : Int) ^ i ≤ 10000 := p10 i (by omega)
              have hp2 : (10 : Int) ^ (i + 1) = 10 * 10 ^ i := by rw [Int.pow_succ]; omega
              have hi1 : (i : Int) < ((l.length + 1 : Nat) : Int) := by simp only [List.length_cons] at hlt; omega
              have hi0 : (0 : Int) ≤ (i : Int) := by omega
              by_cases hd1 : c < 48
              · simp only [go_sem, ↓reduceIte, Nat.reduceLT, Nat.reduceLeDiff, Nat.reduceEqDiff, Nat.reduceAdd, Nat.reduceMul, Nat.reduceSub, reduceCtorEq, Int.reduceLT, Int.reduceLE, Int.reduceEq, Int.reduceToNat, decide_true, decide_false, Int.reduceNeg, Int.cast_ofNat_Int, sg, AO.sg, Option.isNone_none, Int.toNat_natCast, hi1, hi0, hcc, hd1]
                refine end_own ?_
                simp only [go_sem, ↓reduceIte, Nat.reduceLT, Nat.reduceLeDiff, Nat.reduceEqDiff, Nat.reduceAdd, Nat.reduceMul, Nat.reduceSub, reduceCtorEq, Int.reduceLT, Int.reduceLE, Int.reduceEq, Int.reduceToNat, decide_true, decide_false, Int.reduceNeg, Int.cast_ofNat_Int, sg, AO.sg, Option.isNone_none, hresA, bad c ⟨i, hlt, hcc⟩ (by simp [digB]; omega)]
                try simp
              · by_cases hd2 : 57 < c
                · simp only [go_sem, ↓reduceIte, Nat.reduceLT, Nat.reduceLeDiff, Nat.reduceEqDiff, Nat.reduceAdd, Nat.reduceMul, Nat.reduceSub, reduceCtorEq, Int.reduceLT, Int.reduceLE, Int.reduceEq, Int.reduceToNat, decide_true, decide_false, Int.reduceNeg, Int.cast_ofNat_Int, sg, AO.sg, Option.isNone_none, Int.toNat_natCast, hi1, hi0, hcc, hd1, hd2]
                  refine end_own ?_
                  simp only [go_sem, ↓reduceIte, Nat.reduceLT, Nat.reduceLeDiff, Nat.reduceEqDiff, Nat.reduceAdd, Nat.reduceMul, Nat.reduceSub, reduceCtorEq, Int.reduceLT, Int.reduceLE, Int.reduceEq, Int.reduceToNat, decide_true, decide_false, Int.reduceNeg, Int.cast_ofNat_Int, sg, AO.sg, Option.isNone_none, hresA, bad c ⟨i, hlt, hcc⟩ (by simp [digB]; omega)]
                  try simp
                · have w1 : IntKind.i64.wrap (10 * valD ((b :: l).take i)) = 10 * valD ((b :: l).take i) := by rw [wrap_i64_id] <;> omega
                  have w2 : IntKind.u8.wrap (c - 48) = c - 48 := by rw [IntKind.wrap_u8]; omega
                  have w3 : IntKind.i64.wrap (c - 48) = c - 48 := by rw [wrap_i64_id] <;> omega
                  have w4 : IntKind.i64.wrap (10 * valD ((b :: l).take i) + (c - 48)) = valD ((b :: l).take (i + 1)) := by rw [hsucc, wrap_i64_id] <;> omega
                  simp only [go_sem, ↓reduceIte, Nat.reduceLT, Nat.reduceLeDiff, Nat.reduceEqDiff, Nat.reduceAdd, Nat.reduceMul, Nat.reduceSub, reduceCtorEq, Int.reduceLT, Int.reduceLE, Int.reduceEq, Int.reduceToNat, decide_true, decide_false, Int.reduceNeg, Int.cast_ofNat_Int, sg, AO.sg, Option.isNone_none, Int.toNat_natCast, hi1, hi0, hcc, hd1, hd2, w1, w2, w3, w4, hw]
                  refine ih (i + 1) _ ⟨hle, by omega, by omega, fun j hj => ?_⟩ (by omega) (Wk.forget (by simp [Le, LeE, LeH, get, envIds, hpIds, KeepH, D.ids]))
                  rcases Nat.lt_succ_iff_lt_or_eq.1 hj with hj | rfl
                  · exact he j hj
                  · rw [hcc]; simp [digB]; omega
            · simp only [go_sem, ↓reduceIte, Nat.reduceLT, Nat.reduceLeDiff, Nat.reduceEqDiff, Nat.reduceAdd, Nat.reduceMul, Nat.reduceSub, reduceCtorEq, Int.reduceLT, Int.reduceLE, Int.reduceEq, Int.reduceToNat, decide_true, decide_false, Int.reduceNeg, Int.cast_ofNat_Int, sg, AO.sg, Option.isNone_none]
              have hi2 : i = (b :: l).length := by simp at h2 ⊢; omega
              have hall : digsB (b :: l) = true := by
                refine List.all_eq_true.2 fun x hx => ?_
                obtain ⟨j, hj, rfl⟩ := List.mem_iff_getElem.1 hx
                have := he j (by omega)
                simpa only [List.getD, List.getElem?_eq_getElem hj, Option.getD_some] using this
              have hp : (10 : Int) ^ i ≤ 10000 := p10 i (by omega)
              rw [hi2, List.take_length] at hv0 hv1
              rw [hi2, List.take_length]
              have w5 : IntKind.i64.wrap (0 - valD (b :: l)) = 0 - valD (b :: l) := by rw [← hi2] at hv1; rw [wrap_i64_id] <;> omega
              try simp only [go_sem, ↓reduceIte, Nat.reduceLT, Nat.reduceLeDiff, Nat.reduceEqDiff, Nat.reduceAdd, Nat.reduceMul, Nat.reduceSub, reduceCtorEq, Int.reduceLT, Int.reduceLE, Int.reduceEq, Int.reduceToNat, decide_true, decide_false, Int.reduceNeg, Int.cast_ofNat_Int, sg, AO.sg, Option.isNone_none, w5]
              refine end_own ?_
              simp only [go_sem, ↓reduceIte, Nat.reduceLT, Nat.reduceLeDiff, Nat.reduceEqDiff, Nat.reduceAdd, Nat.reduceMul, Nat.reduceSub, reduceCtorEq, Int.reduceLT, Int.reduceLE, Int.reduceEq, Int.reduceToNat, decide_true, decide_false, Int.reduceNeg, Int.cast_ofNat_Int, sg, AO.sg, Option.isNone_none, hres, hall]
              try simp

  · have hk : numV (c :: r) = numOf false (c :: r) := by
      have : hasP (c :: r) [45] = false := by
        simp [hasP]
        intro h; subst h; exact hc rfl
      simp [numV, this]
    rw [hk]
    simp only [go_sem, ↓reduceIte, Nat.reduceLT, Nat.reduceLeDiff, Nat.reduceEqDiff, Nat.reduceAdd, Nat.reduceMul, Nat.reduceSub, reduceCtorEq, Int.reduceLT, Int.reduceLE, Int.reduceEq, Int.reduceToNat, decide_true, decide_false, Int.reduceNeg, Int.cast_ofNat_Int, sg, AO.sg, Option.isNone_none, hc, List.getD_cons_zero]
    refine ⟨by omega, ?_⟩
    try simp only [go_sem, ↓reduceIte, Nat.reduceLT, Nat.reduceLeDiff, Nat.reduceEqDiff, Nat.reduceAdd, Nat.reduceMul, Nat.reduceSub, reduceCtorEq, Int.reduceLT, Int.reduceLE, Int.reduceEq, Int.reduceToNat, decide_true, decide_false, Int.reduceNeg, Int.cast_ofNat_Int, sg, AO.sg, Option.isNone_none, hc, List.getD_cons_zero]
    revert hc hk
    generalize c = b
    generalize r = l
    intro hc hk
    by_cases hL : (4 : Int) < ((l.length + 1 : Nat) : Int)
    · simp only [go_sem, ↓reduceIte, Nat.reduceLT, Nat.reduceLeDiff, Nat.reduceEqDiff, Nat.reduceAdd, Nat.reduceMul, Nat.reduceSub, reduceCtorEq, Int.reduceLT, Int.reduceLE, Int.reduceEq, Int.reduceToNat, decide_true, decide_false, Int.reduceNeg, Int.cast_ofNat_Int, sg, AO.sg, Option.isNone_none, hL]
      refine end_own ?_
      simp only [go_sem, ↓reduceIte, Nat.reduceLT, Nat.reduceLeDiff, Nat.reduceEqDiff, Nat.reduceAdd, Nat.reduceMul, Nat.reduceSub, reduceCtorEq, Int.reduceLT, Int.reduceLE, Int.reduceEq, Int.reduceToNat, decide_true, decide_false, Int.reduceNeg, Int.cast_ofNat_Int, sg, AO.sg, Option.isNone_none]
      have : 4 < l.length + 1 := by omega
      try simp [numOf, this]
    · have hL' : ¬ 4 < l.length + 1 := by omega
      have hlen : (b :: l).length ≤ 4 := by simp only [List.length_cons]; omega
      have bad : ∀ c : Int, (∃ i, i < (b :: l).length ∧ (((b :: l).getD i 0).toNat : Int) = c) → digB c = false → digsB (b :: l) = false := by
        rintro c ⟨i, hi, hc⟩ hf
        rw [Bool.eq_false_iff]
        intro ht
        have := List.all_eq_true.1 ht ((b :: l).getD i 0) (by simp only [List.getD, List.getElem?_eq_getElem hi, Option.getD_some]; exact List.getElem_mem hi)
        simp only [hc, hf] at this
        cases this
      by_cases h1 : (1 : Int) < ((l.length + 1 : Nat) : Int) <;> by_cases h48 : (b.toNat : Int) = 48
      · have hres : numOf false (b :: l) = (0, false) := by
          have : 1 < l.length + 1 := by omega
          simp only [numOf, h48, this, and_self, or_true, if_true]
        simp only [go_sem, ↓reduceIte, Nat.reduceLT, Nat.reduceLeDiff, Nat.reduceEqDiff, Nat.reduceAdd, Nat.reduceMul, Nat.reduceSub, reduceCtorEq, Int.reduceLT, Int.reduceLE, Int.reduceEq, Int.reduceToNat, decide_true, decide_false, Int.reduceNeg, Int.cast_ofNat_Int, sg, AO.sg, Option.isNone_none, hL, List.getD_cons_zero, h48, h1]
        refine ⟨by omega, end_own ?_⟩
        simp only [go_sem, ↓reduceIte, Nat.reduceLT, Nat.reduceLeDiff, Nat.reduceEqDiff, Nat.reduceAdd, Nat.reduceMul, Nat.reduceSub, reduceCtorEq, Int.reduceLT, Int.reduceLE, Int.reduceEq, Int.reduceToNat, decide_true, decide_false, Int.reduceNeg, Int.cast_ofNat_Int, sg, AO.sg, Option.isNone_none, hres]
      all_goals
        have hres : numOf false (b :: l) = if digsB (b :: l) then (if false then 0 - valD (b :: l) else valD (b :: l), true) else (0, false) := by
          have : ¬ ((b.toNat : Int) = 48 ∧ (false = true ∨ 1 < l.length + 1)) := by
            rintro ⟨h, h2 | h2⟩
            · cases h2
            · first | exact h48 h | omega
          simp only [numOf, hL', this, or_self, if_false]
        · have hresA := hres
          simp only [go_sem, ↓reduceIte, Nat.reduceLT, Nat.reduceLeDiff, Nat.reduceEqDiff, Nat.reduceAdd, Nat.reduceMul, Nat.reduceSub, reduceCtorEq, Int.reduceLT, Int.reduceLE, Int.reduceEq, Int.reduceToNat, decide_true, decide_false, Int.reduceNeg, Int.cast_ofNat_Int, sg, AO.sg, Option.isNone_none, hL, List.getD_cons_zero, h48, h1]
          refine ⟨by omega, ?_⟩
          try simp only [go_sem, ↓reduceIte, Nat.reduceLT, Nat.reduceLeDiff, Nat.reduceEqDiff, Nat.reduceAdd, Nat.reduceMul, Nat.reduceSub, reduceCtorEq, Int.reduceLT, Int.reduceLE, Int.reduceEq, Int.reduceToNat, decide_true, decide_false, Int.reduceNeg, Int.cast_ofNat_Int, sg, AO.sg, Option.isNone_none]
          refine X_loop_inv (fun i => ⟨[(0, .p (.str (b :: l))), (6, .p (.int .i64 (i : Nat))), (5, .p (.int .i64 (valD ((b :: l).take i)))), (4, .p (.bool false))], [], 65⟩) (fun i => i ≤ l.length + 1 ∧ 0 ≤ valD ((b :: l).take i) ∧ valD ((b :: l).take i) < 10 ^ i ∧ ∀ j, j < i → digB ((b :: l).getD j 0).toNat = true) (fun i => l.length + 1 - i) 0 ⟨Nat.zero_le _, by simp [valD], by simp [valD], by simp⟩
            (Wk.forget (by first | (simp [Le, LeE, LeH, get, envIds, hpIds, KeepH, D.ids, valD]; done) | simp [Le, LeE, LeH, get, envIds, hpIds, KeepH, D.ids, valD, hng])) ?_
          rintro i n ⟨hi, hv0, hv1, he⟩ ih
          simp only [go_sem, ↓reduceIte, Nat.reduceLT, Nat.reduceLeDiff, Nat.reduceEqDiff, Nat.reduceAdd, Nat.reduceMul, Nat.reduceSub, reduceCtorEq, Int.reduceLT, Int.reduceLE, Int.reduceEq, Int.reduceToNat, decide_true, decide_false, Int.reduceNeg, Int.cast_ofNat_Int, sg, AO.sg, Option.isNone_none]
          refine Cn_split (fun h2 => ?_) (fun h2 => ?_)
          · have hlt : i < (b :: l).length := by simp at h2 ⊢; omega
            simp only [go_sem, ↓reduceIte, Nat.reduceLT, Nat.reduceLeDiff, Nat.reduceEqDiff, Nat.reduceAdd, Nat.reduceMul, Nat.reduceSub, reduceCtorEq, Int.reduceLT, Int.reduceLE, Int.reduceEq, Int.reduceToNat, decide_true, decide_false, Int.reduceNeg, Int.cast_ofNat_Int, sg, AO.sg, Option.isNone_none]
            have hw := wrap_succ i (by omega)
            have hsucc := valD_succ (b :: l) i hlt
            generalize hcc : (((b :: l).getD i 0).toNat : Int) = c at hsucc
            have hle : i + 1 ≤ l.length + 1 := by simp only [List.length_cons] at hlt; omega
            have hp : (10 : Int) ^ i ≤ 10000 := p10 i (by omega)
            have hp2 : (10 : Int) ^ (i + 1) = 10 * 10 ^ i := by rw [Int.pow_succ]; omega
            have hi1 : (i : Int) < ((l.length + 1 : Nat) : Int) := by simp only [List.length_cons] at hlt; omega
            have hi0 : (0 : Int) ≤ (i : Int) := by omega
            by_cases hd1 : c < 48
            · simp only [go_sem, ↓reduceIte, Nat.reduceLT, Nat.reduceLeDiff, Nat.reduceEqDiff, Nat.reduceAdd, Nat.reduceMul, Nat.reduceSub, reduceCtorEq, Int.reduceLT, Int.reduceLE, Int.reduceEq, Int.reduceToNat, decide_true, decide_false, Int.reduceNeg, Int.cast_ofNat_Int, sg, AO.sg, Option.isNone_none, Int.toNat_natCast, hi1, hi0, hcc, hd1]
              refine end_own ?_
              simp only [go_sem, ↓reduceIte, Nat.reduceLT, Nat.reduceLeDiff, Nat.reduceEqDiff, Nat.reduceAdd, Nat.reduceMul, Nat.reduceSub, reduceCtorEq, Int.reduceLT, Int.reduceLE, Int.reduceEq, Int.reduceToNat, decide_true, decide_false, Int.reduceNeg, Int.cast_ofNat_Int, sg, AO.sg, Option.isNone_none, hresA, bad c ⟨i, hlt, hcc⟩ (by simp [digB]; omega)]
              try simp
            · by_cases hd2 : 57 < c
              · simp only [go_sem, ↓reduceIte, Nat.reduceLT, Nat.reduceLeDiff, Nat.reduceEqDiff, Nat.reduceAdd, Nat.reduceMul, Nat.reduceSub, reduceCtorEq, Int.reduceLT, Int.reduceLE, Int.reduceEq, Int.reduceToNat, decide_true, decide_false, Int.reduceNeg, Int.cast_ofNat_Int, sg, AO.sg, Option.isNone_none, Int.toNat_natCast, hi1, hi0, hcc, hd1, hd2]
                refine end_own ?_
                simp only [go_sem, ↓reduceIte, Nat.reduceLT, Nat.reduceLeDiff, Nat.reduceEqDiff, Nat.reduceAdd, Nat.reduceMul, Nat.reduceSub, reduceCtorEq, Int.reduceLT, Int.reduceLE, Int.reduceEq, Int.reduceToNat, decide_true, decide_false, Int.reduceNeg, Int.cast_ofNat_Int, sg, AO.sg, Option.isNone_none, hresA, bad c ⟨i, hlt, hcc⟩ (by simp [digB]; omega)]
                try simp
              · have w1 : IntKind.i64.wrap (10 * valD ((b :: l).take i)) = 10 * valD ((b :: l).take i) := by rw [wrap_i64_id] <;> omega
                have w2 : IntKind.u8.wrap (c - 48) = c - 48 := by rw [IntKind.wrap_u8]; omega
                have w3 : IntKind.i64.wrap (c - 48) = c - 48 := by rw [wrap_i64_id] <;> omega
                have w4 : IntKind.i64.wrap (10 * valD ((b :: l).take i) + (c - 48)) = valD ((b :: l).take (i + 1)) := by rw [hsucc, wrap_i64_id] <;> omega
                simp only [go_sem, ↓reduceIte, Nat.reduceLT, Nat.reduceLeDiff, Nat.reduceEqDiff, Nat.reduceAdd, Nat.reduceMul, Nat.reduceSub, reduceCtorEq, Int.reduceLT, Int.reduceLE, Int.reduceEq, Int.reduceToNat, decide_true, decide_false, Int.reduceNeg, Int.cast_ofNat_Int, sg, AO.sg, Option.isNone_none, Int.toNat_natCast, hi1, hi0, hcc, hd1, hd2, w1, w2, w3, w4, hw]
                refine ih (i + 1) _ ⟨hle, by omega, by omega, fun j hj => ?_⟩ (by omega) (Wk.forget (by simp [Le, LeE, LeH, get, envIds, hpIds, KeepH, D.ids]))
                rcases Nat.lt_succ_iff_lt_or_eq.1 hj with hj | rfl
                · exact he j hj
                · rw [hcc]; simp [digB]; omega
          · simp only [go_sem, ↓reduceIte, Nat.reduceLT, Nat.reduceLeDiff, Nat.reduceEqDiff, Nat.reduceAdd, Nat.reduceMul, Nat.reduceSub, reduceCtorEq, Int.reduceLT, Int.reduceLE, Int.reduceEq, Int.reduceToNat, decide_true, decide_false, Int.reduceNeg, Int.cast_ofNat_Int, sg, AO.sg, Option.isNone_none]
            have hi2 : i = (b :: l).length := by simp at h2 ⊢; omega
            have hall : digsB (b :: l) = true := by
              refine List.all_eq_true.2 fun x hx => ?_
              obtain ⟨j, hj, rfl⟩ := List.mem_iff_getElem.1 hx
              have := he j (by omega)
              simpa only [List.getD, List.getElem?_eq_getElem hj, Option.getD_some] using this
            have hp : (10 : Int) ^ i ≤ 10000 := p10 i (by omega)
            rw [hi2, List.take_length] at hv0 hv1
            rw [hi2, List.take_length]
            have w5 : IntKind.i64.wrap (0 - valD (b :: l)) = 0 - valD (b :: l) := by rw [← hi2] at hv1; rw [wrap_i64_id] <;> omega
            try simp only [go_sem, ↓reduceIte, Nat.reduceLT, Nat.reduceLeDiff, Nat.reduceEqDiff, Nat.reduceAdd, Nat.reduceMul, Nat.reduceSub, reduceCtorEq, Int.reduceLT, Int.reduceLE, Int.reduceEq, Int.reduceToNat, decide_true, decide_false, Int.reduceNeg, Int.cast_ofNat_Int, sg, AO.sg, Option.isNone_none]
            refine end_own ?_
            simp only [go_sem, ↓reduceIte, Nat.reduceLT, Nat.reduceLeDiff, Nat.reduceEqDiff, Nat.reduceAdd, Nat.reduceMul, Nat.reduceSub, reduceCtorEq, Int.reduceLT, Int.reduceLE, Int.reduceEq, Int.reduceToNat, decide_true, decide_false, Int.reduceNeg, Int.cast_ofNat_Int, sg, AO.sg, Option.isNone_none, hres, hall]
            try simp
end Go.Am
end
