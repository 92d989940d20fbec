/- The generators' tape, and the comparisons of the statements' own package. -/
import Derived.Test.YtefdjkakojfhnaaDoorBase
namespace Go.Am
open Go Go.Proofs
set_option maxRecDepth 100000
set_option linter.unusedVariables false
set_option linter.unusedSimpArgs false

def encI (l : List Int) : List (List Pd) := l.map fun n => [.int .i64 n]
def encS (l : List (List UInt8)) : List (List Pd) := l.map fun s => [.str s]
theorem encI_len (l : List Int) : (encI l).length = l.length := by simp [encI]
theorem encI_get (l : List Int) (i : Nat) (h : i < l.length) : (encI l).getD i [] = [.int .i64 (l.getD i 0)] := by simp [encI, List.getD, h]
theorem encS_len (l : List (List UInt8)) : (encS l).length = l.length := by simp [encS]
theorem encS_get (l : List (List UInt8)) (i : Nat) (h : i < l.length) : (encS l).getD i [] = [.str (l.getD i [])] := by simp [encS, List.getD, h]
theorem encI_snoc (l : List Int) (x : Int) : encI (l ++ [x]) = encI l ++ [[.int .i64 x]] := by simp [encI]
theorem encS_snoc (l : List (List UInt8)) (x : List UInt8) : encS (l ++ [x]) = encS l ++ [[.str x]] := by simp [encS]
theorem encI_take (l : List Int) (n : Nat) (h : l.length ≤ n) : (encI l).take n = encI l := List.take_of_length_le (by simpa [encI] using h)
theorem encS_take (l : List (List UInt8)) (n : Nat) (h : l.length ≤ n) : (encS l).take n = encS l := List.take_of_length_le (by simpa [encS] using h)
theorem wid1 (n : Nat) (x : List Pd) (h : x.length = n) : Wid n [x] := by simp [Wid, h]
theorem encS_set (l : List (List UInt8)) (i : Nat) (x : List UInt8) : encS (l.set i x) = (encS l).set i [.str x] := by simp [encS, List.map_set]
theorem encI_set (l : List Int) (i : Nat) (x : Int) : encI (l.set i x) = (encI l).set i [.int .i64 x] := by simp [encI, List.map_set]
theorem getD_mem {α : Type} (l : List α) (i : Nat) (x : α) (h : i < l.length) : l.getD i x ∈ l := by simp only [List.getD, List.getElem?_eq_getElem h, Option.getD_some]; exact List.getElem_mem h
theorem drop_getD {α : Type} (l : List α) (i : Nat) (x : α) (h : i < l.length) : l.drop i = l.getD i x :: l.drop (i + 1) := by rw [List.drop_eq_getElem_cons h]; simp [List.getD, h]
def In64 (x : Int) : Prop := -9223372036854775808 ≤ x ∧ x ≤ 9223372036854775807
theorem wrap_succ (i : Nat) (h : i < 9223372036854775807) : IntKind.i64.wrap ((i : Int) + 1) = ((i + 1 : Nat) : Int) := by rw [wrap_i64_id] <;> omega

def cut (v n : Int) : Int := if n ≤ 1 then 0 else if v.tmod n < 0 then v.tmod n + n else v.tmod n
theorem cut_lt (v n : Int) : 0 ≤ cut v n ∧ (cut v n < n ∨ cut v n = 0) := by
  unfold cut
  split
  · omega
  · have h1 := Int.tmod_lt_of_pos v (show 0 < n by omega)
    have h2 := Int.lt_tmod_of_pos v (show 0 < n by omega)
    split <;> omega
theorem cut_ok (v n : Int) (hn : In64 n) : ACalls Tryd.prog 39 [.p (.int .i64 v), .p (.int .i64 n)] [] fun h r => h = [] ∧ r = .p (.int .i64 (cut v n)) := by
  unfold In64 at hn
  refine ACalls_X Tryd.func39 rfl enters39 (by simp [Tryd.f39]) ?_
  simp only [go_sem, ↓reduceIte, Nat.reduceLT, Nat.reduceLeDiff, Nat.reduceEqDiff, Nat.reduceAdd, Nat.reduceMul, Nat.reduceSub, reduceCtorEq, Int.reduceLT, Int.reduceLE, Int.reduceEq, Int.reduceToNat, decide_true, decide_false, Int.reduceNeg, Int.cast_ofNat_Int, sg, AO.sg, Option.isNone_none]
  refine Cn_split (fun h1 => ?_) (fun h1 => ?_)
  · simp only [go_sem, ↓reduceIte, Nat.reduceLT, Nat.reduceLeDiff, Nat.reduceEqDiff, Nat.reduceAdd, Nat.reduceMul, Nat.reduceSub, reduceCtorEq, Int.reduceLT, Int.reduceLE, Int.reduceEq, Int.reduceToNat, decide_true, decide_false, Int.reduceNeg, Int.cast_ofNat_Int, sg, AO.sg, Option.isNone_none]
    simp at h1
    simp [cut, h1]
  · simp only [go_sem, ↓reduceIte, Nat.reduceLT, Nat.reduceLeDiff, Nat.reduceEqDiff, Nat.reduceAdd, Nat.reduceMul, Nat.reduceSub, reduceCtorEq, Int.reduceLT, Int.reduceLE, Int.reduceEq, Int.reduceToNat, decide_true, decide_false, Int.reduceNeg, Int.cast_ofNat_Int, sg, AO.sg, Option.isNone_none]
    simp at h1
    refine ⟨by omega, ?_⟩
    refine Cn_split (fun h2 => ?_) (fun h2 => ?_)
    · simp at h2
      have h3 : IntKind.i64.wrap (v.tmod n + n) = v.tmod n + n := by
        have h4 := Int.tmod_lt_of_pos v (show 0 < n by omega)
        have h5 := Int.lt_tmod_of_pos v (show 0 < n by omega)
        rw [wrap_i64_id] <;> omega
      simp only [go_sem, ↓reduceIte, Nat.reduceLT, Nat.reduceLeDiff, Nat.reduceEqDiff, Nat.reduceAdd, Nat.reduceMul, Nat.reduceSub, reduceCtorEq, Int.reduceLT, Int.reduceLE, Int.reduceEq, Int.reduceToNat, decide_true, decide_false, Int.reduceNeg, Int.cast_ofNat_Int, sg, AO.sg, Option.isNone_none, h3]
      simp only [cut, h2, if_true, true_and]
      rw [if_neg (by omega)]
    · simp only [go_sem, ↓reduceIte, Nat.reduceLT, Nat.reduceLeDiff, Nat.reduceEqDiff, Nat.reduceAdd, Nat.reduceMul, Nat.reduceSub, reduceCtorEq, Int.reduceLT, Int.reduceLE, Int.reduceEq, Int.reduceToNat, decide_true, decide_false, Int.reduceNeg, Int.cast_ofNat_Int, sg, AO.sg, Option.isNone_none]
      simp at h2
      simp only [cut, true_and]
      rw [if_neg (by omega), if_neg (by omega)]

/-- What a tape gives. -/
def nextV (l : List Int) (at_ : Nat) (n : Int) : Int := cut (if at_ < l.length then l.getD at_ 0 else ((at_ : Int) * 7).tmod 11) n
theorem nextV_lt (l : List Int) (at_ : Nat) (n : Int) : 0 ≤ nextV l at_ n ∧ (nextV l at_ n < n ∨ nextV l at_ n = 0) := cut_lt _ _
theorem nextV_rng (l : List Int) (at_ : Nat) (n : Int) (hn : 0 < n) : ∃ k : Nat, nextV l at_ n = (k : Int) ∧ (k : Int) < n := by
  have h := nextV_lt l at_ n
  exact ⟨(nextV l at_ n).toNat, by omega, by omega⟩
theorem in64_small (n : Int) (h0 : 0 ≤ n) (h1 : n ≤ 1000000) : In64 n := by unfold In64; omega
theorem encB_len (l : List UInt8) : (encB l).length = l.length := by simp [encB]
theorem encB_get (l : List UInt8) (i : Nat) (h : i < l.length) : (encB l).getD i [] = [.int .u8 (l.getD i 0).toNat] := by simp [encB, List.getD, h]
theorem encB_snoc (l : List UInt8) (b : UInt8) : encB (l ++ [b]) = encB l ++ [[.int .u8 b.toNat]] := by simp [encB]
def tapeC (l : List Int) (at_ : Nat) : List D := [.p (.sl (encI l)), .p (.int .i64 (at_ : Nat))]
theorem next_ok (l : List Int) (at_ : Nat) (n : Int) (hat : at_ < 1000000000000) (hn : In64 n) :
    ACalls Tryd.prog 16 [.ptr 1000000 0, .p (.int .i64 n)] [(1000000, .box (tapeC l at_))] fun h r => h = [(1000000, .box (tapeC l (at_ + 1)))] ∧ r = .p (.int .i64 (nextV l at_ n)) := by
  refine ACalls_X Tryd.func16 rfl enters16 (by simp [Tryd.f16]) ?_
  have h7 : IntKind.i64.wrap ((at_ : Int) * 7) = (at_ : Int) * 7 := by rw [wrap_i64_id] <;> omega
  have h8 : IntKind.i64.wrap ((at_ : Int) + 1) = ((at_ + 1 : Nat) : Int) := by rw [wrap_i64_id] <;> omega
  unfold tapeC
  simp only [go_sem, ↓reduceIte, Nat.reduceLT, Nat.reduceLeDiff, Nat.reduceEqDiff, Nat.reduceAdd, Nat.reduceMul, Nat.reduceSub, reduceCtorEq, Int.reduceLT, Int.reduceLE, Int.reduceEq, Int.reduceToNat, decide_true, decide_false, Int.reduceNeg, Int.cast_ofNat_Int, sg, AO.sg, Option.isNone_none, h7]
  refine X_any [(1000000, .box [.p (.sl (encI l)), .p (.int .i64 (at_ : Nat))])] mixed (p := [(0, 0), (1, 0), (2, 0), (3, 0), (4, 0), (5, 0), (6, 0), (7, 0), (8, 0), (9, 0)]) (by kernel_rfl) (by simp [LeH, get]) ?_
  simp only [go_sem, ↓reduceIte, Nat.reduceLT, Nat.reduceLeDiff, Nat.reduceEqDiff, Nat.reduceAdd, Nat.reduceMul, Nat.reduceSub, reduceCtorEq, Int.reduceLT, Int.reduceLE, Int.reduceEq, Int.reduceToNat, decide_true, decide_false, Int.reduceNeg, Int.cast_ofNat_Int, sg, AO.sg, Option.isNone_none, h7, encI_len]
  refine Cn_split (fun h1 => ?_) (fun h1 => ?_)
  · have hlt : at_ < l.length := by simp at h1; omega
    refine X_any [(1000000, .box [.p (.sl (encI l)), .p (.int .i64 (at_ : Nat))])] mixed (p := [(0, 0), (1, 0), (2, 0), (3, 0), (4, 0), (5, 0), (6, 0), (7, 0), (8, 0), (9, 0), (10, 0)]) (by kernel_rfl) (by simp [LeH, get]) ?_
    simp only [go_sem, ↓reduceIte, Nat.reduceLT, Nat.reduceLeDiff, Nat.reduceEqDiff, Nat.reduceAdd, Nat.reduceMul, Nat.reduceSub, reduceCtorEq, Int.reduceLT, Int.reduceLE, Int.reduceEq, Int.reduceToNat, decide_true, decide_false, Int.reduceNeg, Int.cast_ofNat_Int, sg, AO.sg, Option.isNone_none, h8, encI_len, Int.toNat_natCast, encI_get l at_ hlt]
    refine ⟨by omega, Cc_of (cut_ok _ _ hn) ?_⟩
    rintro h' r ⟨rfl, rfl⟩
    simp only [go_sem, ↓reduceIte, Nat.reduceLT, Nat.reduceLeDiff, Nat.reduceEqDiff, Nat.reduceAdd, Nat.reduceMul, Nat.reduceSub, reduceCtorEq, Int.reduceLT, Int.reduceLE, Int.reduceEq, Int.reduceToNat, decide_true, decide_false, Int.reduceNeg, Int.cast_ofNat_Int, sg, AO.sg, Option.isNone_none, h8]
    simp [nextV, hlt]
  · simp only [go_sem, ↓reduceIte, Nat.reduceLT, Nat.reduceLeDiff, Nat.reduceEqDiff, Nat.reduceAdd, Nat.reduceMul, Nat.reduceSub, reduceCtorEq, Int.reduceLT, Int.reduceLE, Int.reduceEq, Int.reduceToNat, decide_true, decide_false, Int.reduceNeg, Int.cast_ofNat_Int, sg, AO.sg, Option.isNone_none, h8]
    refine Cc_of (cut_ok _ _ hn) ?_
    rintro h' r ⟨rfl, rfl⟩
    simp only [go_sem, ↓reduceIte, Nat.reduceLT, Nat.reduceLeDiff, Nat.reduceEqDiff, Nat.reduceAdd, Nat.reduceMul, Nat.reduceSub, reduceCtorEq, Int.reduceLT, Int.reduceLE, Int.reduceEq, Int.reduceToNat, decide_true, decide_false, Int.reduceNeg, Int.cast_ofNat_Int, sg, AO.sg, Option.isNone_none, h8]
    have : ¬ at_ < l.length := by simp at h1; omega
    simp [nextV, this]

theorem sameInts_ok (a b : List Int) (ha : a.length ≤ 140737488355328) : ACalls Tryd.prog 56 [.p (.sl (encI a)), .p (.sl (encI b))] [] fun h r => h = [] ∧ r = .p (.bool (decide (a = b))) := by
  refine ACalls_X Tryd.func56 rfl enters56 (by simp [Tryd.f56]) ?_
  simp only [go_sem, ↓reduceIte, Nat.reduceLT, Nat.reduceLeDiff, Nat.reduceEqDiff, Nat.reduceAdd, Nat.reduceMul, Nat.reduceSub, reduceCtorEq, Int.reduceLT, Int.reduceLE, Int.reduceEq, Int.reduceToNat, decide_true, decide_false, Int.reduceNeg, Int.cast_ofNat_Int, sg, AO.sg, Option.isNone_none, encI_len]
  refine Cn_split (fun h1 => ?_) (fun h1 => ?_)
  · simp only [go_sem, ↓reduceIte, Nat.reduceLT, Nat.reduceLeDiff, Nat.reduceEqDiff, Nat.reduceAdd, Nat.reduceMul, Nat.reduceSub, reduceCtorEq, Int.reduceLT, Int.reduceLE, Int.reduceEq, Int.reduceToNat, decide_true, decide_false, Int.reduceNeg, Int.cast_ofNat_Int, sg, AO.sg, Option.isNone_none, encI_len]
    simp at h1
    have : a ≠ b := fun e => h1 (by rw [e])
    simp [this]
  · have hl : a.length = b.length := by simp at h1; omega
    simp only [go_sem, ↓reduceIte, Nat.reduceLT, Nat.reduceLeDiff, Nat.reduceEqDiff, Nat.reduceAdd, Nat.reduceMul, Nat.reduceSub, reduceCtorEq, Int.reduceLT, Int.reduceLE, Int.reduceEq, Int.reduceToNat, decide_true, decide_false, Int.reduceNeg, Int.cast_ofNat_Int, sg, AO.sg, Option.isNone_none, encI_len]
    refine X_loop_inv (fun i => ⟨[(0, .p (.sl (encI a))), (1, .p (.sl (encI b))), (5, .p (.int .i64 (i : Nat)))], [], 26⟩) (fun i => i ≤ a.length ∧ a.take i = b.take i) (fun i => a.length - i) 0 ⟨Nat.zero_le _, by simp⟩
      (Wk.forget (by simp [Le, LeE, LeH, get, envIds, hpIds, KeepH, D.ids])) ?_
    rintro i n ⟨hi, he⟩ ih
    simp only [go_sem, ↓reduceIte, Nat.reduceLT, Nat.reduceLeDiff, Nat.reduceEqDiff, Nat.reduceAdd, Nat.reduceMul, Nat.reduceSub, reduceCtorEq, Int.reduceLT, Int.reduceLE, Int.reduceEq, Int.reduceToNat, decide_true, decide_false, Int.reduceNeg, Int.cast_ofNat_Int, sg, AO.sg, Option.isNone_none, encI_len]
    refine Cn_split (fun h2 => ?_) (fun h2 => ?_)
    · have hlt : i < a.length := by simp at h2; omega
      have hlt' : i < b.length := by omega
      simp only [go_sem, ↓reduceIte, Nat.reduceLT, Nat.reduceLeDiff, Nat.reduceEqDiff, Nat.reduceAdd, Nat.reduceMul, Nat.reduceSub, reduceCtorEq, Int.reduceLT, Int.reduceLE, Int.reduceEq, Int.reduceToNat, decide_true, decide_false, Int.reduceNeg, Int.cast_ofNat_Int, sg, AO.sg, Option.isNone_none, encI_len]
      refine X_any [] mixed (p := [(0, 0), (1, 0), (2, 0), (3, 0), (4, 0), (5, 0), (6, 0), (7, 0), (8, 0)]) (by kernel_rfl) trivial ?_
      simp only [go_sem, ↓reduceIte, Nat.reduceLT, Nat.reduceLeDiff, Nat.reduceEqDiff, Nat.reduceAdd, Nat.reduceMul, Nat.reduceSub, reduceCtorEq, Int.reduceLT, Int.reduceLE, Int.reduceEq, Int.reduceToNat, decide_true, decide_false, Int.reduceNeg, Int.cast_ofNat_Int, sg, AO.sg, Option.isNone_none, encI_len, Int.toNat_natCast, encI_get a i hlt, encI_get b i hlt']
      refine ⟨by omega, by omega, ?_⟩
      refine Cn_split (fun h3 => ?_) (fun h3 => ?_)
      · simp only [go_sem, ↓reduceIte, Nat.reduceLT, Nat.reduceLeDiff, Nat.reduceEqDiff, Nat.reduceAdd, Nat.reduceMul, Nat.reduceSub, reduceCtorEq, Int.reduceLT, Int.reduceLE, Int.reduceEq, Int.reduceToNat, decide_true, decide_false, Int.reduceNeg, Int.cast_ofNat_Int, sg, AO.sg, Option.isNone_none, encI_len]
        have : a ≠ b := fun e => by subst e; simp at h3
        simp [this]
      · simp only [go_sem, ↓reduceIte, Nat.reduceLT, Nat.reduceLeDiff, Nat.reduceEqDiff, Nat.reduceAdd, Nat.reduceMul, Nat.reduceSub, reduceCtorEq, Int.reduceLT, Int.reduceLE, Int.reduceEq, Int.reduceToNat, decide_true, decide_false, Int.reduceNeg, Int.cast_ofNat_Int, sg, AO.sg, Option.isNone_none, encI_len, wrap_succ i (by omega)]
        refine ih (i + 1) _ ⟨hlt, ?_⟩ (by omega) (Wk.forget (by simp [Le, LeE, LeH, get, envIds, hpIds, KeepH, D.ids]))
        simp [List.getD, hlt, hlt'] at h3
        rw [List.take_succ_eq_append_getElem hlt, List.take_succ_eq_append_getElem hlt', he, h3]
    · simp only [go_sem, ↓reduceIte, Nat.reduceLT, Nat.reduceLeDiff, Nat.reduceEqDiff, Nat.reduceAdd, Nat.reduceMul, Nat.reduceSub, reduceCtorEq, Int.reduceLT, Int.reduceLE, Int.reduceEq, Int.reduceToNat, decide_true, decide_false, Int.reduceNeg, Int.cast_ofNat_Int, sg, AO.sg, Option.isNone_none, encI_len]
      have : i = a.length := by simp at h2; omega
      subst this
      rw [List.take_length, hl, List.take_length] at he
      simp [he]

theorem sameStrings_ok (a b : List (List UInt8)) (ha : a.length ≤ 140737488355328) : ACalls Tryd.prog 35 [.p (.sl (encS a)), .p (.sl (encS b))] [] fun h r => h = [] ∧ r = .p (.bool (decide (a = b))) := by
  refine ACalls_X Tryd.func35 rfl enters35 (by simp [Tryd.f35]) ?_
  simp only [go_sem, ↓reduceIte, Nat.reduceLT, Nat.reduceLeDiff, Nat.reduceEqDiff, Nat.reduceAdd, Nat.reduceMul, Nat.reduceSub, reduceCtorEq, Int.reduceLT, Int.reduceLE, Int.reduceEq, Int.reduceToNat, decide_true, decide_false, Int.reduceNeg, Int.cast_ofNat_Int, sg, AO.sg, Option.isNone_none, encS_len]
  refine Cn_split (fun h1 => ?_) (fun h1 => ?_)
  · simp only [go_sem, ↓reduceIte, Nat.reduceLT, Nat.reduceLeDiff, Nat.reduceEqDiff, Nat.reduceAdd, Nat.reduceMul, Nat.reduceSub, reduceCtorEq, Int.reduceLT, Int.reduceLE, Int.reduceEq, Int.reduceToNat, decide_true, decide_false, Int.reduceNeg, Int.cast_ofNat_Int, sg, AO.sg, Option.isNone_none, encS_len]
    simp at h1
    have : a ≠ b := fun e => h1 (by rw [e])
    simp [this]
  · have hl : a.length = b.length := by simp at h1; omega
    simp only [go_sem, ↓reduceIte, Nat.reduceLT, Nat.reduceLeDiff, Nat.reduceEqDiff, Nat.reduceAdd, Nat.reduceMul, Nat.reduceSub, reduceCtorEq, Int.reduceLT, Int.reduceLE, Int.reduceEq, Int.reduceToNat, decide_true, decide_false, Int.reduceNeg, Int.cast_ofNat_Int, sg, AO.sg, Option.isNone_none, encS_len]
    refine X_loop_inv (fun i => ⟨[(0, .p (.sl (encS a))), (1, .p (.sl (encS b))), (5, .p (.int .i64 (i : Nat)))], [], 26⟩) (fun i => i ≤ a.length ∧ a.take i = b.take i) (fun i => a.length - i) 0 ⟨Nat.zero_le _, by simp⟩
      (Wk.forget (by simp [Le, LeE, LeH, get, envIds, hpIds, KeepH, D.ids])) ?_
    rintro i n ⟨hi, he⟩ ih
    simp only [go_sem, ↓reduceIte, Nat.reduceLT, Nat.reduceLeDiff, Nat.reduceEqDiff, Nat.reduceAdd, Nat.reduceMul, Nat.reduceSub, reduceCtorEq, Int.reduceLT, Int.reduceLE, Int.reduceEq, Int.reduceToNat, decide_true, decide_false, Int.reduceNeg, Int.cast_ofNat_Int, sg, AO.sg, Option.isNone_none, encS_len]
    refine Cn_split (fun h2 => ?_) (fun h2 => ?_)
    · have hlt : i < a.length := by simp at h2; omega
      have hlt' : i < b.length := by omega
      simp only [go_sem, ↓reduceIte, Nat.reduceLT, Nat.reduceLeDiff, Nat.reduceEqDiff, Nat.reduceAdd, Nat.reduceMul, Nat.reduceSub, reduceCtorEq, Int.reduceLT, Int.reduceLE, Int.reduceEq, Int.reduceToNat, decide_true, decide_false, Int.reduceNeg, Int.cast_ofNat_Int, sg, AO.sg, Option.isNone_none, encS_len]
      refine X_any [] mixed (p := [(0, 0), (1, 0), (2, 0), (3, 0), (4, 0), (5, 0), (6, 0), (7, 0), (8, 0)]) (by kernel_rfl) trivial ?_
      simp only [go_sem, ↓reduceIte, Nat.reduceLT, Nat.reduceLeDiff, Nat.reduceEqDiff, Nat.reduceAdd, Nat.reduceMul, Nat.reduceSub, reduceCtorEq, Int.reduceLT, Int.reduceLE, Int.reduceEq, Int.reduceToNat, decide_true, decide_false, Int.reduceNeg, Int.cast_ofNat_Int, sg, AO.sg, Option.isNone_none, encS_len, Int.toNat_natCast, encS_get a i hlt, encS_get b i hlt']
      refine ⟨by omega, by omega, ?_⟩
      refine Cn_split (fun h3 => ?_) (fun h3 => ?_)
      · simp only [go_sem, ↓reduceIte, Nat.reduceLT, Nat.reduceLeDiff, Nat.reduceEqDiff, Nat.reduceAdd, Nat.reduceMul, Nat.reduceSub, reduceCtorEq, Int.reduceLT, Int.reduceLE, Int.reduceEq, Int.reduceToNat, decide_true, decide_false, Int.reduceNeg, Int.cast_ofNat_Int, sg, AO.sg, Option.isNone_none, encS_len]
        have : a ≠ b := fun e => by subst e; simp at h3
        simp [this]
      · simp only [go_sem, ↓reduceIte, Nat.reduceLT, Nat.reduceLeDiff, Nat.reduceEqDiff, Nat.reduceAdd, Nat.reduceMul, Nat.reduceSub, reduceCtorEq, Int.reduceLT, Int.reduceLE, Int.reduceEq, Int.reduceToNat, decide_true, decide_false, Int.reduceNeg, Int.cast_ofNat_Int, sg, AO.sg, Option.isNone_none, encS_len, wrap_succ i (by omega)]
        refine ih (i + 1) _ ⟨hlt, ?_⟩ (by omega) (Wk.forget (by simp [Le, LeE, LeH, get, envIds, hpIds, KeepH, D.ids]))
        simp [List.getD, hlt, hlt'] at h3
        rw [List.take_succ_eq_append_getElem hlt, List.take_succ_eq_append_getElem hlt', he, h3]
    · simp only [go_sem, ↓reduceIte, Nat.reduceLT, Nat.reduceLeDiff, Nat.reduceEqDiff, Nat.reduceAdd, Nat.reduceMul, Nat.reduceSub, reduceCtorEq, Int.reduceLT, Int.reduceLE, Int.reduceEq, Int.reduceToNat, decide_true, decide_false, Int.reduceNeg, Int.cast_ofNat_Int, sg, AO.sg, Option.isNone_none, encS_len]
      have : i = a.length := by simp at h2; omega
      subst this
      rw [List.take_length, hl, List.take_length] at he
      simp [he]
end Go.Am
