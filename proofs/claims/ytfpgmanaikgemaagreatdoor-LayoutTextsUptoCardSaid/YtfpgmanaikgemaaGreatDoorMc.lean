/- Texts of this proof, merged: Mkln, Laym, Digi, Digv, Itod, Layb, Itoc, Fmtl, Knol. -/
import Derived.Lib.ItoaNum
import Derived.Test.YtfpgmanaikgemaaGreatDoorMb
section
/- lines of the law: what it makes. -/
namespace Go.Am
open Go Go.Proofs
set_option maxRecDepth 100000
set_option linter.unusedVariables false
set_option linter.unusedSimpArgs false
def wordsL : List (List UInt8) := [[98, 108, 111, 99, 107], [108, 97, 110, 101], [115, 116, 97, 116, 105, 111, 110], [100, 101, 112, 111, 116], [114, 111, 98, 111, 116], [99, 111, 110, 102, 105, 103], [98, 108, 111, 99, 107, 115]]
def partsL : List (List UInt8) := [[97], [98, 49], [99, 45, 100], [49], [48], [45, 55], [57, 57, 57, 57], [49, 48, 48, 48, 48], [48, 49], [120, 33]]
def namesL : List Int := [1, 2, 3, 3, 1, 0, 1]
def numsL : List Int := [2, 0, 1, 1, 1, 4, 1]
def nmL (l : List Int) (nw : Int) : Nat → Nat → Nat → List (List UInt8) → Nat × List (List UInt8)
  | 0, at_, _, fs => (at_, fs)
  | f + 1, at_, i, fs => if (i : Int) < nw + (nextV l at_ 8).tdiv 7 then nmL l nw f (at_ + 1 + 1) (i + 1) (fs ++ [partsL.getD (nextV l (at_ + 1) 3).toNat []]) else (at_ + 1, fs)
def nuL (l : List Int) : Nat → Nat → List (List UInt8) → Nat × List (List UInt8)
  | 0, at_, fs => (at_, fs)
  | k + 1, at_, fs => nuL l k (at_ + 1) (fs ++ [partsL.getD (3 + nextV l at_ 4).toNat []])
def wV (l : List Int) (at_ : Nat) : Int := if 0 < nextV l (at_ + 1) 4 then nextV l (at_ + 1 + 1) 6 else nextV l at_ 7
def aV (l : List Int) (at_ : Nat) : Nat := if 0 < nextV l (at_ + 1) 4 then at_ + 1 + 1 + 1 else at_ + 1 + 1
def p1V (l : List Int) (at_ : Nat) : Nat × List (List UInt8) := nmL l (namesL.getD (wV l at_).toNat 0) 6 (aV l at_ + 1) 0 [wordsL.getD (wV l at_).toNat []]
def p2V (l : List Int) (at_ : Nat) : Nat × List (List UInt8) := nuL l (numsL.getD (wV l at_).toNat 0).toNat (p1V l at_).1 (p1V l at_).2
def lnV (l : List Int) (at_ : Nat) : Ln × Nat :=
  if nextV l (p2V l at_).1 12 = 0 then
    (⟨nextV l (aV l at_) 99, (p2V l at_).2.set (nextV l ((p2V l at_).1 + 1) (p2V l at_).2.length).toNat (partsL.getD (nextV l ((p2V l at_).1 + 1 + 1) 10).toNat [])⟩, (p2V l at_).1 + 1 + 1 + 1)
  else (⟨nextV l (aV l at_) 99, (p2V l at_).2⟩, (p2V l at_).1 + 1)
def mkV (l : List Int) : Nat → Nat → List Ln → List Ln
  | 0, _, acc => acc
  | k + 1, at_, acc => mkV l k (lnV l at_).2 (acc ++ [(lnV l at_).1])
def linesV (l : List Int) : List Ln := mkV l (nextV l 0 6).toNat 1 []
theorem wV_rng (l : List Int) (at_ : Nat) : ∃ k : Nat, wV l at_ = (k : Int) ∧ k < 7 := by
  unfold wV
  split
  · obtain ⟨k, h1, h2⟩ := nextV_rng l (at_ + 1 + 1) 6 (by omega); exact ⟨k, h1, by omega⟩
  · obtain ⟨k, h1, h2⟩ := nextV_rng l at_ 7 (by omega); exact ⟨k, h1, by omega⟩
theorem wordsE_len : (encS wordsL).length = 7 := rfl
theorem partsE_len : (encS partsL).length = 10 := rfl
theorem partsL_len : partsL.length = 10 := rfl
theorem namesE_len : (encI namesL).length = 7 := rfl
theorem numsE_len : (encI numsL).length = 7 := rfl
end Go.Am
end

section
/- What the lines of the law are bounded by. -/
namespace Go.Am
open Go Go.Proofs
set_option maxRecDepth 100000
set_option linter.unusedVariables false
set_option linter.unusedSimpArgs false
theorem parseV_app (b : List Ln) : ∀ (a : List Ln) (acc : List Dc), (parseV a acc).2.2 ≠ 0 → parseV (a ++ b) acc = parseV a acc
  | [], acc, h => (h rfl).elim
  | x :: r, acc, h => by
    simp only [List.cons_append, parseV] at h ⊢
    split
    · rename_i hz; rw [if_pos hz] at h; exact parseV_app b r _ h
    · rfl
theorem parseV_err (l : List Ln) : ∀ (acc : List Dc), (parseV l acc).2.2 ≠ 0 → (parseV l acc).1 = [] := by
  induction l with
  | nil => intro acc h; exact (h rfl).elim
  | cons x r ih =>
    intro acc h
    simp only [parseV] at h ⊢
    split
    · rename_i hz; rw [if_pos hz] at h; exact ih _ h
    · rfl
theorem rd_small : ∀ (k : Nat) (l : List (List UInt8)) (d : Dc), (rd k l d).1.names.length ≤ d.names.length + l.length ∧ (rd k l d).1.nums.length ≤ d.nums.length + l.length
  | _, [], d => by simp [rd]
  | 0, s :: r, d => by
    simp only [rd]
    split
    · have := rd_small 0 r { d with nums := d.nums ++ [(numV s).1] }
      simp at this ⊢; omega
    · simp [dc0]
  | k + 1, s :: r, d => by
    simp only [rd]
    split
    · have := rd_small k r { d with names := d.names ++ [s] }
      simp at this ⊢; omega
    · simp [dc0]
theorem oneV_small (num : Int) (fs : List (List UInt8)) : (oneV num fs).1.names.length ≤ fs.length ∧ (oneV num fs).1.nums.length ≤ fs.length := by
  unfold oneV
  cases fs with
  | nil => simp [dc0]
  | cons w rest =>
    simp only
    split
    · simp [dc0]
    · split
      · simp [dc0]
      · have := rd_small (rest.length - (shapeV (wordV w)).2.toNat) rest ⟨wordV w, num, [], []⟩
        simp at this ⊢; omega
def smallL (l : List Ln) : Prop := l.length ≤ 4000000 ∧ ∀ x ∈ l, x.fs.length ≤ 4000000
theorem parseV_small (B : Nat) : ∀ (l : List Ln) (acc : List Dc), (∀ x ∈ l, x.fs.length ≤ B) → (∀ d ∈ acc, d.names.length ≤ B ∧ d.nums.length ≤ B) →
    (parseV l acc).1.length ≤ acc.length + l.length ∧ ∀ d ∈ (parseV l acc).1, d.names.length ≤ B ∧ d.nums.length ≤ B
  | [], acc, _, h => ⟨by simp [parseV], h⟩
  | x :: r, acc, hl, h => by
    simp only [parseV]
    split
    · have h1 := parseV_small B r (acc ++ [(oneV x.num x.fs).1]) (fun y hy => hl y (by simp [hy])) (fun d hd => by
        simp only [List.mem_append, List.mem_singleton] at hd
        rcases hd with hd | rfl
        · exact h d hd
        · have := oneV_small x.num x.fs; have := hl x (by simp); omega)
      refine ⟨by have := h1.1; simp at this ⊢; omega, h1.2⟩
    · simp
theorem smallC_parse (l : List Ln) (h : smallL l) : smallC (parseV l []).1 := by
  have := parseV_small 4000000 l [] h.2 (by simp)
  refine ⟨by have := this.1; have := h.1; simp at *; omega, fun x hx => by have := this.2 x hx; omega⟩
theorem nmL_len (l : List Int) (nw : Int) : ∀ (f at_ i : Nat) (fs : List (List UInt8)), (nmL l nw f at_ i fs).2.length ≤ fs.length + f
  | 0, _, _, _ => by simp [nmL]
  | f + 1, at_, i, fs => by
    simp only [nmL]
    split
    · have := nmL_len l nw f (at_ + 1 + 1) (i + 1) (fs ++ [partsL.getD (nextV l (at_ + 1) 3).toNat []])
      simp at this ⊢; omega
    · simp
theorem nuL_len (l : List Int) : ∀ (k at_ : Nat) (fs : List (List UInt8)), (nuL l k at_ fs).2.length ≤ fs.length + k
  | 0, _, _ => by simp [nuL]
  | k + 1, at_, fs => by
    simp only [nuL]
    have := nuL_len l k (at_ + 1) (fs ++ [partsL.getD (3 + nextV l at_ 4).toNat []])
    simp at this ⊢; omega
theorem numsL_le (k : Nat) : (numsL.getD k 0).toNat ≤ 4 := by
  rcases k with _ | _ | _ | _ | _ | _ | _ | k
  all_goals first | decide | simp [numsL]
theorem lnV_len (l : List Int) (at_ : Nat) : (lnV l at_).1.fs.length ≤ 11 := by
  have h1 := nmL_len l (namesL.getD (wV l at_).toNat 0) 6 (aV l at_ + 1) 0 [wordsL.getD (wV l at_).toNat []]
  have h2 := nuL_len l (numsL.getD (wV l at_).toNat 0).toNat (p1V l at_).1 (p1V l at_).2
  have h3 := numsL_le (wV l at_).toNat
  have h4 : (p2V l at_).2.length ≤ 11 := by
    simp only [p2V]
    simp only [p1V] at h2 ⊢
    simp only [List.length_cons, List.length_nil] at h1
    omega
  unfold lnV
  split
  · simpa using h4
  · simpa using h4
theorem mkV_small (l : List Int) : ∀ (k at_ : Nat) (acc : List Ln), (∀ x ∈ acc, x.fs.length ≤ 11) → (mkV l k at_ acc).length = acc.length + k ∧ ∀ x ∈ mkV l k at_ acc, x.fs.length ≤ 11
  | 0, _, acc, h => ⟨by simp [mkV], h⟩
  | k + 1, at_, acc, h => by
    have := mkV_small l k (lnV l at_).2 (acc ++ [(lnV l at_).1]) (fun x hx => by
      simp only [List.mem_append, List.mem_singleton] at hx
      rcases hx with hx | rfl
      · exact h x hx
      · exact lnV_len l at_)
    refine ⟨by have := this.1; simp only [mkV]; simp at this; omega, this.2⟩
theorem linesV_small (l : List Int) : (linesV l).length ≤ 6 ∧ ∀ x ∈ linesV l, x.fs.length ≤ 11 := by
  obtain ⟨k, h1, h2⟩ := nextV_rng l 0 6 (by omega)
  have := mkV_small l k 1 [] (by simp)
  unfold linesV
  rw [h1]
  simp only [Int.toNat_natCast]
  exact ⟨by have := this.1; simp at this; omega, this.2⟩
end Go.Am
end

section
/- Decimal forms: the reference's Digits, and that Number reads them back. -/
namespace Go.Am
open Go Go.Proofs
set_option maxRecDepth 100000
set_option linter.unusedVariables false
set_option linter.unusedSimpArgs false
def digN (n : Nat) : List UInt8 := if h : n < 10 then [UInt8.ofNat (48 + n)] else digN (n / 10) ++ [UInt8.ofNat (48 + n % 10)]
termination_by n
decreasing_by omega
def digV (n : Int) : List UInt8 := if n < 0 then 45 :: digN (-n).toNat else digN n.toNat
theorem digN_small (n : Nat) (h : n < 10) : digN n = [UInt8.ofNat (48 + n)] := by rw [digN, dif_pos h]
theorem digN_big (n : Nat) (h : ¬ n < 10) : digN n = digN (n / 10) ++ [UInt8.ofNat (48 + n % 10)] := by rw [digN, dif_neg h]
theorem digN_len : ∀ (k n : Nat), n < 10 ^ (k + 1) → (digN n).length ≤ k + 1
  | 0, n, h => by rw [digN_small n (by simpa using h)]; simp
  | k + 1, n, h => by
    by_cases h1 : n < 10
    · rw [digN_small n h1]; simp
    · have := digN_len k (n / 10) (by rw [Nat.pow_succ] at h; omega)
      rw [digN_big n h1]; simp; omega
theorem digits_nn (n : Nat) (hn : n ≤ 1000000000000000) : ACalls Tryz.prog 29 [.p (.int .i64 (n : Nat))] [] fun h r => h = [] ∧ r = .p (.str (digN n)) := by
  refine ACalls_X Tryz.func29 rfl enters29 (by simp [Tryz.f29]) ?_
  have hlen := digN_len 15 n (by omega)
  have h0 : ¬ (n : Int) < 0 := by omega
  simp only [go_sem, ↓reduceIte, Nat.reduceLT, Nat.reduceLeDiff, Nat.reduceEqDiff, Nat.reduceAdd, Nat.reduceMul, Nat.reduceSub, reduceCtorEq, Int.reduceLT, Int.reduceLE, Int.reduceEq, Int.reduceToNat, decide_true, decide_false, Int.reduceNeg, Int.cast_ofNat_Int, sg, AO.sg, Option.isNone_none, h0]
  refine X_loop_inv (fun q : Nat × List UInt8 => ⟨[(0, .p (.int .i64 (q.1 : Nat))), (3, .p (.str q.2))], [], 23⟩) (fun q => q.1 ≤ n ∧ digN q.1 ++ q.2 = digN n) (fun q => q.1) (n, []) ⟨Nat.le_refl _, by simp⟩ (Wk.forget (by simp [Le, LeE, LeH, get, envIds, hpIds, KeepH, D.ids, idsL, AO.ids, setL, base])) ?_
  rintro ⟨m, s⟩ k ⟨hm, he⟩ ih
  simp only at hm he
  have hmod : (m : Int).tmod 10 = ((m % 10 : Nat) : Int) := by rw [Int.tmod_eq_emod_of_nonneg (by omega)]; omega
  have hdiv : (m : Int).tdiv 10 = ((m / 10 : Nat) : Int) := by rw [Int.tdiv_eq_ediv_of_nonneg (by omega)]; omega
  have w1 : IntKind.i64.wrap (48 + ((m % 10 : Nat) : Int)) = 48 + ((m % 10 : Nat) : Int) := by rw [wrap_i64_id] <;> omega
  have w2 : IntKind.u8.wrap (48 + ((m % 10 : Nat) : Int)) = ((UInt8.ofNat (48 + m % 10)).toNat : Int) := by rw [IntKind.wrap_u8]; simp
  have w3 : IntKind.i64.wrap ((m / 10 : Nat) : Int) = ((m / 10 : Nat) : Int) := by rw [wrap_i64_id] <;> omega
  have hne10 : ¬ (10 : Int) = 0 := by decide
  have hsl : s.length ≤ 20 := by have := congrArg List.length he; simp at this; omega
  simp only [go_sem, ↓reduceIte, Nat.reduceLT, Nat.reduceLeDiff, Nat.reduceEqDiff, Nat.reduceAdd, Nat.reduceMul, Nat.reduceSub, reduceCtorEq, Int.reduceLT, Int.reduceLE, Int.reduceEq, Int.reduceToNat, decide_true, decide_false, Int.reduceNeg, Int.cast_ofNat_Int, sg, AO.sg, Option.isNone_none, hmod, hdiv, w1, w2, hne10]
  refine Af_str (l := [UInt8.ofNat (48 + m % 10)]) rfl ti89 ti9 ti5 rfl rfl ?_
  simp only [go_sem, ↓reduceIte, Nat.reduceLT, Nat.reduceLeDiff, Nat.reduceEqDiff, Nat.reduceAdd, Nat.reduceMul, Nat.reduceSub, reduceCtorEq, Int.reduceLT, Int.reduceLE, Int.reduceEq, Int.reduceToNat, decide_true, decide_false, Int.reduceNeg, Int.cast_ofNat_Int, sg, AO.sg, Option.isNone_none, hmod, hdiv, w3, hne10]
  refine ⟨by unfold maxLen; omega, ?_⟩
  refine Cn_split (fun h2 => ?_) (fun h2 => ?_)
  · simp only [go_sem, ↓reduceIte, Nat.reduceLT, Nat.reduceLeDiff, Nat.reduceEqDiff, Nat.reduceAdd, Nat.reduceMul, Nat.reduceSub, reduceCtorEq, Int.reduceLT, Int.reduceLE, Int.reduceEq, Int.reduceToNat, decide_true, decide_false, Int.reduceNeg, Int.cast_ofNat_Int, sg, AO.sg, Option.isNone_none]
    have h3 : m < 10 := by simp at h2; omega
    rw [← he, digN_small m h3, Nat.mod_eq_of_lt h3]
    rfl
  · have h3 : ¬ m < 10 := by simp at h2; omega
    simp only [go_sem, ↓reduceIte, Nat.reduceLT, Nat.reduceLeDiff, Nat.reduceEqDiff, Nat.reduceAdd, Nat.reduceMul, Nat.reduceSub, reduceCtorEq, Int.reduceLT, Int.reduceLE, Int.reduceEq, Int.reduceToNat, decide_true, decide_false, Int.reduceNeg, Int.cast_ofNat_Int, sg, AO.sg, Option.isNone_none]
    refine ih (m / 10, [UInt8.ofNat (48 + m % 10)] ++ s) _ ⟨by simp only; omega, by rw [← he, digN_big m h3]; simp⟩ (by simp only; omega) ?_
    (refine Wk.forget ?_; simp [Le, LeE, LeH, get, envIds, hpIds, KeepH, D.ids, idsL, AO.ids, setL, base]; done)
theorem digits_ok (n : Int) (h0 : -1000000000000000 ≤ n) (h1 : n ≤ 1000000000000000) : ACalls Tryz.prog 29 [.p (.int .i64 n)] [] fun h r => h = [] ∧ r = .p (.str (digV n)) := by
  by_cases hn : n < 0
  · refine ACalls_X Tryz.func29 rfl enters29 (by simp [Tryz.f29]) ?_
    have hw : IntKind.i64.wrap (0 - n) = (((-n).toNat : Nat) : Int) := by rw [wrap_i64_id] <;> omega
    have hlen := digN_len 15 (-n).toNat (by omega)
    simp only [go_sem, ↓reduceIte, Nat.reduceLT, Nat.reduceLeDiff, Nat.reduceEqDiff, Nat.reduceAdd, Nat.reduceMul, Nat.reduceSub, reduceCtorEq, Int.reduceLT, Int.reduceLE, Int.reduceEq, Int.reduceToNat, decide_true, decide_false, Int.reduceNeg, Int.cast_ofNat_Int, sg, AO.sg, Option.isNone_none, hn, hw]
    refine Cc_of (digits_nn (-n).toNat (by omega)) ?_
    rintro h' r ⟨rfl, rfl⟩
    simp only [go_sem, ↓reduceIte, Nat.reduceLT, Nat.reduceLeDiff, Nat.reduceEqDiff, Nat.reduceAdd, Nat.reduceMul, Nat.reduceSub, reduceCtorEq, Int.reduceLT, Int.reduceLE, Int.reduceEq, Int.reduceToNat, decide_true, decide_false, Int.reduceNeg, Int.cast_ofNat_Int, sg, AO.sg, Option.isNone_none]
    refine ⟨by unfold maxLen; omega, ?_⟩
    try simp only [go_sem, ↓reduceIte, Nat.reduceLT, Nat.reduceLeDiff, Nat.reduceEqDiff, Nat.reduceAdd, Nat.reduceMul, Nat.reduceSub, reduceCtorEq, Int.reduceLT, Int.reduceLE, Int.reduceEq, Int.reduceToNat, decide_true, decide_false, Int.reduceNeg, Int.cast_ofNat_Int, sg, AO.sg, Option.isNone_none]
    simp [digV, hn]
  · have := digits_nn n.toNat (by omega)
    rw [show ((n.toNat : Nat) : Int) = n by omega] at this
    refine this.mono ?_
    rintro h r ⟨rfl, rfl⟩
    exact ⟨rfl, by simp [digV, hn]⟩
end Go.Am
end

section
/- Number reads a decimal form back. -/
namespace Go.Am
open Go Go.Proofs
set_option maxRecDepth 100000
set_option linter.unusedVariables false
set_option linter.unusedSimpArgs false
/-- Number of a decimal form. -/
theorem dig_u8 (k : Nat) (h : k < 10) : ((UInt8.ofNat (48 + k)).toNat : Int) = 48 + k := by simp; omega
theorem digN_val (k : Nat) : ∀ n : Nat, n < 10 ^ (k + 1) → valD (digN n) = (n : Int) ∧ digsB (digN n) = true ∧ digN n ≠ [] ∧ (n ≠ 0 → (((digN n).getD 0 0).toNat : Int) ≠ 48) := by
  induction k with
  | zero =>
    intro n h
    have h1 : n < 10 := by simpa using h
    rw [digN_small n h1]
    refine ⟨by simp [valD]; omega, by simp [digsB, digB]; omega, by simp, fun h2 => ?_⟩
    simp only [List.getD_cons_zero, dig_u8 n h1]; omega
  | succ k ih =>
    intro n h
    by_cases h1 : n < 10
    · rw [digN_small n h1]
      refine ⟨by simp [valD]; omega, by simp [digsB, digB]; omega, by simp, fun h2 => ?_⟩
      simp only [List.getD_cons_zero, dig_u8 n h1]; omega
    · obtain ⟨i1, i2, i3, i4⟩ := ih (n / 10) (by rw [Nat.pow_succ] at h; omega)
      rw [digN_big n h1]
      have h10 : n % 10 < 10 := Nat.mod_lt _ (by decide)
      refine ⟨?_, ?_, by simp, fun _ => ?_⟩
      · unfold valD at i1 ⊢
        rw [List.foldl_append, i1]
        simp only [List.foldl_cons, List.foldl_nil, dig_u8 _ h10]
        omega
      · unfold digsB at i2 ⊢
        rw [List.all_append, i2]
        simp only [List.all_cons, List.all_nil, dig_u8 _ h10]
        simp [digB]; omega
      · have : (digN (n / 10) ++ [UInt8.ofNat (48 + n % 10)]).getD 0 0 = (digN (n / 10)).getD 0 0 := by
          cases hd : digN (n / 10) with
          | nil => exact (i3 hd).elim
          | cons x xs => rfl
        rw [this]
        exact i4 (by omega)
theorem digN_ge : ∀ (k n : Nat), 10 ^ k ≤ n → k + 1 ≤ (digN n).length
  | 0, n, h => by
    by_cases h1 : n < 10
    · rw [digN_small n h1]; simp
    · rw [digN_big n h1]; simp
  | k + 1, n, h => by
    have h1 : ¬ n < 10 := by rw [Nat.pow_succ] at h; have := Nat.one_le_pow k 10 (by decide); omega
    have := digN_ge k (n / 10) (by rw [Nat.pow_succ] at h; omega)
    rw [digN_big n h1]; simp; omega
theorem numOf_digN (neg : Bool) (n : Nat) (h : n < 1000000) (h0 : neg = true → n ≠ 0) : numOf neg (digN n) = if n ≤ 9999 then (if neg then 0 - (n : Int) else n, true) else (0, false) := by
  obtain ⟨h1, h2, h3, h4⟩ := digN_val 5 n (by omega)
  have hlen : (digN n).length ≤ 4 ↔ n ≤ 9999 := by
    constructor
    · intro h5
      by_cases h6 : n ≤ 9999
      · exact h6
      · have := digN_ge 4 n (by omega); omega
    · intro h5; exact digN_len 3 n (by omega)
  cases hd : digN n with
  | nil => exact (h3 hd).elim
  | cons b r =>
    rw [hd] at h1 h2 h4 hlen
    simp only [List.length_cons, List.getD_cons_zero] at hlen h4
    by_cases h5 : n ≤ 9999
    · have hl : ¬ 4 < r.length + 1 := by have := hlen.2 h5; omega
      have hb : ¬ ((b.toNat : Int) = 48 ∧ (neg = true ∨ 1 < r.length + 1)) := by
        rintro ⟨h6, h7⟩
        have hn0 : n = 0 := Classical.byContradiction fun h8 => h4 h8 h6
        rcases h7 with h7 | h7
        · exact h0 h7 hn0
        · subst hn0
          rw [digN_small 0 (by decide)] at hd
          cases hd
          simp at h7
      rw [if_pos h5]
      simp only [numOf, hl, hb, or_self, if_false, h2, if_true, h1]
    · have hl : 4 < r.length + 1 := by omega
      rw [if_neg h5]
      simp only [numOf, hl, true_or, if_true]
theorem digN_first (n : Nat) (h : n < 1000000) : ∃ b r, digN n = b :: r ∧ b ≠ 45 := by
  obtain ⟨_, h2, h3, _⟩ := digN_val 5 n (by omega)
  cases hd : digN n with
  | nil => exact (h3 hd).elim
  | cons b r =>
    rw [hd] at h2
    refine ⟨b, r, rfl, ?_⟩
    rintro rfl
    simp [digsB, digB] at h2
theorem numV_digV (n : Int) (h1 : -1000000 < n) (h2 : n < 1000000) : numV (digV n) = if -9999 ≤ n ∧ n ≤ 9999 then (n, true) else (0, false) := by
  unfold digV
  by_cases hn : n < 0
  · rw [if_pos hn]
    have hp : hasP (45 :: digN (-n).toNat) [45] = true := by simp [hasP]
    unfold numV
    rw [if_pos hp]
    simp only [List.drop_succ_cons, List.drop_zero]
    rw [numOf_digN true _ (by omega) (fun _ => by omega)]
    by_cases h3 : -9999 ≤ n
    · have h5 : (-n).toNat ≤ 9999 := by omega
      have h6 : -9999 ≤ n ∧ n ≤ 9999 := by omega
      rw [if_pos h5, if_pos h6]
      simp; omega
    · have h5 : ¬ (-n).toNat ≤ 9999 := by omega
      have h6 : ¬ (-9999 ≤ n ∧ n ≤ 9999) := by omega
      rw [if_neg h5, if_neg h6]
  · rw [if_neg hn]
    obtain ⟨b, r, hd, hb⟩ := digN_first n.toNat (by omega)
    have hp : hasP (digN n.toNat) [45] = false := by rw [hd]; simp [hasP, hb]
    unfold numV
    rw [hp]
    simp only [Bool.false_eq_true, if_false]
    rw [numOf_digN false _ (by omega) (fun h => by cases h)]
    by_cases h3 : n ≤ 9999
    · have h5 : n.toNat ≤ 9999 := by omega
      have h6 : -9999 ≤ n ∧ n ≤ 9999 := by omega
      rw [if_pos h5, if_pos h6]
      simp; omega
    · have h5 : ¬ n.toNat ≤ 9999 := by omega
      have h6 : ¬ (-9999 ≤ n ∧ n ≤ 9999) := by omega
      rw [if_neg h5, if_neg h6]
theorem numV_plus (l : List UInt8) : (numV (43 :: l)).2 = false := by
  have hp : hasP (43 :: l) [45] = false := by simp [hasP]
  unfold numV
  rw [hp]
  simp only [Bool.false_eq_true, if_false, numOf]
  split
  · rfl
  · simp [digsB, digB]
theorem numV_zero (l : List UInt8) (h : l ≠ []) : (numV (48 :: l)).2 = false := by
  have hp : hasP (48 :: l) [45] = false := by simp [hasP]
  unfold numV
  rw [hp]
  cases l with
  | nil => exact (h rfl).elim
  | cons b r => simp [numOf]
theorem digV_len (n : Int) (h1 : -1000000 < n) (h2 : n < 1000000) : (digV n).length ≤ 7 ∧ digV n ≠ [] := by
  unfold digV
  split
  · have := digN_len 5 (-n).toNat (by omega); simp; omega
  · have h3 := digN_len 5 n.toNat (by omega)
    have h4 := (digN_val 5 n.toNat (by omega)).2.2.1
    exact ⟨by omega, h4⟩
end Go.Am
end

section
/- The decimal form of the references is that of strconv.Itoa. -/
namespace Go.Am
open Go Go.Proofs
theorem decDigits_digN (n : Nat) : Lib.decDigits n = digN n := by
  induction n using Nat.strongRecOn with
  | ind n ih =>
    rw [Lib.decDigits, digN]
    by_cases h : n < 10
    · rw [dif_pos h, dif_pos h]
    · rw [dif_neg h, dif_neg h, ih (n / 10) (by omega)]
theorem itoa_digV (n : Int) : Lib.itoa n = digV n := by
  unfold Lib.itoa digV
  by_cases h : n < 0
  · rw [if_pos h, if_pos h, decDigits_digN, show n.natAbs = (-n).toNat by omega]
  · rw [if_neg h, if_neg h, decDigits_digN]
end Go.Am
end

section
/- The plain law behind LayoutBack: what Parse returns is valid, and its lines are read back. -/
namespace Go.Am
open Go Go.Proofs
set_option maxRecDepth 100000
set_option linter.unusedVariables false
set_option linter.unusedSimpArgs false
theorem numOf_rng (neg : Bool) (l : List UInt8) (h : (numOf neg l).2 = true) : -9999 ≤ (numOf neg l).1 ∧ (numOf neg l).1 ≤ 9999 := by
  cases l with
  | nil => simp [numOf] at h
  | cons b r =>
    simp only [numOf] at h ⊢
    by_cases h1 : 4 < r.length + 1 ∨ ((b.toNat : Int) = 48 ∧ (neg = true ∨ 1 < r.length + 1))
    · rw [if_pos h1] at h; cases h
    · rw [if_neg h1] at h ⊢
      by_cases h2 : digsB (b :: r) = true
      · rw [if_pos h2]
        have h3 : ∀ c ∈ b :: r, 48 ≤ c.toNat ∧ c.toNat ≤ 57 := fun c hc => by
          have := List.all_eq_true.1 h2 c hc
          simp [digB] at this; omega
        have h4 : (b :: r).length ≤ 4 := by simp only [List.length_cons]; omega
        have h5 := valD_le (b :: r) h3 (b :: r).length (Nat.le_refl _) h4
        have h6 := p10 (b :: r).length h4
        rw [List.take_length] at h5
        simp only
        split <;> omega
      · rw [if_neg h2] at h; cases h
theorem numV_rng (s : List UInt8) (h : (numV s).2 = true) : -9999 ≤ (numV s).1 ∧ (numV s).1 ≤ 9999 := by
  unfold numV at h ⊢
  split
  · rename_i h1; rw [if_pos h1] at h; exact numOf_rng _ _ h
  · rename_i h1; rw [if_neg h1] at h; exact numOf_rng _ _ h
theorem rd_ok : ∀ (k : Nat) (l : List (List UInt8)) (d : Dc), (rd k l d).2 = 0 →
    (rd k l d).1 = { d with names := d.names ++ l.take k, nums := d.nums ++ (l.drop k).map fun s => (numV s).1 } ∧ (∀ s ∈ l.take k, nameB s = true) ∧ ∀ s ∈ l.drop k, (numV s).2 = true
  | k, [], d, _ => by
    cases k <;> simp [rd]
  | 0, s :: r, d, h => by
    simp only [rd] at h ⊢
    split
    · rename_i h1
      rw [if_pos h1] at h
      obtain ⟨h2, h3, h4⟩ := rd_ok 0 r _ h
      rw [h2]
      refine ⟨by simp, by simp, fun x hx => ?_⟩
      simp only [List.drop_zero, List.mem_cons] at hx h4
      rcases hx with rfl | hx
      · exact h1
      · exact h4 x hx
    · rename_i h1
      rw [if_neg h1] at h; simp at h
  | k + 1, s :: r, d, h => by
    simp only [rd] at h ⊢
    split
    · rename_i h1
      rw [if_pos h1] at h
      obtain ⟨h2, h3, h4⟩ := rd_ok k r _ h
      rw [h2]
      refine ⟨by simp, fun x hx => ?_, by simpa using h4⟩
      simp only [List.take_succ_cons, List.mem_cons] at hx
      rcases hx with rfl | hx
      · exact h1
      · exact h3 x hx
    · rename_i h1
      rw [if_neg h1] at h; simp at h
theorem rd_names : ∀ (ns l : List (List UInt8)) (d : Dc), (∀ s ∈ ns, nameB s = true) → rd ns.length (ns ++ l) d = rd 0 l { d with names := d.names ++ ns }
  | [], l, d, _ => by simp
  | s :: r, l, d, h => by
    have h1 := rd_names r l { d with names := d.names ++ [s] } (fun x hx => h x (by simp [hx]))
    simp only [List.length_cons, List.cons_append, rd, h s (by simp), if_true]
    rw [h1]
    simp
theorem rd_nums : ∀ (ks : List Int) (d : Dc), (∀ n ∈ ks, -9999 ≤ n ∧ n ≤ 9999) → rd 0 (ks.map digV) d = ({ d with nums := d.nums ++ ks }, 0)
  | [], d, _ => by simp [rd]
  | n :: r, d, h => by
    have h0 := h n (by simp)
    have hn := numV_digV n (by omega) (by omega)
    rw [if_pos h0] at hn
    have h1 := rd_nums r { d with nums := d.nums ++ [n] } (fun x hx => h x (by simp [hx]))
    simp only [List.map_cons, rd, hn, if_true]
    rw [h1]
    simp
def formLine (x : Dc) : List (List UInt8) := (formJ x.word.toNat).word :: x.names ++ x.nums.map digV
theorem wordV_form (j : Nat) (h1 : 1 ≤ j) (h2 : j < 7) : wordV (formJ j).word = (j : Int) := by
  rcases j with _ | _ | _ | _ | _ | _ | _ | j
  · omega
  all_goals first | omega | decide
theorem valid_iff (x : Dc) : validV x = true ↔ (1 ≤ x.word ∧ x.word ≤ 6) ∧ (x.nums.length : Int) = (shapeV x.word).2 ∧ ((x.names.length : Int) = (shapeV x.word).1 ∨ ((shapeV x.word).1 < (x.names.length : Int) ∧ x.word = 2)) ∧
    (∀ s ∈ x.names, nameB s = true) ∧ ∀ n ∈ x.nums, -9999 ≤ n ∧ n ≤ 9999 := by
  unfold validV
  simp only [Bool.and_eq_true, Bool.or_eq_true, decide_eq_true_eq, List.all_eq_true, Bool.not_eq_true', Bool.or_eq_false_iff, decide_eq_false_iff_not, Int.not_lt]
theorem oneV_valid (num : Int) (fs : List (List UInt8)) (h : (oneV num fs).2 = 0) : validV (oneV num fs).1 = true ∧ (oneV num fs).1.line = num := by
  unfold oneV at h ⊢
  cases fs with
  | nil => simp at h
  | cons w rest =>
    simp only at h ⊢
    obtain ⟨j, hj, hw⟩ := wordV_rng w
    rw [hw] at h ⊢
    by_cases h0 : (j : Int) = 0
    · rw [if_pos h0] at h; simp at h
    · rw [if_neg h0] at h ⊢
      by_cases hl : (rest.length : Int) < (shapeV j).1 + (shapeV j).2 ∨ ((shapeV j).1 + (shapeV j).2 < (rest.length : Int) ∧ (j : Int) ≠ 2)
      · rw [if_pos hl] at h; simp at h
      · rw [if_neg hl] at h ⊢
        obtain ⟨h1, h2, h3⟩ := rd_ok _ _ _ h
        obtain ⟨_, _, _, hs4, hs5⟩ := form_sig j hj (by omega)
        rw [h1]
        refine ⟨(valid_iff _).2 ⟨by simp only; omega, ?_, ?_, ?_, ?_⟩, rfl⟩
        · simp; omega
        · simp only [List.nil_append, List.length_take]
          by_cases h5 : (shapeV j).1 + (shapeV j).2 < (rest.length : Int)
          · have h6 : (j : Int) = 2 := Classical.byContradiction fun h6 => hl (.inr ⟨h5, h6⟩)
            refine .inr ⟨?_, h6⟩
            omega
          · left; omega
        · simpa using h2
        · intro n hn
          simp only [List.nil_append, List.mem_map] at hn
          obtain ⟨s, hs, rfl⟩ := hn
          exact numV_rng s (h3 s hs)
theorem oneV_back (x : Dc) (h : validV x = true) : oneV x.line (formLine x) = (x, 0) := by
  obtain ⟨h1, h2, h3, h4, h5⟩ := (valid_iff x).1 h
  obtain ⟨word, line, names, nums⟩ := x
  simp only at h1 h2 h3 h4 h5
  obtain ⟨j, rfl⟩ : ∃ j : Nat, word = (j : Int) := ⟨word.toNat, by omega⟩
  obtain ⟨_, _, _, hs4, hs5⟩ := form_sig j (by omega) (by omega)
  have hw := wordV_form j (by omega) (by omega)
  simp only [formLine, oneV, Int.toNat_natCast, List.cons_append]
  rw [hw, if_neg (by omega), if_neg (by simp; omega)]
  have hk : (names ++ nums.map digV).length - (shapeV j).2.toNat = names.length := by simp; omega
  rw [hk, rd_names names _ _ h4, rd_nums _ _ h5]
  simp
/-- Format: P2.2. -/
def fmtV : List Dc → List Ln → List Ln × Int
  | [], acc => (acc, 0)
  | x :: r, acc => if validV x then fmtV r (acc ++ [⟨x.line, formLine x⟩]) else ([], 20)
theorem parseV_valid : ∀ (l : List Ln) (acc : List Dc), (parseV l acc).2.2 = 0 → (∀ x ∈ acc, validV x = true) → ∀ x ∈ (parseV l acc).1, validV x = true
  | [], acc, _, h => by simpa [parseV] using h
  | x :: r, acc, h0, h => by
    simp only [parseV] at h0 ⊢
    split
    · rename_i h1
      rw [if_pos h1] at h0
      refine parseV_valid r _ h0 fun y hy => ?_
      simp only [List.mem_append, List.mem_singleton] at hy
      rcases hy with hy | rfl
      · exact h y hy
      · exact (oneV_valid _ _ h1).1
    · simp
theorem fmtV_all : ∀ (d : List Dc) (acc : List Ln), (∀ x ∈ d, validV x = true) → fmtV d acc = (acc ++ d.map fun x => ⟨x.line, formLine x⟩, 0)
  | [], acc, _ => by simp [fmtV]
  | x :: r, acc, h => by
    simp only [fmtV, h x (by simp), if_true]
    rw [fmtV_all r _ (fun y hy => h y (by simp [hy]))]
    simp
theorem parseV_back : ∀ (d acc : List Dc), (∀ x ∈ d, validV x = true) → parseV (d.map fun x => ⟨x.line, formLine x⟩) acc = (acc ++ d, 0, 0)
  | [], acc, _ => by simp [parseV]
  | x :: r, acc, h => by
    simp only [List.map_cons, parseV, oneV_back x (h x (by simp)), if_true]
    rw [parseV_back r _ (fun y hy => h y (by simp [hy]))]
    simp
end Go.Am
end

section
/- strconv.Itoa beside its table, as a contract of the machine. -/
namespace Go.Am
open Go Go.Proofs
set_option maxRecDepth 100000
set_option linter.unusedVariables false
def tabCs : List Pd := tabC .u64 Lib.pow10Tab
theorem itoa_ok (n : Int) (h0 : -9223372036854775808 ≤ n) (h1 : n ≤ 9223372036854775807) : ACalls Tryz.prog 34 [.p (.int .i64 n)] [(1000000, (.glob 0 tabCs))] fun h r => h = [(1000000, (.glob 0 tabCs))] ∧ r = .p (.str (digV n)) := by
  rw [← itoa_digV]
  exact ACalls_itoa (by kernel_rfl) enters34 (fun n w h0 h1 ht => Tryz.strconv_Itoa n h0 h1 w ht) n h0 h1
end Go.Am
end

section
/- layout.Format, beside the table of strconv. -/
namespace Go.Am
open Go Go.Proofs
set_option maxRecDepth 100000
set_option linter.unusedVariables false
set_option linter.unusedSimpArgs false
def fmtR (r : List Ln × Int) : D := .tup [.p (.sl (encL r.1)), .p (.int .i64 r.2)]
theorem fmtLx_ok (d : List Dc) (hd : d.length ≤ 10000000) (hs : ∀ x ∈ d, x.names.length ≤ 10000000 ∧ x.nums.length ≤ 10000000) :
    ACalls Tryz.prog 9 [.p (.sl (encC d))] [(1000000, (.glob 0 tabCs))] fun h r => h = [(1000000, (.glob 0 tabCs))] ∧ r = fmtR (fmtV d []) := by
  refine ACalls_X Tryz.func9 rfl enters9 (by simp [Tryz.f9]) ?_
  simp only [go_sem, ↓reduceIte, Nat.reduceLT, Nat.reduceLeDiff, Nat.reduceEqDiff, Nat.reduceAdd, Nat.reduceMul, Nat.reduceSub, reduceCtorEq, Int.reduceLT, Int.reduceLE, Int.reduceEq, Int.reduceToNat, decide_true, decide_false, Int.reduceNeg, Int.cast_ofNat_Int, sg, AO.sg, Option.isNone_none, encC_len]
  refine X_loop_inv (fun q : Nat × List Ln => ⟨[(10, .p (.sl (encC d))), (11, .p (.int .i64 (d.length : Nat))), (12, .p (.int .i64 (q.1 : Nat))), (4, .ref 49 0 q.2.length q.2.length)], [(49, .arr 70 2 (encL q.2)), (1000000, (.glob 0 tabCs))], 52⟩)
    (fun q => q.1 ≤ d.length ∧ q.2.length ≤ q.1 ∧ fmtV (d.drop q.1) q.2 = fmtV d []) (fun q => d.length - q.1) (0, []) ⟨Nat.zero_le _, by simp, by simp⟩ ((Wk.nil (t := 4) (q := 49) (sz := 2) 70 rfl rfl (by decide)).trans (Wk.forget (by simp [Le, LeE, LeH, get, envIds, hpIds, KeepH, D.ids, idsL, AO.ids, setL, base, encL]))) ?_
  rintro ⟨i, acc⟩ n ⟨hi, ha, he⟩ ih
  simp only at hi ha he
  simp only [go_sem, ↓reduceIte, Nat.reduceLT, Nat.reduceLeDiff, Nat.reduceEqDiff, Nat.reduceAdd, Nat.reduceMul, Nat.reduceSub, reduceCtorEq, Int.reduceLT, Int.reduceLE, Int.reduceEq, Int.reduceToNat, decide_true, decide_false, Int.reduceNeg, Int.cast_ofNat_Int, sg, AO.sg, Option.isNone_none]
  refine Cn_split (fun h2 => ?_) (fun h2 => ?_)
  · have hlt : i < d.length := by simp at h2; omega
    have hw := wrap_succ i (by omega)
    have hdropi := drop_getD d i dc0 hlt
    rw [hdropi] at he
    have hx := hs _ (getD_mem d i dc0 hlt)
    have hg := encC_get d i hlt
    generalize hxe : d.getD i dc0 = x at *
    have hi0 : (0 : Int) ≤ (i : Int) ∧ (i : Int) < (d.length : Int) := by omega
    simp only [go_sem, ↓reduceIte, Nat.reduceLT, Nat.reduceLeDiff, Nat.reduceEqDiff, Nat.reduceAdd, Nat.reduceMul, Nat.reduceSub, reduceCtorEq, Int.reduceLT, Int.reduceLE, Int.reduceEq, Int.reduceToNat, decide_true, decide_false, Int.reduceNeg, Int.cast_ofNat_Int, sg, AO.sg, Option.isNone_none, encC_len, Int.toNat_natCast, hg, hi0]
    refine Cc_of ((valid_ok x ⟨hx.1, hx.2⟩).glob (id := 1000000) (by decide) rfl (by simp [idsL, D.ids, hpIds, Dc.d]) (fun h1 r hr => by rw [hr.1]; rfl)) ?_
    rintro h' r ⟨_, ⟨rfl, rfl⟩, rfl⟩
    simp only [go_sem, ↓reduceIte, Nat.reduceLT, Nat.reduceLeDiff, Nat.reduceEqDiff, Nat.reduceAdd, Nat.reduceMul, Nat.reduceSub, reduceCtorEq, Int.reduceLT, Int.reduceLE, Int.reduceEq, Int.reduceToNat, decide_true, decide_false, Int.reduceNeg, Int.cast_ofNat_Int, sg, AO.sg, Option.isNone_none]
    cases hv : validV x
    · simp only [go_sem, ↓reduceIte, Nat.reduceLT, Nat.reduceLeDiff, Nat.reduceEqDiff, Nat.reduceAdd, Nat.reduceMul, Nat.reduceSub, reduceCtorEq, Int.reduceLT, Int.reduceLE, Int.reduceEq, Int.reduceToNat, decide_true, decide_false, Int.reduceNeg, Int.cast_ofNat_Int, sg, AO.sg, Option.isNone_none]
      refine end_pure ?_
      simp only [go_sem, ↓reduceIte, Nat.reduceLT, Nat.reduceLeDiff, Nat.reduceEqDiff, Nat.reduceAdd, Nat.reduceMul, Nat.reduceSub, reduceCtorEq, Int.reduceLT, Int.reduceLE, Int.reduceEq, Int.reduceToNat, decide_true, decide_false, Int.reduceNeg, Int.cast_ofNat_Int, sg, AO.sg, Option.isNone_none]
      simp only [fmtV, hv] at he
      rw [← he]
      rfl
    · obtain ⟨hw1, hw2, hw3, hw4, hw5⟩ := (valid_iff x).1 hv
      obtain ⟨word, line, names, nums⟩ := x
      simp only at hw1 hw2 hw3 hw4 hw5 hx hg
      obtain ⟨j, rfl⟩ : ∃ j : Nat, word = (j : Int) := ⟨word.toNat, by omega⟩
      have hj : j < 7 := by omega
      have hfc := form_cells j hj
      have hfl : j * 3 + 3 ≤ (formL.flatMap fmC).length := by rw [formC_len]; omega
      have hj0 : (0 : Int) ≤ (j : Int) ∧ (j : Int) < 7 := by omega
      have hdt : List.take 3 (List.drop (j * 3) (List.map D.p (formL.flatMap fmC))) = [.p (.str (formJ j).word), .p (.str (formJ j).fields), .p (.bool (formJ j).more)] := by
        rw [← List.map_drop, ← List.map_take, hfc]; rfl
      have hfw : [[Pd.str (formJ j).word]] ++ encS names = encS ((formJ j).word :: names) := rfl
      have hwid : Wid 1 (encS names) := by simp [Wid, encS]
      simp only [go_sem, ↓reduceIte, Nat.reduceLT, Nat.reduceLeDiff, Nat.reduceEqDiff, Nat.reduceAdd, Nat.reduceMul, Nat.reduceSub, reduceCtorEq, Int.reduceLT, Int.reduceLE, Int.reduceEq, Int.reduceToNat, decide_true, decide_false, Int.reduceNeg, Int.cast_ofNat_Int, sg, AO.sg, Option.isNone_none]
      refine X_any0 mixed (p := [(0, 0), (1, 0), (3, 0), (4, 0), (8, 0), (9, 0), (12, 1), (2, 2), (5, 0), (6, 0), (7, 1), (10, 2), (11, 0), (13, 3)]) (by kernel_rfl) (by simp [LeH, get]) ?_
      simp only [go_sem, ↓reduceIte, Nat.reduceLT, Nat.reduceLeDiff, Nat.reduceEqDiff, Nat.reduceAdd, Nat.reduceMul, Nat.reduceSub, reduceCtorEq, Int.reduceLT, Int.reduceLE, Int.reduceEq, Int.reduceToNat, decide_true, decide_false, Int.reduceNeg, Int.cast_ofNat_Int, sg, AO.sg, Option.isNone_none]
      refine Gh_of (forms_ok.glob (id := 1000000) (by decide) rfl (by simp [idsL, D.ids, hpIds]) (fun h1 r hr => by rw [hr.1]; rfl)) ?_
      rintro h' r ⟨_, ⟨rfl, rfl⟩, rfl⟩
      simp only [go_sem, ↓reduceIte, Nat.reduceLT, Nat.reduceLeDiff, Nat.reduceEqDiff, Nat.reduceAdd, Nat.reduceMul, Nat.reduceSub, reduceCtorEq, Int.reduceLT, Int.reduceLE, Int.reduceEq, Int.reduceToNat, decide_true, decide_false, Int.reduceNeg, Int.cast_ofNat_Int, sg, AO.sg, Option.isNone_none, Int.toNat_natCast, hfl, hdt, hj0, hfw, encS_len]
      refine ⟨⟨hwid, by omega, by omega⟩, ?_⟩
      refine X_loop_inv (fun q : Nat × List (List UInt8) => ⟨[(4, .ref 49 0 acc.length acc.length), (7, .ptr 7 0), (10, .p (.sl (encC d))), (11, .p (.int .i64 (d.length : Nat))), (12, .p (.int .i64 (i : Nat))),
          (32, .p (.sl (encI nums))), (33, .p (.int .i64 (nums.length : Nat))), (34, .p (.int .i64 (q.1 : Nat)))],
          [(7, .box [.p (.int .i64 line), .ref 26 0 q.2.length q.2.length]), (26, .arr 9 1 (encS q.2)), (49, .arr 70 2 (encL acc)), (1000000, (.glob 0 tabCs))], 52⟩)
        (fun q => q.1 ≤ nums.length ∧ q.2.length ≤ 10000001 + q.1 ∧ q.2 ++ (nums.drop q.1).map digV = formLine ⟨j, line, names, nums⟩) (fun q => nums.length - q.1) (0, (formJ j).word :: names) ⟨Nat.zero_le _, by simp; omega, by simp [formLine]⟩
        (Wk.forget (by simp [Le, LeE, LeH, get, envIds, hpIds, KeepH, D.ids, idsL, AO.ids, setL, base, encI_len, encS])) ?_
      rintro ⟨m, fs⟩ n2 ⟨hm, hfs, he2⟩ ih2
      simp only at hm hfs he2
      simp only [go_sem, ↓reduceIte, Nat.reduceLT, Nat.reduceLeDiff, Nat.reduceEqDiff, Nat.reduceAdd, Nat.reduceMul, Nat.reduceSub, reduceCtorEq, Int.reduceLT, Int.reduceLE, Int.reduceEq, Int.reduceToNat, decide_true, decide_false, Int.reduceNeg, Int.cast_ofNat_Int, sg, AO.sg, Option.isNone_none]
      refine Cn_split (fun h3 => ?_) (fun h3 => ?_)
      · have hmt : m < nums.length := by simp at h3; omega
        have hwm := wrap_succ m (by omega)
        have hgm := encI_get nums m hmt
        have hnm : -9223372036854775808 ≤ nums.getD m 0 ∧ nums.getD m 0 ≤ 9223372036854775807 := by
          have := hw5 _ (getD_mem nums m 0 hmt)
          omega
        rw [drop_getD nums m 0 hmt] at he2
        generalize hk : nums.getD m 0 = k at *
        have hm0 : (0 : Int) ≤ (m : Int) ∧ (m : Int) < (nums.length : Int) := by omega
        simp only [go_sem, ↓reduceIte, Nat.reduceLT, Nat.reduceLeDiff, Nat.reduceEqDiff, Nat.reduceAdd, Nat.reduceMul, Nat.reduceSub, reduceCtorEq, Int.reduceLT, Int.reduceLE, Int.reduceEq, Int.reduceToNat, decide_true, decide_false, Int.reduceNeg, Int.cast_ofNat_Int, sg, AO.sg, Option.isNone_none, encI_len, Int.toNat_natCast, hgm, hm0]
        refine X_any [(7, .box [.p (.int .i64 line), .ref 26 0 fs.length fs.length]), (1000000, (.glob 0 tabCs))] mixed (p := [(0, 0), (1, 0), (2, 0), (3, 2), (4, 1), (5, 2), (6, 0), (7, 3)]) (by kernel_rfl) (by simp [LeH, get]) ?_
        simp only [go_sem, ↓reduceIte, Nat.reduceLT, Nat.reduceLeDiff, Nat.reduceEqDiff, Nat.reduceAdd, Nat.reduceMul, Nat.reduceSub, reduceCtorEq, Int.reduceLT, Int.reduceLE, Int.reduceEq, Int.reduceToNat, decide_true, decide_false, Int.reduceNeg, Int.cast_ofNat_Int, sg, AO.sg, Option.isNone_none]
        refine Gh_of (itoa_ok k hnm.1 hnm.2) ?_
        rintro h' r ⟨rfl, rfl⟩
        simp only [go_sem, ↓reduceIte, Nat.reduceLT, Nat.reduceLeDiff, Nat.reduceEqDiff, Nat.reduceAdd, Nat.reduceMul, Nat.reduceSub, reduceCtorEq, Int.reduceLT, Int.reduceLE, Int.reduceEq, Int.reduceToNat, decide_true, decide_false, Int.reduceNeg, Int.cast_ofNat_Int, sg, AO.sg, Option.isNone_none, encS_len]
        refine ⟨⟨wid1 _ _ rfl, by omega⟩, ?_⟩
        simp only [go_sem, ↓reduceIte, Nat.reduceLT, Nat.reduceLeDiff, Nat.reduceEqDiff, Nat.reduceAdd, Nat.reduceMul, Nat.reduceSub, reduceCtorEq, Int.reduceLT, Int.reduceLE, Int.reduceEq, Int.reduceToNat, decide_true, decide_false, Int.reduceNeg, Int.cast_ofNat_Int, sg, AO.sg, Option.isNone_none, hwm]
        refine ih2 (m + 1, fs ++ [digV k]) _ ⟨hmt, by simp; omega, by rw [← he2]; simp⟩ (by simp only; omega) ?_
        (refine Wk.forget ?_; simp [Le, LeE, LeH, get, envIds, hpIds, KeepH, D.ids, idsL, AO.ids, setL, base, encS_snoc, encS_len]; done)
      · have hml : m = nums.length := by simp at h3; omega
        subst hml
        simp only [List.drop_length, List.map_nil, List.append_nil] at he2
        simp only [go_sem, ↓reduceIte, Nat.reduceLT, Nat.reduceLeDiff, Nat.reduceEqDiff, Nat.reduceAdd, Nat.reduceMul, Nat.reduceSub, reduceCtorEq, Int.reduceLT, Int.reduceLE, Int.reduceEq, Int.reduceToNat, decide_true, decide_false, Int.reduceNeg, Int.cast_ofNat_Int, sg, AO.sg, Option.isNone_none, encS_len, encL_len, encS_take fs fs.length (Nat.le_refl _), hw]
        refine ⟨⟨wid1 _ _ rfl, by omega⟩, ?_⟩
        simp only [fmtV, hv, if_true] at he
        refine ih (i + 1, acc ++ [⟨line, fs⟩]) _ ⟨hlt, by simp; omega, by rw [he2]; exact he⟩ (by simp only; omega) ?_
        (refine Wk.forget ?_; simp [Le, LeE, LeH, get, envIds, hpIds, KeepH, D.ids, idsL, AO.ids, setL, base, encL_snoc, encL_len]; done)
  · simp only [go_sem, ↓reduceIte, Nat.reduceLT, Nat.reduceLeDiff, Nat.reduceEqDiff, Nat.reduceAdd, Nat.reduceMul, Nat.reduceSub, reduceCtorEq, Int.reduceLT, Int.reduceLE, Int.reduceEq, Int.reduceToNat, decide_true, decide_false, Int.reduceNeg, Int.cast_ofNat_Int, sg, AO.sg, Option.isNone_none]
    have : i = d.length := by simp at h2; omega
    subst this
    refine end_pure ?_
    simp only [go_sem, ↓reduceIte, Nat.reduceLT, Nat.reduceLeDiff, Nat.reduceEqDiff, Nat.reduceAdd, Nat.reduceMul, Nat.reduceSub, reduceCtorEq, Int.reduceLT, Int.reduceLE, Int.reduceEq, Int.reduceToNat, decide_true, decide_false, Int.reduceNeg, Int.cast_ofNat_Int, sg, AO.sg, Option.isNone_none]
    rw [List.drop_length] at he
    simp only [fmtV] at he
    rw [← he, encL_take _ _ (Nat.le_refl _)]
    exact ⟨(encL_len acc).symm, rfl⟩
theorem fmtL_ok (d : List Dc) (hd : d.length ≤ 10000000) (hs : ∀ x ∈ d, x.names.length ≤ 10000000 ∧ x.nums.length ≤ 10000000 ∧ ∀ n ∈ x.nums, -9223372036854775808 ≤ n ∧ n ≤ 9223372036854775807) :
    ACalls Tryz.prog 9 [.p (.sl (encC d))] [(1000000, (.glob 0 tabCs))] fun h r => h = [(1000000, (.glob 0 tabCs))] ∧ r = fmtR (fmtV d []) := fmtLx_ok d hd fun x hx => ⟨(hs x hx).1, (hs x hx).2.1⟩
end Go.Am
end

section
/- known, of the law of layer 2. -/
namespace Go.Am
open Go Go.Proofs
set_option maxRecDepth 100000
set_option linter.unusedVariables false
set_option linter.unusedSimpArgs false
theorem known_ok : ACalls Tryz.prog 6 [] [] fun h r => h = [] ∧ r = .p (.bool true) := by
  refine ACalls_X Tryz.func6 rfl enters6 (by simp [Tryz.f6]) ?_
  have k1 := parsel_ok [⟨4, [[108, 97, 110, 101], [97], [98], [99]]⟩] (by decide) (by decide)
  have k2 := parsel_ok [⟨7, [[108, 97, 110, 101], [97]]⟩] (by decide) (by decide)
  have k3 := parsel_ok [⟨1, [[98, 108, 111, 99, 107], [49], [49], [49]]⟩] (by decide) (by decide)
  have k4 := parsel_ok [⟨1, [[98, 108, 111, 99, 107], [97], [49], [120]]⟩] (by decide) (by decide)
  have e1 : parseR (parseV [⟨4, [[108, 97, 110, 101], [97], [98], [99]]⟩] []) = .tup [.p (.sl [[.int .i64 2, .int .i64 4, .sl [[.str [97]], [.str [98]], [.str [99]]], .sl []]]), .p (.int .i64 0), .p (.int .i64 0)] := by kernel_rfl
  have e2 : parseR (parseV [⟨7, [[108, 97, 110, 101], [97]]⟩] []) = .tup [.p (.sl []), .p (.int .i64 7), .p (.int .i64 5)] := by kernel_rfl
  have e3 : parseR (parseV [⟨1, [[98, 108, 111, 99, 107], [49], [49], [49]]⟩] []) = .tup [.p (.sl []), .p (.int .i64 1), .p (.int .i64 6)] := by kernel_rfl
  have e4 : parseR (parseV [⟨1, [[98, 108, 111, 99, 107], [97], [49], [120]]⟩] []) = .tup [.p (.sl []), .p (.int .i64 1), .p (.int .i64 7)] := by kernel_rfl
  rw [e1] at k1
  rw [e2] at k2
  rw [e3] at k3
  rw [e4] at k4
  simp only [go_sem, ↓reduceIte, Nat.reduceLT, Nat.reduceLeDiff, Nat.reduceEqDiff, Nat.reduceAdd, Nat.reduceMul, Nat.reduceSub, reduceCtorEq, Int.reduceLT, Int.reduceLE, Int.reduceEq, Int.reduceToNat, decide_true, decide_false, Int.reduceNeg, Int.cast_ofNat_Int, sg, AO.sg, Option.isNone_none]
  refine Cc_of k1 ?_
  rintro h' r ⟨rfl, rfl⟩
  simp only [go_sem, ↓reduceIte, Nat.reduceLT, Nat.reduceLeDiff, Nat.reduceEqDiff, Nat.reduceAdd, Nat.reduceMul, Nat.reduceSub, reduceCtorEq, Int.reduceLT, Int.reduceLE, Int.reduceEq, Int.reduceToNat, decide_true, decide_false, Int.reduceNeg, Int.cast_ofNat_Int, sg, AO.sg, Option.isNone_none]
  refine Cc_of k2 ?_
  rintro h' r ⟨rfl, rfl⟩
  simp only [go_sem, ↓reduceIte, Nat.reduceLT, Nat.reduceLeDiff, Nat.reduceEqDiff, Nat.reduceAdd, Nat.reduceMul, Nat.reduceSub, reduceCtorEq, Int.reduceLT, Int.reduceLE, Int.reduceEq, Int.reduceToNat, decide_true, decide_false, Int.reduceNeg, Int.cast_ofNat_Int, sg, AO.sg, Option.isNone_none]
  refine Cc_of k3 ?_
  rintro h' r ⟨rfl, rfl⟩
  simp only [go_sem, ↓reduceIte, Nat.reduceLT, Nat.reduceLeDiff, Nat.reduceEqDiff, Nat.reduceAdd, Nat.reduceMul, Nat.reduceSub, reduceCtorEq, Int.reduceLT, Int.reduceLE, Int.reduceEq, Int.reduceToNat, decide_true, decide_false, Int.reduceNeg, Int.cast_ofNat_Int, sg, AO.sg, Option.isNone_none]
  refine Cc_of k4 ?_
  rintro h' r ⟨rfl, rfl⟩
  simp only [go_sem, ↓reduceIte, Nat.reduceLT, Nat.reduceLeDiff, Nat.reduceEqDiff, Nat.reduceAdd, Nat.reduceMul, Nat.reduceSub, reduceCtorEq, Int.reduceLT, Int.reduceLE, Int.reduceEq, Int.reduceToNat, decide_true, decide_false, Int.reduceNeg, Int.cast_ofNat_Int, sg, AO.sg, Option.isNone_none, List.getD_cons_zero]
  refine Cc_of (valid_ok ⟨2, 4, [[97], [98], [99]], []⟩ (by decide)) ?_
  rintro h' r ⟨rfl, rfl⟩
  have ev : validV ⟨2, 4, [[97], [98], [99]], []⟩ = true := by kernel_rfl
  simp only [go_sem, ↓reduceIte, Nat.reduceLT, Nat.reduceLeDiff, Nat.reduceEqDiff, Nat.reduceAdd, Nat.reduceMul, Nat.reduceSub, reduceCtorEq, Int.reduceLT, Int.reduceLE, Int.reduceEq, Int.reduceToNat, decide_true, decide_false, Int.reduceNeg, Int.cast_ofNat_Int, sg, AO.sg, Option.isNone_none, ev]
end Go.Am
end
