/- Texts of this proof, what it rests on, merged: part F. -/
import Derived.Test.YtacfhnpmlpaojaaSbE
section
namespace Go.Am
open Go Go.Proofs
set_option maxRecDepth 100000
set_option linter.unusedVariables false
set_option linter.unusedSimpArgs false
def Bdr.h (b : Bdr) (k : Nat) : Hp := [(1000000, .box b.box), (1000001, .arr 74 3 (encK b.bl)), (1000002, .nst 24 3 1 k (encR b.nx) none), (1000003, .arr 61 6 (encP b.sp)),
  (1000004, .mp (mpS b.mb)), (1000005, .mp (mpS b.ms)), (1000006, .arr 3 1 (encI b.ba)), (1000007, .arr 98 2 (encQ b.pl))]
theorem Bdr.h_eq (b : Bdr) (k : Nat) : b.h k = [(1000000, .box [.ref 1000001 0 b.bl.length b.bl.length, .nref 1000002 b.nx.length, .ref 1000003 0 b.sp.length b.sp.length, .cl [], .p (.int .i64 b.cq), .p (.int .i64 b.ca), .p (.int .i64 b.cd), .p (.int .i64 b.cp),
  .mv 1000004, .mv 1000005, .ref 1000006 0 b.ba.length b.ba.length, .p (.int .i64 b.sl), .ref 1000007 0 b.pl.length b.pl.length, .p (.bool b.cf)]), (1000001, .arr 74 3 (encK b.bl)), (1000002, .nst 24 3 1 k (encR b.nx) none), (1000003, .arr 61 6 (encP b.sp)),
  (1000004, .mp (mpS b.mb)), (1000005, .mp (mpS b.ms)), (1000006, .arr 3 1 (encI b.ba)), (1000007, .arr 98 2 (encQ b.pl))] := rfl
def Bdr.namedV (b : Bdr) (x : List UInt8) : Bool := (getS b.mb x).isSome || (getS b.ms x).isSome
theorem named_ok (b : Bdr) (k : Nat) (x : List UInt8) : ACalls Try.prog 115 [.ptr 1000000 0, .p (.str x)] (b.h k) fun h r => h = b.h k ∧ r = .p (.bool (b.namedV x)) := by
  refine ACalls_X Try.func115 rfl enters115 (by simp [Try.f115]) ?_
  rw [Bdr.h_eq b k]
  simp only [go_sem, KK.fit, mfit_S, mget_S, look_S]
  cases c : (getS b.mb x).isSome
  · simp only [go_sem, c]
    try simp [Bdr.namedV, c]
  · simp only [go_sem, c]
    try simp [Bdr.namedV, c]
end Go.Am
end
section
namespace Go.Am
open Go Go.Proofs
set_option maxRecDepth 100000
set_option linter.unusedVariables false
set_option linter.unusedSimpArgs false
def Bdr.blockV (b : Bdr) (d : Dc) : Int × Bdr :=
  if b.namedV (d.names.getD 0 []) = true then (8, b) else if b.bl.length = 24 then (14, b) else
    (0, { b with mb := putS b.mb (d.names.getD 0 []) b.bl.length, bl := b.bl ++ [⟨d.names.getD 0 [], d.nums.getD 0 0, d.nums.getD 1 0⟩], nx := b.nx ++ [[]] })
theorem block_ok (b : Bdr) (k : Nat) (d : Dc) (h1 : 1 ≤ d.names.length) (h2 : 2 ≤ d.nums.length) (hb : b.bl.length ≤ 24) (hn : b.nx.length ≤ 24) :
    ACalls Try.prog 79 [.ptr 1000000 0, d.d] (b.h k) fun h r => ∃ k', h = (b.blockV d).2.h k' ∧ r = .p (.int .i64 (b.blockV d).1) := by
  have e1 := encS_get d.names 0 (by omega)
  have e2 := encI_get d.nums 0 (by omega)
  have e3 := encI_get d.nums 1 (by omega)
  refine ACalls_X Try.func79 rfl enters79 (by simp [Try.f79]) ?_
  rw [Bdr.h_eq b k]
  unfold Dc.d
  simp only [go_sem, encS_len, e1]
  refine ⟨by omega, ?_⟩
  refine Cc_of (named_ok b k _) ?_
  rintro h' r ⟨rfl, rfl⟩
  cases c : b.namedV (d.names.getD 0 [])
  rotate_left
  · simp only [go_sem, Bdr.h_eq b k, c]
    have hv : b.blockV d = (8, b) := by unfold Bdr.blockV; rw [if_pos c]
    rw [hv]
    exact ⟨k, rfl, rfl⟩
  cases c2 : decide ((b.bl.length : Int) = 24)
  rotate_left
  · simp only [go_sem, Bdr.h_eq b k, c, c2, encK_len]
    have c3 : b.bl.length = 24 := by have := of_decide_eq_true c2; omega
    have hv : b.blockV d = (14, b) := by unfold Bdr.blockV; rw [c, if_neg Bool.false_ne_true, if_pos c3]
    rw [hv]
    exact ⟨k, rfl, rfl⟩
  have c3 : ¬ b.bl.length = 24 := by have := of_decide_eq_false c2; omega
  simp only [go_sem, Bdr.h_eq b k, c, c2, encK_len]
  refine X_any [(1000000, .box b.box), (3, .box [.p (.int .i64 d.word), .p (.int .i64 d.line), .p (.sl (encS d.names)), .p (.sl (encI d.nums))]), (1000001, .arr 74 3 (encK b.bl))] mixed (p := [(0, 0), (1, 0), (2, 0), (3, 0), (4, 0), (5, 0), (6, 0), (7, 0), (8, 0), (9, 0), (10, 0), (11, 0), (12, 0), (13, 0), (14, 3)]) (by kernel_rfl) (by simp [LeH, get, Bdr.box]) ?_
  unfold Bdr.box
  simp only [go_sem, encS_len, e1, encK_len, KK.fit, mfit_S, mset_S, Pd.flat]
  refine ⟨by omega, ?_⟩
  refine X_any [(1000000, .box b.box), (3, .box [.p (.int .i64 d.word), .p (.int .i64 d.line), .p (.sl (encS d.names)), .p (.sl (encI d.nums))])] mixed (p := [(0, 0), (1, 0), (2, 0), (3, 0), (4, 0), (5, 0), (6, 0), (7, 0), (8, 0), (9, 0), (10, 0), (11, 0), (12, 0), (13, 0), (14, 0), (15, 0), (16, 0), (17, 0), (18, 0), (19, 1), (20, 2), (21, 0), (22, 0), (23, 0), (24, 3)]) (by kernel_rfl) (by simp [LeH, get, Bdr.box]) ?_
  unfold Bdr.box
  simp only [go_sem, encS_len, e1, encI_len, e2, e3, encK_len]
  refine ⟨by omega, by omega, by omega, ⟨wid1 _ _ rfl, by omega, by omega⟩, ?_⟩
  refine Af_bsnil rfl ti22 ti24 rfl rfl ?_
  simp only [go_sem]
  refine Af_nstapp rfl rfl rfl rfl ti22 ti22 ti24 rfl rfl (encR_len _).symm rfl rfl (by omega) (by omega) ?_
  simp only [go_sem]
  have hv : b.blockV d = (0, { b with mb := putS b.mb (d.names.getD 0 []) b.bl.length, bl := b.bl ++ [⟨d.names.getD 0 [], d.nums.getD 0 0, d.nums.getD 1 0⟩], nx := b.nx ++ [[]] }) := by
    unfold Bdr.blockV; rw [c, if_neg Bool.false_ne_true, if_neg c3]
  rw [hv]
  refine ⟨k + 1, ?_, rfl⟩
  simp only [Bdr.h_eq, encK_snoc, encR_snoc, List.length_append, List.length_cons, List.length_nil, Nat.zero_add, encK_len]
end Go.Am
end
section
namespace Go.Am
open Go Go.Proofs
set_option maxRecDepth 100000
set_option linter.unusedVariables false
set_option linter.unusedSimpArgs false
def idxV (l : List Int) (x : Int) : Int := if x ∈ l then ((l.idxOf x : Nat) : Int) else -1
theorem idxOf_at {x : Int} : ∀ (l : List Int) (i : Nat), i < l.length → l.getD i 0 = x → x ∉ l.take i → l.idxOf x = i
  | [], i, h, _, _ => by simp at h
  | y :: r, 0, _, h, _ => by simp at h; subst h; simp
  | y :: r, i + 1, h, h1, h2 => by
    simp only [List.take_succ_cons, List.mem_cons, not_or] at h2
    have := idxOf_at r i (by simpa using h) (by simpa [List.getD] using h1) h2.2
    rw [List.idxOf_cons, this]
    have : (y == x) = false := by simpa using fun e : y = x => h2.1 e.symm
    rw [this]; rfl
theorem idxV_at {l : List Int} {x : Int} {i : Nat} (hi : i < l.length) (hx : l.getD i 0 = x) (hn : x ∉ l.take i) : idxV l x = (i : Int) := by
  have h1 : x ∈ l := by rw [← hx]; exact getD_mem l i 0 hi
  unfold idxV
  rw [if_pos h1, idxOf_at l i hi hx hn]
theorem idxV_nonneg (l : List Int) (x : Int) : decide (0 ≤ idxV l x) = decide (x ∈ l) := by
  unfold idxV
  by_cases h : x ∈ l
  · rw [if_pos h]; simp [h]
  · rw [if_neg h]; simp [h]
theorem index_own (l : List Int) (x : Int) (hl : l.length ≤ 10000000) :
    ACalls Try.prog 75 [.ref 1000000 0 l.length l.length, .p (.int .i64 x)] [(1000000, .arr 3 1 (encI l))] fun h r => h = [(1000000, .arr 3 1 (encI l))] ∧ r = .p (.int .i64 (idxV l x)) := by
  refine ACalls_X Try.func75 rfl enters75 (by simp [Try.f75]) ?_
  simp only [go_sem, encI_len]
  refine X_loop_inv (fun i => ⟨[(0, .ref 1000000 0 l.length l.length), (1, .p (.int .i64 x)), (4, .p (.int .i64 0)), (7, .p (.int .i64 l.length)), (8, .p (.int .i64 (i : Nat)))], [(1000000, .arr 3 1 (encI l))], 19⟩) (fun i => i ≤ l.length ∧ x ∉ l.take i) (fun i => l.length - i) 0 ⟨Nat.zero_le _, by simp⟩ (Wk.forget (by simp [Le, LeE, LeH, get, envIds, hpIds, KeepH, D.ids, idsL, AO.ids, setL, base, encI])) ?_
  rintro i n ⟨hi, he⟩ ih
  simp only [go_sem, encI_len]
  refine Cn_split (fun h2 => ?_) (fun h2 => ?_)
  · have hlt : i < l.length := by simp at h2; omega
    have hw := wrap_succ i (by omega)
    have hg := encI_get l i hlt
    have hi0 : (0 : Int) ≤ (i : Int) ∧ (i : Int) < (l.length : Int) := by omega
    have hat := fun h => idxV_at (x := x) hlt h he
    have hx : l[i]? = some (l.getD i 0) := by simp [List.getD, hlt]
    generalize l.getD i 0 = y at *
    simp only [go_sem, encI_len, Int.toNat_natCast, hg, hi0]
    cases hv : decide (x = y)
    · simp only [go_sem, hv, hw]
      refine ih (i + 1) _ ⟨hlt, ?_⟩ (by omega) ?_
      · rw [List.take_add_one, hx]
        have : ¬ x = y := of_decide_eq_false hv
        simp [he, this]
      · (refine Wk.forget ?_; simp [Le, LeE, LeH, get, envIds, hpIds, KeepH, D.ids, idsL, AO.ids, setL, base, encI]; done)
    · simp only [go_sem, hv]
      rw [hat (of_decide_eq_true hv).symm]
      try simp
  · simp only [go_sem]
    have : i = l.length := by simp at h2; omega
    subst this
    rw [List.take_length] at he
    simp [idxV, he]
theorem contains_own (l : List Int) (x : Int) (hl : l.length ≤ 10000000) :
    ACalls Try.prog 48 [.ref 1000000 0 l.length l.length, .p (.int .i64 x)] [(1000000, .arr 3 1 (encI l))] fun h r => h = [(1000000, .arr 3 1 (encI l))] ∧ r = .p (.bool (decide (x ∈ l))) := by
  refine ACalls_X Try.func48 rfl enters48 (by simp [Try.f48]) ?_
  simp only [go_sem, encI_len]
  refine Cc_own rfl rfl ?_
  simp only [go_sem, callD_eq]
  refine Kc_of (index_own l x hl) ?_
  rintro h' r ⟨rfl, rfl⟩
  simp only [go_sem, idxV_nonneg]
theorem contains_row (rows : List (List Int)) (i k : Nat) (x : Int) (hi : i < rows.length) (hl : (rows.getD i []).length ≤ 10000000) :
    ACalls Try.prog 48 [.nr 1000000 i (rows.getD i []).length k, .p (.int .i64 x)] [(1000000, .nst 24 3 1 k (encR rows) none)] fun h r => h = [(1000000, .nst 24 3 1 k (encR rows) none)] ∧ r = .p (.bool (decide (x ∈ rows.getD i []))) := by
  have hg : (encR rows)[i]? = some (encI (rows.getD i [])) := by simp [encR, List.getD, hi]
  refine (ACalls_row (ps := [.int .i64 x]) hg (encI_len _).symm (contains_own (rows.getD i []) x hl) (R' := fun es r => es = encI (rows.getD i []) ∧ r = .p (.bool (decide (x ∈ rows.getD i [])))) ?_).mono ?_
  · rintro h' r ⟨rfl, rfl⟩
    exact ⟨_, rfl, encI_len _, .inr ⟨_, rfl⟩, rfl, rfl⟩
  · rintro h' r ⟨es', rfl, _, rfl, rfl⟩
    refine ⟨?_, rfl⟩
    congr 4
    apply List.ext_getElem?
    intro j
    rw [List.getElem?_set]
    split
    · rename_i e; subst e; rw [hg]; simp [encR, hi]
    · rfl
def Bdr.laneV (b : Bdr) (x y : List UInt8) : Int × Bdr :=
  match getS b.mb x, getS b.mb y with
  | some i, some j => if i = j then (10, b) else if j ∈ b.nx.getD i.toNat [] then (11, b) else if (b.nx.getD i.toNat []).length = 4 then (14, b) else
      (0, { b with nx := b.nx.set i.toNat (b.nx.getD i.toNat [] ++ [j]) })
  | _, _ => (9, b)
theorem lane_ok (b : Bdr) (k : Nat) (x y : List UInt8) (hm : ∀ x i, getS b.mb x = some i → ∃ n : Nat, i = (n : Int) ∧ n < b.nx.length) (hr : ∀ i, (b.nx.getD i []).length ≤ 24) :
    ACalls Try.prog 80 [.ptr 1000000 0, .p (.str x), .p (.str y)] (b.h k) fun h r => ∃ k', h = (b.laneV x y).2.h k' ∧ r = .p (.int .i64 (b.laneV x y).1) := by
  refine ACalls_X Try.func80 rfl enters80 (by simp [Try.f80]) ?_
  rw [Bdr.h_eq b k]
  cases c1 : getS b.mb x with
  | none =>
    simp only [go_sem, KK.fit, mfit_S, mget_S, lookD, c1, Option.isSome_none, Option.getD_none]
    have hv : b.laneV x y = (9, b) := by unfold Bdr.laneV; rw [c1]
    rw [hv]
    exact ⟨k, rfl, rfl⟩
  | some i =>
    cases c2 : getS b.mb y with
    | none =>
      simp only [go_sem, KK.fit, mfit_S, mget_S, lookD, c1, c2, Option.isSome_none, Option.getD_none]
      have hv : b.laneV x y = (9, b) := by unfold Bdr.laneV; rw [c1, c2]
      rw [hv]
      exact ⟨k, rfl, rfl⟩
    | some j =>
      obtain ⟨n, rfl, hn⟩ := hm x i c1
      cases c3 : decide ((n : Int) = j)
      rotate_left
      · simp only [go_sem, KK.fit, mfit_S, mget_S, lookD, c1, c2, c3]
        have c3' : (n : Int) = j := of_decide_eq_true c3
        have hv : b.laneV x y = (10, b) := by unfold Bdr.laneV; rw [c1, c2]; simp only; rw [if_pos c3']
        rw [hv]
        exact ⟨k, rfl, rfl⟩
      have c3' : ¬ (n : Int) = j := of_decide_eq_false c3
      have hn0 : (0 : Int) ≤ (n : Int) ∧ (n : Int) < (b.nx.length : Int) := by omega
      simp only [go_sem, KK.fit, mfit_S, mget_S, lookD, c1, c2, c3, hn0, Int.toNat_natCast, encR_get, encI_len, encR_len]
      refine Cc_of (contains_row b.nx n k j hn (by have := hr n; omega)) ?_
      rintro h' r ⟨rfl, rfl⟩
      cases c4 : decide (j ∈ b.nx.getD n [])
      rotate_left
      · simp only [go_sem, c4]
        have c4' : j ∈ b.nx.getD n [] := of_decide_eq_true c4
        have hv : b.laneV x y = (11, b) := by unfold Bdr.laneV; rw [c1, c2]; simp only [Int.toNat_natCast]; rw [if_neg c3', if_pos c4']
        rw [hv]
        exact ⟨k, rfl, rfl⟩
      have c4' : ¬ j ∈ b.nx.getD n [] := of_decide_eq_false c4
      have hrn := hr n
      cases c5 : decide (((b.nx.getD n []).length : Int) = 4)
      rotate_left
      · simp only [go_sem, c4, c5, hn0, Int.toNat_natCast, encR_get, encI_len, encR_len]
        have c5' : (b.nx.getD n []).length = 4 := by have := of_decide_eq_true c5; omega
        have hv : b.laneV x y = (14, b) := by unfold Bdr.laneV; rw [c1, c2]; simp only [Int.toNat_natCast]; rw [if_neg c3', if_neg c4', if_pos c5']
        rw [hv]
        exact ⟨k, rfl, rfl⟩
      have c5' : ¬ (b.nx.getD n []).length = 4 := by have := of_decide_eq_false c5; omega
      simp only [go_sem, c4, c5, hn0, Int.toNat_natCast, encR_get, encI_len, encR_len]
      refine X_any [(1000000, .box b.box)] mixed (p := [(0, 0), (1, 0), (2, 0), (3, 0), (4, 0), (5, 0), (6, 0), (7, 0), (8, 0), (9, 0), (10, 0), (11, 0), (12, 0), (14, 0), (15, 1), (13, 2), (16, 2), (17, 0), (18, 3)]) (by kernel_rfl) (by simp [LeH, get, Bdr.box]) ?_
      unfold Bdr.box
      simp only [go_sem, hn0, Int.toNat_natCast, encR_get, encI_len, encR_len]
      refine ⟨⟨wid1 _ _ rfl, hn, by omega, by omega⟩, ?_⟩
      have hv : b.laneV x y = (0, { b with nx := b.nx.set n (b.nx.getD n [] ++ [j]) }) := by
        unfold Bdr.laneV; rw [c1, c2]; simp only [Int.toNat_natCast]; rw [if_neg c3', if_neg c4', if_neg c5']
      rw [hv]
      refine ⟨k + 1 + 1, ?_, rfl⟩
      simp only [Bdr.h_eq, encR_set, encI_snoc, List.length_set]
end Go.Am
end
section
namespace Go.Am
open Go Go.Proofs
set_option maxRecDepth 100000
set_option linter.unusedVariables false
set_option linter.unusedSimpArgs false
def Bdr.spurV (b : Bdr) (d : Dc) : Int × Bdr :=
  if b.namedV (d.names.getD 0 []) = true then (8, b) else match getS b.mb (d.names.getD 1 []), getS b.mb (d.names.getD 2 []) with
  | some i, some j => if decide (d.nums.getD 0 0 < 1) = true then (12, b) else if decide (4 < d.nums.getD 0 0) = true then (12, b) else if b.sp.length = 6 then (14, b) else
      (0, { b with ms := putS b.ms (d.names.getD 0 []) b.sp.length, sp := b.sp ++ [⟨d.names.getD 0 [], decide (d.word = 4), i, j, d.nums.getD 0 0, 0⟩], ba := b.ba ++ [b.sl], sl := b.sl + d.nums.getD 0 0 })
  | _, _ => (9, b)
theorem spur_ok (b : Bdr) (k : Nat) (d : Dc) (h1 : 3 ≤ d.names.length) (h2 : 1 ≤ d.nums.length) (hb : b.sp.length ≤ 6) (hba : b.ba.length ≤ 6) (hs : 0 ≤ b.sl ∧ b.sl ≤ 1000) :
    ACalls Try.prog 83 [.ptr 1000000 0, d.d] (b.h k) fun h r => ∃ k', h = (b.spurV d).2.h k' ∧ r = .p (.int .i64 (b.spurV d).1) := by
  have e1 := encS_get d.names 0 (by omega)
  have e4 := encS_get d.names 1 (by omega)
  have e5 := encS_get d.names 2 (by omega)
  have e2 := encI_get d.nums 0 (by omega)
  refine ACalls_X Try.func83 rfl enters83 (by simp [Try.f83]) ?_
  rw [Bdr.h_eq b k]
  unfold Dc.d
  simp only [go_sem]
  cases c : b.namedV (d.names.getD 0 [])
  rotate_left
  · cases c1 : getS b.mb (d.names.getD 1 []) <;> cases c2 : getS b.mb (d.names.getD 2 []) <;>
    · skip
      refine X_any [(1000000, .box b.box), (3, .box [.p (.int .i64 d.word), .p (.int .i64 d.line), .p (.sl (encS d.names)), .p (.sl (encI d.nums))]), (1000004, .mp (mpS b.mb))] mixed (p := [(0, 0), (1, 0), (2, 0), (3, 0), (4, 0), (5, 0), (6, 0), (7, 0), (8, 0), (9, 0), (10, 0), (11, 0), (12, 0), (13, 0)]) (by kernel_rfl) (by simp [LeH, get, Bdr.box]) ?_
      unfold Bdr.box
      simp only [go_sem, encS_len, e1, e4, e5, KK.fit, mfit_S, mget_S, lookD, c1, c2, Option.isSome_none]
      refine ⟨by omega, ?_⟩
      refine X_any [(1000000, .box b.box), (3, .box [.p (.int .i64 d.word), .p (.int .i64 d.line), .p (.sl (encS d.names)), .p (.sl (encI d.nums))]), (1000004, .mp (mpS b.mb))] mixed (p := [(0, 0), (1, 0), (2, 0), (3, 0), (4, 0), (5, 0), (6, 0), (7, 0), (8, 0), (9, 0), (10, 0), (11, 0), (12, 0), (13, 0)]) (by kernel_rfl) (by simp [LeH, get, Bdr.box]) ?_
      unfold Bdr.box
      simp only [go_sem, encS_len, e1, e4, e5, KK.fit, mfit_S, mget_S, lookD, c1, c2, Option.isSome_none]
      refine ⟨by omega, by omega, ?_⟩
      refine Cc_of (named_ok b k _) ?_
      rintro h' r ⟨rfl, rfl⟩
      simp only [go_sem, Bdr.h_eq b k, c]
      have hv : b.spurV d = (8, b) := by unfold Bdr.spurV; simp only [c]; try simp
      rw [hv]
      exact ⟨k, rfl, rfl⟩
  cases c1 : getS b.mb (d.names.getD 1 []) with
  | none =>
    cases c2 : getS b.mb (d.names.getD 2 []) <;>
    · skip
      refine X_any [(1000000, .box b.box), (3, .box [.p (.int .i64 d.word), .p (.int .i64 d.line), .p (.sl (encS d.names)), .p (.sl (encI d.nums))]), (1000004, .mp (mpS b.mb))] mixed (p := [(0, 0), (1, 0), (2, 0), (3, 0), (4, 0), (5, 0), (6, 0), (7, 0), (8, 0), (9, 0), (10, 0), (11, 0), (12, 0), (13, 0)]) (by kernel_rfl) (by simp [LeH, get, Bdr.box]) ?_
      unfold Bdr.box
      simp only [go_sem, encS_len, e1, e4, e5, KK.fit, mfit_S, mget_S, lookD, c1, c2, Option.isSome_none]
      refine ⟨by omega, ?_⟩
      refine X_any [(1000000, .box b.box), (3, .box [.p (.int .i64 d.word), .p (.int .i64 d.line), .p (.sl (encS d.names)), .p (.sl (encI d.nums))]), (1000004, .mp (mpS b.mb))] mixed (p := [(0, 0), (1, 0), (2, 0), (3, 0), (4, 0), (5, 0), (6, 0), (7, 0), (8, 0), (9, 0), (10, 0), (11, 0), (12, 0), (13, 0)]) (by kernel_rfl) (by simp [LeH, get, Bdr.box]) ?_
      unfold Bdr.box
      simp only [go_sem, encS_len, e1, e4, e5, KK.fit, mfit_S, mget_S, lookD, c1, c2, Option.isSome_none]
      refine ⟨by omega, by omega, ?_⟩
      refine Cc_of (named_ok b k _) ?_
      rintro h' r ⟨rfl, rfl⟩
      simp only [go_sem, Bdr.h_eq b k, c]
      have hv : b.spurV d = (9, b) := by unfold Bdr.spurV; simp only [c, c1]; try simp
      rw [hv]
      exact ⟨k, rfl, rfl⟩
  | some i =>
    cases c2 : getS b.mb (d.names.getD 2 []) with
    | none =>
      refine X_any [(1000000, .box b.box), (3, .box [.p (.int .i64 d.word), .p (.int .i64 d.line), .p (.sl (encS d.names)), .p (.sl (encI d.nums))]), (1000004, .mp (mpS b.mb))] mixed (p := [(0, 0), (1, 0), (2, 0), (3, 0), (4, 0), (5, 0), (6, 0), (7, 0), (8, 0), (9, 0), (10, 0), (11, 0), (12, 0), (13, 0)]) (by kernel_rfl) (by simp [LeH, get, Bdr.box]) ?_
      unfold Bdr.box
      simp only [go_sem, encS_len, e1, e4, e5, KK.fit, mfit_S, mget_S, lookD, c1, c2, Option.isSome_none]
      refine ⟨by omega, ?_⟩
      refine X_any [(1000000, .box b.box), (3, .box [.p (.int .i64 d.word), .p (.int .i64 d.line), .p (.sl (encS d.names)), .p (.sl (encI d.nums))]), (1000004, .mp (mpS b.mb))] mixed (p := [(0, 0), (1, 0), (2, 0), (3, 0), (4, 0), (5, 0), (6, 0), (7, 0), (8, 0), (9, 0), (10, 0), (11, 0), (12, 0), (13, 0)]) (by kernel_rfl) (by simp [LeH, get, Bdr.box]) ?_
      unfold Bdr.box
      simp only [go_sem, encS_len, e1, e4, e5, KK.fit, mfit_S, mget_S, lookD, c1, c2, Option.isSome_none]
      refine ⟨by omega, by omega, ?_⟩
      refine Cc_of (named_ok b k _) ?_
      rintro h' r ⟨rfl, rfl⟩
      simp only [go_sem, Bdr.h_eq b k, c]
      have hv : b.spurV d = (9, b) := by unfold Bdr.spurV; simp only [c, c1, c2]; try simp
      rw [hv]
      exact ⟨k, rfl, rfl⟩
    | some j =>
      cases c3 : decide (d.nums.getD 0 0 < 1)
      rotate_left
      · skip
        refine X_any [(1000000, .box b.box), (3, .box [.p (.int .i64 d.word), .p (.int .i64 d.line), .p (.sl (encS d.names)), .p (.sl (encI d.nums))]), (1000004, .mp (mpS b.mb))] mixed (p := [(0, 0), (1, 0), (2, 0), (3, 0), (4, 0), (5, 0), (6, 0), (7, 0), (8, 0), (9, 0), (10, 0), (11, 0), (12, 0), (13, 0)]) (by kernel_rfl) (by simp [LeH, get, Bdr.box]) ?_
        unfold Bdr.box
        simp only [go_sem, encS_len, e1, e4, e5, KK.fit, mfit_S, mget_S, lookD, c1, c2]
        refine ⟨by omega, ?_⟩
        refine X_any [(1000000, .box b.box), (3, .box [.p (.int .i64 d.word), .p (.int .i64 d.line), .p (.sl (encS d.names)), .p (.sl (encI d.nums))]), (1000004, .mp (mpS b.mb))] mixed (p := [(0, 0), (1, 0), (2, 0), (3, 0), (4, 0), (5, 0), (6, 0), (7, 0), (8, 0), (9, 0), (10, 0), (11, 0), (12, 0), (13, 0)]) (by kernel_rfl) (by simp [LeH, get, Bdr.box]) ?_
        unfold Bdr.box
        simp only [go_sem, encS_len, e1, e4, e5, KK.fit, mfit_S, mget_S, lookD, c1, c2]
        refine ⟨by omega, by omega, ?_⟩
        refine Cc_of (named_ok b k _) ?_
        rintro h' r ⟨rfl, rfl⟩
        simp only [go_sem, Bdr.h_eq b k, c, encI_len, e2, c3]
        refine ⟨by omega, ?_⟩
        have hv : b.spurV d = (12, b) := by unfold Bdr.spurV; simp only [c, c1, c2, c3]; try simp
        rw [hv]
        exact ⟨k, rfl, rfl⟩
      cases c4 : decide (4 < d.nums.getD 0 0)
      rotate_left
      · skip
        refine X_any [(1000000, .box b.box), (3, .box [.p (.int .i64 d.word), .p (.int .i64 d.line), .p (.sl (encS d.names)), .p (.sl (encI d.nums))]), (1000004, .mp (mpS b.mb))] mixed (p := [(0, 0), (1, 0), (2, 0), (3, 0), (4, 0), (5, 0), (6, 0), (7, 0), (8, 0), (9, 0), (10, 0), (11, 0), (12, 0), (13, 0)]) (by kernel_rfl) (by simp [LeH, get, Bdr.box]) ?_
        unfold Bdr.box
        simp only [go_sem, encS_len, e1, e4, e5, KK.fit, mfit_S, mget_S, lookD, c1, c2]
        refine ⟨by omega, ?_⟩
        refine X_any [(1000000, .box b.box), (3, .box [.p (.int .i64 d.word), .p (.int .i64 d.line), .p (.sl (encS d.names)), .p (.sl (encI d.nums))]), (1000004, .mp (mpS b.mb))] mixed (p := [(0, 0), (1, 0), (2, 0), (3, 0), (4, 0), (5, 0), (6, 0), (7, 0), (8, 0), (9, 0), (10, 0), (11, 0), (12, 0), (13, 0)]) (by kernel_rfl) (by simp [LeH, get, Bdr.box]) ?_
        unfold Bdr.box
        simp only [go_sem, encS_len, e1, e4, e5, KK.fit, mfit_S, mget_S, lookD, c1, c2]
        refine ⟨by omega, by omega, ?_⟩
        refine Cc_of (named_ok b k _) ?_
        rintro h' r ⟨rfl, rfl⟩
        simp only [go_sem, Bdr.h_eq b k, c, encI_len, e2, c3, c4]
        refine ⟨by omega, by omega, ?_⟩
        have hv : b.spurV d = (12, b) := by unfold Bdr.spurV; simp only [c, c1, c2, c3, c4]; try simp
        rw [hv]
        exact ⟨k, rfl, rfl⟩
      have c3' : ¬ d.nums.getD 0 0 < 1 := of_decide_eq_false c3
      have c4' : ¬ 4 < d.nums.getD 0 0 := of_decide_eq_false c4
      cases c5 : decide ((b.sp.length : Int) = 6)
      rotate_left
      · skip
        refine X_any [(1000000, .box b.box), (3, .box [.p (.int .i64 d.word), .p (.int .i64 d.line), .p (.sl (encS d.names)), .p (.sl (encI d.nums))]), (1000004, .mp (mpS b.mb))] mixed (p := [(0, 0), (1, 0), (2, 0), (3, 0), (4, 0), (5, 0), (6, 0), (7, 0), (8, 0), (9, 0), (10, 0), (11, 0), (12, 0), (13, 0)]) (by kernel_rfl) (by simp [LeH, get, Bdr.box]) ?_
        unfold Bdr.box
        simp only [go_sem, encS_len, e1, e4, e5, KK.fit, mfit_S, mget_S, lookD, c1, c2]
        refine ⟨by omega, ?_⟩
        refine X_any [(1000000, .box b.box), (3, .box [.p (.int .i64 d.word), .p (.int .i64 d.line), .p (.sl (encS d.names)), .p (.sl (encI d.nums))]), (1000004, .mp (mpS b.mb))] mixed (p := [(0, 0), (1, 0), (2, 0), (3, 0), (4, 0), (5, 0), (6, 0), (7, 0), (8, 0), (9, 0), (10, 0), (11, 0), (12, 0), (13, 0)]) (by kernel_rfl) (by simp [LeH, get, Bdr.box]) ?_
        unfold Bdr.box
        simp only [go_sem, encS_len, e1, e4, e5, KK.fit, mfit_S, mget_S, lookD, c1, c2]
        refine ⟨by omega, by omega, ?_⟩
        refine Cc_of (named_ok b k _) ?_
        rintro h' r ⟨rfl, rfl⟩
        simp only [go_sem, Bdr.h_eq b k, c, encI_len, e2, c3, c4, c5, encP_len]
        refine ⟨by omega, by omega, ?_⟩
        have c5' : b.sp.length = 6 := by have := of_decide_eq_true c5; omega
        have hv : b.spurV d = (14, b) := by unfold Bdr.spurV; simp only [c, c1, c2, c3, c4, c5']; try simp
        rw [hv]
        exact ⟨k, rfl, rfl⟩
      have c5' : ¬ b.sp.length = 6 := by have := of_decide_eq_false c5; omega
      refine X_any [(1000000, .box b.box), (3, .box [.p (.int .i64 d.word), .p (.int .i64 d.line), .p (.sl (encS d.names)), .p (.sl (encI d.nums))]), (1000004, .mp (mpS b.mb))] mixed (p := [(0, 0), (1, 0), (2, 0), (3, 0), (4, 0), (5, 0), (6, 0), (7, 0), (8, 0), (9, 0), (10, 0), (11, 0), (12, 0), (13, 0)]) (by kernel_rfl) (by simp [LeH, get, Bdr.box]) ?_
      unfold Bdr.box
      simp only [go_sem, encS_len, e1, e4, e5, KK.fit, mfit_S, mget_S, lookD, c1, c2]
      refine ⟨by omega, ?_⟩
      refine X_any [(1000000, .box b.box), (3, .box [.p (.int .i64 d.word), .p (.int .i64 d.line), .p (.sl (encS d.names)), .p (.sl (encI d.nums))]), (1000004, .mp (mpS b.mb))] mixed (p := [(0, 0), (1, 0), (2, 0), (3, 0), (4, 0), (5, 0), (6, 0), (7, 0), (8, 0), (9, 0), (10, 0), (11, 0), (12, 0), (13, 0)]) (by kernel_rfl) (by simp [LeH, get, Bdr.box]) ?_
      unfold Bdr.box
      simp only [go_sem, encS_len, e1, e4, e5, KK.fit, mfit_S, mget_S, lookD, c1, c2]
      refine ⟨by omega, by omega, ?_⟩
      refine Cc_of (named_ok b k _) ?_
      rintro h' r ⟨rfl, rfl⟩
      simp only [go_sem, Bdr.h_eq b k, c, encI_len, e2, c3, c4, c5, encP_len]
      refine ⟨by omega, by omega, ?_⟩
      refine X_any [(1000000, .box b.box), (3, .box [.p (.int .i64 d.word), .p (.int .i64 d.line), .p (.sl (encS d.names)), .p (.sl (encI d.nums))]), (1000003, .arr 61 6 (encP b.sp))] mixed (p := [(0, 0), (1, 0), (2, 0), (3, 0), (4, 0), (5, 0), (6, 0), (7, 0), (8, 0), (9, 0), (10, 0), (11, 0), (12, 0), (13, 0), (14, 3)]) (by kernel_rfl) (by simp [LeH, get, Bdr.box]) ?_
      unfold Bdr.box
      simp only [go_sem, encS_len, e1, encP_len, KK.fit, mfit_S, mset_S, Pd.flat]
      refine ⟨by omega, ?_⟩
      refine X_any [(1000000, .box b.box), (3, .box [.p (.int .i64 d.word), .p (.int .i64 d.line), .p (.sl (encS d.names)), .p (.sl (encI d.nums))])] mixed (p := [(0, 0), (1, 0), (2, 0), (3, 0), (4, 0), (5, 0), (6, 0), (7, 0), (8, 0), (9, 0), (10, 0), (11, 0), (12, 0), (13, 0), (14, 0), (15, 0), (16, 0), (17, 0), (18, 0), (19, 0), (20, 1), (21, 2), (22, 0), (23, 0), (24, 0), (25, 3)]) (by kernel_rfl) (by simp [LeH, get, Bdr.box]) ?_
      unfold Bdr.box
      simp only [go_sem, encS_len, e1, encI_len, e2, encP_len, List.length_append]
      refine ⟨by omega, by omega, ⟨wid1 _ _ rfl, by omega, by omega⟩, ?_⟩
      refine X_any [(1000000, .box (Bdr.box { b with sp := b.sp ++ [⟨d.names.getD 0 [], decide (d.word = 4), i, j, d.nums.getD 0 0, 0⟩] }))] mixed (p := [(0, 0), (1, 0), (2, 0), (3, 0), (4, 0), (5, 0), (6, 0), (7, 0), (8, 0), (9, 1), (10, 2), (11, 0), (12, 0), (13, 3)]) (by kernel_rfl) (by simp [LeH, get, Bdr.box, encP_len]) ?_
      unfold Bdr.box
      simp only [go_sem, encI_len, List.length_append]
      refine ⟨⟨wid1 _ _ rfl, by omega, by omega⟩, ?_⟩
      have hw : IntKind.i64.wrap (b.sl + d.nums.getD 0 0) = b.sl + d.nums.getD 0 0 := by rw [wrap_i64_id] <;> omega
      refine X_any [(1000000, .box (Bdr.box { b with sp := b.sp ++ [⟨d.names.getD 0 [], decide (d.word = 4), i, j, d.nums.getD 0 0, 0⟩], ba := b.ba ++ [b.sl] })), (3, .box [.p (.int .i64 d.word), .p (.int .i64 d.line), .p (.sl (encS d.names)), .p (.sl (encI d.nums))])] mixed (p := [(0, 0), (1, 0), (2, 0), (3, 0), (4, 0), (5, 0), (6, 0), (7, 0), (8, 0), (9, 0), (10, 0), (11, 3)]) (by kernel_rfl) (by simp [LeH, get, Bdr.box, encP_len, encI_len]) ?_
      unfold Bdr.box
      simp only [go_sem, encI_len, e2, hw, List.length_append]
      refine ⟨by omega, ?_⟩
      have hv : b.spurV d = (0, { b with ms := putS b.ms (d.names.getD 0 []) b.sp.length, sp := b.sp ++ [⟨d.names.getD 0 [], decide (d.word = 4), i, j, d.nums.getD 0 0, 0⟩], ba := b.ba ++ [b.sl], sl := b.sl + d.nums.getD 0 0 }) := by
        unfold Bdr.spurV; simp only [c, c1, c2, c3, c4, if_neg c5', Bool.false_eq_true, if_false]
      rw [hv]
      refine ⟨k, ?_, rfl⟩
      simp only [Bdr.h_eq, encP_snoc, encI_snoc, List.length_append, List.length_cons, List.length_nil, Nat.zero_add]
end Go.Am
end
section
namespace Go.Am
open Go Go.Proofs
set_option maxRecDepth 100000
set_option linter.unusedVariables false
set_option linter.unusedSimpArgs false
def inV (n lo hi : Int) : Bool := decide (lo ≤ n) && decide (n ≤ hi)
theorem within_ok (n lo hi : Int) : ACalls Try.prog 61 [.p (.int .i64 n), .p (.int .i64 lo), .p (.int .i64 hi)] [] fun h r => h = [] ∧ r = .p (.bool (inV n lo hi)) := by
  refine ACalls_X Try.func61 rfl enters61 (by simp [Try.f61]) ?_
  cases c : decide (lo ≤ n)
  · simp only [go_sem, c]
    try simp [inV, c]
  · simp only [go_sem, c]
    try simp [inV, c]
def cfgV (q a d p : Int) : Bool := inV q 1 8 && (inV a 0 4 && (inV d 0 3 && inV p 1 16))
theorem validConfig_ok (q a d p : Int) : ACalls Try.prog 62 [.agg [.p (.int .i64 q), .p (.int .i64 a), .p (.int .i64 d), .p (.int .i64 p)]] [] fun h r => h = [] ∧ r = .p (.bool (cfgV q a d p)) := by
  refine ACalls_X Try.func62 rfl enters62 (by simp [Try.f62]) ?_
  simp only [go_sem]
  refine Cc_of ((within_ok q 1 8)) ?_
  rintro h' r ⟨rfl, rfl⟩
  cases c1 : inV q 1 8
  · simp only [go_sem, c1]
    try simp [cfgV, c1]
  simp only [go_sem, c1]
  refine Cc_of ((within_ok a 0 4)) ?_
  rintro h' r ⟨rfl, rfl⟩
  cases c2 : inV a 0 4
  · simp only [go_sem, c2]
    try simp [cfgV, c1, c2]
  simp only [go_sem, c2]
  refine Cc_of ((within_ok d 0 3)) ?_
  rintro h' r ⟨rfl, rfl⟩
  cases c3 : inV d 0 3
  · simp only [go_sem, c3]
    try simp [cfgV, c1, c2, c3]
  simp only [go_sem, c3]
  refine Cc_of ((within_ok p 1 16)) ?_
  rintro h' r ⟨rfl, rfl⟩
  simp only [go_sem]
  try simp [cfgV, c1, c2, c3]
def Bdr.configV (b : Bdr) (d : Dc) : Int × Bdr :=
  if b.cf = true then (11, b) else if cfgV (d.nums.getD 0 0) (d.nums.getD 1 0) (d.nums.getD 2 0) (d.nums.getD 3 0) = false then (19, b) else
    (0, { b with cq := d.nums.getD 0 0, ca := d.nums.getD 1 0, cd := d.nums.getD 2 0, cp := d.nums.getD 3 0, cf := true })
theorem config_ok (b : Bdr) (k : Nat) (d : Dc) (h2 : 4 ≤ d.nums.length) :
    ACalls Try.prog 82 [.ptr 1000000 0, d.d] (b.h k) fun h r => ∃ k', h = (b.configV d).2.h k' ∧ r = .p (.int .i64 (b.configV d).1) := by
  have e0 := encI_get d.nums 0 (by omega)
  have e1 := encI_get d.nums 1 (by omega)
  have e2 := encI_get d.nums 2 (by omega)
  have e3 := encI_get d.nums 3 (by omega)
  refine ACalls_X Try.func82 rfl enters82 (by simp [Try.f82]) ?_
  rw [Bdr.h_eq b k]
  unfold Dc.d
  simp only [go_sem]
  refine X_any [(3, .box [.p (.int .i64 d.word), .p (.int .i64 d.line), .p (.sl (encS d.names)), .p (.sl (encI d.nums))])] mixed (p := [(0, 0), (1, 0), (2, 0), (3, 0), (4, 0), (5, 0), (6, 0), (7, 0), (8, 0), (9, 0), (10, 0), (11, 0), (12, 0), (13, 0), (14, 0), (15, 0), (16, 0), (17, 1), (18, 3)]) (by kernel_rfl) (by simp [LeH, get]) ?_
  cases c : b.cf
  rotate_left
  · simp only [go_sem, encI_len, e0, e1, e2, e3, c]
    refine ⟨by omega, by omega, by omega, by omega, ?_⟩
    have hv : b.configV d = (11, b) := by unfold Bdr.configV; rw [if_pos c]
    rw [hv]
    refine ⟨k, ?_, rfl⟩
    rw [Bdr.h_eq, c]
  simp only [go_sem, encI_len, e0, e1, e2, e3, c]
  refine ⟨by omega, by omega, by omega, by omega, ?_⟩
  refine Cc_of ((validConfig_ok (d.nums.getD 0 0) (d.nums.getD 1 0) (d.nums.getD 2 0) (d.nums.getD 3 0))) ?_
  rintro h' r ⟨rfl, rfl⟩
  cases c2 : cfgV (d.nums.getD 0 0) (d.nums.getD 1 0) (d.nums.getD 2 0) (d.nums.getD 3 0)
  · simp only [go_sem, c2]
    have hv : b.configV d = (19, b) := by unfold Bdr.configV; rw [c, if_neg Bool.false_ne_true, if_pos c2]
    rw [hv]
    refine ⟨k, ?_, rfl⟩
    rw [Bdr.h_eq, c]
  simp only [go_sem, c2]
  have hv : b.configV d = (0, { b with cq := d.nums.getD 0 0, ca := d.nums.getD 1 0, cd := d.nums.getD 2 0, cp := d.nums.getD 3 0, cf := true }) := by unfold Bdr.configV; rw [c, if_neg Bool.false_ne_true, c2, if_neg (by simp)]
  rw [hv]
  exact ⟨k, rfl, rfl⟩
end Go.Am
end
section
namespace Go.Am
open Go Go.Proofs
set_option maxRecDepth 100000
set_option linter.unusedVariables false
set_option linter.unusedSimpArgs false
def idxP (l : List (Int × Int)) (x : Int × Int) : Int := if x ∈ l then ((l.idxOf x : Nat) : Int) else -1
theorem idxOfP_at {x : Int × Int} : ∀ (l : List (Int × Int)) (i : Nat), i < l.length → l.getD i (0, 0) = x → x ∉ l.take i → l.idxOf x = i
  | [], i, h, _, _ => by simp at h
  | y :: r, 0, _, h, _ => by simp at h; subst h; simp
  | y :: r, i + 1, h, h1, h2 => by
    simp only [List.take_succ_cons, List.mem_cons, not_or] at h2
    have := idxOfP_at r i (by simpa using h) (by simpa [List.getD] using h1) h2.2
    rw [List.idxOf_cons, this]
    have : (y == x) = false := by simpa using fun e : y = x => h2.1 e.symm
    rw [this]; rfl
theorem idxP_at {l : List (Int × Int)} {x : Int × Int} {i : Nat} (hi : i < l.length) (hx : l.getD i (0, 0) = x) (hn : x ∉ l.take i) : idxP l x = (i : Int) := by
  have h1 : x ∈ l := by rw [← hx]; exact getD_mem l i (0, 0) hi
  unfold idxP
  rw [if_pos h1, idxOfP_at l i hi hx hn]
theorem idxP_nonneg (l : List (Int × Int)) (x : Int × Int) : decide (0 ≤ idxP l x) = decide (x ∈ l) := by
  unfold idxP
  by_cases h : x ∈ l
  · rw [if_pos h]; simp [h]
  · rw [if_neg h]; simp [h]
theorem encQ_get (l : List (Int × Int)) (i : Nat) (h : i < l.length) : (encQ l).getD i [] = [.int .i64 (l.getD i (0, 0)).1, .int .i64 (l.getD i (0, 0)).2] := by simp [encQ, List.getD, h]
theorem indexP_own (l : List (Int × Int)) (x : Int × Int) (hl : l.length ≤ 10000000) :
    ACalls Try.prog 130 [.ref 1000000 0 l.length l.length, .agg [.p (.int .i64 x.1), .p (.int .i64 x.2)]] [(1000000, .arr 98 2 (encQ l))] fun h r => h = [(1000000, .arr 98 2 (encQ l))] ∧ r = .p (.int .i64 (idxP l x)) := by
  refine ACalls_X Try.func130 rfl enters130 (by simp [Try.f130]) ?_
  simp only [go_sem, encQ_len]
  refine X_loop_inv (fun i => ⟨[(0, .ref 1000000 0 l.length l.length), (3, .ptr 3 0), (4, .p (.int .i64 0)), (7, .p (.int .i64 l.length)), (8, .p (.int .i64 (i : Nat)))], [(3, .box [.p (.int .i64 x.1), .p (.int .i64 x.2)]), (1000000, .arr 98 2 (encQ l))], 19⟩) (fun i => i ≤ l.length ∧ x ∉ l.take i) (fun i => l.length - i) 0 ⟨Nat.zero_le _, by simp⟩ (Wk.forget (by simp [Le, LeE, LeH, get, envIds, hpIds, KeepH, D.ids, idsL, AO.ids, setL, base, encQ])) ?_
  rintro i n ⟨hi, he⟩ ih
  simp only [go_sem, encQ_len]
  refine Cn_split (fun h2 => ?_) (fun h2 => ?_)
  · have hlt : i < l.length := by simp at h2; omega
    have hw := wrap_succ i (by omega)
    have hg := encQ_get l i hlt
    have hi0 : (0 : Int) ≤ (i : Int) ∧ (i : Int) < (l.length : Int) := by omega
    have hat := fun h => idxP_at (x := x) hlt h he
    have hx : l[i]? = some (l.getD i (0, 0)) := by simp [List.getD, hlt]
    generalize l.getD i (0, 0) = y at *
    simp only [go_sem, encQ_len, Int.toNat_natCast, hg, hi0]
    refine X_any [(3, .box [.p (.int .i64 x.1), .p (.int .i64 x.2)]), (1000000, .arr 98 2 (encQ l))] mixed (p := [(0, 0), (1, 0), (2, 0), (3, 0), (4, 0), (5, 0)]) (by kernel_rfl) (by simp [LeH, get]) ?_
    cases h1 : decide (x.1 = y.1)
    · simp only [go_sem, encQ_len, Int.toNat_natCast, hg, hi0, h1, hw]
      have hne : ¬ x = y := fun e => (of_decide_eq_false h1) (by rw [e])
      refine ih (i + 1) _ ⟨hlt, by rw [List.take_add_one, hx]; simp [he, hne]⟩ (by omega) ?_
      (refine Wk.forget ?_; simp [Le, LeE, LeH, get, envIds, hpIds, KeepH, D.ids, idsL, AO.ids, setL, base, encQ]; done)
    cases h2 : decide (x.2 = y.2)
    · simp only [go_sem, encQ_len, Int.toNat_natCast, hg, hi0, h1, h2, hw]
      have hne : ¬ x = y := fun e => (of_decide_eq_false h2) (by rw [e])
      refine ih (i + 1) _ ⟨hlt, by rw [List.take_add_one, hx]; simp [he, hne]⟩ (by omega) ?_
      (refine Wk.forget ?_; simp [Le, LeE, LeH, get, envIds, hpIds, KeepH, D.ids, idsL, AO.ids, setL, base, encQ]; done)
    · simp only [go_sem, encQ_len, Int.toNat_natCast, hg, hi0, h1, h2, hw]
      rw [hat (Prod.ext (of_decide_eq_true h1).symm (of_decide_eq_true h2).symm)]
  · simp only [go_sem]
    have : i = l.length := by simp at h2; omega
    subst this
    rw [List.take_length] at he
    simp [idxP, he]
theorem containsP_own (l : List (Int × Int)) (x : Int × Int) (hl : l.length ≤ 10000000) :
    ACalls Try.prog 116 [.ref 1000000 0 l.length l.length, .agg [.p (.int .i64 x.1), .p (.int .i64 x.2)]] [(1000000, .arr 98 2 (encQ l))] fun h r => h = [(1000000, .arr 98 2 (encQ l))] ∧ r = .p (.bool (decide (x ∈ l))) := by
  refine ACalls_X Try.func116 rfl enters116 (by simp [Try.f116]) ?_
  simp only [go_sem, encQ_len]
  refine Cc_own rfl rfl ?_
  simp only [go_sem, callD_eq]
  refine Kc_of (indexP_own l x hl) ?_
  rintro h' r ⟨rfl, rfl⟩
  simp only [go_sem, idxP_nonneg]
end Go.Am
end
section
namespace Go.Am
open Go Go.Proofs
set_option maxRecDepth 100000
set_option linter.unusedVariables false
set_option linter.unusedSimpArgs false
def Bdr.robotV (b : Bdr) (d : Dc) : Int × Bdr :=
  match getS b.ms (d.names.getD 0 []) with
  | none => (9, b)
  | some i => if (b.sp.getD i.toNat spr0).depot = false then (9, b) else if decide (d.nums.getD 0 0 < 1) = true then (12, b) else if decide ((b.sp.getD i.toNat spr0).slots < d.nums.getD 0 0) = true then (12, b) else
      if (i, d.nums.getD 0 0) ∈ b.pl then (13, b) else if b.pl.length = 8 then (14, b) else (0, { b with pl := b.pl ++ [(i, d.nums.getD 0 0)] })
theorem robot_ok (b : Bdr) (k : Nat) (d : Dc) (h1 : 1 ≤ d.names.length) (h2 : 1 ≤ d.nums.length) (hb : b.pl.length ≤ 8) (hm : ∀ x i, getS b.ms x = some i → ∃ n : Nat, i = (n : Int) ∧ n < b.sp.length) :
    ACalls Try.prog 81 [.ptr 1000000 0, d.d] (b.h k) fun h r => ∃ k', h = (b.robotV d).2.h k' ∧ r = .p (.int .i64 (b.robotV d).1) := by
  have e1 := encS_get d.names 0 (by omega)
  have e2 := encI_get d.nums 0 (by omega)
  refine ACalls_X Try.func81 rfl enters81 (by simp [Try.f81]) ?_
  rw [Bdr.h_eq b k]
  unfold Dc.d
  simp only [go_sem]
  refine X_any [(1000000, .box b.box), (3, .box [.p (.int .i64 d.word), .p (.int .i64 d.line), .p (.sl (encS d.names)), .p (.sl (encI d.nums))]), (1000005, .mp (mpS b.ms))] mixed (p := [(0, 0), (1, 0), (2, 0), (3, 0), (4, 0), (5, 0), (6, 0), (7, 0), (8, 0), (9, 0), (10, 0), (11, 0), (12, 0), (13, 0)]) (by kernel_rfl) (by simp [LeH, get, Bdr.box]) ?_
  unfold Bdr.box
  cases c1 : getS b.ms (d.names.getD 0 []) with
  | none =>
    simp only [go_sem, encS_len, e1, KK.fit, mfit_S, mget_S, lookD, c1, Option.isSome_none, encI_len, e2]
    refine ⟨by omega, by omega, ?_⟩
    have hv : b.robotV d = (9, b) := by unfold Bdr.robotV; rw [c1]
    rw [hv]
    exact ⟨k, rfl, rfl⟩
  | some i =>
    obtain ⟨n, rfl, hn⟩ := hm _ i c1
    have hn0 : (0 : Int) ≤ (n : Int) ∧ (n : Int) < (b.sp.length : Int) := by omega
    have hg := encP_get b.sp n hn
    cases c2 : (b.sp.getD n spr0).depot
    · simp only [go_sem, encS_len, e1, KK.fit, mfit_S, mget_S, lookD, c1, encI_len, e2, encP_len, hn0, Int.toNat_natCast, hg, c2]
      refine ⟨by omega, by omega, ?_⟩
      have hv : b.robotV d = (9, b) := by unfold Bdr.robotV; rw [c1]; simp only [Int.toNat_natCast, c2, if_true]
      rw [hv]
      exact ⟨k, rfl, rfl⟩
    cases c3 : decide (d.nums.getD 0 0 < 1)
    rotate_left
    · simp only [go_sem, encS_len, e1, KK.fit, mfit_S, mget_S, lookD, c1, encI_len, e2, encP_len, hn0, Int.toNat_natCast, hg, c2, c3]
      refine ⟨by omega, by omega, ?_⟩
      have hv : b.robotV d = (12, b) := by unfold Bdr.robotV; rw [c1]; simp only [Int.toNat_natCast, c2, c3, Bool.true_eq_false, if_false, if_true]
      rw [hv]
      exact ⟨k, rfl, rfl⟩
    cases c4 : decide ((b.sp.getD n spr0).slots < d.nums.getD 0 0)
    rotate_left
    · simp only [go_sem, encS_len, e1, KK.fit, mfit_S, mget_S, lookD, c1, encI_len, e2, encP_len, hn0, Int.toNat_natCast, hg, c2, c3, c4]
      refine ⟨by omega, by omega, ?_⟩
      have hv : b.robotV d = (12, b) := by unfold Bdr.robotV; rw [c1]; simp only [Int.toNat_natCast, c2, c3, c4, Bool.true_eq_false, Bool.false_eq_true, if_false, if_true]
      rw [hv]
      exact ⟨k, rfl, rfl⟩
    simp only [go_sem, encS_len, e1, KK.fit, mfit_S, mget_S, lookD, c1, encI_len, e2, encP_len, hn0, Int.toNat_natCast, hg, c2, c3, c4, encQ_len]
    refine ⟨by omega, by omega, ?_⟩
    refine Cc_own rfl rfl ?_
    simp only [go_sem, callD_eq]
    refine Kc_of (containsP_own b.pl ((n : Int), d.nums.getD 0 0) (by omega)) ?_
    rintro h' r ⟨rfl, rfl⟩
    cases c5 : decide (((n : Int), d.nums.getD 0 0) ∈ b.pl)
    rotate_left
    · simp only [go_sem, c5]
      have hv : b.robotV d = (13, b) := by unfold Bdr.robotV; rw [c1]; simp only [Int.toNat_natCast, c2, c3, c4, Bool.true_eq_false, Bool.false_eq_true, if_false, if_true, if_pos (of_decide_eq_true c5)]
      rw [hv]
      exact ⟨k, rfl, rfl⟩
    have c5' := of_decide_eq_false c5
    cases c6 : decide ((b.pl.length : Int) = 8)
    rotate_left
    · simp only [go_sem, c5, c6, encQ_len]
      have c6' : b.pl.length = 8 := by have := of_decide_eq_true c6; omega
      have hv : b.robotV d = (14, b) := by unfold Bdr.robotV; rw [c1]; simp only [Int.toNat_natCast, c2, c3, c4, Bool.true_eq_false, Bool.false_eq_true, if_false, if_true, if_neg c5', if_pos c6']
      rw [hv]
      exact ⟨k, rfl, rfl⟩
    have c6' : ¬ b.pl.length = 8 := by have := of_decide_eq_false c6; omega
    simp only [go_sem, c5, c6, encQ_len]
    refine ⟨⟨wid1 _ _ rfl, by omega, by omega⟩, ?_⟩
    have hv : b.robotV d = (0, { b with pl := b.pl ++ [((n : Int), d.nums.getD 0 0)] }) := by unfold Bdr.robotV; rw [c1]; simp only [Int.toNat_natCast, c2, c3, c4, Bool.true_eq_false, Bool.false_eq_true, if_false, if_neg c5', if_neg c6']
    rw [hv]
    refine ⟨k, ?_, rfl⟩
    simp only [Bdr.h_eq, encQ_snoc, encQ_len, List.length_append, List.length_cons, List.length_nil, Nat.zero_add]
end Go.Am
end
section
namespace Go.Am
open Go Go.Proofs
set_option maxRecDepth 100000
set_option linter.unusedVariables false
set_option linter.unusedSimpArgs false
def Bdr.lanesV : Bdr → List (List UInt8) → Int × Bdr
  | b, x :: y :: r => if (b.laneV x y).1 = 0 then Bdr.lanesV (b.laneV x y).2 (y :: r) else b.laneV x y
  | b, _ => (0, b)
def Bdr.addV (b : Bdr) (d : Dc) : Int × Bdr :=
  if validV d = false then (20, b) else if decide (d.word = 1) = true then b.blockV d else if decide (d.word = 2) = true then b.lanesV d.names else
    if decide (d.word = 5) = true then b.robotV d else if decide (d.word = 6) = true then b.configV d else b.spurV d
structure BI (b : Bdr) : Prop where
  nb : b.bl.length ≤ 24
  nn : b.nx.length = b.bl.length
  mb : ∀ x i, getS b.mb x = some i → ∃ n : Nat, i = (n : Int) ∧ n < b.bl.length
  ms : ∀ x i, getS b.ms x = some i → ∃ n : Nat, i = (n : Int) ∧ n < b.sp.length
  row : ∀ i, (b.nx.getD i []).length ≤ 4
  ns : b.sp.length ≤ 6
  nba : b.ba.length = b.sp.length
  sl : 0 ≤ b.sl ∧ b.sl ≤ 4 * b.sp.length
  np : b.pl.length ≤ 8
  bas : ∀ x ∈ b.ba, 0 ≤ x ∧ x ≤ 24
  sps : ∀ s ∈ b.sp, 1 ≤ s.slots ∧ s.slots ≤ 4
  pls : ∀ p ∈ b.pl, (∃ n : Nat, p.1 = (n : Int) ∧ n < b.sp.length) ∧ 1 ≤ p.2 ∧ p.2 ≤ 4
theorem getS_cons (p : List UInt8 × Int) (r : List (List UInt8 × Int)) (x : List UInt8) : getS (p :: r) x = if p.1 = x then some p.2 else getS r x := by
  unfold getS
  rw [List.find?_cons]
  by_cases h : p.1 = x
  · simp [h]
  · rw [if_neg h, beq_eq_false_iff_ne.2 h]
theorem putS_cons (p : List UInt8 × Int) (r : List (List UInt8 × Int)) (k : List UInt8) (v : Int) : putS (p :: r) k v = if p.1 = k then (k, v) :: r else p :: putS r k v := rfl
theorem getS_putS (m : List (List UInt8 × Int)) (k : List UInt8) (v : Int) (x : List UInt8) : getS (putS m k v) x = if x = k then some v else getS m x := by
  induction m with
  | nil =>
    have : putS [] k v = [(k, v)] := rfl
    rw [this, getS_cons]
    by_cases h : x = k
    · rw [if_pos h, if_pos h.symm]
    · rw [if_neg h, if_neg (Ne.symm h)]
  | cons p r ih =>
    rw [putS_cons, getS_cons]
    by_cases h : p.1 = k
    · rw [if_pos h, getS_cons]
      by_cases h2 : x = k
      · rw [if_pos h2, if_pos h2.symm]
      · rw [if_neg h2, if_neg (Ne.symm h2), if_neg (fun e => h2 (by rw [← e, ← h]))]
    · rw [if_neg h, getS_cons, ih]
      by_cases h2 : p.1 = x
      · rw [if_pos h2, if_pos h2, if_neg (fun e => h (by rw [h2, e]))]
      · rw [if_neg h2, if_neg h2]
theorem BI.block {b : Bdr} (h : BI b) (d : Dc) : BI (b.blockV d).2 := by
  unfold Bdr.blockV
  split
  · exact h
  · split
    · exact h
    · rename_i h1 h2
      have hl : b.bl.length < 24 := by have := h.nb; omega
      refine ⟨by simp; omega, by simp [h.nn], fun x i hx => ?_, h.ms, fun i => ?_, h.ns, h.nba, h.sl, h.np, h.bas, h.sps, h.pls⟩
      · simp only [getS_putS] at hx
        split at hx
        · cases hx; exact ⟨_, rfl, by simp⟩
        · obtain ⟨n, h3, h4⟩ := h.mb x i hx
          exact ⟨n, h3, by simp; omega⟩
      · simp only [List.getD, List.getElem?_append]
        split
        · have := h.row i; simpa [List.getD] using this
        · rcases hj : i - b.nx.length with _ | j <;> simp
theorem BI.lane {b : Bdr} (h : BI b) (x y : List UInt8) : BI (b.laneV x y).2 := by
  unfold Bdr.laneV
  split
  · rename_i i j h1 h2
    split
    · exact h
    · split
      · exact h
      · split
        · exact h
        · rename_i h3 h4 h5
          obtain ⟨n, rfl, hn⟩ := h.mb x i h1
          refine ⟨h.nb, by simp [h.nn], h.mb, h.ms, fun k => ?_, h.ns, h.nba, h.sl, h.np, h.bas, h.sps, h.pls⟩
          simp only [Int.toNat_natCast] at h5 ⊢
          have hr := h.row n
          have hrk := h.row k
          simp only [List.getD, List.getElem?_set]
          split
          · rename_i e
            subst e
            split
            · simp only [Option.getD_some, List.length_append, List.length_cons, List.length_nil]
              simp only [List.getD] at h5 hr
              omega
            · simp
          · simpa [List.getD] using hrk
  · exact h
theorem BI.lanes : ∀ {l : List (List UInt8)} {b : Bdr}, BI b → BI (b.lanesV l).2
  | [], b, h => h
  | [x], b, h => h
  | x :: y :: r, b, h => by
    simp only [Bdr.lanesV]
    split
    · exact BI.lanes (h.lane x y)
    · exact h.lane x y
theorem BI.spur {b : Bdr} (h : BI b) (d : Dc) : BI (b.spurV d).2 := by
  unfold Bdr.spurV
  split
  · exact h
  · split
    · split
      · exact h
      · split
        · exact h
        · split
          · exact h
          · rename_i h1 h2 h3
            simp only [decide_eq_true_eq] at h1 h2
            have h4 := h.ns
            have h5 := h.sl
            refine ⟨h.nb, h.nn, h.mb, fun x i hx => ?_, h.row, by simp; omega, by simp [h.nba], by simp only [List.length_append, List.length_cons, List.length_nil]; omega, h.np, fun x hx => ?_, fun s hs => ?_, fun p hp => ?_⟩
            simp only [getS_putS] at hx
            split at hx
            · cases hx; exact ⟨_, rfl, by simp⟩
            · obtain ⟨n, h6, h7⟩ := h.ms x i hx
              exact ⟨n, h6, by simp; omega⟩
            · rcases List.mem_append.1 hx with hx | hx
              · exact h.bas x hx
              · simp only [List.mem_singleton] at hx
                subst hx
                omega
            · rcases List.mem_append.1 hs with hs | hs
              · exact h.sps s hs
              · simp only [List.mem_singleton] at hs
                subst hs
                simp only
                omega
            · obtain ⟨⟨n, h6, h7⟩, h8⟩ := h.pls p hp
              exact ⟨⟨n, h6, by simp; omega⟩, h8⟩
    · exact h
theorem BI.robot {b : Bdr} (h : BI b) (d : Dc) : BI (b.robotV d).2 := by
  unfold Bdr.robotV
  split
  · exact h
  · rename_i i hi
    split
    · exact h
    split
    · exact h
    split
    · exact h
    split
    · exact h
    split
    · exact h
    rename_i h1 h2 h3 h4 h5
    obtain ⟨n, rfl, hn⟩ := h.ms _ _ hi
    simp only [decide_eq_true_eq, Int.toNat_natCast] at h2 h3
    have hs := h.sps (b.sp.getD n spr0) (getD_mem b.sp n spr0 hn)
    refine ⟨h.nb, h.nn, h.mb, h.ms, h.row, h.ns, h.nba, h.sl, ?_, h.bas, h.sps, fun p hp => ?_⟩
    · have := h.np
      simp
      omega
    · rcases List.mem_append.1 hp with hp | hp
      · exact h.pls p hp
      · simp only [List.mem_singleton] at hp
        subst hp
        exact ⟨⟨n, rfl, hn⟩, by omega, by omega⟩
theorem BI.config {b : Bdr} (h : BI b) (d : Dc) : BI (b.configV d).2 := by
  unfold Bdr.configV
  repeat' split
  all_goals first | exact h | skip
  exact ⟨h.nb, h.nn, h.mb, h.ms, h.row, h.ns, h.nba, h.sl, h.np, h.bas, h.sps, h.pls⟩
theorem BI.add {b : Bdr} (h : BI b) (d : Dc) : BI (b.addV d).2 := by
  unfold Bdr.addV
  repeat' split
  · exact h
  · exact h.block d
  · exact h.lanes
  · exact h.robot d
  · exact h.config d
  · exact h.spur d
theorem valid_shape {d : Dc} (h : validV d = true) : (1 ≤ d.word ∧ d.word ≤ 6) ∧ (d.nums.length : Int) = (shapeV d.word).2 ∧ (shapeV d.word).1 ≤ (d.names.length : Int) := by
  simp only [validV, Bool.and_eq_true, decide_eq_true_eq, Bool.or_eq_true] at h
  obtain ⟨h1, h2, h3, _⟩ := h
  exact ⟨h1, h2, by omega⟩
set_option maxHeartbeats 2000000 in
theorem add_ok (b : Bdr) (k : Nat) (d : Dc) (h : BI b) (hd : d.names.length ≤ 10000000 ∧ d.nums.length ≤ 10000000) :
    ACalls Try.prog 51 [.ptr 1000000 0, d.d] (b.h k) fun h r => ∃ k', h = (b.addV d).2.h k' ∧ r = .p (.int .i64 (b.addV d).1) := by
  have v := valid_ok d hd
  have v1 := fun h1 h2 => block_ok b k d h1 h2 h.nb (by rw [h.nn]; exact h.nb)
  have v5 := fun h1 h2 => robot_ok b k d h1 h2 h.np h.ms
  have v6 := config_ok b k d
  have v3 := fun h1 h2 => spur_ok b k d h1 h2 h.ns (by rw [h.nba]; exact h.ns) ⟨h.sl.1, by have := h.sl.2; have := h.ns; omega⟩
  have hs := @valid_shape d
  unfold Dc.d at v v1 v5 v6 v3 ⊢
  refine ACalls_X Try.func51 rfl enters51 (by simp [Try.f51]) ?_
  rw [Bdr.h_eq b k]
  simp only [go_sem]
  refine Cc_of v ?_
  rintro h' r ⟨rfl, rfl⟩
  cases c0 : validV d
  · have hv : b.addV d = (20, b) := by unfold Bdr.addV; rw [if_pos c0]
    simp only [go_sem, c0, hv]
    first | exact ⟨k, rfl, rfl⟩ | exact ⟨k, rfl⟩
  have hs := hs c0
  cases c1 : decide (d.word = 1)
  rotate_left
  · have e1 : d.word = 1 := of_decide_eq_true c1
    rw [e1] at hs
    simp [shapeV] at hs
    simp only [go_sem, c0, c1]
    refine Cc_of (v1 (by omega) (by omega)) ?_
    rintro h' r ⟨k', rfl, rfl⟩
    have hv : b.addV d = b.blockV d := by unfold Bdr.addV; simp only [c0, c1, Bool.true_eq_false, if_false, if_true]
    rw [hv]
    simp only [go_sem, Bdr.h_eq (b.blockV d).2 k']
    first | exact ⟨k', rfl, rfl⟩ | exact ⟨k', rfl⟩
  cases c2 : decide (d.word = 2)
  rotate_left
  · have hv : b.addV d = b.lanesV d.names := by unfold Bdr.addV; simp only [c0, c1, c2, Bool.true_eq_false, Bool.false_eq_true, if_false, if_true]
    rw [hv]
    have e1 : d.word = 2 := of_decide_eq_true c2
    rw [e1] at hs
    simp [shapeV] at hs
    simp only [go_sem, c0, c1, c2]
    refine X_loop_inv (fun q : Nat × Bdr × Nat => ⟨[(0, .ptr 1000000 0), (3, .ptr 3 0), (4, .p (.int .i64 0)), (5, .p (.int .i64 (q.1 : Nat)))], (3, .box [.p (.int .i64 d.word), .p (.int .i64 d.line), .p (.sl (encS d.names)), .p (.sl (encI d.nums))]) :: q.2.1.h q.2.2, 55⟩)
      (fun q => 1 ≤ q.1 ∧ q.1 ≤ d.names.length ∧ BI q.2.1 ∧ b.lanesV d.names = q.2.1.lanesV (d.names.drop (q.1 - 1))) (fun q => d.names.length - q.1) (1, b, k) ⟨Nat.le_refl _, by omega, h, by simp⟩ (Wk.forget (by simp [Le, LeE, LeH, get, envIds, hpIds, KeepH, D.ids, idsL, AO.ids, setL, base, Bdr.h_eq])) ?_
    rintro ⟨i, b', k'⟩ n ⟨hi1, hi, hB, he⟩ ih
    dsimp only at hi1 hi hB he
    simp only [go_sem, Bdr.h_eq b' k', encS_len]
    refine Cn_split (fun h2 => ?_) (fun h2 => ?_)
    · have hlt : i < d.names.length := by simp at h2; omega
      have hw := wrap_succ i (by omega)
      have hp : IntKind.i64.wrap ((i : Int) - 1) = ((i - 1 : Nat) : Int) := by rw [IntKind.wrap_i64]; omega
      have g1 := encS_get d.names (i - 1) (by omega)
      have g2 := encS_get d.names i hlt
      have r1 : (0 : Int) ≤ ((i - 1 : Nat) : Int) ∧ ((i - 1 : Nat) : Int) < (d.names.length : Int) := by omega
      have r2 : (0 : Int) ≤ (i : Int) ∧ (i : Int) < (d.names.length : Int) := by omega
      have hdr : d.names.drop (i - 1) = d.names.getD (i - 1) [] :: d.names.getD i [] :: d.names.drop (i + 1) := by
        have a1 : d.names.drop (i - 1) = d.names[i - 1] :: d.names.drop (i - 1 + 1) := List.drop_eq_getElem_cons (by omega)
        have a2 : d.names.drop i = d.names[i] :: d.names.drop (i + 1) := List.drop_eq_getElem_cons hlt
        rw [a1, show i - 1 + 1 = i by omega, a2]
        simp [List.getD, hlt, show i - 1 < d.names.length by omega]
      have hdr2 : d.names.drop i = d.names.getD i [] :: d.names.drop (i + 1) := by
        rw [List.drop_eq_getElem_cons hlt]; simp [List.getD, hlt]
      rw [hdr] at he
      simp only [go_sem, Bdr.h_eq b' k', encS_len]
      refine X_any [(3, .box [.p (.int .i64 d.word), .p (.int .i64 d.line), .p (.sl (encS d.names)), .p (.sl (encI d.nums))])] mixed (p := [(0, 0), (1, 0), (2, 0), (3, 0), (4, 0), (5, 0), (6, 0), (7, 0), (8, 0), (9, 0), (10, 0), (11, 0), (12, 2), (13, 0)]) (by kernel_rfl) (by simp [LeH, get]) ?_
      simp only [go_sem, Bdr.h_eq b' k', encS_len, hp, r1, r2, Int.toNat_natCast, g1, g2]
      refine Gh_of (lane_ok b' k' (d.names.getD (i - 1) []) (d.names.getD i []) (by rw [hB.nn]; exact hB.mb) (fun i => by have := hB.row i; omega)) ?_
      rintro h' r ⟨k2, rfl, rfl⟩
      have hBl := hB.lane (d.names.getD (i - 1) []) (d.names.getD i [])
      generalize hL : b'.laneV (d.names.getD (i - 1) []) (d.names.getD i []) = L at *
      obtain ⟨e, b2⟩ := L
      simp only at hBl
      simp only [Bdr.lanesV, hL] at he
      cases c3 : decide (e = 0)
      · have c3' : ¬ e = 0 := of_decide_eq_false c3
        rw [if_neg c3'] at he
        rw [he]
        simp only [go_sem, Bdr.h_eq b2 k2, c3]
        first | exact ⟨k2, rfl, rfl⟩ | exact ⟨k2, rfl⟩
      · have c3' : e = 0 := of_decide_eq_true c3
        rw [if_pos c3'] at he
        simp only [go_sem, Bdr.h_eq b2 k2, c3, hw]
        refine ih (i + 1, b2, k2) _ ⟨by omega, hlt, hBl, ?_⟩ (by simp; omega) ?_
        · simp only [Nat.add_sub_cancel]; rw [hdr2]; exact he
        · (refine Wk.forget ?_; simp [Le, LeE, LeH, get, envIds, hpIds, KeepH, D.ids, idsL, AO.ids, setL, base, Bdr.h_eq]; done)
    · have : i = d.names.length := by simp at h2; omega
      simp only [go_sem, Bdr.h_eq b' k']
      have hd2 : d.names.drop (i - 1) = [d.names.getD (i - 1) []] := by
        rw [List.drop_eq_getElem_cons (by omega), List.drop_of_length_le (by omega)]
        simp [List.getD, show i - 1 < d.names.length by omega]
      rw [hd2] at he
      rw [he]
      first | exact ⟨k', rfl, rfl⟩ | exact ⟨k', rfl⟩
  cases c5 : decide (d.word = 5)
  rotate_left
  · have e1 : d.word = 5 := of_decide_eq_true c5
    rw [e1] at hs
    simp [shapeV] at hs
    simp only [go_sem, c0, c1, c2, c5]
    refine Cc_of (v5 (by omega) (by omega)) ?_
    rintro h' r ⟨k', rfl, rfl⟩
    have hv : b.addV d = b.robotV d := by unfold Bdr.addV; simp only [c0, c1, c2, c5, Bool.true_eq_false, Bool.false_eq_true, if_false, if_true]
    rw [hv]
    simp only [go_sem, Bdr.h_eq (b.robotV d).2 k']
    first | exact ⟨k', rfl, rfl⟩ | exact ⟨k', rfl⟩
  cases c6 : decide (d.word = 6)
  rotate_left
  · have e1 : d.word = 6 := of_decide_eq_true c6
    rw [e1] at hs
    simp [shapeV] at hs
    simp only [go_sem, c0, c1, c2, c5, c6]
    refine Cc_of (v6 (by omega)) ?_
    rintro h' r ⟨k', rfl, rfl⟩
    have hv : b.addV d = b.configV d := by unfold Bdr.addV; simp only [c0, c1, c2, c5, c6, Bool.true_eq_false, Bool.false_eq_true, if_false, if_true]
    rw [hv]
    simp only [go_sem, Bdr.h_eq (b.configV d).2 k']
    first | exact ⟨k', rfl, rfl⟩ | exact ⟨k', rfl⟩
  · have n1 : ¬ d.word = 1 := of_decide_eq_false c1
    have n2 : ¬ d.word = 2 := of_decide_eq_false c2
    have n5 : ¬ d.word = 5 := of_decide_eq_false c5
    have n6 : ¬ d.word = 6 := of_decide_eq_false c6
    have e1 : d.word = 3 ∨ d.word = 4 := by omega
    simp only [shapeV, n1, n2, e1, if_false, if_true] at hs
    simp only [go_sem, c0, c1, c2, c5, c6]
    refine Cc_of (v3 (by omega) (by omega)) ?_
    rintro h' r ⟨k', rfl, rfl⟩
    have hv : b.addV d = b.spurV d := by unfold Bdr.addV; simp only [c0, c1, c2, c5, c6, Bool.true_eq_false, Bool.false_eq_true, if_false, if_true]
    rw [hv]
    simp only [go_sem, Bdr.h_eq (b.spurV d).2 k']
    first | exact ⟨k', rfl, rfl⟩ | exact ⟨k', rfl⟩
end Go.Am
end
section
namespace Go.Am
open Go Go.Proofs
set_option maxRecDepth 100000
set_option maxHeartbeats 2000000
set_option linter.unusedSimpArgs false
set_option linter.unusedVariables false
noncomputable def s_cmp_isNaN_v (a0 : Int) : Option (Bool) :=
  some (!decide (a0 = a0))
theorem s_cmp_isNaN_vok (a0 : Int) (r : Bool) (hr : s_cmp_isNaN_v a0 = some r) :
    ACalls Try.prog 128 [.p (.int .i64 a0)] [] fun h d => h = [] ∧ d = .p (.bool r) := by
  refine ACalls_X Try.func128 rfl enters128 (by simp [Try.f128]) ?_
  unfold s_cmp_isNaN_v at hr
  obtain rfl := Option.some.inj hr
  try simp only [go_sem]
  all_goals (try refine end_pure ?_)
  all_goals (try simp only [go_sem])
  all_goals (try (first | rfl | exact ⟨rfl, rfl⟩ | (simp; done)))
noncomputable def s_cmp_Less_v (a0 : Int) (a1 : Int) : Option (Bool) :=
  Option.bind (s_cmp_isNaN_v a0) fun x1 => cond x1 (Option.bind (s_cmp_isNaN_v a1) fun x4 => cond x4 (some (decide (a0 < a1))) (some true)) (some (decide (a0 < a1)))
theorem s_cmp_Less_vok (a0 : Int) (a1 : Int) (r : Bool) (hr : s_cmp_Less_v a0 a1 = some r) :
    ACalls Try.prog 105 [.p (.int .i64 a0), .p (.int .i64 a1)] [] fun h d => h = [] ∧ d = .p (.bool r) := by
  refine ACalls_X Try.func105 rfl enters105 (by simp [Try.f105]) ?_
  unfold s_cmp_Less_v at hr
  rcases g2 : s_cmp_isNaN_v a0 with _ | x1
  · simp only [g2, Option.bind_none, reduceCtorEq] at hr
  simp only [g2, Option.bind_some] at hr
  try simp only [go_sem]
  refine Cc_of (s_cmp_isNaN_vok a0 _ g2) ?_
  rintro h' r ⟨rfl, rfl⟩
  cases c3 : x1
  · simp only [c3, cond_false] at hr
    obtain rfl := Option.some.inj hr
    try simp only [go_sem, c3]
    all_goals (try refine end_pure ?_)
    all_goals (try simp only [go_sem, c3])
    all_goals (try (first | rfl | exact ⟨rfl, rfl⟩ | (simp; done)))
  simp only [c3, cond_true] at hr
  rcases g5 : s_cmp_isNaN_v a1 with _ | x4
  · simp only [g5, Option.bind_none, reduceCtorEq] at hr
  simp only [g5, Option.bind_some] at hr
  try simp only [go_sem, c3]
  refine Cc_of (s_cmp_isNaN_vok a1 _ g5) ?_
  rintro h' r ⟨rfl, rfl⟩
  cases c6 : x4
  · simp only [c6, cond_false] at hr
    obtain rfl := Option.some.inj hr
    try simp only [go_sem, c3, c6]
    all_goals (try refine end_pure ?_)
    all_goals (try simp only [go_sem, c3, c6])
    all_goals (try (first | rfl | exact ⟨rfl, rfl⟩ | (simp; done)))
  simp only [c6, cond_true] at hr
  obtain rfl := Option.some.inj hr
  try simp only [go_sem, c3, c6]
  all_goals (try refine end_pure ?_)
  all_goals (try simp only [go_sem, c3, c6])
  all_goals (try (first | rfl | exact ⟨rfl, rfl⟩ | (simp; done)))
noncomputable def isort_L1 (a1 : Int) : (List Int) × Int → Option (((List Int) × Int) ⊕ (((List Int) × Int)))
  | (v13, v14) => cond (decide (a1 < v14)) (Option.bind (idxO v13 v14) fun x21 => Option.bind (idxO v13 (IntKind.i64.wrap (v14 - 1))) fun x25 => Option.bind (s_cmp_Less_v x21 x25) fun x29 => cond x29 (Option.bind (idxO (v13.set (Int.toNat v14) x25) (IntKind.i64.wrap (v14 - 1))) fun x32 => some (Sum.inl (((v13.set (Int.toNat v14) x25).set (Int.toNat (IntKind.i64.wrap (v14 - 1))) x21), (IntKind.i64.wrap (v14 - 1))))) (some (Sum.inr (v13, v14)))) (some (Sum.inr (v13, v14)))
theorem isort_L1_eq (a1 : Int) (v13 : List Int) (v14 : Int) : isort_L1 a1 (v13, v14) = cond (decide (a1 < v14)) (Option.bind (idxO v13 v14) fun x21 => Option.bind (idxO v13 (IntKind.i64.wrap (v14 - 1))) fun x25 => Option.bind (s_cmp_Less_v x21 x25) fun x29 => cond x29 (Option.bind (idxO (v13.set (Int.toNat v14) x25) (IntKind.i64.wrap (v14 - 1))) fun x32 => some (Sum.inl (((v13.set (Int.toNat v14) x25).set (Int.toNat (IntKind.i64.wrap (v14 - 1))) x21), (IntKind.i64.wrap (v14 - 1))))) (some (Sum.inr (v13, v14)))) (some (Sum.inr (v13, v14))) := rfl
noncomputable def isort_L2 (a1 : Int) (a2 : Int) : (List Int) × Int → Option (((List Int) × Int) ⊕ (((List Int) × Int)))
  | (v3, v4) => cond (decide (v4 < a2)) (Option.bind (loopO (isort_L1 a1) (v3, v4)) (fun (v36, v37) => some (Sum.inl (v36, (IntKind.i64.wrap (v4 + 1)))))) (some (Sum.inr (v3, v4)))
theorem isort_L2_eq (a1 : Int) (a2 : Int) (v3 : List Int) (v4 : Int) : isort_L2 a1 a2 (v3, v4) = cond (decide (v4 < a2)) (Option.bind (loopO (isort_L1 a1) (v3, v4)) (fun (v36, v37) => some (Sum.inl (v36, (IntKind.i64.wrap (v4 + 1)))))) (some (Sum.inr (v3, v4))) := rfl
noncomputable def isort_v (a0 : List Int) (a1 : Int) (a2 : Int) : Option ((List Int)) :=
  Option.bind (loopO (isort_L2 a1 a2) (a0, (IntKind.i64.wrap (a1 + 1)))) (fun (v38, v39) => some v38)
theorem isort_vok (a0 : List Int) (a1 : Int) (a2 : Int) (r : (List Int)) (hr : isort_v a0 a1 a2 = some r) :
    ACalls Try.prog 99 [.ref 1000000 0 a0.length a0.length, .p (.int .i64 a1), .p (.int .i64 a2)] [(1000000, .arr 3 1 (encI a0))] fun h d => h = [(1000000, .arr 3 1 (encI r))] ∧ d = .tup [] := by
  refine ACalls_X Try.func99 rfl enters99 (by simp [Try.f99]) ?_
  unfold isort_v at hr
  rcases g9 : loopO (isort_L2 a1 a2) (a0, (IntKind.i64.wrap (a1 + 1))) with _ | e8
  · simp only [g9, Option.bind_none, reduceCtorEq] at hr
  simp only [g9, Option.bind_some] at hr
  try simp only [go_sem]
  refine X_loopO g9 (fun q : (List Int) × Int => ⟨[(0, .ref 1000000 0 q.1.length q.1.length), (1, .p (.int .i64 a1)), (2, .p (.int .i64 a2)), (6, .p (.int .i64 q.2))], [(1000000, .arr 3 1 (encI q.1))], 49⟩) ((Wk.forget (by simp [Le, LeE, LeH, get, envIds, hpIds, KeepH, D.ids, idsL, AO.ids, setL, base, encI_nil, encS_nil, encT_nil, encG_nil, encC_nil, encL_nil, encK_nil, encP_nil, mpS_nil, mpB_nil, encI_consE, encS_consE, encT_consE, encG_consE, encI_one, encS_one, encT_one, encI_snoc, encS_snoc, encT_snocE, encG_snocE, encC_snoc, encL_snoc, encK_snocE, encP_snocE, encI_set, encS_set, encT_setE, encG_setE, encC_setE, encK_setE, encP_setE, encI_len, encS_len, encT_len2, encG_len2, encC_len, encL_len, encK_len2, encP_len2]))) ?_
  rintro ⟨v3, v4⟩ m7 hh5 ih6
  rw [isort_L2_eq] at hh5
  cases c10 : decide (v4 < a2)
  · simp only [c10, cond_false] at hh5
    simp only [Option.bind_some, nextO_inr] at hh5
    obtain rfl := Option.some.inj hh5
    try dsimp only at hr
    obtain rfl := Option.some.inj hr
    try simp only [go_sem, c10]
    all_goals (try refine end_own ?_)
    all_goals (try simp only [go_sem, c10])
    all_goals (try (first | rfl | exact ⟨rfl, rfl⟩ | (simp; done)))
  simp only [c10, cond_true] at hh5
  rcases g19 : loopO (isort_L1 a1) (v3, v4) with _ | e18
  · simp only [g19, Option.bind_none, reduceCtorEq] at hh5
  simp only [g19, Option.bind_some] at hh5
  try simp only [go_sem, c10]
  refine X_loopO g19 (fun q : (List Int) × Int => ⟨[(0, .ref 1000000 0 q.1.length q.1.length), (1, .p (.int .i64 a1)), (2, .p (.int .i64 a2)), (6, .p (.int .i64 v4)), (7, .p (.int .i64 q.2))], [(1000000, .arr 3 1 (encI q.1))], 49⟩) ((Wk.forget (by simp [Le, LeE, LeH, get, envIds, hpIds, KeepH, D.ids, idsL, AO.ids, setL, base, encI_nil, encS_nil, encT_nil, encG_nil, encC_nil, encL_nil, encK_nil, encP_nil, mpS_nil, mpB_nil, encI_consE, encS_consE, encT_consE, encG_consE, encI_one, encS_one, encT_one, encI_snoc, encS_snoc, encT_snocE, encG_snocE, encC_snoc, encL_snoc, encK_snocE, encP_snocE, encI_set, encS_set, encT_setE, encG_setE, encC_setE, encK_setE, encP_setE, encI_len, encS_len, encT_len2, encG_len2, encC_len, encL_len, encK_len2, encP_len2]))) ?_
  rintro ⟨v13, v14⟩ m17 hh15 ih16
  rw [isort_L1_eq] at hh15
  try simp only [go_sem, c10]
  refine X_any0 mixed (p := [(0, 0), (1, 0), (2, 0), (3, 0), (4, 0), (5, 0), (6, 0), (7, 0), (8, 0), (9, 0), (10, 0), (11, 0), (12, 0), (13, 2), (14, 0)]) (by kernel_rfl) (by simp [LeH, get]) ?_
  cases c20 : decide (a1 < v14)
  · simp only [c20, cond_false] at hh15
    simp only [Option.bind_some, nextO_inr] at hh15
    obtain rfl := Option.some.inj hh15
    try dsimp only at hh5
    simp only [Option.bind_some, nextO_inl] at hh5
    try simp only [go_sem, c10, c20]
    exact ih6 (v13, (IntKind.i64.wrap (v4 + 1))) _ hh5 ((Wk.forget (by simp [Le, LeE, LeH, get, envIds, hpIds, KeepH, D.ids, idsL, AO.ids, setL, base, encI_nil, encS_nil, encT_nil, encG_nil, encC_nil, encL_nil, encK_nil, encP_nil, mpS_nil, mpB_nil, encI_consE, encS_consE, encT_consE, encG_consE, encI_one, encS_one, encT_one, encI_snoc, encS_snoc, encT_snocE, encG_snocE, encC_snoc, encL_snoc, encK_snocE, encP_snocE, encI_set, encS_set, encT_setE, encG_setE, encC_setE, encK_setE, encP_setE, encI_len, encS_len, encT_len2, encG_len2, encC_len, encL_len, encK_len2, encP_len2])))
  simp only [c20, cond_true] at hh15
  rcases g22 : idxO v13 v14 with _ | x21
  · simp only [g22, Option.bind_none, reduceCtorEq] at hh15
  simp only [g22, Option.bind_some] at hh15
  have f23 := idxO_rng g22
  have f24 : (encI v13).getD (Int.toNat v14) [] = [(.int .i64 x21)] := idxO_map _ g22
  rcases g26 : idxO v13 (IntKind.i64.wrap (v14 - 1)) with _ | x25
  · simp only [g26, Option.bind_none, reduceCtorEq] at hh15
  simp only [g26, Option.bind_some] at hh15
  have f27 := idxO_rng g26
  have f28 : (encI v13).getD (Int.toNat (IntKind.i64.wrap (v14 - 1))) [] = [(.int .i64 x25)] := idxO_map _ g26
  rcases g30 : s_cmp_Less_v x21 x25 with _ | x29
  · simp only [g30, Option.bind_none, reduceCtorEq] at hh15
  simp only [g30, Option.bind_some] at hh15
  try simp only [go_sem, c10, c20, f23, f24, f27, f28]
  refine Gh_of (s_cmp_Less_vok x21 x25 _ g30) ?_
  rintro h' r ⟨rfl, rfl⟩
  cases c31 : x29
  · simp only [c31, cond_false] at hh15
    simp only [Option.bind_some, nextO_inr] at hh15
    obtain rfl := Option.some.inj hh15
    try dsimp only at hh5
    simp only [Option.bind_some, nextO_inl] at hh5
    try simp only [go_sem, c10, c20, f23, f24, f27, f28, c31]
    exact ih6 (v13, (IntKind.i64.wrap (v4 + 1))) _ hh5 ((Wk.forget (by simp [Le, LeE, LeH, get, envIds, hpIds, KeepH, D.ids, idsL, AO.ids, setL, base, encI_nil, encS_nil, encT_nil, encG_nil, encC_nil, encL_nil, encK_nil, encP_nil, mpS_nil, mpB_nil, encI_consE, encS_consE, encT_consE, encG_consE, encI_one, encS_one, encT_one, encI_snoc, encS_snoc, encT_snocE, encG_snocE, encC_snoc, encL_snoc, encK_snocE, encP_snocE, encI_set, encS_set, encT_setE, encG_setE, encC_setE, encK_setE, encP_setE, encI_len, encS_len, encT_len2, encG_len2, encC_len, encL_len, encK_len2, encP_len2, c31])))
  simp only [c31, cond_true] at hh15
  try simp only [go_sem, c10, c20, f23, f24, f27, f28, c31]
  refine X_any0 mixed (p := [(0, 0), (1, 0), (2, 0), (3, 0), (4, 0), (5, 0), (6, 0), (7, 0), (8, 0), (9, 0), (10, 0), (11, 0), (12, 0), (13, 0), (14, 0), (15, 4), (16, 4), (17, 4)]) (by kernel_rfl) (by simp [LeH, get]) ?_
  rcases g33 : idxO (v13.set (Int.toNat v14) x25) (IntKind.i64.wrap (v14 - 1)) with _ | x32
  · simp only [g33, Option.bind_none, reduceCtorEq] at hh15
  simp only [g33, Option.bind_some] at hh15
  have f34 := idxO_rng g33
  have f35 : (encI (v13.set (Int.toNat v14) x25)).getD (Int.toNat (IntKind.i64.wrap (v14 - 1))) [] = [(.int .i64 x32)] := idxO_map _ g33
  simp only [Option.bind_some, nextO_inl] at hh15
  try simp only [go_sem, c10, c20, f23, f24, f27, f28, c31, f34, f35]
  exact ih16 (((v13.set (Int.toNat v14) x25).set (Int.toNat (IntKind.i64.wrap (v14 - 1))) x21), (IntKind.i64.wrap (v14 - 1))) _ hh15 ((Wk.forget (by simp [Le, LeE, LeH, get, envIds, hpIds, KeepH, D.ids, idsL, AO.ids, setL, base, encI_nil, encS_nil, encT_nil, encG_nil, encC_nil, encL_nil, encK_nil, encP_nil, mpS_nil, mpB_nil, encI_consE, encS_consE, encT_consE, encG_consE, encI_one, encS_one, encT_one, encI_snoc, encS_snoc, encT_snocE, encG_snocE, encC_snoc, encL_snoc, encK_snocE, encP_snocE, encI_set, encS_set, encT_setE, encG_setE, encC_setE, encK_setE, encP_setE, encI_len, encS_len, encT_len2, encG_len2, encC_len, encL_len, encK_len2, encP_len2, c31])))
noncomputable def s_netmap_Build_1_v (a0 : Spr) : Option (Bool) :=
  some a0.depot
theorem s_netmap_Build_1_vok (a0 : Spr) (r : Bool) (hr : s_netmap_Build_1_v a0 = some r) :
    ACalls Try.prog 53 [.agg [.p (.str a0.name), .p (.bool a0.depot), .p (.int .i64 a0.inn), .p (.int .i64 a0.out), .p (.int .i64 a0.slots), .p (.int .i64 a0.base)]] [] fun h d => h = [] ∧ d = .p (.bool r) := by
  refine ACalls_X Try.func53 rfl enters53 (by simp [Try.f53]) ?_
  unfold s_netmap_Build_1_v at hr
  obtain rfl := Option.some.inj hr
  try simp only [go_sem]
  all_goals (try refine end_pure ?_)
  all_goals (try simp only [go_sem])
  all_goals (try (first | rfl | exact ⟨rfl, rfl⟩ | (simp; done)))
noncomputable def s_slices_IndexFunc_L1 (a0 : List Spr) : Int → Option ((Int) ⊕ (Int ⊕ Int))
  | v2 => cond (decide (v2 < ((a0.length : Nat) : Int))) (Option.bind (idxO a0 v2) fun x9 => Option.bind (s_netmap_Build_1_v (⟨x9.name, x9.depot, x9.inn, x9.out, x9.slots, x9.base⟩ : Spr)) fun x13 => cond x13 (some (Sum.inr (.inr (v2)))) (some (Sum.inl (IntKind.i64.wrap (v2 + 1))))) (some (Sum.inr (.inl v2)))
theorem s_slices_IndexFunc_L1_eq (a0 : List Spr) (v2 : Int) : s_slices_IndexFunc_L1 a0 v2 = cond (decide (v2 < ((a0.length : Nat) : Int))) (Option.bind (idxO a0 v2) fun x9 => Option.bind (s_netmap_Build_1_v (⟨x9.name, x9.depot, x9.inn, x9.out, x9.slots, x9.base⟩ : Spr)) fun x13 => cond x13 (some (Sum.inr (.inr (v2)))) (some (Sum.inl (IntKind.i64.wrap (v2 + 1))))) (some (Sum.inr (.inl v2))) := rfl
noncomputable def s_slices_IndexFunc_v (a0 : List Spr) : Option (Int) :=
  Option.bind (loopO (s_slices_IndexFunc_L1 a0) 0) (fun | .inl v16 => some (-1) | .inr (r17) => some r17)
theorem s_slices_IndexFunc_vok (a0 : List Spr) (r : Int) (hr : s_slices_IndexFunc_v a0 = some r) :
    ACalls Try.prog 59 [.p (.sl (encP a0)), .fn 53 []] [] fun h d => h = [] ∧ d = .p (.int .i64 r) := by
  refine ACalls_X Try.func59 rfl enters59 (by simp [Try.f59]) ?_
  unfold s_slices_IndexFunc_v at hr
  rcases g7 : loopO (s_slices_IndexFunc_L1 a0) 0 with _ | e6
  · simp only [g7, Option.bind_none, reduceCtorEq] at hr
  simp only [g7, Option.bind_some] at hr
  try simp only [go_sem]
  refine X_loopO g7 (fun q : Int => ⟨[(0, .p (.sl (encP a0))), (1, .fn 53 []), (7, .p (.int .i64 ((a0.length : Nat) : Int))), (8, .p (.int .i64 q))], [], 19⟩) ((Wk.forget (by simp [Le, LeE, LeH, get, envIds, hpIds, KeepH, D.ids, idsL, AO.ids, setL, base, encI_nil, encS_nil, encT_nil, encG_nil, encC_nil, encL_nil, encK_nil, encP_nil, mpS_nil, mpB_nil, encI_consE, encS_consE, encT_consE, encG_consE, encI_one, encS_one, encT_one, encI_snoc, encS_snoc, encT_snocE, encG_snocE, encC_snoc, encL_snoc, encK_snocE, encP_snocE, encI_set, encS_set, encT_setE, encG_setE, encC_setE, encK_setE, encP_setE, encI_len, encS_len, encT_len2, encG_len2, encC_len, encL_len, encK_len2, encP_len2]))) ?_
  rintro v2 m5 hh3 ih4
  rw [s_slices_IndexFunc_L1_eq] at hh3
  cases c8 : decide (v2 < ((a0.length : Nat) : Int))
  · simp only [c8, cond_false] at hh3
    simp only [Option.bind_some, nextO_inr] at hh3
    obtain rfl := Option.some.inj hh3
    try dsimp only at hr
    obtain rfl := Option.some.inj hr
    try simp only [go_sem, c8]
    all_goals (try refine end_pure ?_)
    all_goals (try simp only [go_sem, c8])
    all_goals (try (first | rfl | exact ⟨rfl, rfl⟩ | (simp; done)))
  simp only [c8, cond_true] at hh3
  rcases g10 : idxO a0 v2 with _ | x9
  · simp only [g10, Option.bind_none, reduceCtorEq] at hh3
  simp only [g10, Option.bind_some] at hh3
  have f11 := idxO_rng g10
  have f12 : (encP a0).getD (Int.toNat v2) [] = [(.str x9.name), (.bool x9.depot), (.int .i64 x9.inn), (.int .i64 x9.out), (.int .i64 x9.slots), (.int .i64 x9.base)] := idxO_map _ g10
  rcases g14 : s_netmap_Build_1_v (⟨x9.name, x9.depot, x9.inn, x9.out, x9.slots, x9.base⟩ : Spr) with _ | x13
  · simp only [g14, Option.bind_none, reduceCtorEq] at hh3
  simp only [g14, Option.bind_some] at hh3
  try simp only [go_sem, c8, f11, f12]
  refine Cc_of (s_netmap_Build_1_vok (⟨x9.name, x9.depot, x9.inn, x9.out, x9.slots, x9.base⟩ : Spr) _ g14) ?_
  rintro h' r ⟨rfl, rfl⟩
  cases c15 : x13
  · simp only [c15, cond_false] at hh3
    simp only [Option.bind_some, nextO_inl] at hh3
    try simp only [go_sem, c8, f11, f12, c15]
    exact ih4 (IntKind.i64.wrap (v2 + 1)) _ hh3 ((Wk.forget (by simp [Le, LeE, LeH, get, envIds, hpIds, KeepH, D.ids, idsL, AO.ids, setL, base, encI_nil, encS_nil, encT_nil, encG_nil, encC_nil, encL_nil, encK_nil, encP_nil, mpS_nil, mpB_nil, encI_consE, encS_consE, encT_consE, encG_consE, encI_one, encS_one, encT_one, encI_snoc, encS_snoc, encT_snocE, encG_snocE, encC_snoc, encL_snoc, encK_snocE, encP_snocE, encI_set, encS_set, encT_setE, encG_setE, encC_setE, encK_setE, encP_setE, encI_len, encS_len, encT_len2, encG_len2, encC_len, encL_len, encK_len2, encP_len2, c15])))
  simp only [c15, cond_true] at hh3
  simp only [Option.bind_some, nextO_inr] at hh3
  obtain rfl := Option.some.inj hh3
  try dsimp only at hr
  obtain rfl := Option.some.inj hr
  try simp only [go_sem, c8, f11, f12, c15]
  all_goals (try refine end_pure ?_)
  all_goals (try simp only [go_sem, c8, f11, f12, c15])
  all_goals (try (first | rfl | exact ⟨rfl, rfl⟩ | (simp; done)))
noncomputable def cfDepot_v (a0 : List Spr) : Option (Bool) :=
  Option.bind (s_slices_IndexFunc_v a0) fun x1 => some (decide (0 ≤ x1))
theorem cfDepot_vok (a0 : List Spr) (r : Bool) (hr : cfDepot_v a0 = some r) :
    ACalls Try.prog 52 [.p (.sl (encP a0)), .fn 53 []] [] fun h d => h = [] ∧ d = .p (.bool r) := by
  refine ACalls_X Try.func52 rfl enters52 (by simp [Try.f52]) ?_
  unfold cfDepot_v at hr
  rcases g2 : s_slices_IndexFunc_v a0 with _ | x1
  · simp only [g2, Option.bind_none, reduceCtorEq] at hr
  simp only [g2, Option.bind_some] at hr
  try simp only [go_sem]
  refine Cc_of (s_slices_IndexFunc_vok a0 _ g2) ?_
  rintro h' r ⟨rfl, rfl⟩
  obtain rfl := Option.some.inj hr
  try simp only [go_sem]
  all_goals (try refine end_pure ?_)
  all_goals (try simp only [go_sem])
  all_goals (try (first | rfl | exact ⟨rfl, rfl⟩ | (simp; done)))
end Go.Am
end
section
namespace Go.Am
open Go Go.Proofs
set_option maxRecDepth 100000
set_option linter.unusedVariables false
set_option linter.unusedSimpArgs false
def insS : List Int → Int → List Int
  | [], x => [x]
  | y :: r, x => if x < y then x :: y :: r else y :: insS r x
def sortV (l : List Int) : List Int := l.foldl insS []
theorem insS_len (l : List Int) (x : Int) : (insS l x).length = l.length + 1 := by
  induction l with
  | nil => rfl
  | cons y r ih => simp only [insS]; split <;> simp [ih]
theorem foldl_insS_len (l p : List Int) : (l.foldl insS p).length = p.length + l.length := by
  induction l generalizing p with
  | nil => simp
  | cons x r ih => simp only [List.foldl_cons, ih, insS_len, List.length_cons]; omega
theorem sortV_len (l : List Int) : (sortV l).length = l.length := by simp [sortV, foldl_insS_len]
theorem insS_mem (l : List Int) (x y : Int) : y ∈ insS l x ↔ y = x ∨ y ∈ l := by
  induction l with
  | nil => simp [insS]
  | cons z r ih =>
    simp only [insS]
    split
    · simp
    · simp only [List.mem_cons, ih]
      constructor
      · rintro (h | h | h) <;> simp [h]
      · rintro (h | h | h) <;> simp [h]
theorem insS_sorted (l : List Int) (x : Int) (h : l.Pairwise (· ≤ ·)) : (insS l x).Pairwise (· ≤ ·) := by
  induction l with
  | nil => simp [insS]
  | cons y r ih =>
    obtain ⟨h1, h2⟩ := List.pairwise_cons.1 h
    simp only [insS]
    split
    · refine List.pairwise_cons.2 ⟨fun z hz => ?_, h⟩
      rcases List.mem_cons.1 hz with rfl | hz
      · omega
      · have := h1 z hz; omega
    · refine List.pairwise_cons.2 ⟨fun z hz => ?_, ih h2⟩
      rcases (insS_mem r x z).1 hz with rfl | hz
      · omega
      · exact h1 z hz
theorem insS_snoc_lt (p : List Int) (y x : Int) (h : x < y) : insS (p ++ [y]) x = insS p x ++ [y] := by
  induction p with
  | nil => simp [insS, h]
  | cons z r ih =>
    simp only [List.cons_append, insS]
    split
    · rfl
    · rw [ih]; rfl
theorem insS_snoc_ge (p : List Int) (y x : Int) (hs : (p ++ [y]).Pairwise (· ≤ ·)) (h : ¬ x < y) : insS (p ++ [y]) x = p ++ [y, x] := by
  induction p with
  | nil => simp [insS, h]
  | cons z r ih =>
    simp only [List.cons_append, List.pairwise_cons] at hs
    have := hs.1 y (by simp)
    simp only [List.cons_append, insS]
    rw [if_neg (by omega), ih hs.2]
theorem set_mid {α : Type} (p q : List α) (x y : α) : (p ++ x :: q).set p.length y = p ++ y :: q := by
  induction p with
  | nil => rfl
  | cons z r ih => simp [ih]
theorem less_v (a b : Int) : s_cmp_Less_v a b = some (decide (a < b)) := by
  unfold s_cmp_Less_v s_cmp_isNaN_v
  simp
theorem isort_in (l : List Int) : ∀ (n : Nat) (p : List Int) (x : Int) (q : List Int), p.length = n → p.Pairwise (· ≤ ·) → n < 10000000 → ∃ j, loopO (isort_L1 0) (p ++ x :: q, (n : Int)) = some (insS p x ++ q, j)
  | 0, p, x, q, hp, _, _ => by
    obtain rfl : p = [] := List.eq_nil_of_length_eq_zero hp
    refine ⟨0, ?_⟩
    rw [loopO_step, isort_L1_eq]
    simp [insS, nextO]
  | n + 1, p, x, q, hp, hs, hn => by
    obtain ⟨r, y, rfl⟩ : ∃ r y, p = r ++ [y] := by
      rcases List.eq_nil_or_concat p with h | ⟨r, y, h⟩
      · subst h; simp at hp
      · exact ⟨r, y, by simpa using h⟩
    have hr : r.length = n := by simpa using hp
    have hw : IntKind.i64.wrap (((n + 1 : Nat) : Int) - 1) = (n : Int) := by rw [IntKind.wrap_i64]; omega
    have i1 : idxO ((r ++ [y]) ++ x :: q) ((n + 1 : Nat) : Int) = some x := by
      rw [idxO_nat]; simp [← hr, List.getElem?_append]
    have i2 : idxO ((r ++ [y]) ++ x :: q) (n : Int) = some y := by
      rw [idxO_nat]; simp [← hr, List.getElem?_append]
    have s1 : ((r ++ [y]) ++ x :: q).set (n + 1) y = r ++ y :: y :: q := by
      have := set_mid (r ++ [y]) q x y
      rw [show (r ++ [y]).length = n + 1 by simp [hr]] at this
      rw [this]; simp
    have i3 : idxO (((r ++ [y]) ++ x :: q).set (n + 1) y) (n : Int) = some y := by
      rw [s1, idxO_nat]; simp [← hr, List.getElem?_append]
    have s2 : (((r ++ [y]) ++ x :: q).set (n + 1) y).set n x = r ++ x :: (y :: q) := by
      rw [s1, ← hr]; exact set_mid r (y :: q) y x
    rw [loopO_step, isort_L1_eq]
    have c1 : decide ((0 : Int) < ((n + 1 : Nat) : Int)) = true := decide_eq_true (by omega)
    rw [c1, cond_true, i1, Option.bind_some, hw, i2, Option.bind_some, less_v, Option.bind_some]
    by_cases hxy : x < y
    · have c2 : decide (x < y) = true := by simpa using hxy
      rw [c2, cond_true, show Int.toNat ((n + 1 : Nat) : Int) = n + 1 from rfl, i3, Option.bind_some, Option.bind_some, nextO_inl, show Int.toNat (n : Int) = n from rfl, s2]
      have hs2 : r.Pairwise (· ≤ ·) := (List.pairwise_append.1 hs).1
      obtain ⟨j, hj⟩ := isort_in l n r x (y :: q) hr hs2 (by omega)
      refine ⟨j, ?_⟩
      rw [hj, insS_snoc_lt _ _ _ hxy]
      simp
    · have c2 : decide (x < y) = false := by simpa using hxy
      rw [c2, cond_false, Option.bind_some, nextO_inr]
      refine ⟨((n + 1 : Nat) : Int), ?_⟩
      rw [insS_snoc_ge _ _ _ hs hxy]
      simp
theorem isort_out : ∀ (q p : List Int), p.Pairwise (· ≤ ·) → p.length + q.length < 10000000 → ∃ j, loopO (isort_L2 0 ((p.length + q.length : Nat) : Int)) (p ++ q, (p.length : Int)) = some (q.foldl insS p, j)
  | [], p, hs, hn => by
    rw [loopO_step, isort_L2_eq]
    simp [nextO]
  | x :: q, p, hs, hn => by
    have hl : p.length + (x :: q).length = (insS p x).length + q.length := by rw [insS_len]; simp; omega
    rw [loopO_step, isort_L2_eq]
    have c1 : decide ((p.length : Int) < ((p.length + (x :: q).length : Nat) : Int)) = true := decide_eq_true (by simp only [List.length_cons]; omega)
    obtain ⟨j, hj⟩ := isort_in [] p.length p x q rfl hs (by simp at hn; omega)
    have hw : IntKind.i64.wrap ((p.length : Int) + 1) = ((insS p x).length : Int) := by rw [IntKind.wrap_i64, insS_len]; simp at hn; omega
    rw [c1, cond_true, hj, Option.bind_some, Option.bind_some, nextO_inl, hw, hl]
    obtain ⟨j2, hj2⟩ := isort_out q (insS p x) (insS_sorted p x hs) (by rw [insS_len]; simp at hn; omega)
    exact ⟨j2, by rw [hj2]; rfl⟩
theorem isort_short (l : List Int) (hl : l.length < 10000000) : isort_v l 0 (l.length : Int) = some (sortV l) := by
  unfold isort_v
  cases l with
  | nil =>
    rw [loopO_step, isort_L2_eq]
    simp [nextO, sortV, IntKind.wrap_i64]
  | cons x r =>
    have hw : IntKind.i64.wrap (0 + 1) = (([x] : List Int).length : Int) := by rw [IntKind.wrap_i64]; simp
    obtain ⟨j, hj⟩ := isort_out r [x] (by simp) (by simp at hl ⊢; omega)
    rw [hw, show ((x :: r).length : Int) = (([x] : List Int).length + r.length : Nat) by simp; omega, show x :: r = [x] ++ r from rfl, hj]
    rfl
end Go.Am
end
section
namespace Go.Am
open Go Go.Proofs
set_option maxRecDepth 100000
set_option linter.unusedVariables false
set_option linter.unusedSimpArgs false
set_option maxHeartbeats 1000000
theorem len64_ok (n : Nat) (hn : n ≤ 12) : ACalls Try.prog 109 [.p (.int .u64 n)] [] fun h r => h = [] ∧ ∃ m : Int, r = .p (.int .i64 m) := by
  have c1 : decide ((4294967296 : Int) ≤ (n : Int)) = false := by simp; omega
  have c2 : decide ((65536 : Int) ≤ (n : Int)) = false := by simp; omega
  have c3 : decide ((256 : Int) ≤ (n : Int)) = false := by simp; omega
  have w1 : IntKind.u8.wrap (n : Int) = (n : Int) := by simp only [IntKind.wrap, IntKind.signed, IntKind.bits]; first | omega | (simp; omega)
  have r1 : (0 : Int) ≤ (n : Int) ∧ (n : Int) < 256 := by omega
  refine ACalls_X Try.func109 rfl enters109 (by simp [Try.f109]) ?_
  simp only [go_sem, c1, c2, c3, w1]
  refine ⟨by simp; omega, ?_⟩
  exact ⟨_, rfl⟩
theorem len_ok (n : Nat) (hn : n ≤ 12) : ACalls Try.prog 77 [.p (.int .u64 n)] [] fun h r => h = [] ∧ ∃ m : Int, r = .p (.int .i64 m) := by
  refine ACalls_X Try.func77 rfl enters77 (by simp [Try.f77]) ?_
  simp only [go_sem]
  refine Cc_of (len64_ok n hn) ?_
  rintro h' r ⟨rfl, m, rfl⟩
  simp only [go_sem]
  exact ⟨m, rfl⟩
theorem pdq_short (l : List Int) (hl : l.length ≤ 12) (m : Int) : ACalls Try.prog 76 [.ref 1000000 0 l.length l.length, .p (.int .i64 0), .p (.int .i64 l.length), .p (.int .i64 m)] [(1000000, .arr 3 1 (encI l))]
    fun h r => h = [(1000000, .arr 3 1 (encI (sortV l)))] ∧ r = .tup [] := by
  have w1 : IntKind.i64.wrap ((l.length : Int) - 0) = (l.length : Int) := by rw [IntKind.wrap_i64]; omega
  have c1 : decide ((l.length : Int) ≤ 12) = true := by simp; omega
  refine ACalls_X Try.func76 rfl enters76 (by simp [Try.f76]) ?_
  simp only [go_sem]
  refine X_loop 1 ?_
  rw [L_succ]
  refine ⟨_, Wk.refl _, ?_⟩
  simp only [go_sem, w1, c1, encI_len]
  refine Cc_own rfl rfl ?_
  simp only [go_sem, callD_eq]
  refine Kc_of (isort_vok l 0 l.length _ (isort_short l (by omega))) ?_
  rintro h' r ⟨rfl, rfl⟩
  simp only [go_sem]
  all_goals (try refine end_own ?_)
  all_goals (try simp only [go_sem])
theorem sort_own (l : List Int) (hl : l.length ≤ 12) : ACalls Try.prog 49 [.ref 1000000 0 l.length l.length] [(1000000, .arr 3 1 (encI l))] fun h r => h = [(1000000, .arr 3 1 (encI (sortV l)))] ∧ r = .tup [] := by
  have w1 : IntKind.u64.wrap (l.length : Int) = (l.length : Int) := by simp only [IntKind.wrap, IntKind.signed, IntKind.bits]; first | omega | (simp; omega)
  refine ACalls_X Try.func49 rfl enters49 (by simp [Try.f49]) ?_
  simp only [go_sem, encI_len, w1]
  refine Cc_of (len_ok l.length hl) ?_
  rintro h' r ⟨rfl, m, rfl⟩
  simp only [go_sem, encI_len]
  refine Cc_own rfl rfl ?_
  simp only [go_sem, callD_eq]
  refine Kc_of (pdq_short l hl m) ?_
  rintro h' r ⟨rfl, rfl⟩
  simp only [go_sem]
  all_goals (try refine end_own ?_)
  all_goals (try simp only [go_sem])
end Go.Am
end
section
namespace Go.Am
open Go Go.Proofs
set_option maxRecDepth 100000
set_option linter.unusedVariables false
set_option linter.unusedSimpArgs false
theorem sort_row (rows : List (List Int)) (i k : Nat) (hi : i < rows.length) (hl : (rows.getD i []).length ≤ 12) :
    ACalls Try.prog 49 [.nr 1000000 i (rows.getD i []).length k] [(1000000, .nst 24 3 1 k (encR rows) none)] fun h r => h = [(1000000, .nst 24 3 1 k (encR (rows.set i (sortV (rows.getD i [])))) none)] ∧ r = .tup [] := by
  have hg : (encR rows)[i]? = some (encI (rows.getD i [])) := by simp [encR, List.getD, hi]
  refine (ACalls_row (ps := []) hg (encI_len _).symm (sort_own (rows.getD i []) hl) (R' := fun es r => es = encI (sortV (rows.getD i [])) ∧ r = .tup []) ?_).mono ?_
  · rintro h' r ⟨rfl, rfl⟩
    exact ⟨_, rfl, by rw [encI_len, sortV_len], .inl rfl, rfl, rfl⟩
  · rintro h' r ⟨es', rfl, _, rfl, rfl⟩
    exact ⟨by rw [encR_set], rfl⟩
def nt0 : Nt := ⟨[], [], [], [], 0, 0, 0, 0⟩
def Bdr.init : Bdr := ⟨[], [], [], 4, 2, 1, 8, [], [], [], 0, [], false⟩
def addsV : Bdr → List Dc → Option (Int × Int) × Bdr
  | b, [] => (none, b)
  | b, d :: r => if (b.addV d).1 = 0 then addsV (b.addV d).2 r else (some (d.line, (b.addV d).1), b)
def spB (n : Int) (sp : List Spr) (ba : List Int) : List Spr := List.zipWith (fun s x => { s with base := n + x }) sp ba
def plB (sp : List Spr) (p : Int × Int) : Int := (sp.getD p.1.toNat spr0).base + p.2 - 1
def Bdr.net (b : Bdr) : Nt := ⟨b.bl, b.nx.map sortV, spB b.bl.length b.sp b.ba, b.pl.map (plB (spB b.bl.length b.sp b.ba)), b.cq, b.ca, b.cd, b.cp⟩
def nbuildV (d : List Dc) : Nt × Int × Int := match addsV Bdr.init d with
  | (some (l, e), _) => (nt0, l, e)
  | (none, b) => if decide (b.bl.length = 0) = true then (nt0, 0, 15) else if b.sp.any (·.depot) = false then (nt0, 0, 16) else (b.net, 0, 0)
def Bdr.lbox (b : Bdr) : List D := [.ref 901 0 b.bl.length b.bl.length, .nref 902 b.nx.length, .ref 903 0 b.sp.length b.sp.length, .cl [], .p (.int .i64 b.cq), .p (.int .i64 b.ca), .p (.int .i64 b.cd), .p (.int .i64 b.cp),
  .mv 14, .mv 15, .ref 906 0 b.ba.length b.ba.length, .p (.int .i64 b.sl), .ref 907 0 b.pl.length b.pl.length, .p (.bool b.cf)]
def Bdr.lh (b : Bdr) (k : Nat) : Hp := [(17, .box b.lbox), (901, .arr 74 3 (encK b.bl)), (902, .nst 24 3 1 k (encR b.nx) none), (903, .arr 61 6 (encP b.sp)),
  (14, .mp (mpS b.mb)), (15, .mp (mpS b.ms)), (906, .arr 3 1 (encI b.ba)), (907, .arr 98 2 (encQ b.pl))]
theorem Bdr.lh_eq (b : Bdr) (k : Nat) : b.lh k = [(17, .box [.ref 901 0 b.bl.length b.bl.length, .nref 902 b.nx.length, .ref 903 0 b.sp.length b.sp.length, .cl [], .p (.int .i64 b.cq), .p (.int .i64 b.ca), .p (.int .i64 b.cd), .p (.int .i64 b.cp),
  .mv 14, .mv 15, .ref 906 0 b.ba.length b.ba.length, .p (.int .i64 b.sl), .ref 907 0 b.pl.length b.pl.length, .p (.bool b.cf)]), (901, .arr 74 3 (encK b.bl)), (902, .nst 24 3 1 k (encR b.nx) none), (903, .arr 61 6 (encP b.sp)),
  (14, .mp (mpS b.mb)), (15, .mp (mpS b.ms)), (906, .arr 3 1 (encI b.ba)), (907, .arr 98 2 (encQ b.pl))] := rfl
theorem BI.init : BI Bdr.init := by
  refine ⟨by simp [Bdr.init], rfl, fun x i h => ?_, fun x i h => ?_, fun i => by simp [Bdr.init], by simp [Bdr.init], rfl, by simp [Bdr.init], by simp [Bdr.init], by simp [Bdr.init], by simp [Bdr.init], by simp [Bdr.init]⟩ <;> simp [Bdr.init, getS] at h
theorem BI.adds : ∀ (l : List Dc) {b : Bdr}, BI b → BI (addsV b l).2
  | [], b, h => h
  | d :: r, b, h => by
    simp only [addsV]
    split
    · exact BI.adds r (h.add d)
    · exact h
theorem encC_dget (l : List Dc) (i : Nat) (h : i < l.length) : (encC l).getD i [] = [.int .i64 (l.getD i dc0).word, .int .i64 (l.getD i dc0).line, .sl (encS (l.getD i dc0).names), .sl (encI (l.getD i dc0).nums)] := by simp [encC, List.getD, h]
theorem cf_any (l : List Spr) (hl : l.length < 10000000) : cfDepot_v l = some (l.any (·.depot)) := by
  have h := loopO_for (step := s_slices_IndexFunc_L1 l) l.length (fun i => (i : Int)) (Sum.inl (l.length : Int)) (fun i => if (l.getD i spr0).depot = true then some (Sum.inr (i : Int)) else none)
    (fun i hi _ => by
      have hx : idxO l (i : Int) = some (l.getD i spr0) := by rw [idxO_nat]; simp [List.getD, hi]
      rw [s_slices_IndexFunc_L1_eq, decide_eq_true (by omega : (i : Int) < ((l.length : Nat) : Int)), cond_true, hx, Option.bind_some]
      simp only [s_netmap_Build_1_v, Option.bind_some]
      cases c : (l.getD i spr0).depot
      · simp [wrap_succ i (by omega)]
      · simp)
    (fun _ => by rw [s_slices_IndexFunc_L1_eq, decide_eq_false (by omega : ¬ ((l.length : Nat) : Int) < ((l.length : Nat) : Int)), cond_false])
  unfold cfDepot_v s_slices_IndexFunc_v
  rw [show ((0 : Nat) : Int) = 0 from rfl] at h
  rw [h]
  cases hf : (List.range l.length).findSome? (fun i => if (l.getD i spr0).depot = true then some (Sum.inr (i : Int) : Int ⊕ Int) else none) with
  | none =>
    rw [List.findSome?_eq_none_iff] at hf
    have : l.any (·.depot) = false := by
      rw [List.any_eq_false]
      intro x hx
      obtain ⟨i, hi, rfl⟩ := List.getElem_of_mem hx
      have := hf i (by simpa using hi)
      simp [List.getD, hi] at this
      simpa using this
    simp [this]
  | some e =>
    obtain ⟨i, hi, he⟩ := List.exists_of_findSome?_eq_some hf
    simp only [List.mem_range] at hi
    split at he
    · rename_i hd
      cases he
      have : l.any (·.depot) = true := List.any_eq_true.2 ⟨l.getD i spr0, getD_mem l i spr0 hi, hd⟩
      simp [this]
    · cases he
def sB (n : Int) (sp : List Spr) (ba : List Int) (i : Nat) : List Spr := spB n (sp.take i) (ba.take i) ++ sp.drop i
theorem spB_len (n : Int) (sp : List Spr) (ba : List Int) (h : ba.length = sp.length) : (spB n sp ba).length = sp.length := by simp [spB, h]
theorem sB_len (n : Int) (sp : List Spr) (ba : List Int) (i : Nat) (h : ba.length = sp.length) (hi : i ≤ sp.length) : (sB n sp ba i).length = sp.length := by
  simp only [sB, List.length_append, List.length_drop]
  rw [spB_len _ _ _ (by simp [h]), List.length_take]
  omega
theorem sB_at (n : Int) (sp : List Spr) (ba : List Int) (i : Nat) (h : ba.length = sp.length) (hi : i < sp.length) : (sB n sp ba i).getD i spr0 = sp.getD i spr0 := by
  have hl : (spB n (sp.take i) (ba.take i)).length = i := by rw [spB_len _ _ _ (by simp [h]), List.length_take]; omega
  simp only [sB, List.getD]
  rw [List.getElem?_append_right (by omega), hl, List.getElem?_drop]
  simp
theorem sB_set (n : Int) (sp : List Spr) (ba : List Int) (i : Nat) (h : ba.length = sp.length) (hi : i < sp.length) : (sB n sp ba i).set i { sp.getD i spr0 with base := n + ba.getD i 0 } = sB n sp ba (i + 1) := by
  have hl : (spB n (sp.take i) (ba.take i)).length = i := by rw [spB_len _ _ _ (by simp [h]), List.length_take]; omega
  have hd : sp.drop i = sp.getD i spr0 :: sp.drop (i + 1) := by rw [List.drop_eq_getElem_cons hi]; simp [List.getD, hi]
  have ht : sp.take (i + 1) = sp.take i ++ [sp.getD i spr0] := by rw [List.take_add_one]; simp [List.getD, hi]
  have hb : ba.take (i + 1) = ba.take i ++ [ba.getD i 0] := by rw [List.take_add_one]; simp [List.getD, h, hi]
  unfold sB
  rw [List.set_append_right _ _ (by omega), hl, Nat.sub_self, hd, List.set_cons_zero, ht, hb]
  unfold spB
  rw [List.zipWith_append (by simp [h])]
  simp
def smallD (d : List Dc) : Prop := d.length < 10000000 ∧ ∀ x ∈ d, x.names.length ≤ 10000000 ∧ x.nums.length ≤ 10000000
set_option maxHeartbeats 4000000 in
theorem nbuild_ok (d : List Dc) (hd : smallD d) : ACalls Try.prog 27 [.p (.sl (encC d))] [] fun h r => h = [] ∧ r = .tup [.agg (nbuildV d).1.cs, .p (.int .i64 (nbuildV d).2.1), .p (.int .i64 (nbuildV d).2.2)] := by
  obtain ⟨hd1, hd2⟩ := hd
  refine ACalls_X Try.func27 rfl enters27 (by simp [Try.f27]) ?_
  simp only [go_sem, KK.fit]
  refine X_loop_inv (fun q : Nat × Bdr × Nat => ⟨[(2, .ptr 2 0), (5, .ptr 17 0), (23, .p (.sl (encC d))), (24, .p (.int .i64 d.length)), (25, .p (.int .i64 (q.1 : Nat)))], (2, .box [.cl [], .cl [], .cl [], .cl [], .p (.int .i64 0), .p (.int .i64 0), .p (.int .i64 0), .p (.int .i64 0)]) :: q.2.1.lh q.2.2, 139⟩)
    (fun q => q.1 ≤ d.length ∧ BI q.2.1 ∧ addsV Bdr.init d = addsV q.2.1 (d.drop q.1)) (fun q => d.length - q.1) (0, Bdr.init, 0) ⟨Nat.zero_le _, BI.init, by simp⟩
    ((Wk.nilBox (id := 17) (j := 0) (q := 901) (sz := 3) 74 rfl rfl rfl (by decide)).trans ((Wk.nilBoxN (id := 17) (j := 1) (q := 902) (sz := 1) 24 3 rfl rfl rfl (by decide)).trans
      ((Wk.nilBox (id := 17) (j := 2) (q := 903) (sz := 6) 61 rfl rfl rfl (by decide)).trans ((Wk.nilBox (id := 17) (j := 10) (q := 906) (sz := 1) 3 rfl rfl rfl (by decide)).trans
      ((Wk.nilBox (id := 17) (j := 12) (q := 907) (sz := 2) 98 rfl rfl rfl (by decide)).trans (Wk.forget (by simp [Le, LeE, LeH, get, envIds, hpIds, KeepH, D.ids, idsL, AO.ids, setL, base, Bdr.lh_eq, Bdr.init, encK, encP, encI, encR, encQ, mpS, encC_len]))))))) ?_
  rintro ⟨i, b, k⟩ n ⟨hi, hB, he⟩ ih
  dsimp only at hi hB he
  simp only [go_sem, Bdr.lh_eq]
  refine Cn_split (fun h2 => ?_) (fun h2 => ?_)
  · have hlt : i < d.length := by simp at h2; omega
    have hw := wrap_succ i (by omega)
    have hg := encC_dget d i hlt
    have r1 : (0 : Int) ≤ (i : Int) ∧ (i : Int) < (d.length : Int) := by omega
    have hdr : d.drop i = d.getD i dc0 :: d.drop (i + 1) := by
      rw [List.drop_eq_getElem_cons hlt]; simp [List.getD, hlt]
    have hx := hd2 (d.getD i dc0) (getD_mem d i dc0 hlt)
    rw [hdr] at he
    generalize d.getD i dc0 = x at *
    simp only [go_sem, Bdr.lh_eq, encC_len, Int.toNat_natCast, r1, hg]
    refine Cc_of (add_ok b k x hB hx) ?_
    rintro h' r ⟨k2, rfl, rfl⟩
    have hB2 := hB.add x
    simp only [addsV] at he
    cases c1 : decide ((b.addV x).1 = 0)
    · have c1' : ¬ (b.addV x).1 = 0 := of_decide_eq_false c1
      rw [if_neg c1'] at he
      simp only [go_sem, Bdr.h_eq (b.addV x).2 k2, c1]
      refine X_any [(7, .box [.p (.int .i64 x.word), .p (.int .i64 x.line), .p (.sl (encS x.names)), .p (.sl (encI x.nums))])] mixed (p := [(0, 0), (1, 0), (2, 0), (3, 0), (4, 2), (5, 0), (6, 0)]) (by kernel_rfl) (by simp [LeH, get]) ?_
      simp only [go_sem]
      refine end_pure ?_
      simp only [go_sem]
      unfold nbuildV
      rw [he]
      rfl
    · have c1' : (b.addV x).1 = 0 := of_decide_eq_true c1
      rw [if_pos c1'] at he
      simp only [go_sem, Bdr.h_eq (b.addV x).2 k2, c1, hw]
      refine ih (i + 1, (b.addV x).2, k2) _ ⟨hlt, hB2, he⟩ (by simp; omega) ?_
      (refine Wk.forget ?_; simp [Le, LeE, LeH, get, envIds, hpIds, KeepH, D.ids, idsL, AO.ids, setL, base, Bdr.lh_eq]; done)
  · have : i = d.length := by simp at h2; omega
    subst this
    rw [List.drop_length] at he
    simp only [addsV] at he
    have hv : nbuildV d = if decide (b.bl.length = 0) = true then (nt0, 0, 15) else if b.sp.any (·.depot) = false then (nt0, 0, 16) else (b.net, 0, 0) := by
      unfold nbuildV; rw [he]
    rw [hv]
    have hc : decide ((b.bl.length : Int) = 0) = decide (b.bl.length = 0) := by
      by_cases h : b.bl.length = 0 <;> simp [h]
    cases c1 : decide (b.bl.length = 0)
    rotate_left
    · simp only [go_sem, encK_len, hc, c1]
      refine end_pure ?_
      simp only [go_sem]
      rfl
    simp only [go_sem, encK_len, hc, c1]
    refine Cc_bor rfl rfl (cfDepot_vok b.sp _ (cf_any b.sp (by have := hB.ns; omega))) (by simp [BorL, Bor, ev, get, List.take_of_length_le, encI_takeF, encS_takeF, encT_takeF, encG_takeF, encC_takeF, encL_takeF, encK_takeF, encP_takeF, encI_len, encS_len, encT_len2, encG_len2, encC_len, encL_len, encK_len2, encP_len2, encI_nil, encS_nil, encT_nil, encG_nil, encC_nil, encL_nil, encK_nil, encP_nil]) ?_
    rintro h' r ⟨rfl, rfl⟩
    refine ⟨rfl, rfl, ?_⟩
    cases c2 : b.sp.any (·.depot)
    · simp only [go_sem, c2]
      refine end_pure ?_
      simp only [go_sem]
      rfl
    simp only [go_sem, c2]
    have hnb := hB.nb
    have hns := hB.ns
    have hba := hB.nba
    refine X_loop_inv (fun i : Nat => ⟨[(2, .ptr 2 0), (5, .ptr 17 0), (60, .p (.int .i64 b.sp.length)), (61, .p (.int .i64 (i : Nat)))], (2, .box [.cl [], .cl [], .cl [], .cl [], .p (.int .i64 0), .p (.int .i64 0), .p (.int .i64 0), .p (.int .i64 0)]) :: ({ b with sp := sB b.bl.length b.sp b.ba i } : Bdr).lh k, 139⟩)
      (fun i => i ≤ b.sp.length) (fun i => b.sp.length - i) 0 (Nat.zero_le _) (Wk.forget (by simp [Le, LeE, LeH, get, envIds, hpIds, KeepH, D.ids, idsL, AO.ids, setL, base, Bdr.lh_eq, sB, spB, encP_len2])) ?_
    rintro i m hi ih2
    have hl := sB_len b.bl.length b.sp b.ba i hba hi
    simp only [go_sem, Bdr.lh_eq, hl]
    refine Cn_split (fun h3 => ?_) (fun h3 => ?_)
    · have hlt : i < b.sp.length := by simp at h3; omega
      have hw := wrap_succ i (by omega)
      have g1 := encP_get (sB b.bl.length b.sp b.ba i) i (by omega)
      rw [sB_at _ _ _ _ hba hlt] at g1
      have g2 := encI_get b.ba i (by omega)
      have hbb := hB.bas (b.ba.getD i 0) (getD_mem b.ba i 0 (by omega))
      have w1 : IntKind.i64.wrap ((b.bl.length : Int) + b.ba.getD i 0) = (b.bl.length : Int) + b.ba.getD i 0 := by rw [IntKind.wrap_i64]; omega
      have r1 : (0 : Int) ≤ (i : Int) ∧ (i : Int) < (b.sp.length : Int) := by omega
      have hs := sB_set b.bl.length b.sp b.ba i hba hlt
      simp only [go_sem, Bdr.lh_eq, hl]
      refine X_any0 mixed (p := [(0, 0), (1, 0), (2, 0), (3, 0), (4, 0), (5, 0), (6, 0), (7, 0), (8, 0), (9, 0), (10, 0), (11, 0), (12, 0), (13, 0), (14, 0), (15, 0), (16, 0), (17, 0), (18, 0), (19, 0), (20, 0), (21, 0), (22, 3)]) (by kernel_rfl) (by simp [LeH, get]) ?_
      simp only [go_sem, hba, r1, encI_len, encK_len, encP_len2, Int.toNat_natCast, g1, g2, w1, hl, hw]
      refine ih2 (i + 1) _ hlt (by omega) ?_
      rw [← hs]
      (refine Wk.forget ?_; simp [Le, LeE, LeH, get, envIds, hpIds, KeepH, D.ids, idsL, AO.ids, setL, base, Bdr.lh_eq, encP_setE, encP_len2, hl, hba]; done)
    obtain rfl : i = b.sp.length := by simp at h3; omega
    have hsB : sB b.bl.length b.sp b.ba b.sp.length = spB b.bl.length b.sp b.ba := by
      unfold sB
      rw [List.drop_length, List.append_nil, List.take_length, ← hba, List.take_length]
    rw [hsB] at hl ⊢
    have hnp := hB.np
    simp only [go_sem, Bdr.lh_eq, encQ_len]
    refine X_loop_inv (fun i : Nat => ⟨[(2, .ptr 2 0), (5, .ptr 17 0), (90, .ref 907 0 b.pl.length b.pl.length), (91, .p (.int .i64 b.pl.length)), (92, .p (.int .i64 (i : Nat)))], [(2, .box [.cl [], .cl [], .cl [], .cl [], .p (.int .i64 0), .p (.int .i64 0), .p (.int .i64 0), .p (.int .i64 0)]),
        (17, .box [.ref 901 0 b.bl.length b.bl.length, .nref 902 b.nx.length, .ref 903 0 b.sp.length b.sp.length, .ref 904 0 i i, .p (.int .i64 b.cq), .p (.int .i64 b.ca), .p (.int .i64 b.cd), .p (.int .i64 b.cp),
          .mv 14, .mv 15, .ref 906 0 b.ba.length b.ba.length, .p (.int .i64 b.sl), .ref 907 0 b.pl.length b.pl.length, .p (.bool b.cf)]), (901, .arr 74 3 (encK b.bl)), (902, .nst 24 3 1 k (encR b.nx) none), (903, .arr 61 6 (encP (spB b.bl.length b.sp b.ba))),
        (14, .mp (mpS b.mb)), (15, .mp (mpS b.ms)), (906, .arr 3 1 (encI b.ba)), (904, .arr 3 1 (encI ((b.pl.take i).map (plB (spB b.bl.length b.sp b.ba))))), (907, .arr 98 2 (encQ b.pl))], 139⟩)
      (fun i => i ≤ b.pl.length) (fun i => b.pl.length - i) 0 (Nat.zero_le _) ((Wk.nilBox (id := 17) (j := 3) (q := 904) (sz := 1) 3 rfl rfl rfl (by decide)).trans (Wk.forget (by simp [Le, LeE, LeH, get, envIds, hpIds, KeepH, D.ids, idsL, AO.ids, setL, base, encI, encQ_len, hl]))) ?_
    rintro i m hi ih3
    simp only [go_sem]
    refine Cn_split (fun h3 => ?_) (fun h3 => ?_)
    · have hlt : i < b.pl.length := by simp at h3; omega
      have hw := wrap_succ i (by omega)
      have g1 : (encQ b.pl).getD i [] = [.int .i64 (b.pl.getD i (0, 0)).1, .int .i64 (b.pl.getD i (0, 0)).2] := by simp [encQ, List.getD, hlt]
      have r1 : (0 : Int) ≤ (i : Int) ∧ (i : Int) < (b.pl.length : Int) := by omega
      obtain ⟨⟨j, hj, hjl⟩, hp2⟩ := hB.pls (b.pl.getD i (0, 0)) (getD_mem b.pl i (0, 0) hlt)
      have r2 : (0 : Int) ≤ (j : Int) ∧ (j : Int) < (b.sp.length : Int) := by omega
      have g2 := encP_get (spB b.bl.length b.sp b.ba) j (by omega)
      have hbs : 0 ≤ ((spB b.bl.length b.sp b.ba).getD j spr0).base ∧ ((spB b.bl.length b.sp b.ba).getD j spr0).base ≤ 48 := by
        have := hB.bas (b.ba.getD j 0) (getD_mem b.ba j 0 (by omega))
        have e : ((spB b.bl.length b.sp b.ba).getD j spr0).base = b.bl.length + b.ba.getD j 0 := by
          simp [spB, List.getD, List.getElem?_zipWith, hjl, show j < b.ba.length by omega]
        omega
      have hpl : plB (spB b.bl.length b.sp b.ba) (b.pl.getD i (0, 0)) = ((spB b.bl.length b.sp b.ba).getD j spr0).base + (b.pl.getD i (0, 0)).2 - 1 := by
        unfold plB
        rw [hj]
        rfl
      have htk : (b.pl.take (i + 1)).map (plB (spB b.bl.length b.sp b.ba)) = (b.pl.take i).map (plB (spB b.bl.length b.sp b.ba)) ++ [plB (spB b.bl.length b.sp b.ba) (b.pl.getD i (0, 0))] := by
        rw [List.take_add_one, List.map_append]; congr 1; simp [List.getD, hlt]
      rw [hj] at g1
      generalize (spB b.bl.length b.sp b.ba).getD j spr0 = sj at *
      generalize b.pl.getD i (0, 0) = pi at *
      have w1 : IntKind.i64.wrap (IntKind.i64.wrap (sj.base + pi.2) - 1) = sj.base + pi.2 - 1 := by rw [IntKind.wrap_i64, IntKind.wrap_i64]; omega
      simp only [go_sem, encQ_len, r1, Int.toNat_natCast, g1]
      refine X_any [(17, .box [.ref 901 0 b.bl.length b.bl.length, .nref 902 b.nx.length, .ref 903 0 b.sp.length b.sp.length, .ref 904 0 i i, .p (.int .i64 b.cq), .p (.int .i64 b.ca), .p (.int .i64 b.cd), .p (.int .i64 b.cp),
          .mv 14, .mv 15, .ref 906 0 b.ba.length b.ba.length, .p (.int .i64 b.sl), .ref 907 0 b.pl.length b.pl.length, .p (.bool b.cf)]), (11, .box [.p (.int .i64 j), .p (.int .i64 pi.2)]), (903, .arr 61 6 (encP (spB b.bl.length b.sp b.ba)))] mixed (p := [(0, 0), (1, 0), (2, 0), (3, 0), (4, 0), (5, 0), (6, 0), (7, 0), (8, 0), (9, 0), (10, 0), (11, 0), (12, 0), (13, 0), (14, 0), (15, 0), (16, 0), (17, 0), (18, 0), (19, 0), (20, 1), (21, 2), (22, 0), (23, 0), (24, 0), (25, 3)]) (by kernel_rfl) (by simp [LeH, get]) ?_
      simp only [go_sem, hl, r2, Int.toNat_natCast, encP_len2, g2, w1, encI_len, List.length_map, List.length_take, Nat.min_eq_left hi]
      refine ⟨⟨wid1 _ _ rfl, by omega⟩, ?_⟩
      simp only [go_sem, hw]
      refine ih3 (i + 1) _ hlt (by omega) ?_
      rw [htk, hpl]
      (refine Wk.forget ?_; simp [Le, LeE, LeH, get, envIds, hpIds, KeepH, D.ids, idsL, AO.ids, setL, base, encI_snoc, Nat.min_eq_left hi]; done)
    obtain rfl : i = b.pl.length := by simp at h3; omega
    rw [List.take_length]
    have hnn := hB.nn
    simp only [go_sem, encR_len]
    refine X_loop_inv (fun q : Nat × List (List Int) => ⟨[(2, .ptr 2 0), (5, .ptr 17 0), (126, .nref 902 b.nx.length), (127, .p (.int .i64 b.nx.length)), (128, .p (.int .i64 (q.1 : Nat)))], [(2, .box [.cl [], .cl [], .cl [], .cl [], .p (.int .i64 0), .p (.int .i64 0), .p (.int .i64 0), .p (.int .i64 0)]),
        (17, .box [.ref 901 0 b.bl.length b.bl.length, .nref 902 b.nx.length, .ref 903 0 b.sp.length b.sp.length, .ref 904 0 b.pl.length b.pl.length, .p (.int .i64 b.cq), .p (.int .i64 b.ca), .p (.int .i64 b.cd), .p (.int .i64 b.cp),
          .mv 14, .mv 15, .ref 906 0 b.ba.length b.ba.length, .p (.int .i64 b.sl), .ref 907 0 b.pl.length b.pl.length, .p (.bool b.cf)]), (901, .arr 74 3 (encK b.bl)), (902, .nst 24 3 1 k (encR q.2) none), (903, .arr 61 6 (encP (spB b.bl.length b.sp b.ba))),
        (14, .mp (mpS b.mb)), (15, .mp (mpS b.ms)), (906, .arr 3 1 (encI b.ba)), (904, .arr 3 1 (encI (b.pl.map (plB (spB b.bl.length b.sp b.ba))))), (907, .arr 98 2 (encQ b.pl))], 139⟩)
      (fun q => q.1 ≤ b.nx.length ∧ q.2 = (b.nx.take q.1).map sortV ++ b.nx.drop q.1) (fun q => b.nx.length - q.1) (0, b.nx) ⟨Nat.zero_le _, by simp⟩ (Wk.forget (by simp [Le, LeE, LeH, get, envIds, hpIds, KeepH, D.ids, idsL, AO.ids, setL, base])) ?_
    rintro ⟨i, rows⟩ m ⟨hi, hrw⟩ ih4
    dsimp only at hi hrw
    have hrl : rows.length = b.nx.length := by rw [hrw]; simp; omega
    simp only [go_sem]
    refine Cn_split (fun h3 => ?_) (fun h3 => ?_)
    · have hlt : i < b.nx.length := by simp at h3; omega
      have hw := wrap_succ i (by omega)
      have r1 : (0 : Int) ≤ (i : Int) ∧ (i : Int) < (b.nx.length : Int) := by omega
      have hat : rows.getD i [] = b.nx.getD i [] := by
        rw [hrw]
        simp only [List.getD]
        rw [List.getElem?_append_right (by simp; omega), List.getElem?_drop]
        simp [Nat.min_eq_left hi]
      have hset : rows.set i (sortV (rows.getD i [])) = (b.nx.take (i + 1)).map sortV ++ b.nx.drop (i + 1) := by
        rw [hat, hrw, List.set_append_right _ _ (by simp; omega)]
        have hdr : b.nx.drop i = b.nx.getD i [] :: b.nx.drop (i + 1) := by rw [List.drop_eq_getElem_cons hlt]; simp [List.getD, hlt]
        rw [hdr, show i - ((b.nx.take i).map sortV).length = 0 by simp; omega, List.set_cons_zero, List.take_add_one, List.map_append]
        simp [List.getD, hlt]
      have hrow := hB.row i
      simp only [go_sem, r1, Int.toNat_natCast, encR_len, encR_get, encI_len, hrl]
      refine Cc_own rfl rfl ?_
      simp only [go_sem, callD_eq]
      refine Kc_of (sort_row rows i k (by omega) (by rw [hat]; omega)) ?_
      rintro h' r ⟨rfl, rfl⟩
      simp only [go_sem, hw]
      refine ih4 (i + 1, _) _ ⟨hlt, hset⟩ (by simp; omega) ?_
      (refine Wk.forget ?_; simp [Le, LeE, LeH, get, envIds, hpIds, KeepH, D.ids, idsL, AO.ids, setL, base]; done)
    obtain rfl : i = b.nx.length := by simp at h3; omega
    rw [List.take_length, List.drop_length, List.append_nil] at hrw
    subst hrw
    simp only [go_sem]
    refine end_pure ?_
    simp only [go_sem, encK_len, encP_len2, encI_len, hl, encR_len, List.length_map]
    have e1 : List.take b.sp.length (encP (spB b.bl.length b.sp b.ba)) = encP (spB b.bl.length b.sp b.ba) := List.take_of_length_le (by rw [encP_len2, hl]; exact Nat.le_refl _)
    have e2 : List.take b.pl.length (encI (b.pl.map (plB (spB b.bl.length b.sp b.ba)))) = encI (b.pl.map (plB (spB b.bl.length b.sp b.ba))) := List.take_of_length_le (by simp [encI])
    have e3 : (encR (b.nx.map sortV)).map (fun r => [Pd.sl r]) = encG (b.nx.map sortV) := by simp [encR, encG]
    rw [e1, e2, e3]
    simp [c1]
    rfl
end Go.Am
end
section
namespace Go.Am
open Go Go.Proofs
set_option maxRecDepth 100000
set_option maxHeartbeats 2000000
set_option linter.unusedSimpArgs false
set_option linter.unusedVariables false
noncomputable def has_L1 (a0 : List Int) (a1 : Int) : Int → Option ((Int) ⊕ (Int ⊕ Bool))
  | v2 => cond (decide (v2 < ((a0.length : Nat) : Int))) (Option.bind (idxO a0 v2) fun x9 => cond (decide (x9 = a1)) (some (Sum.inr (.inr (true)))) (some (Sum.inl (IntKind.i64.wrap (v2 + 1))))) (some (Sum.inr (.inl v2)))
theorem has_L1_eq (a0 : List Int) (a1 : Int) (v2 : Int) : has_L1 a0 a1 v2 = cond (decide (v2 < ((a0.length : Nat) : Int))) (Option.bind (idxO a0 v2) fun x9 => cond (decide (x9 = a1)) (some (Sum.inr (.inr (true)))) (some (Sum.inl (IntKind.i64.wrap (v2 + 1))))) (some (Sum.inr (.inl v2))) := rfl
noncomputable def has_v (a0 : List Int) (a1 : Int) : Option (Bool) :=
  Option.bind (loopO (has_L1 a0 a1) 0) (fun | .inl v14 => some false | .inr (r15) => some r15)
noncomputable def insert_L1 (a0 : List Int) (a1 : Int) : (List Int) × Bool × Int → Option (((List Int) × Bool × Int) ⊕ (((List Int) × Bool × Int)))
  | (v6, v7, v8) => cond (decide (v8 < ((a0.length : Nat) : Int))) (cond v7 (Option.bind (idxO a0 v8) fun x26 => cond (decide (v6.length + 1 < 10000000)) (some (Sum.inl ((v6 ++ [x26]), true, (IntKind.i64.wrap (v8 + 1))))) none) (Option.bind (idxO a0 v8) fun x18 => cond (decide (a1 < x18)) (cond (decide (v6.length + 1 < 10000000)) (cond (decide ((v6 ++ [a1]).length + 1 < 10000000)) (some (Sum.inl (((v6 ++ [a1]) ++ [x18]), true, (IntKind.i64.wrap (v8 + 1))))) none) none) (cond (decide (v6.length + 1 < 10000000)) (some (Sum.inl ((v6 ++ [x18]), false, (IntKind.i64.wrap (v8 + 1))))) none))) (some (Sum.inr (v6, v7, v8)))
theorem insert_L1_eq (a0 : List Int) (a1 : Int) (v6 : List Int) (v7 : Bool) (v8 : Int) : insert_L1 a0 a1 (v6, v7, v8) = cond (decide (v8 < ((a0.length : Nat) : Int))) (cond v7 (Option.bind (idxO a0 v8) fun x26 => cond (decide (v6.length + 1 < 10000000)) (some (Sum.inl ((v6 ++ [x26]), true, (IntKind.i64.wrap (v8 + 1))))) none) (Option.bind (idxO a0 v8) fun x18 => cond (decide (a1 < x18)) (cond (decide (v6.length + 1 < 10000000)) (cond (decide ((v6 ++ [a1]).length + 1 < 10000000)) (some (Sum.inl (((v6 ++ [a1]) ++ [x18]), true, (IntKind.i64.wrap (v8 + 1))))) none) none) (cond (decide (v6.length + 1 < 10000000)) (some (Sum.inl ((v6 ++ [x18]), false, (IntKind.i64.wrap (v8 + 1))))) none))) (some (Sum.inr (v6, v7, v8))) := rfl
noncomputable def insert_v (a0 : List Int) (a1 : Int) : Option ((List Int)) :=
  Option.bind (loopO (insert_L1 a0 a1) ([], false, 0)) (fun (v32, v33, v34) => cond v33 (some v32) (cond (decide (v32.length + 1 < 10000000)) (some (v32 ++ [a1])) none))
end Go.Am
end
section
namespace Go.Am
open Go Go.Proofs
set_option maxRecDepth 100000
set_option maxHeartbeats 2000000
set_option linter.unusedSimpArgs false
set_option linter.unusedVariables false
noncomputable def rblock_L1 (a0 : Nt) (a1 : List UInt8) : Int → Option ((Int) ⊕ (Int ⊕ Int))
  | v2 => cond (decide (v2 < ((a0.blocks.length : Nat) : Int))) (Option.bind (idxO a0.blocks v2) fun x9 => cond (decide (x9.name = a1)) (some (Sum.inr (.inr (v2)))) (some (Sum.inl (IntKind.i64.wrap (v2 + 1))))) (some (Sum.inr (.inl v2)))
theorem rblock_L1_eq (a0 : Nt) (a1 : List UInt8) (v2 : Int) : rblock_L1 a0 a1 v2 = cond (decide (v2 < ((a0.blocks.length : Nat) : Int))) (Option.bind (idxO a0.blocks v2) fun x9 => cond (decide (x9.name = a1)) (some (Sum.inr (.inr (v2)))) (some (Sum.inl (IntKind.i64.wrap (v2 + 1))))) (some (Sum.inr (.inl v2))) := rfl
noncomputable def rblock_v (a0 : Nt) (a1 : List UInt8) : Option (Int) :=
  Option.bind (loopO (rblock_L1 a0 a1) 0) (fun | .inl v14 => some (-1) | .inr (r15) => some r15)
noncomputable def rspur_L1 (a0 : Nt) (a1 : List UInt8) : Int → Option ((Int) ⊕ (Int ⊕ Int))
  | v2 => cond (decide (v2 < ((a0.spurs.length : Nat) : Int))) (Option.bind (idxO a0.spurs v2) fun x9 => cond (decide (x9.name = a1)) (some (Sum.inr (.inr (v2)))) (some (Sum.inl (IntKind.i64.wrap (v2 + 1))))) (some (Sum.inr (.inl v2)))
theorem rspur_L1_eq (a0 : Nt) (a1 : List UInt8) (v2 : Int) : rspur_L1 a0 a1 v2 = cond (decide (v2 < ((a0.spurs.length : Nat) : Int))) (Option.bind (idxO a0.spurs v2) fun x9 => cond (decide (x9.name = a1)) (some (Sum.inr (.inr (v2)))) (some (Sum.inl (IntKind.i64.wrap (v2 + 1))))) (some (Sum.inr (.inl v2))) := rfl
noncomputable def rspur_v (a0 : Nt) (a1 : List UInt8) : Option (Int) :=
  Option.bind (loopO (rspur_L1 a0 a1) 0) (fun | .inl v14 => some (-1) | .inr (r15) => some r15)
noncomputable def rconfigured_v (a0 : Cfg4) : Option (Bool) :=
  cond (decide (1 ≤ a0.cq)) (cond (decide (a0.cq ≤ 8)) (cond (decide (0 ≤ a0.ca)) (cond (decide (a0.ca ≤ 4)) (cond (decide (0 ≤ a0.cd)) (cond (decide (a0.cd ≤ 3)) (cond (decide (1 ≤ a0.cp)) (some (decide (a0.cp ≤ 16))) (some false)) (some false)) (some false)) (some false)) (some false)) (some false)) (some false)
noncomputable def rbBlock_v (a0 : List Blk) (a1 : List (List Int)) (a2 : List Spr) (a3 : List Int) (a4 : Int) (a5 : Int) (a6 : Int) (a7 : Int) (a8 : Bool) (a9 : Dc) : Option (Int × (List Blk) × (List (List Int)) × (List Spr) × (List Int) × Int × Int × Int × Int × Bool) :=
  Option.bind (idxO a9.names 0) fun x1 => Option.bind (rblock_v (⟨a0, a1, a2, a3, a4, a5, a6, a7⟩ : Nt) x1) fun x5 => cond (decide (0 ≤ x5)) (some (8, a0, a1, a2, a3, a4, a5, a6, a7, a8)) (Option.bind (rspur_v (⟨a0, a1, a2, a3, a4, a5, a6, a7⟩ : Nt) x1) fun x8 => cond (decide (0 ≤ x8)) (some (8, a0, a1, a2, a3, a4, a5, a6, a7, a8)) (cond (decide (((a0.length : Nat) : Int) = 24)) (some (14, a0, a1, a2, a3, a4, a5, a6, a7, a8)) (Option.bind (idxO a9.nums 0) fun x12 => Option.bind (idxO a9.nums 1) fun x16 => cond (decide (a0.length + 1 < 10000000)) (cond (decide (a1.length + 1 < 10000000)) (some (0, (a0 ++ [(⟨x1, x12, x16⟩ : Blk)]), (a1 ++ [[]]), a2, a3, a4, a5, a6, a7, a8)) none) none)))
noncomputable def rbLane_L1 (a0 : List Blk) (a2 : List Spr) (a3 : List Int) (a4 : Int) (a5 : Int) (a6 : Int) (a7 : Int) (a8 : Bool) (a9 : Dc) : (List (List Int)) × Int → Option (((List (List Int)) × Int) ⊕ (((List (List Int)) × Int) ⊕ (Int × (List Blk) × (List (List Int)) × (List Spr) × (List Int) × Int × Int × Int × Int × Bool)))
  | (v3, v4) => cond (decide ((IntKind.i64.wrap (v4 + 1)) < ((a9.names.length : Nat) : Int))) (Option.bind (idxO a9.names v4) fun x11 => Option.bind (idxO a9.names (IntKind.i64.wrap (v4 + 1))) fun x15 => Option.bind (rblock_v (⟨a0, v3, a2, a3, a4, a5, a6, a7⟩ : Nt) x11) fun x19 => Option.bind (rblock_v (⟨a0, v3, a2, a3, a4, a5, a6, a7⟩ : Nt) x15) fun x21 => cond (decide (x19 < 0)) (some (Sum.inr (.inr ((9, a0, v3, a2, a3, a4, a5, a6, a7, a8))))) (cond (decide (x21 < 0)) (some (Sum.inr (.inr ((9, a0, v3, a2, a3, a4, a5, a6, a7, a8))))) (cond (decide (x19 = x21)) (some (Sum.inr (.inr ((10, a0, v3, a2, a3, a4, a5, a6, a7, a8))))) (Option.bind (idxO v3 x19) fun x26 => Option.bind (has_v x26 x21) fun x30 => cond x30 (some (Sum.inr (.inr ((11, a0, v3, a2, a3, a4, a5, a6, a7, a8))))) (cond (decide (((x26.length : Nat) : Int) = 4)) (some (Sum.inr (.inr ((14, a0, v3, a2, a3, a4, a5, a6, a7, a8))))) (Option.bind (insert_v x26 x21) fun x34 => some (Sum.inl ((v3.set (Int.toNat x19) x34), (IntKind.i64.wrap (v4 + 1)))))))))) (some (Sum.inr (.inl (v3, v4))))
theorem rbLane_L1_eq (a0 : List Blk) (a2 : List Spr) (a3 : List Int) (a4 : Int) (a5 : Int) (a6 : Int) (a7 : Int) (a8 : Bool) (a9 : Dc) (v3 : List (List Int)) (v4 : Int) : rbLane_L1 a0 a2 a3 a4 a5 a6 a7 a8 a9 (v3, v4) = cond (decide ((IntKind.i64.wrap (v4 + 1)) < ((a9.names.length : Nat) : Int))) (Option.bind (idxO a9.names v4) fun x11 => Option.bind (idxO a9.names (IntKind.i64.wrap (v4 + 1))) fun x15 => Option.bind (rblock_v (⟨a0, v3, a2, a3, a4, a5, a6, a7⟩ : Nt) x11) fun x19 => Option.bind (rblock_v (⟨a0, v3, a2, a3, a4, a5, a6, a7⟩ : Nt) x15) fun x21 => cond (decide (x19 < 0)) (some (Sum.inr (.inr ((9, a0, v3, a2, a3, a4, a5, a6, a7, a8))))) (cond (decide (x21 < 0)) (some (Sum.inr (.inr ((9, a0, v3, a2, a3, a4, a5, a6, a7, a8))))) (cond (decide (x19 = x21)) (some (Sum.inr (.inr ((10, a0, v3, a2, a3, a4, a5, a6, a7, a8))))) (Option.bind (idxO v3 x19) fun x26 => Option.bind (has_v x26 x21) fun x30 => cond x30 (some (Sum.inr (.inr ((11, a0, v3, a2, a3, a4, a5, a6, a7, a8))))) (cond (decide (((x26.length : Nat) : Int) = 4)) (some (Sum.inr (.inr ((14, a0, v3, a2, a3, a4, a5, a6, a7, a8))))) (Option.bind (insert_v x26 x21) fun x34 => some (Sum.inl ((v3.set (Int.toNat x19) x34), (IntKind.i64.wrap (v4 + 1)))))))))) (some (Sum.inr (.inl (v3, v4)))) := rfl
noncomputable def rbLane_v (a0 : List Blk) (a1 : List (List Int)) (a2 : List Spr) (a3 : List Int) (a4 : Int) (a5 : Int) (a6 : Int) (a7 : Int) (a8 : Bool) (a9 : Dc) : Option (Int × (List Blk) × (List (List Int)) × (List Spr) × (List Int) × Int × Int × Int × Int × Bool) :=
  Option.bind (loopO (rbLane_L1 a0 a2 a3 a4 a5 a6 a7 a8 a9) (a1, 0)) (fun | .inl (v36, v37) => some (0, a0, v36, a2, a3, a4, a5, a6, a7, a8) | .inr (r38) => some r38)
noncomputable def rbSpur_v (a0 : List Blk) (a1 : List (List Int)) (a2 : List Spr) (a3 : List Int) (a4 : Int) (a5 : Int) (a6 : Int) (a7 : Int) (a8 : Bool) (a9 : Dc) : Option (Int × (List Blk) × (List (List Int)) × (List Spr) × (List Int) × Int × Int × Int × Int × Bool) :=
  Option.bind (idxO a9.names 1) fun x1 => Option.bind (idxO a9.names 2) fun x5 => Option.bind (rblock_v (⟨a0, a1, a2, a3, a4, a5, a6, a7⟩ : Nt) x1) fun x9 => Option.bind (rblock_v (⟨a0, a1, a2, a3, a4, a5, a6, a7⟩ : Nt) x5) fun x11 => Option.bind (idxO a9.names 0) fun x13 => Option.bind (rblock_v (⟨a0, a1, a2, a3, a4, a5, a6, a7⟩ : Nt) x13) fun x17 => cond (decide (0 ≤ x17)) (some (8, a0, a1, a2, a3, a4, a5, a6, a7, a8)) (Option.bind (rspur_v (⟨a0, a1, a2, a3, a4, a5, a6, a7⟩ : Nt) x13) fun x20 => cond (decide (0 ≤ x20)) (some (8, a0, a1, a2, a3, a4, a5, a6, a7, a8)) (cond (decide (x9 < 0)) (some (9, a0, a1, a2, a3, a4, a5, a6, a7, a8)) (cond (decide (x11 < 0)) (some (9, a0, a1, a2, a3, a4, a5, a6, a7, a8)) (Option.bind (idxO a9.nums 0) fun x25 => cond (decide (x25 < 1)) (some (12, a0, a1, a2, a3, a4, a5, a6, a7, a8)) (cond (decide (4 < x25)) (some (12, a0, a1, a2, a3, a4, a5, a6, a7, a8)) (cond (decide (((a2.length : Nat) : Int) = 6)) (some (14, a0, a1, a2, a3, a4, a5, a6, a7, a8)) (cond (decide (a2.length + 1 < 10000000)) (some (0, a0, a1, (a2 ++ [(⟨x13, decide (a9.word = 4), x9, x11, x25, 0⟩ : Spr)]), a3, a4, a5, a6, a7, a8)) none)))))))
noncomputable def rbRobot_v (a0 : List Blk) (a1 : List (List Int)) (a2 : List Spr) (a3 : List Int) (a4 : Int) (a5 : Int) (a6 : Int) (a7 : Int) (a8 : Bool) (a9 : Dc) : Option (Int × (List Blk) × (List (List Int)) × (List Spr) × (List Int) × Int × Int × Int × Int × Bool) :=
  Option.bind (idxO a9.names 0) fun x1 => Option.bind (rspur_v (⟨a0, a1, a2, a3, a4, a5, a6, a7⟩ : Nt) x1) fun x5 => cond (decide (x5 < 0)) (some (9, a0, a1, a2, a3, a4, a5, a6, a7, a8)) (Option.bind (idxO a2 x5) fun x8 => cond x8.depot (Option.bind (idxO a9.nums 0) fun x13 => cond (decide (x13 < 1)) (some (12, a0, a1, a2, a3, a4, a5, a6, a7, a8)) (cond (decide (x8.slots < x13)) (some (12, a0, a1, a2, a3, a4, a5, a6, a7, a8)) (Option.bind (has_v a3 (IntKind.i64.wrap ((IntKind.i64.wrap (x5 * 8)) + x13))) fun x19 => cond x19 (some (13, a0, a1, a2, a3, a4, a5, a6, a7, a8)) (cond (decide (((a3.length : Nat) : Int) = 8)) (some (14, a0, a1, a2, a3, a4, a5, a6, a7, a8)) (cond (decide (a3.length + 1 < 10000000)) (some (0, a0, a1, a2, (a3 ++ [(IntKind.i64.wrap ((IntKind.i64.wrap (x5 * 8)) + x13))]), a4, a5, a6, a7, a8)) none))))) (some (9, a0, a1, a2, a3, a4, a5, a6, a7, a8)))
noncomputable def rbConfig_v (a0 : List Blk) (a1 : List (List Int)) (a2 : List Spr) (a3 : List Int) (a4 : Int) (a5 : Int) (a6 : Int) (a7 : Int) (a8 : Bool) (a9 : Dc) : Option (Int × (List Blk) × (List (List Int)) × (List Spr) × (List Int) × Int × Int × Int × Int × Bool) :=
  cond a8 (some (11, a0, a1, a2, a3, a4, a5, a6, a7, true)) (Option.bind (idxO a9.nums 0) fun x2 => Option.bind (idxO a9.nums 1) fun x6 => Option.bind (idxO a9.nums 2) fun x10 => Option.bind (idxO a9.nums 3) fun x14 => Option.bind (rconfigured_v (⟨x2, x6, x10, x14⟩ : Cfg4)) fun x18 => cond x18 (some (0, a0, a1, a2, a3, x2, x6, x10, x14, true)) (some (19, a0, a1, a2, a3, a4, a5, a6, a7, false)))
end Go.Am
end
section
namespace Go.Am
open Go Go.Proofs
set_option maxRecDepth 100000
set_option maxHeartbeats 2000000
set_option linter.unusedSimpArgs false
set_option linter.unusedVariables false
noncomputable def fname_v (l : List UInt8) : Option Bool := some (nameB l)
theorem fname_vok (l : List UInt8) (r : Bool) (h : fname_v l = some r) : ACalls Try.prog 63 [.p (.str l)] [] fun h d => h = [] ∧ d = .p (.bool r) := by cases h; exact name1_ok l
noncomputable def rname_v (l : List UInt8) : Option Bool := some (nameB l)
noncomputable def r02_shape_v (a0 : Int) : Option (Int × Int) :=
  cond (decide (a0 = 1)) (some (1, 2)) (cond (decide (a0 = 2)) (some (2, 0)) (cond (decide (a0 = 3)) (some (3, 1)) (cond (decide (a0 = 4)) (some (3, 1)) (cond (decide (a0 = 5)) (some (1, 1)) (some (0, 4))))))
noncomputable def r02_Valid_L1 (a0 : Dc) : Int → Option ((Int) ⊕ (Int ⊕ Bool))
  | v18 => cond (decide (v18 < ((a0.nums.length : Nat) : Int))) (Option.bind (idxO a0.nums v18) fun x25 => cond (decide (x25 < (-9999))) (some (Sum.inr (.inr (false)))) (cond (decide (9999 < x25)) (some (Sum.inr (.inr (false)))) (some (Sum.inl (IntKind.i64.wrap (v18 + 1)))))) (some (Sum.inr (.inl v18)))
theorem r02_Valid_L1_eq (a0 : Dc) (v18 : Int) : r02_Valid_L1 a0 v18 = cond (decide (v18 < ((a0.nums.length : Nat) : Int))) (Option.bind (idxO a0.nums v18) fun x25 => cond (decide (x25 < (-9999))) (some (Sum.inr (.inr (false)))) (cond (decide (9999 < x25)) (some (Sum.inr (.inr (false)))) (some (Sum.inl (IntKind.i64.wrap (v18 + 1)))))) (some (Sum.inr (.inl v18))) := rfl
noncomputable def r02_Valid_L2 (a0 : Dc) : Int → Option ((Int) ⊕ (Int ⊕ Bool))
  | v10 => cond (decide (v10 < ((a0.names.length : Nat) : Int))) (Option.bind (idxO a0.names v10) fun x33 => Option.bind (rname_v x33) fun x37 => cond x37 (some (Sum.inl (IntKind.i64.wrap (v10 + 1)))) (some (Sum.inr (.inr (false))))) (some (Sum.inr (.inl v10)))
theorem r02_Valid_L2_eq (a0 : Dc) (v10 : Int) : r02_Valid_L2 a0 v10 = cond (decide (v10 < ((a0.names.length : Nat) : Int))) (Option.bind (idxO a0.names v10) fun x33 => Option.bind (rname_v x33) fun x37 => cond x37 (some (Sum.inl (IntKind.i64.wrap (v10 + 1)))) (some (Sum.inr (.inr (false))))) (some (Sum.inr (.inl v10))) := rfl
noncomputable def r02_Valid_v (a0 : Dc) : Option (Bool) :=
  cond (decide (a0.word < 1)) (some false) (cond (decide (6 < a0.word)) (some false) (Option.bind (r02_shape_v a0.word) fun (x3, x4) => cond (decide (((a0.nums.length : Nat) : Int) = x4)) (cond (decide (((a0.names.length : Nat) : Int) < x3)) (some false) (cond (decide (x3 < ((a0.names.length : Nat) : Int))) (cond (decide (a0.word = 2)) (Option.bind (loopO (r02_Valid_L2 a0) 0) (fun | .inl v90 => Option.bind (loopO (r02_Valid_L1 a0) 0) (fun | .inl v105 => some true | .inr (r106) => some r106) | .inr (r107) => some r107)) (some false)) (Option.bind (loopO (r02_Valid_L2 a0) 0) (fun | .inl v40 => Option.bind (loopO (r02_Valid_L1 a0) 0) (fun | .inl v55 => some true | .inr (r56) => some r56) | .inr (r57) => some r57)))) (some false)))
noncomputable def r03_builder_one_v (a0 : List Blk) (a1 : List (List Int)) (a2 : List Spr) (a3 : List Int) (a4 : Int) (a5 : Int) (a6 : Int) (a7 : Int) (a8 : Bool) (a9 : Dc) : Option (Int × (List Blk) × (List (List Int)) × (List Spr) × (List Int) × Int × Int × Int × Int × Bool) :=
  Option.bind (r02_Valid_v (⟨a9.word, a9.line, a9.names, a9.nums⟩ : Dc)) fun x1 => cond x1 (cond (decide (a9.word = 1)) (Option.bind (rbBlock_v a0 a1 a2 a3 a4 a5 a6 a7 a8 (⟨a9.word, a9.line, a9.names, a9.nums⟩ : Dc)) fun (x64, x65, x66, x67, x68, x69, x70, x71, x72, x73) => some (x64, x65, x66, x67, x68, x69, x70, x71, x72, x73)) (cond (decide (a9.word = 2)) (Option.bind (rbLane_v a0 a1 a2 a3 a4 a5 a6 a7 a8 (⟨a9.word, a9.line, a9.names, a9.nums⟩ : Dc)) fun (x53, x54, x55, x56, x57, x58, x59, x60, x61, x62) => some (x53, x54, x55, x56, x57, x58, x59, x60, x61, x62)) (cond (decide (a9.word = 3)) (Option.bind (rbSpur_v a0 a1 a2 a3 a4 a5 a6 a7 a8 (⟨a9.word, a9.line, a9.names, a9.nums⟩ : Dc)) fun (x42, x43, x44, x45, x46, x47, x48, x49, x50, x51) => some (x42, x43, x44, x45, x46, x47, x48, x49, x50, x51)) (cond (decide (a9.word = 4)) (Option.bind (rbSpur_v a0 a1 a2 a3 a4 a5 a6 a7 a8 (⟨a9.word, a9.line, a9.names, a9.nums⟩ : Dc)) fun (x31, x32, x33, x34, x35, x36, x37, x38, x39, x40) => some (x31, x32, x33, x34, x35, x36, x37, x38, x39, x40)) (cond (decide (a9.word = 5)) (Option.bind (rbRobot_v a0 a1 a2 a3 a4 a5 a6 a7 a8 (⟨a9.word, a9.line, a9.names, a9.nums⟩ : Dc)) fun (x20, x21, x22, x23, x24, x25, x26, x27, x28, x29) => some (x20, x21, x22, x23, x24, x25, x26, x27, x28, x29)) (Option.bind (rbConfig_v a0 a1 a2 a3 a4 a5 a6 a7 a8 (⟨a9.word, a9.line, a9.names, a9.nums⟩ : Dc)) fun (x9, x10, x11, x12, x13, x14, x15, x16, x17, x18) => some (x9, x10, x11, x12, x13, x14, x15, x16, x17, x18))))))) (some (20, a0, a1, a2, a3, a4, a5, a6, a7, a8))
noncomputable def rBuild_L3 (a0 : List Dc) : (List Blk) × (List (List Int)) × (List Spr) × (List Int) × Int × Int × Int × Int × Bool × Int → Option (((List Blk) × (List (List Int)) × (List Spr) × (List Int) × Int × Int × Int × Int × Bool × Int) ⊕ (((List Blk) × (List (List Int)) × (List Spr) × (List Int) × Int × Int × Int × Int × Bool × Int) ⊕ (Nt × Int × Int)))
  | (v11, v12, v13, v14, v15, v16, v17, v18, v19, v20) => cond (decide (v20 < ((a0.length : Nat) : Int))) (Option.bind (idxO a0 v20) fun x97 => Option.bind (r03_builder_one_v v11 v12 v13 v14 v15 v16 v17 v18 v19 (⟨x97.word, x97.line, x97.names, x97.nums⟩ : Dc)) fun (x101, x102, x103, x104, x105, x106, x107, x108, x109, x110) => cond (decide (x101 = 0)) (some (Sum.inl (x102, x103, x104, x105, x106, x107, x108, x109, x110, (IntKind.i64.wrap (v20 + 1))))) (some (Sum.inr (.inr (((⟨[], [], [], [], 0, 0, 0, 0⟩ : Nt), x97.line, x101)))))) (some (Sum.inr (.inl (v11, v12, v13, v14, v15, v16, v17, v18, v19, v20))))
theorem rBuild_L3_eq (a0 : List Dc) (v11 : List Blk) (v12 : List (List Int)) (v13 : List Spr) (v14 : List Int) (v15 : Int) (v16 : Int) (v17 : Int) (v18 : Int) (v19 : Bool) (v20 : Int) : rBuild_L3 a0 (v11, v12, v13, v14, v15, v16, v17, v18, v19, v20) = cond (decide (v20 < ((a0.length : Nat) : Int))) (Option.bind (idxO a0 v20) fun x97 => Option.bind (r03_builder_one_v v11 v12 v13 v14 v15 v16 v17 v18 v19 (⟨x97.word, x97.line, x97.names, x97.nums⟩ : Dc)) fun (x101, x102, x103, x104, x105, x106, x107, x108, x109, x110) => cond (decide (x101 = 0)) (some (Sum.inl (x102, x103, x104, x105, x106, x107, x108, x109, x110, (IntKind.i64.wrap (v20 + 1))))) (some (Sum.inr (.inr (((⟨[], [], [], [], 0, 0, 0, 0⟩ : Nt), x97.line, x101)))))) (some (Sum.inr (.inl (v11, v12, v13, v14, v15, v16, v17, v18, v19, v20)))) := rfl
noncomputable def mk_SameStrings_L1 (a0 : List (List UInt8)) (a1 : List (List UInt8)) : Int → Option ((Int) ⊕ (Int ⊕ Bool))
  | v3 => cond (decide (v3 < ((a0.length : Nat) : Int))) (Option.bind (idxO a0 v3) fun x10 => Option.bind (idxO a1 v3) fun x14 => cond (decide (x10 = x14)) (some (Sum.inl (IntKind.i64.wrap (v3 + 1)))) (some (Sum.inr (.inr (false))))) (some (Sum.inr (.inl v3)))
theorem mk_SameStrings_L1_eq (a0 : List (List UInt8)) (a1 : List (List UInt8)) (v3 : Int) : mk_SameStrings_L1 a0 a1 v3 = cond (decide (v3 < ((a0.length : Nat) : Int))) (Option.bind (idxO a0 v3) fun x10 => Option.bind (idxO a1 v3) fun x14 => cond (decide (x10 = x14)) (some (Sum.inl (IntKind.i64.wrap (v3 + 1)))) (some (Sum.inr (.inr (false))))) (some (Sum.inr (.inl v3))) := rfl
noncomputable def mk_SameStrings_v (a0 : List (List UInt8)) (a1 : List (List UInt8)) : Option (Bool) :=
  cond (decide (((a0.length : Nat) : Int) = ((a1.length : Nat) : Int))) (Option.bind (loopO (mk_SameStrings_L1 a0 a1) 0) (fun | .inl v19 => some true | .inr (r20) => some r20)) (some false)
theorem mk_SameStrings_vok (a0 : List (List UInt8)) (a1 : List (List UInt8)) (r : Bool) (hr : mk_SameStrings_v a0 a1 = some r) :
    ACalls Try.prog 68 [.p (.sl (encS a0)), .p (.sl (encS a1))] [] fun h d => h = [] ∧ d = .p (.bool r) := by
  refine ACalls_X Try.func68 rfl enters68 (by simp [Try.f68]) ?_
  unfold mk_SameStrings_v at hr
  cases c1 : decide (((a0.length : Nat) : Int) = ((a1.length : Nat) : Int))
  · simp only [c1, cond_false] at hr
    obtain rfl := Option.some.inj hr
    try simp only [go_sem, c1]
    all_goals (try refine end_pure ?_)
    all_goals (try simp only [go_sem, c1])
    all_goals (try (first | rfl | exact ⟨rfl, rfl⟩ | (simp; done)))
  simp only [c1, cond_true] at hr
  rcases g8 : loopO (mk_SameStrings_L1 a0 a1) 0 with _ | e7
  · simp only [g8, Option.bind_none, reduceCtorEq] at hr
  simp only [g8, Option.bind_some] at hr
  try simp only [go_sem, c1]
  refine X_loopO g8 (fun q : Int => ⟨[(0, .p (.sl (encS a0))), (1, .p (.sl (encS a1))), (5, .p (.int .i64 q))], [], 26⟩) ((Wk.forget (by simp [Le, LeE, LeH, get, envIds, hpIds, KeepH, D.ids, idsL, AO.ids, setL, base, encI_nil, encS_nil, encT_nil, encG_nil, encC_nil, encL_nil, encK_nil, encP_nil, mpS_nil, mpB_nil, encI_consE, encS_consE, encT_consE, encG_consE, encI_one, encS_one, encT_one, encI_snoc, encS_snoc, encT_snocE, encG_snocE, encC_snoc, encL_snoc, encK_snocE, encP_snocE, encI_set, encS_set, encT_setE, encG_setE, encC_setE, encK_setE, encP_setE, encI_len, encS_len, encT_len2, encG_len2, encC_len, encL_len, encK_len2, encP_len2]))) ?_
  rintro v3 m6 hh4 ih5
  rw [mk_SameStrings_L1_eq] at hh4
  cases c9 : decide (v3 < ((a0.length : Nat) : Int))
  · simp only [c9, cond_false] at hh4
    simp only [Option.bind_some, nextO_inr] at hh4
    obtain rfl := Option.some.inj hh4
    try dsimp only at hr
    obtain rfl := Option.some.inj hr
    try simp only [go_sem, c1, c9]
    all_goals (try refine end_pure ?_)
    all_goals (try simp only [go_sem, c1, c9])
    all_goals (try (first | rfl | exact ⟨rfl, rfl⟩ | (simp; done)))
  simp only [c9, cond_true] at hh4
  try simp only [go_sem, c1, c9]
  refine X_any0 mixed (p := [(0, 0), (1, 0), (2, 0), (3, 0), (4, 0), (5, 0), (6, 0), (7, 0), (8, 0)]) (by kernel_rfl) (by simp [LeH, get]) ?_
  rcases g11 : idxO a0 v3 with _ | x10
  · simp only [g11, Option.bind_none, reduceCtorEq] at hh4
  simp only [g11, Option.bind_some] at hh4
  have f12 := idxO_rng g11
  have f13 : (encS a0).getD (Int.toNat v3) [] = [(.str x10)] := idxO_map _ g11
  rcases g15 : idxO a1 v3 with _ | x14
  · simp only [g15, Option.bind_none, reduceCtorEq] at hh4
  simp only [g15, Option.bind_some] at hh4
  have f16 := idxO_rng g15
  have f17 : (encS a1).getD (Int.toNat v3) [] = [(.str x14)] := idxO_map _ g15
  cases c18 : decide (x10 = x14)
  · simp only [c18, cond_false] at hh4
    simp only [Option.bind_some, nextO_inr] at hh4
    obtain rfl := Option.some.inj hh4
    try dsimp only at hr
    obtain rfl := Option.some.inj hr
    try simp only [go_sem, c1, c9, f12, f13, f16, f17, c18]
    all_goals (try refine end_pure ?_)
    all_goals (try simp only [go_sem, c1, c9, f12, f13, f16, f17, c18])
    all_goals (try (first | rfl | exact ⟨rfl, rfl⟩ | (simp; done)))
  simp only [c18, cond_true] at hh4
  simp only [Option.bind_some, nextO_inl] at hh4
  try simp only [go_sem, c1, c9, f12, f13, f16, f17, c18]
  exact ih5 (IntKind.i64.wrap (v3 + 1)) _ hh4 ((Wk.forget (by simp [Le, LeE, LeH, get, envIds, hpIds, KeepH, D.ids, idsL, AO.ids, setL, base, encI_nil, encS_nil, encT_nil, encG_nil, encC_nil, encL_nil, encK_nil, encP_nil, mpS_nil, mpB_nil, encI_consE, encS_consE, encT_consE, encG_consE, encI_one, encS_one, encT_one, encI_snoc, encS_snoc, encT_snocE, encG_snocE, encC_snoc, encL_snoc, encK_snocE, encP_snocE, encI_set, encS_set, encT_setE, encG_setE, encC_setE, encK_setE, encP_setE, encI_len, encS_len, encT_len2, encG_len2, encC_len, encL_len, encK_len2, encP_len2])))
noncomputable def mk_SameInts_L1 (a0 : List Int) (a1 : List Int) : Int → Option ((Int) ⊕ (Int ⊕ Bool))
  | v3 => cond (decide (v3 < ((a0.length : Nat) : Int))) (Option.bind (idxO a0 v3) fun x10 => Option.bind (idxO a1 v3) fun x14 => cond (decide (x10 = x14)) (some (Sum.inl (IntKind.i64.wrap (v3 + 1)))) (some (Sum.inr (.inr (false))))) (some (Sum.inr (.inl v3)))
theorem mk_SameInts_L1_eq (a0 : List Int) (a1 : List Int) (v3 : Int) : mk_SameInts_L1 a0 a1 v3 = cond (decide (v3 < ((a0.length : Nat) : Int))) (Option.bind (idxO a0 v3) fun x10 => Option.bind (idxO a1 v3) fun x14 => cond (decide (x10 = x14)) (some (Sum.inl (IntKind.i64.wrap (v3 + 1)))) (some (Sum.inr (.inr (false))))) (some (Sum.inr (.inl v3))) := rfl
noncomputable def mk_SameInts_v (a0 : List Int) (a1 : List Int) : Option (Bool) :=
  cond (decide (((a0.length : Nat) : Int) = ((a1.length : Nat) : Int))) (Option.bind (loopO (mk_SameInts_L1 a0 a1) 0) (fun | .inl v19 => some true | .inr (r20) => some r20)) (some false)
theorem mk_SameInts_vok (a0 : List Int) (a1 : List Int) (r : Bool) (hr : mk_SameInts_v a0 a1 = some r) :
    ACalls Try.prog 21 [.p (.sl (encI a0)), .p (.sl (encI a1))] [] fun h d => h = [] ∧ d = .p (.bool r) := by
  refine ACalls_X Try.func21 rfl enters21 (by simp [Try.f21]) ?_
  unfold mk_SameInts_v at hr
  cases c1 : decide (((a0.length : Nat) : Int) = ((a1.length : Nat) : Int))
  · simp only [c1, cond_false] at hr
    obtain rfl := Option.some.inj hr
    try simp only [go_sem, c1]
    all_goals (try refine end_pure ?_)
    all_goals (try simp only [go_sem, c1])
    all_goals (try (first | rfl | exact ⟨rfl, rfl⟩ | (simp; done)))
  simp only [c1, cond_true] at hr
  rcases g8 : loopO (mk_SameInts_L1 a0 a1) 0 with _ | e7
  · simp only [g8, Option.bind_none, reduceCtorEq] at hr
  simp only [g8, Option.bind_some] at hr
  try simp only [go_sem, c1]
  refine X_loopO g8 (fun q : Int => ⟨[(0, .p (.sl (encI a0))), (1, .p (.sl (encI a1))), (5, .p (.int .i64 q))], [], 26⟩) ((Wk.forget (by simp [Le, LeE, LeH, get, envIds, hpIds, KeepH, D.ids, idsL, AO.ids, setL, base, encI_nil, encS_nil, encT_nil, encG_nil, encC_nil, encL_nil, encK_nil, encP_nil, mpS_nil, mpB_nil, encI_consE, encS_consE, encT_consE, encG_consE, encI_one, encS_one, encT_one, encI_snoc, encS_snoc, encT_snocE, encG_snocE, encC_snoc, encL_snoc, encK_snocE, encP_snocE, encI_set, encS_set, encT_setE, encG_setE, encC_setE, encK_setE, encP_setE, encI_len, encS_len, encT_len2, encG_len2, encC_len, encL_len, encK_len2, encP_len2]))) ?_
  rintro v3 m6 hh4 ih5
  rw [mk_SameInts_L1_eq] at hh4
  cases c9 : decide (v3 < ((a0.length : Nat) : Int))
  · simp only [c9, cond_false] at hh4
    simp only [Option.bind_some, nextO_inr] at hh4
    obtain rfl := Option.some.inj hh4
    try dsimp only at hr
    obtain rfl := Option.some.inj hr
    try simp only [go_sem, c1, c9]
    all_goals (try refine end_pure ?_)
    all_goals (try simp only [go_sem, c1, c9])
    all_goals (try (first | rfl | exact ⟨rfl, rfl⟩ | (simp; done)))
  simp only [c9, cond_true] at hh4
  try simp only [go_sem, c1, c9]
  refine X_any0 mixed (p := [(0, 0), (1, 0), (2, 0), (3, 0), (4, 0), (5, 0), (6, 0), (7, 0), (8, 0)]) (by kernel_rfl) (by simp [LeH, get]) ?_
  rcases g11 : idxO a0 v3 with _ | x10
  · simp only [g11, Option.bind_none, reduceCtorEq] at hh4
  simp only [g11, Option.bind_some] at hh4
  have f12 := idxO_rng g11
  have f13 : (encI a0).getD (Int.toNat v3) [] = [(.int .i64 x10)] := idxO_map _ g11
  rcases g15 : idxO a1 v3 with _ | x14
  · simp only [g15, Option.bind_none, reduceCtorEq] at hh4
  simp only [g15, Option.bind_some] at hh4
  have f16 := idxO_rng g15
  have f17 : (encI a1).getD (Int.toNat v3) [] = [(.int .i64 x14)] := idxO_map _ g15
  cases c18 : decide (x10 = x14)
  · simp only [c18, cond_false] at hh4
    simp only [Option.bind_some, nextO_inr] at hh4
    obtain rfl := Option.some.inj hh4
    try dsimp only at hr
    obtain rfl := Option.some.inj hr
    try simp only [go_sem, c1, c9, f12, f13, f16, f17, c18]
    all_goals (try refine end_pure ?_)
    all_goals (try simp only [go_sem, c1, c9, f12, f13, f16, f17, c18])
    all_goals (try (first | rfl | exact ⟨rfl, rfl⟩ | (simp; done)))
  simp only [c18, cond_true] at hh4
  simp only [Option.bind_some, nextO_inl] at hh4
  try simp only [go_sem, c1, c9, f12, f13, f16, f17, c18]
  exact ih5 (IntKind.i64.wrap (v3 + 1)) _ hh4 ((Wk.forget (by simp [Le, LeE, LeH, get, envIds, hpIds, KeepH, D.ids, idsL, AO.ids, setL, base, encI_nil, encS_nil, encT_nil, encG_nil, encC_nil, encL_nil, encK_nil, encP_nil, mpS_nil, mpB_nil, encI_consE, encS_consE, encT_consE, encG_consE, encI_one, encS_one, encT_one, encI_snoc, encS_snoc, encT_snocE, encG_snocE, encC_snoc, encL_snoc, encK_snocE, encP_snocE, encI_set, encS_set, encT_setE, encG_setE, encC_setE, encK_setE, encP_setE, encI_len, encS_len, encT_len2, encG_len2, encC_len, encL_len, encK_len2, encP_len2])))
noncomputable def sameDecls_L1 (a0 : List Dc) (a1 : List Dc) : Int → Option ((Int) ⊕ (Int ⊕ Bool))
  | v3 => cond (decide (v3 < ((a0.length : Nat) : Int))) (Option.bind (idxO a0 v3) fun x10 => Option.bind (idxO a1 v3) fun x14 => cond (decide (x10.word = x14.word)) (cond (decide (x10.line = x14.line)) (Option.bind (mk_SameStrings_v x10.names x14.names) fun x20 => cond x20 (Option.bind (mk_SameInts_v x10.nums x14.nums) fun x23 => cond x23 (some (Sum.inl (IntKind.i64.wrap (v3 + 1)))) (some (Sum.inr (.inr (false))))) (some (Sum.inr (.inr (false))))) (some (Sum.inr (.inr (false))))) (some (Sum.inr (.inr (false))))) (some (Sum.inr (.inl v3)))
theorem sameDecls_L1_eq (a0 : List Dc) (a1 : List Dc) (v3 : Int) : sameDecls_L1 a0 a1 v3 = cond (decide (v3 < ((a0.length : Nat) : Int))) (Option.bind (idxO a0 v3) fun x10 => Option.bind (idxO a1 v3) fun x14 => cond (decide (x10.word = x14.word)) (cond (decide (x10.line = x14.line)) (Option.bind (mk_SameStrings_v x10.names x14.names) fun x20 => cond x20 (Option.bind (mk_SameInts_v x10.nums x14.nums) fun x23 => cond x23 (some (Sum.inl (IntKind.i64.wrap (v3 + 1)))) (some (Sum.inr (.inr (false))))) (some (Sum.inr (.inr (false))))) (some (Sum.inr (.inr (false))))) (some (Sum.inr (.inr (false))))) (some (Sum.inr (.inl v3))) := rfl
noncomputable def sameDecls_v (a0 : List Dc) (a1 : List Dc) : Option (Bool) :=
  cond (decide (((a0.length : Nat) : Int) = ((a1.length : Nat) : Int))) (Option.bind (loopO (sameDecls_L1 a0 a1) 0) (fun | .inl v26 => some true | .inr (r27) => some r27)) (some false)
theorem sameDecls_vok (a0 : List Dc) (a1 : List Dc) (r : Bool) (hr : sameDecls_v a0 a1 = some r) :
    ACalls Try.prog 36 [.p (.sl (encC a0)), .p (.sl (encC a1))] [] fun h d => h = [] ∧ d = .p (.bool r) := by
  refine ACalls_X Try.func36 rfl enters36 (by simp [Try.f36]) ?_
  unfold sameDecls_v at hr
  cases c1 : decide (((a0.length : Nat) : Int) = ((a1.length : Nat) : Int))
  · simp only [c1, cond_false] at hr
    obtain rfl := Option.some.inj hr
    try simp only [go_sem, c1]
    all_goals (try refine end_pure ?_)
    all_goals (try simp only [go_sem, c1])
    all_goals (try (first | rfl | exact ⟨rfl, rfl⟩ | (simp; done)))
  simp only [c1, cond_true] at hr
  rcases g8 : loopO (sameDecls_L1 a0 a1) 0 with _ | e7
  · simp only [g8, Option.bind_none, reduceCtorEq] at hr
  simp only [g8, Option.bind_some] at hr
  try simp only [go_sem, c1]
  refine X_loopO g8 (fun q : Int => ⟨[(0, .p (.sl (encC a0))), (1, .p (.sl (encC a1))), (5, .p (.int .i64 q))], [], 69⟩) ((Wk.forget (by simp [Le, LeE, LeH, get, envIds, hpIds, KeepH, D.ids, idsL, AO.ids, setL, base, encI_nil, encS_nil, encT_nil, encG_nil, encC_nil, encL_nil, encK_nil, encP_nil, mpS_nil, mpB_nil, encI_consE, encS_consE, encT_consE, encG_consE, encI_one, encS_one, encT_one, encI_snoc, encS_snoc, encT_snocE, encG_snocE, encC_snoc, encL_snoc, encK_snocE, encP_snocE, encI_set, encS_set, encT_setE, encG_setE, encC_setE, encK_setE, encP_setE, encI_len, encS_len, encT_len2, encG_len2, encC_len, encL_len, encK_len2, encP_len2]))) ?_
  rintro v3 m6 hh4 ih5
  rw [sameDecls_L1_eq] at hh4
  cases c9 : decide (v3 < ((a0.length : Nat) : Int))
  · simp only [c9, cond_false] at hh4
    simp only [Option.bind_some, nextO_inr] at hh4
    obtain rfl := Option.some.inj hh4
    try dsimp only at hr
    obtain rfl := Option.some.inj hr
    try simp only [go_sem, c1, c9]
    all_goals (try refine end_pure ?_)
    all_goals (try simp only [go_sem, c1, c9])
    all_goals (try (first | rfl | exact ⟨rfl, rfl⟩ | (simp; done)))
  simp only [c9, cond_true] at hh4
  try simp only [go_sem, c1, c9]
  refine X_any0 mixed (p := [(0, 0), (1, 0), (2, 0), (3, 0), (4, 0), (5, 0), (6, 0), (7, 0), (8, 0), (9, 0), (10, 0), (11, 0), (12, 0), (13, 0), (14, 0), (15, 0), (16, 0), (17, 0), (18, 0), (19, 0), (20, 0), (21, 0), (22, 0), (23, 0), (24, 0), (25, 0), (26, 0), (27, 0), (28, 0), (29, 0), (30, 0), (31, 0), (32, 0), (33, 0), (34, 0), (35, 2), (36, 0), (37, 0), (38, 0), (39, 0), (40, 0), (41, 0), (42, 0), (43, 0), (44, 0), (45, 0), (46, 0), (47, 0), (48, 0), (49, 2), (50, 0), (51, 0)]) (by kernel_rfl) (by simp [LeH, get]) ?_
  rcases g11 : idxO a0 v3 with _ | x10
  · simp only [g11, Option.bind_none, reduceCtorEq] at hh4
  simp only [g11, Option.bind_some] at hh4
  have f12 := idxO_rng g11
  have f13 : (encC a0).getD (Int.toNat v3) [] = [(.int .i64 x10.word), (.int .i64 x10.line), (.sl (encS x10.names)), (.sl (encI x10.nums))] := idxO_map _ g11
  rcases g15 : idxO a1 v3 with _ | x14
  · simp only [g15, Option.bind_none, reduceCtorEq] at hh4
  simp only [g15, Option.bind_some] at hh4
  have f16 := idxO_rng g15
  have f17 : (encC a1).getD (Int.toNat v3) [] = [(.int .i64 x14.word), (.int .i64 x14.line), (.sl (encS x14.names)), (.sl (encI x14.nums))] := idxO_map _ g15
  cases c18 : decide (x10.word = x14.word)
  · simp only [c18, cond_false] at hh4
    simp only [Option.bind_some, nextO_inr] at hh4
    obtain rfl := Option.some.inj hh4
    try dsimp only at hr
    obtain rfl := Option.some.inj hr
    try simp only [go_sem, c1, c9, f12, f13, f16, f17, c18]
    all_goals (try refine end_pure ?_)
    all_goals (try simp only [go_sem, c1, c9, f12, f13, f16, f17, c18])
    all_goals (try (first | rfl | exact ⟨rfl, rfl⟩ | (simp; done)))
  simp only [c18, cond_true] at hh4
  cases c19 : decide (x10.line = x14.line)
  · simp only [c19, cond_false] at hh4
    simp only [Option.bind_some, nextO_inr] at hh4
    obtain rfl := Option.some.inj hh4
    try dsimp only at hr
    obtain rfl := Option.some.inj hr
    try simp only [go_sem, c1, c9, f12, f13, f16, f17, c18, c19]
    all_goals (try refine end_pure ?_)
    all_goals (try simp only [go_sem, c1, c9, f12, f13, f16, f17, c18, c19])
    all_goals (try (first | rfl | exact ⟨rfl, rfl⟩ | (simp; done)))
  simp only [c19, cond_true] at hh4
  rcases g21 : mk_SameStrings_v x10.names x14.names with _ | x20
  · simp only [g21, Option.bind_none, reduceCtorEq] at hh4
  simp only [g21, Option.bind_some] at hh4
  try simp only [go_sem, c1, c9, f12, f13, f16, f17, c18, c19]
  refine Gh_of (mk_SameStrings_vok x10.names x14.names _ g21) ?_
  rintro h' r ⟨rfl, rfl⟩
  cases c22 : x20
  · simp only [c22, cond_false] at hh4
    simp only [Option.bind_some, nextO_inr] at hh4
    obtain rfl := Option.some.inj hh4
    try dsimp only at hr
    obtain rfl := Option.some.inj hr
    try simp only [go_sem, c1, c9, f12, f13, f16, f17, c18, c19, c22]
    all_goals (try refine end_pure ?_)
    all_goals (try simp only [go_sem, c1, c9, f12, f13, f16, f17, c18, c19, c22])
    all_goals (try (first | rfl | exact ⟨rfl, rfl⟩ | (simp; done)))
  simp only [c22, cond_true] at hh4
  rcases g24 : mk_SameInts_v x10.nums x14.nums with _ | x23
  · simp only [g24, Option.bind_none, reduceCtorEq] at hh4
  simp only [g24, Option.bind_some] at hh4
  try simp only [go_sem, c1, c9, f12, f13, f16, f17, c18, c19, c22]
  refine Gh_of (mk_SameInts_vok x10.nums x14.nums _ g24) ?_
  rintro h' r ⟨rfl, rfl⟩
  cases c25 : x23
  · simp only [c25, cond_false] at hh4
    simp only [Option.bind_some, nextO_inr] at hh4
    obtain rfl := Option.some.inj hh4
    try dsimp only at hr
    obtain rfl := Option.some.inj hr
    try simp only [go_sem, c1, c9, f12, f13, f16, f17, c18, c19, c22, c25]
    all_goals (try refine end_pure ?_)
    all_goals (try simp only [go_sem, c1, c9, f12, f13, f16, f17, c18, c19, c22, c25])
    all_goals (try (first | rfl | exact ⟨rfl, rfl⟩ | (simp; done)))
  simp only [c25, cond_true] at hh4
  simp only [Option.bind_some, nextO_inl] at hh4
  try simp only [go_sem, c1, c9, f12, f13, f16, f17, c18, c19, c22, c25]
  exact ih5 (IntKind.i64.wrap (v3 + 1)) _ hh4 ((Wk.forget (by simp [Le, LeE, LeH, get, envIds, hpIds, KeepH, D.ids, idsL, AO.ids, setL, base, encI_nil, encS_nil, encT_nil, encG_nil, encC_nil, encL_nil, encK_nil, encP_nil, mpS_nil, mpB_nil, encI_consE, encS_consE, encT_consE, encG_consE, encI_one, encS_one, encT_one, encI_snoc, encS_snoc, encT_snocE, encG_snocE, encC_snoc, encL_snoc, encK_snocE, encP_snocE, encI_set, encS_set, encT_setE, encG_setE, encC_setE, encK_setE, encP_setE, encI_len, encS_len, encT_len2, encG_len2, encC_len, encL_len, encK_len2, encP_len2, c22, c25])))
noncomputable def mk_SameLists_L1 (a0 : List (List Int)) (a1 : List (List Int)) : Int → Option ((Int) ⊕ (Int ⊕ Bool))
  | v3 => cond (decide (v3 < ((a0.length : Nat) : Int))) (Option.bind (idxO a0 v3) fun x10 => Option.bind (idxO a1 v3) fun x14 => Option.bind (mk_SameInts_v x10 x14) fun x18 => cond x18 (some (Sum.inl (IntKind.i64.wrap (v3 + 1)))) (some (Sum.inr (.inr (false))))) (some (Sum.inr (.inl v3)))
theorem mk_SameLists_L1_eq (a0 : List (List Int)) (a1 : List (List Int)) (v3 : Int) : mk_SameLists_L1 a0 a1 v3 = cond (decide (v3 < ((a0.length : Nat) : Int))) (Option.bind (idxO a0 v3) fun x10 => Option.bind (idxO a1 v3) fun x14 => Option.bind (mk_SameInts_v x10 x14) fun x18 => cond x18 (some (Sum.inl (IntKind.i64.wrap (v3 + 1)))) (some (Sum.inr (.inr (false))))) (some (Sum.inr (.inl v3))) := rfl
noncomputable def mk_SameLists_v (a0 : List (List Int)) (a1 : List (List Int)) : Option (Bool) :=
  cond (decide (((a0.length : Nat) : Int) = ((a1.length : Nat) : Int))) (Option.bind (loopO (mk_SameLists_L1 a0 a1) 0) (fun | .inl v21 => some true | .inr (r22) => some r22)) (some false)
theorem mk_SameLists_vok (a0 : List (List Int)) (a1 : List (List Int)) (r : Bool) (hr : mk_SameLists_v a0 a1 = some r) :
    ACalls Try.prog 22 [.p (.sl (encG a0)), .p (.sl (encG a1))] [] fun h d => h = [] ∧ d = .p (.bool r) := by
  refine ACalls_X Try.func22 rfl enters22 (by simp [Try.f22]) ?_
  unfold mk_SameLists_v at hr
  cases c1 : decide (((a0.length : Nat) : Int) = ((a1.length : Nat) : Int))
  · simp only [c1, cond_false] at hr
    obtain rfl := Option.some.inj hr
    try simp only [go_sem, c1]
    all_goals (try refine end_pure ?_)
    all_goals (try simp only [go_sem, c1])
    all_goals (try (first | rfl | exact ⟨rfl, rfl⟩ | (simp; done)))
  simp only [c1, cond_true] at hr
  rcases g8 : loopO (mk_SameLists_L1 a0 a1) 0 with _ | e7
  · simp only [g8, Option.bind_none, reduceCtorEq] at hr
  simp only [g8, Option.bind_some] at hr
  try simp only [go_sem, c1]
  refine X_loopO g8 (fun q : Int => ⟨[(0, .p (.sl (encG a0))), (1, .p (.sl (encG a1))), (5, .p (.int .i64 q))], [], 27⟩) ((Wk.forget (by simp [Le, LeE, LeH, get, envIds, hpIds, KeepH, D.ids, idsL, AO.ids, setL, base, encI_nil, encS_nil, encT_nil, encG_nil, encC_nil, encL_nil, encK_nil, encP_nil, mpS_nil, mpB_nil, encI_consE, encS_consE, encT_consE, encG_consE, encI_one, encS_one, encT_one, encI_snoc, encS_snoc, encT_snocE, encG_snocE, encC_snoc, encL_snoc, encK_snocE, encP_snocE, encI_set, encS_set, encT_setE, encG_setE, encC_setE, encK_setE, encP_setE, encI_len, encS_len, encT_len2, encG_len2, encC_len, encL_len, encK_len2, encP_len2]))) ?_
  rintro v3 m6 hh4 ih5
  rw [mk_SameLists_L1_eq] at hh4
  cases c9 : decide (v3 < ((a0.length : Nat) : Int))
  · simp only [c9, cond_false] at hh4
    simp only [Option.bind_some, nextO_inr] at hh4
    obtain rfl := Option.some.inj hh4
    try dsimp only at hr
    obtain rfl := Option.some.inj hr
    try simp only [go_sem, c1, c9]
    all_goals (try refine end_pure ?_)
    all_goals (try simp only [go_sem, c1, c9])
    all_goals (try (first | rfl | exact ⟨rfl, rfl⟩ | (simp; done)))
  simp only [c9, cond_true] at hh4
  try simp only [go_sem, c1, c9]
  refine X_any0 mixed (p := [(0, 0), (1, 0), (2, 0), (3, 0), (4, 0), (5, 0), (6, 0), (7, 0), (8, 2), (9, 0)]) (by kernel_rfl) (by simp [LeH, get]) ?_
  rcases g11 : idxO a0 v3 with _ | x10
  · simp only [g11, Option.bind_none, reduceCtorEq] at hh4
  simp only [g11, Option.bind_some] at hh4
  have f12 := idxO_rng g11
  have f13 : (encG a0).getD (Int.toNat v3) [] = [(.sl (encI x10))] := idxO_map _ g11
  rcases g15 : idxO a1 v3 with _ | x14
  · simp only [g15, Option.bind_none, reduceCtorEq] at hh4
  simp only [g15, Option.bind_some] at hh4
  have f16 := idxO_rng g15
  have f17 : (encG a1).getD (Int.toNat v3) [] = [(.sl (encI x14))] := idxO_map _ g15
  rcases g19 : mk_SameInts_v x10 x14 with _ | x18
  · simp only [g19, Option.bind_none, reduceCtorEq] at hh4
  simp only [g19, Option.bind_some] at hh4
  try simp only [go_sem, c1, c9, f12, f13, f16, f17]
  refine Gh_of (mk_SameInts_vok x10 x14 _ g19) ?_
  rintro h' r ⟨rfl, rfl⟩
  cases c20 : x18
  · simp only [c20, cond_false] at hh4
    simp only [Option.bind_some, nextO_inr] at hh4
    obtain rfl := Option.some.inj hh4
    try dsimp only at hr
    obtain rfl := Option.some.inj hr
    try simp only [go_sem, c1, c9, f12, f13, f16, f17, c20]
    all_goals (try refine end_pure ?_)
    all_goals (try simp only [go_sem, c1, c9, f12, f13, f16, f17, c20])
    all_goals (try (first | rfl | exact ⟨rfl, rfl⟩ | (simp; done)))
  simp only [c20, cond_true] at hh4
  simp only [Option.bind_some, nextO_inl] at hh4
  try simp only [go_sem, c1, c9, f12, f13, f16, f17, c20]
  exact ih5 (IntKind.i64.wrap (v3 + 1)) _ hh4 ((Wk.forget (by simp [Le, LeE, LeH, get, envIds, hpIds, KeepH, D.ids, idsL, AO.ids, setL, base, encI_nil, encS_nil, encT_nil, encG_nil, encC_nil, encL_nil, encK_nil, encP_nil, mpS_nil, mpB_nil, encI_consE, encS_consE, encT_consE, encG_consE, encI_one, encS_one, encT_one, encI_snoc, encS_snoc, encT_snocE, encG_snocE, encC_snoc, encL_snoc, encK_snocE, encP_snocE, encI_set, encS_set, encT_setE, encG_setE, encC_setE, encK_setE, encP_setE, encI_len, encS_len, encT_len2, encG_len2, encC_len, encL_len, encK_len2, encP_len2, c20])))
noncomputable def sameNet_L1 (a0 : Nt) (a1 : Nt) : Int → Option ((Int) ⊕ (Int ⊕ Bool))
  | v19 => cond (decide (v19 < ((a0.spurs.length : Nat) : Int))) (Option.bind (idxO a0.spurs v19) fun x26 => Option.bind (idxO a1.spurs v19) fun x30 => cond (decide (x26.name = x30.name) && ((x26.depot == x30.depot) && (decide (x26.inn = x30.inn) && (decide (x26.out = x30.out) && (decide (x26.slots = x30.slots) && decide (x26.base = x30.base)))))) (some (Sum.inl (IntKind.i64.wrap (v19 + 1)))) (some (Sum.inr (.inr (false))))) (some (Sum.inr (.inl v19)))
theorem sameNet_L1_eq (a0 : Nt) (a1 : Nt) (v19 : Int) : sameNet_L1 a0 a1 v19 = cond (decide (v19 < ((a0.spurs.length : Nat) : Int))) (Option.bind (idxO a0.spurs v19) fun x26 => Option.bind (idxO a1.spurs v19) fun x30 => cond (decide (x26.name = x30.name) && ((x26.depot == x30.depot) && (decide (x26.inn = x30.inn) && (decide (x26.out = x30.out) && (decide (x26.slots = x30.slots) && decide (x26.base = x30.base)))))) (some (Sum.inl (IntKind.i64.wrap (v19 + 1)))) (some (Sum.inr (.inr (false))))) (some (Sum.inr (.inl v19))) := rfl
noncomputable def sameNet_L2 (a0 : Nt) (a1 : Nt) : Int → Option ((Int) ⊕ (Int ⊕ Bool))
  | v11 => cond (decide (v11 < ((a0.blocks.length : Nat) : Int))) (Option.bind (idxO a0.blocks v11) fun x37 => Option.bind (idxO a1.blocks v11) fun x41 => cond (decide (x37.name = x41.name) && (decide (x37.x = x41.x) && decide (x37.y = x41.y))) (some (Sum.inl (IntKind.i64.wrap (v11 + 1)))) (some (Sum.inr (.inr (false))))) (some (Sum.inr (.inl v11)))
theorem sameNet_L2_eq (a0 : Nt) (a1 : Nt) (v11 : Int) : sameNet_L2 a0 a1 v11 = cond (decide (v11 < ((a0.blocks.length : Nat) : Int))) (Option.bind (idxO a0.blocks v11) fun x37 => Option.bind (idxO a1.blocks v11) fun x41 => cond (decide (x37.name = x41.name) && (decide (x37.x = x41.x) && decide (x37.y = x41.y))) (some (Sum.inl (IntKind.i64.wrap (v11 + 1)))) (some (Sum.inr (.inr (false))))) (some (Sum.inr (.inl v11))) := rfl
noncomputable def sameNet_v (a0 : Nt) (a1 : Nt) : Option (Bool) :=
  cond (decide (((a0.blocks.length : Nat) : Int) = ((a1.blocks.length : Nat) : Int))) (Option.bind (mk_SameLists_v a0.next a1.next) fun x2 => cond x2 (cond (decide (((a0.spurs.length : Nat) : Int) = ((a1.spurs.length : Nat) : Int))) (Option.bind (mk_SameInts_v a0.robots a1.robots) fun x6 => cond x6 (cond (decide (a0.cq = a1.cq) && (decide (a0.ca = a1.ca) && (decide (a0.cd = a1.cd) && decide (a0.cp = a1.cp)))) (Option.bind (loopO (sameNet_L2 a0 a1) 0) (fun | .inl v46 => Option.bind (loopO (sameNet_L1 a0 a1) 0) (fun | .inl v64 => some true | .inr (r65) => some r65) | .inr (r66) => some r66)) (some false)) (some false)) (some false)) (some false)) (some false)
theorem sameNet_vok (a0 : Nt) (a1 : Nt) (r : Bool) (hr : sameNet_v a0 a1 = some r) :
    ACalls Try.prog 29 [.agg [.p (.sl (encK a0.blocks)), .p (.sl (encG a0.next)), .p (.sl (encP a0.spurs)), .p (.sl (encI a0.robots)), .p (.int .i64 a0.cq), .p (.int .i64 a0.ca), .p (.int .i64 a0.cd), .p (.int .i64 a0.cp)], .agg [.p (.sl (encK a1.blocks)), .p (.sl (encG a1.next)), .p (.sl (encP a1.spurs)), .p (.sl (encI a1.robots)), .p (.int .i64 a1.cq), .p (.int .i64 a1.ca), .p (.int .i64 a1.cd), .p (.int .i64 a1.cp)]] [] fun h d => h = [] ∧ d = .p (.bool r) := by
  refine ACalls_X Try.func29 rfl enters29 (by simp [Try.f29]) ?_
  unfold sameNet_v at hr
  cases c1 : decide (((a0.blocks.length : Nat) : Int) = ((a1.blocks.length : Nat) : Int))
  · simp only [c1, cond_false] at hr
    obtain rfl := Option.some.inj hr
    try simp only [go_sem, c1]
    all_goals (try refine end_pure ?_)
    all_goals (try simp only [go_sem, c1])
    all_goals (try (first | rfl | exact ⟨rfl, rfl⟩ | (simp; done)))
  simp only [c1, cond_true] at hr
  rcases g3 : mk_SameLists_v a0.next a1.next with _ | x2
  · simp only [g3, Option.bind_none, reduceCtorEq] at hr
  simp only [g3, Option.bind_some] at hr
  try simp only [go_sem, c1]
  refine Cc_of (mk_SameLists_vok a0.next a1.next _ g3) ?_
  rintro h' r ⟨rfl, rfl⟩
  cases c4 : x2
  · simp only [c4, cond_false] at hr
    obtain rfl := Option.some.inj hr
    try simp only [go_sem, c1, c4]
    all_goals (try refine end_pure ?_)
    all_goals (try simp only [go_sem, c1, c4])
    all_goals (try (first | rfl | exact ⟨rfl, rfl⟩ | (simp; done)))
  simp only [c4, cond_true] at hr
  cases c5 : decide (((a0.spurs.length : Nat) : Int) = ((a1.spurs.length : Nat) : Int))
  · simp only [c5, cond_false] at hr
    obtain rfl := Option.some.inj hr
    try simp only [go_sem, c1, c4, c5]
    all_goals (try refine end_pure ?_)
    all_goals (try simp only [go_sem, c1, c4, c5])
    all_goals (try (first | rfl | exact ⟨rfl, rfl⟩ | (simp; done)))
  simp only [c5, cond_true] at hr
  rcases g7 : mk_SameInts_v a0.robots a1.robots with _ | x6
  · simp only [g7, Option.bind_none, reduceCtorEq] at hr
  simp only [g7, Option.bind_some] at hr
  try simp only [go_sem, c1, c4, c5]
  refine Cc_of (mk_SameInts_vok a0.robots a1.robots _ g7) ?_
  rintro h' r ⟨rfl, rfl⟩
  cases c8 : x6
  · simp only [c8, cond_false] at hr
    obtain rfl := Option.some.inj hr
    try simp only [go_sem, c1, c4, c5, c8]
    all_goals (try refine end_pure ?_)
    all_goals (try simp only [go_sem, c1, c4, c5, c8])
    all_goals (try (first | rfl | exact ⟨rfl, rfl⟩ | (simp; done)))
  simp only [c8, cond_true] at hr
  cases c9 : decide (a0.cq = a1.cq) && (decide (a0.ca = a1.ca) && (decide (a0.cd = a1.cd) && decide (a0.cp = a1.cp)))
  · simp only [c9, cond_false] at hr
    obtain rfl := Option.some.inj hr
    try simp only [go_sem, c1, c4, c5, c8, c9]
    all_goals (try refine end_pure ?_)
    all_goals (try simp only [go_sem, c1, c4, c5, c8, c9])
    all_goals (try (first | rfl | exact ⟨rfl, rfl⟩ | (simp; done)))
  simp only [c9, cond_true] at hr
  rcases g16 : loopO (sameNet_L2 a0 a1) 0 with _ | e15
  · simp only [g16, Option.bind_none, reduceCtorEq] at hr
  simp only [g16, Option.bind_some] at hr
  try simp only [go_sem, c1, c4, c5, c8, c9]
  refine X_loopO g16 (fun q : Int => ⟨[(2, .ptr 2 0), (3, .ptr 3 0), (5, .p (.int .i64 q))], [(2, .box [.p (.sl (encK a0.blocks)), .p (.sl (encG a0.next)), .p (.sl (encP a0.spurs)), .p (.sl (encI a0.robots)), .p (.int .i64 a0.cq), .p (.int .i64 a0.ca), .p (.int .i64 a0.cd), .p (.int .i64 a0.cp)]), (3, .box [.p (.sl (encK a1.blocks)), .p (.sl (encG a1.next)), .p (.sl (encP a1.spurs)), .p (.sl (encI a1.robots)), .p (.int .i64 a1.cq), .p (.int .i64 a1.ca), .p (.int .i64 a1.cd), .p (.int .i64 a1.cp)])], 82⟩) ((Wk.forget (by simp [Le, LeE, LeH, get, envIds, hpIds, KeepH, D.ids, idsL, AO.ids, setL, base, encI_nil, encS_nil, encT_nil, encG_nil, encC_nil, encL_nil, encK_nil, encP_nil, mpS_nil, mpB_nil, encI_consE, encS_consE, encT_consE, encG_consE, encI_one, encS_one, encT_one, encI_snoc, encS_snoc, encT_snocE, encG_snocE, encC_snoc, encL_snoc, encK_snocE, encP_snocE, encI_set, encS_set, encT_setE, encG_setE, encC_setE, encK_setE, encP_setE, encI_len, encS_len, encT_len2, encG_len2, encC_len, encL_len, encK_len2, encP_len2, c4, c8]))) ?_
  rintro v11 m14 hh12 ih13
  rw [sameNet_L2_eq] at hh12
  cases c17 : decide (v11 < ((a0.blocks.length : Nat) : Int))
  · simp only [c17, cond_false] at hh12
    simp only [Option.bind_some, nextO_inr] at hh12
    obtain rfl := Option.some.inj hh12
    try dsimp only at hr
    rcases g24 : loopO (sameNet_L1 a0 a1) 0 with _ | e23
    · simp only [g24, Option.bind_none, reduceCtorEq] at hr
    simp only [g24, Option.bind_some] at hr
    try simp only [go_sem, c1, c4, c5, c8, c9, c17]
    refine X_loopO g24 (fun q : Int => ⟨[(2, .ptr 2 0), (3, .ptr 3 0), (6, .p (.int .i64 q))], [(2, .box [.p (.sl (encK a0.blocks)), .p (.sl (encG a0.next)), .p (.sl (encP a0.spurs)), .p (.sl (encI a0.robots)), .p (.int .i64 a0.cq), .p (.int .i64 a0.ca), .p (.int .i64 a0.cd), .p (.int .i64 a0.cp)]), (3, .box [.p (.sl (encK a1.blocks)), .p (.sl (encG a1.next)), .p (.sl (encP a1.spurs)), .p (.sl (encI a1.robots)), .p (.int .i64 a1.cq), .p (.int .i64 a1.ca), .p (.int .i64 a1.cd), .p (.int .i64 a1.cp)])], 82⟩) ((Wk.forget (by simp [Le, LeE, LeH, get, envIds, hpIds, KeepH, D.ids, idsL, AO.ids, setL, base, encI_nil, encS_nil, encT_nil, encG_nil, encC_nil, encL_nil, encK_nil, encP_nil, mpS_nil, mpB_nil, encI_consE, encS_consE, encT_consE, encG_consE, encI_one, encS_one, encT_one, encI_snoc, encS_snoc, encT_snocE, encG_snocE, encC_snoc, encL_snoc, encK_snocE, encP_snocE, encI_set, encS_set, encT_setE, encG_setE, encC_setE, encK_setE, encP_setE, encI_len, encS_len, encT_len2, encG_len2, encC_len, encL_len, encK_len2, encP_len2, c4, c8]))) ?_
    rintro v19 m22 hh20 ih21
    rw [sameNet_L1_eq] at hh20
    cases c25 : decide (v19 < ((a0.spurs.length : Nat) : Int))
    · simp only [c25, cond_false] at hh20
      simp only [Option.bind_some, nextO_inr] at hh20
      obtain rfl := Option.some.inj hh20
      try dsimp only at hr
      obtain rfl := Option.some.inj hr
      try simp only [go_sem, c1, c4, c5, c8, c9, c17, c25]
      all_goals (try refine end_pure ?_)
      all_goals (try simp only [go_sem, c1, c4, c5, c8, c9, c17, c25])
      all_goals (try (first | rfl | exact ⟨rfl, rfl⟩ | (simp; done)))
    simp only [c25, cond_true] at hh20
    try simp only [go_sem, c1, c4, c5, c8, c9, c17, c25]
    refine X_any0 mixed (p := [(0, 0), (1, 0), (2, 0), (3, 0), (4, 0), (5, 0), (6, 0), (7, 0), (8, 0), (9, 0), (10, 0)]) (by kernel_rfl) (by simp [LeH, get]) ?_
    rcases g27 : idxO a0.spurs v19 with _ | x26
    · simp only [g27, Option.bind_none, reduceCtorEq] at hh20
    simp only [g27, Option.bind_some] at hh20
    have f28 := idxO_rng g27
    have f29 : (encP a0.spurs).getD (Int.toNat v19) [] = [(.str x26.name), (.bool x26.depot), (.int .i64 x26.inn), (.int .i64 x26.out), (.int .i64 x26.slots), (.int .i64 x26.base)] := idxO_map _ g27
    rcases g31 : idxO a1.spurs v19 with _ | x30
    · simp only [g31, Option.bind_none, reduceCtorEq] at hh20
    simp only [g31, Option.bind_some] at hh20
    have f32 := idxO_rng g31
    have f33 : (encP a1.spurs).getD (Int.toNat v19) [] = [(.str x30.name), (.bool x30.depot), (.int .i64 x30.inn), (.int .i64 x30.out), (.int .i64 x30.slots), (.int .i64 x30.base)] := idxO_map _ g31
    cases c34 : decide (x26.name = x30.name) && ((x26.depot == x30.depot) && (decide (x26.inn = x30.inn) && (decide (x26.out = x30.out) && (decide (x26.slots = x30.slots) && decide (x26.base = x30.base)))))
    · simp only [c34, cond_false] at hh20
      simp only [Option.bind_some, nextO_inr] at hh20
      obtain rfl := Option.some.inj hh20
      try dsimp only at hr
      obtain rfl := Option.some.inj hr
      try simp only [go_sem, c1, c4, c5, c8, c9, c17, c25, f28, f29, f32, f33, c34]
      all_goals (try refine end_pure ?_)
      all_goals (try simp only [go_sem, c1, c4, c5, c8, c9, c17, c25, f28, f29, f32, f33, c34])
      all_goals (try (first | rfl | exact ⟨rfl, rfl⟩ | (simp; done)))
    simp only [c34, cond_true] at hh20
    simp only [Option.bind_some, nextO_inl] at hh20
    try simp only [go_sem, c1, c4, c5, c8, c9, c17, c25, f28, f29, f32, f33, c34]
    exact ih21 (IntKind.i64.wrap (v19 + 1)) _ hh20 ((Wk.forget (by simp [Le, LeE, LeH, get, envIds, hpIds, KeepH, D.ids, idsL, AO.ids, setL, base, encI_nil, encS_nil, encT_nil, encG_nil, encC_nil, encL_nil, encK_nil, encP_nil, mpS_nil, mpB_nil, encI_consE, encS_consE, encT_consE, encG_consE, encI_one, encS_one, encT_one, encI_snoc, encS_snoc, encT_snocE, encG_snocE, encC_snoc, encL_snoc, encK_snocE, encP_snocE, encI_set, encS_set, encT_setE, encG_setE, encC_setE, encK_setE, encP_setE, encI_len, encS_len, encT_len2, encG_len2, encC_len, encL_len, encK_len2, encP_len2, c4, c8])))
  simp only [c17, cond_true] at hh12
  try simp only [go_sem, c1, c4, c5, c8, c9, c17]
  refine X_any0 mixed (p := [(0, 0), (1, 0), (2, 0), (3, 0), (4, 0), (5, 0), (6, 0), (7, 0), (8, 0), (9, 0), (10, 0)]) (by kernel_rfl) (by simp [LeH, get]) ?_
  rcases g38 : idxO a0.blocks v11 with _ | x37
  · simp only [g38, Option.bind_none, reduceCtorEq] at hh12
  simp only [g38, Option.bind_some] at hh12
  have f39 := idxO_rng g38
  have f40 : (encK a0.blocks).getD (Int.toNat v11) [] = [(.str x37.name), (.int .i64 x37.x), (.int .i64 x37.y)] := idxO_map _ g38
  rcases g42 : idxO a1.blocks v11 with _ | x41
  · simp only [g42, Option.bind_none, reduceCtorEq] at hh12
  simp only [g42, Option.bind_some] at hh12
  have f43 := idxO_rng g42
  have f44 : (encK a1.blocks).getD (Int.toNat v11) [] = [(.str x41.name), (.int .i64 x41.x), (.int .i64 x41.y)] := idxO_map _ g42
  cases c45 : decide (x37.name = x41.name) && (decide (x37.x = x41.x) && decide (x37.y = x41.y))
  · simp only [c45, cond_false] at hh12
    simp only [Option.bind_some, nextO_inr] at hh12
    obtain rfl := Option.some.inj hh12
    try dsimp only at hr
    obtain rfl := Option.some.inj hr
    try simp only [go_sem, c1, c4, c5, c8, c9, c17, f39, f40, f43, f44, c45]
    all_goals (try refine end_pure ?_)
    all_goals (try simp only [go_sem, c1, c4, c5, c8, c9, c17, f39, f40, f43, f44, c45])
    all_goals (try (first | rfl | exact ⟨rfl, rfl⟩ | (simp; done)))
  simp only [c45, cond_true] at hh12
  simp only [Option.bind_some, nextO_inl] at hh12
  try simp only [go_sem, c1, c4, c5, c8, c9, c17, f39, f40, f43, f44, c45]
  exact ih13 (IntKind.i64.wrap (v11 + 1)) _ hh12 ((Wk.forget (by simp [Le, LeE, LeH, get, envIds, hpIds, KeepH, D.ids, idsL, AO.ids, setL, base, encI_nil, encS_nil, encT_nil, encG_nil, encC_nil, encL_nil, encK_nil, encP_nil, mpS_nil, mpB_nil, encI_consE, encS_consE, encT_consE, encG_consE, encI_one, encS_one, encT_one, encI_snoc, encS_snoc, encT_snocE, encG_snocE, encC_snoc, encL_snoc, encK_snocE, encP_snocE, encI_set, encS_set, encT_setE, encG_setE, encC_setE, encK_setE, encP_setE, encI_len, encS_len, encT_len2, encG_len2, encC_len, encL_len, encK_len2, encP_len2, c4, c8])))
noncomputable def netmap_within_v (a0 : Int) (a1 : Int) (a2 : Int) : Option (Bool) :=
  cond (decide (a1 ≤ a0)) (some (decide (a0 ≤ a2))) (some false)
theorem netmap_within_vok (a0 : Int) (a1 : Int) (a2 : Int) (r : Bool) (hr : netmap_within_v a0 a1 a2 = some r) :
    ACalls Try.prog 61 [.p (.int .i64 a0), .p (.int .i64 a1), .p (.int .i64 a2)] [] fun h d => h = [] ∧ d = .p (.bool r) := by
  refine ACalls_X Try.func61 rfl enters61 (by simp [Try.f61]) ?_
  unfold netmap_within_v at hr
  cases c1 : decide (a1 ≤ a0)
  · simp only [c1, cond_false] at hr
    obtain rfl := Option.some.inj hr
    try simp only [go_sem, c1]
    all_goals (try refine end_pure ?_)
    all_goals (try simp only [go_sem, c1])
    all_goals (try (first | rfl | exact ⟨rfl, rfl⟩ | (simp; done)))
  simp only [c1, cond_true] at hr
  obtain rfl := Option.some.inj hr
  try simp only [go_sem, c1]
  all_goals (try refine end_pure ?_)
  all_goals (try simp only [go_sem, c1])
  all_goals (try (first | rfl | exact ⟨rfl, rfl⟩ | (simp; done)))
noncomputable def netmap_validConfig_v (a0 : Cfg4) : Option (Bool) :=
  Option.bind (netmap_within_v a0.cq 1 8) fun x1 => cond x1 (Option.bind (netmap_within_v a0.ca 0 4) fun x4 => cond x4 (Option.bind (netmap_within_v a0.cd 0 3) fun x7 => cond x7 (Option.bind (netmap_within_v a0.cp 1 16) fun x10 => some x10) (some false)) (some false)) (some false)
theorem netmap_validConfig_vok (a0 : Cfg4) (r : Bool) (hr : netmap_validConfig_v a0 = some r) :
    ACalls Try.prog 62 [.agg [.p (.int .i64 a0.cq), .p (.int .i64 a0.ca), .p (.int .i64 a0.cd), .p (.int .i64 a0.cp)]] [] fun h d => h = [] ∧ d = .p (.bool r) := by
  refine ACalls_X Try.func62 rfl enters62 (by simp [Try.f62]) ?_
  unfold netmap_validConfig_v at hr
  rcases g2 : netmap_within_v a0.cq 1 8 with _ | x1
  · simp only [g2, Option.bind_none, reduceCtorEq] at hr
  simp only [g2, Option.bind_some] at hr
  try simp only [go_sem]
  refine Cc_of (netmap_within_vok a0.cq 1 8 _ g2) ?_
  rintro h' r ⟨rfl, rfl⟩
  cases c3 : x1
  · simp only [c3, cond_false] at hr
    obtain rfl := Option.some.inj hr
    try simp only [go_sem, c3]
    all_goals (try refine end_pure ?_)
    all_goals (try simp only [go_sem, c3])
    all_goals (try (first | rfl | exact ⟨rfl, rfl⟩ | (simp; done)))
  simp only [c3, cond_true] at hr
  rcases g5 : netmap_within_v a0.ca 0 4 with _ | x4
  · simp only [g5, Option.bind_none, reduceCtorEq] at hr
  simp only [g5, Option.bind_some] at hr
  try simp only [go_sem, c3]
  refine Cc_of (netmap_within_vok a0.ca 0 4 _ g5) ?_
  rintro h' r ⟨rfl, rfl⟩
  cases c6 : x4
  · simp only [c6, cond_false] at hr
    obtain rfl := Option.some.inj hr
    try simp only [go_sem, c3, c6]
    all_goals (try refine end_pure ?_)
    all_goals (try simp only [go_sem, c3, c6])
    all_goals (try (first | rfl | exact ⟨rfl, rfl⟩ | (simp; done)))
  simp only [c6, cond_true] at hr
  rcases g8 : netmap_within_v a0.cd 0 3 with _ | x7
  · simp only [g8, Option.bind_none, reduceCtorEq] at hr
  simp only [g8, Option.bind_some] at hr
  try simp only [go_sem, c3, c6]
  refine Cc_of (netmap_within_vok a0.cd 0 3 _ g8) ?_
  rintro h' r ⟨rfl, rfl⟩
  cases c9 : x7
  · simp only [c9, cond_false] at hr
    obtain rfl := Option.some.inj hr
    try simp only [go_sem, c3, c6, c9]
    all_goals (try refine end_pure ?_)
    all_goals (try simp only [go_sem, c3, c6, c9])
    all_goals (try (first | rfl | exact ⟨rfl, rfl⟩ | (simp; done)))
  simp only [c9, cond_true] at hr
  rcases g11 : netmap_within_v a0.cp 1 16 with _ | x10
  · simp only [g11, Option.bind_none, reduceCtorEq] at hr
  simp only [g11, Option.bind_some] at hr
  try simp only [go_sem, c3, c6, c9]
  refine Cc_of (netmap_within_vok a0.cp 1 16 _ g11) ?_
  rintro h' r ⟨rfl, rfl⟩
  obtain rfl := Option.some.inj hr
  try simp only [go_sem, c3, c6, c9]
  all_goals (try refine end_pure ?_)
  all_goals (try simp only [go_sem, c3, c6, c9])
  all_goals (try (first | rfl | exact ⟨rfl, rfl⟩ | (simp; done)))
noncomputable def netmap_validNext_L1 (a0 : List Int) (a1 : Int) (a2 : Int) : Int × Int → Option ((Int × Int) ⊕ ((Int × Int) ⊕ Bool))
  | (v3, v4) => cond (decide (v3 < ((a0.length : Nat) : Int))) (Option.bind (idxO a0 v3) fun x11 => cond (decide (x11 ≤ v4)) (some (Sum.inr (.inr (false)))) (cond (decide (a2 ≤ x11)) (some (Sum.inr (.inr (false)))) (cond (decide (x11 = a1)) (some (Sum.inr (.inr (false)))) (some (Sum.inl ((IntKind.i64.wrap (v3 + 1)), x11)))))) (some (Sum.inr (.inl (v3, v4))))
theorem netmap_validNext_L1_eq (a0 : List Int) (a1 : Int) (a2 : Int) (v3 : Int) (v4 : Int) : netmap_validNext_L1 a0 a1 a2 (v3, v4) = cond (decide (v3 < ((a0.length : Nat) : Int))) (Option.bind (idxO a0 v3) fun x11 => cond (decide (x11 ≤ v4)) (some (Sum.inr (.inr (false)))) (cond (decide (a2 ≤ x11)) (some (Sum.inr (.inr (false)))) (cond (decide (x11 = a1)) (some (Sum.inr (.inr (false)))) (some (Sum.inl ((IntKind.i64.wrap (v3 + 1)), x11)))))) (some (Sum.inr (.inl (v3, v4)))) := rfl
noncomputable def netmap_validNext_v (a0 : List Int) (a1 : Int) (a2 : Int) : Option (Bool) :=
  Option.bind (loopO (netmap_validNext_L1 a0 a1 a2) (0, (-1))) (fun | .inl (v18, v19) => some (decide (((a0.length : Nat) : Int) ≤ 4)) | .inr (r20) => some r20)
theorem netmap_validNext_vok (a0 : List Int) (a1 : Int) (a2 : Int) (r : Bool) (hr : netmap_validNext_v a0 a1 a2 = some r) :
    ACalls Try.prog 64 [.p (.sl (encI a0)), .p (.int .i64 a1), .p (.int .i64 a2)] [] fun h d => h = [] ∧ d = .p (.bool r) := by
  refine ACalls_X Try.func64 rfl enters64 (by simp [Try.f64]) ?_
  unfold netmap_validNext_v at hr
  rcases g9 : loopO (netmap_validNext_L1 a0 a1 a2) (0, (-1)) with _ | e8
  · simp only [g9, Option.bind_none, reduceCtorEq] at hr
  simp only [g9, Option.bind_some] at hr
  try simp only [go_sem]
  refine X_loopO g9 (fun q : Int × Int => ⟨[(0, .p (.sl (encI a0))), (1, .p (.int .i64 a1)), (2, .p (.int .i64 a2)), (7, .p (.int .i64 q.2)), (10, .p (.sl (encI a0))), (11, .p (.int .i64 ((a0.length : Nat) : Int))), (12, .p (.int .i64 q.1))], [], 34⟩) ((Wk.forget (by simp [Le, LeE, LeH, get, envIds, hpIds, KeepH, D.ids, idsL, AO.ids, setL, base, encI_nil, encS_nil, encT_nil, encG_nil, encC_nil, encL_nil, encK_nil, encP_nil, mpS_nil, mpB_nil, encI_consE, encS_consE, encT_consE, encG_consE, encI_one, encS_one, encT_one, encI_snoc, encS_snoc, encT_snocE, encG_snocE, encC_snoc, encL_snoc, encK_snocE, encP_snocE, encI_set, encS_set, encT_setE, encG_setE, encC_setE, encK_setE, encP_setE, encI_len, encS_len, encT_len2, encG_len2, encC_len, encL_len, encK_len2, encP_len2]))) ?_
  rintro ⟨v3, v4⟩ m7 hh5 ih6
  rw [netmap_validNext_L1_eq] at hh5
  cases c10 : decide (v3 < ((a0.length : Nat) : Int))
  · simp only [c10, cond_false] at hh5
    simp only [Option.bind_some, nextO_inr] at hh5
    obtain rfl := Option.some.inj hh5
    try dsimp only at hr
    obtain rfl := Option.some.inj hr
    try simp only [go_sem, c10]
    all_goals (try refine end_pure ?_)
    all_goals (try simp only [go_sem, c10])
    all_goals (try (first | rfl | exact ⟨rfl, rfl⟩ | (simp; done)))
  simp only [c10, cond_true] at hh5
  rcases g12 : idxO a0 v3 with _ | x11
  · simp only [g12, Option.bind_none, reduceCtorEq] at hh5
  simp only [g12, Option.bind_some] at hh5
  have f13 := idxO_rng g12
  have f14 : (encI a0).getD (Int.toNat v3) [] = [(.int .i64 x11)] := idxO_map _ g12
  cases c15 : decide (x11 ≤ v4)
  · simp only [c15, cond_false] at hh5
    cases c16 : decide (a2 ≤ x11)
    · simp only [c16, cond_false] at hh5
      cases c17 : decide (x11 = a1)
      · simp only [c17, cond_false] at hh5
        simp only [Option.bind_some, nextO_inl] at hh5
        try simp only [go_sem, c10, f13, f14, c15, c16, c17]
        exact ih6 ((IntKind.i64.wrap (v3 + 1)), x11) _ hh5 ((Wk.forget (by simp [Le, LeE, LeH, get, envIds, hpIds, KeepH, D.ids, idsL, AO.ids, setL, base, encI_nil, encS_nil, encT_nil, encG_nil, encC_nil, encL_nil, encK_nil, encP_nil, mpS_nil, mpB_nil, encI_consE, encS_consE, encT_consE, encG_consE, encI_one, encS_one, encT_one, encI_snoc, encS_snoc, encT_snocE, encG_snocE, encC_snoc, encL_snoc, encK_snocE, encP_snocE, encI_set, encS_set, encT_setE, encG_setE, encC_setE, encK_setE, encP_setE, encI_len, encS_len, encT_len2, encG_len2, encC_len, encL_len, encK_len2, encP_len2])))
      simp only [c17, cond_true] at hh5
      simp only [Option.bind_some, nextO_inr] at hh5
      obtain rfl := Option.some.inj hh5
      try dsimp only at hr
      obtain rfl := Option.some.inj hr
      try simp only [go_sem, c10, f13, f14, c15, c16, c17]
      all_goals (try refine end_pure ?_)
      all_goals (try simp only [go_sem, c10, f13, f14, c15, c16, c17])
      all_goals (try (first | rfl | exact ⟨rfl, rfl⟩ | (simp; done)))
    simp only [c16, cond_true] at hh5
    simp only [Option.bind_some, nextO_inr] at hh5
    obtain rfl := Option.some.inj hh5
    try dsimp only at hr
    obtain rfl := Option.some.inj hr
    try simp only [go_sem, c10, f13, f14, c15, c16]
    all_goals (try refine end_pure ?_)
    all_goals (try simp only [go_sem, c10, f13, f14, c15, c16])
    all_goals (try (first | rfl | exact ⟨rfl, rfl⟩ | (simp; done)))
  simp only [c15, cond_true] at hh5
  simp only [Option.bind_some, nextO_inr] at hh5
  obtain rfl := Option.some.inj hh5
  try dsimp only at hr
  obtain rfl := Option.some.inj hr
  try simp only [go_sem, c10, f13, f14, c15]
  all_goals (try refine end_pure ?_)
  all_goals (try simp only [go_sem, c10, f13, f14, c15])
  all_goals (try (first | rfl | exact ⟨rfl, rfl⟩ | (simp; done)))
noncomputable def netmap_Valid_L1 (a0 : Nt) : (List (Int × Bool)) × Int → Option (((List (Int × Bool)) × Int) ⊕ (((List (Int × Bool)) × Int)))
  | (v37, v38) => cond (decide (v38 < ((a0.robots.length : Nat) : Int))) (Option.bind (idxO a0.robots v38) fun x45 => some (Sum.inl ((delB v37 x45), (IntKind.i64.wrap (v38 + 1))))) (some (Sum.inr (v37, v38)))
theorem netmap_Valid_L1_eq (a0 : Nt) (v37 : List (Int × Bool)) (v38 : Int) : netmap_Valid_L1 a0 (v37, v38) = cond (decide (v38 < ((a0.robots.length : Nat) : Int))) (Option.bind (idxO a0.robots v38) fun x45 => some (Sum.inl ((delB v37 x45), (IntKind.i64.wrap (v38 + 1))))) (some (Sum.inr (v37, v38))) := rfl
noncomputable def netmap_Valid_L2 (a0 : Nt) : (List (Int × Bool)) × Bool × Int → Option (((List (Int × Bool)) × Bool × Int) ⊕ (((List (Int × Bool)) × Bool × Int)))
  | (v54, v55, v56) => cond (decide (v56 < ((a0.robots.length : Nat) : Int))) (Option.bind (idxO a0.robots v56) fun x63 => cond v55 (some (Sum.inl ((delB v54 x63), ((getB v54 x63).getD false), (IntKind.i64.wrap (v56 + 1))))) (some (Sum.inl ((delB v54 x63), false, (IntKind.i64.wrap (v56 + 1)))))) (some (Sum.inr (v54, v55, v56)))
theorem netmap_Valid_L2_eq (a0 : Nt) (v54 : List (Int × Bool)) (v55 : Bool) (v56 : Int) : netmap_Valid_L2 a0 (v54, v55, v56) = cond (decide (v56 < ((a0.robots.length : Nat) : Int))) (Option.bind (idxO a0.robots v56) fun x63 => cond v55 (some (Sum.inl ((delB v54 x63), ((getB v54 x63).getD false), (IntKind.i64.wrap (v56 + 1))))) (some (Sum.inl ((delB v54 x63), false, (IntKind.i64.wrap (v56 + 1)))))) (some (Sum.inr (v54, v55, v56))) := rfl
noncomputable def netmap_Valid_L3 (x71 : Spr) : (List (Int × Bool)) × Int × Int → Option (((List (Int × Bool)) × Int × Int) ⊕ (((List (Int × Bool)) × Int × Int)))
  | (v91, v92, v93) => cond (decide (v92 < x71.slots)) (cond x71.depot (some (Sum.inl ((putB v91 v93 true), (IntKind.i64.wrap (v92 + 1)), (IntKind.i64.wrap (v93 + 1))))) (some (Sum.inl (v91, (IntKind.i64.wrap (v92 + 1)), (IntKind.i64.wrap (v93 + 1)))))) (some (Sum.inr (v91, v92, v93)))
theorem netmap_Valid_L3_eq (x71 : Spr) (v91 : List (Int × Bool)) (v92 : Int) (v93 : Int) : netmap_Valid_L3 x71 (v91, v92, v93) = cond (decide (v92 < x71.slots)) (cond x71.depot (some (Sum.inl ((putB v91 v93 true), (IntKind.i64.wrap (v92 + 1)), (IntKind.i64.wrap (v93 + 1))))) (some (Sum.inl (v91, (IntKind.i64.wrap (v92 + 1)), (IntKind.i64.wrap (v93 + 1)))))) (some (Sum.inr (v91, v92, v93))) := rfl
noncomputable def netmap_Valid_L4 (a0 : Nt) : (List (List UInt8 × Int)) × (List (Int × Bool)) × Int × Int → Option (((List (List UInt8 × Int)) × (List (Int × Bool)) × Int × Int) ⊕ (((List (List UInt8 × Int)) × (List (Int × Bool)) × Int × Int) ⊕ Bool))
  | (v24, v25, v26, v27) => cond (decide (v27 < ((a0.spurs.length : Nat) : Int))) (Option.bind (idxO a0.spurs v27) fun x71 => Option.bind (fname_v x71.name) fun x75 => cond x75 (Option.bind (netmap_within_v x71.inn 0 (IntKind.i64.wrap (((a0.blocks.length : Nat) : Int) - 1))) fun x78 => cond x78 (Option.bind (netmap_within_v x71.out 0 (IntKind.i64.wrap (((a0.blocks.length : Nat) : Int) - 1))) fun x81 => cond x81 (Option.bind (netmap_within_v x71.slots 1 4) fun x84 => cond x84 (cond (decide (x71.base = v26)) (Option.bind (loopO (netmap_Valid_L3 x71) (v25, 0, v26)) (fun (v101, v102, v103) => some (Sum.inl ((putS v24 x71.name (IntKind.i64.wrap (((getS v24 x71.name).getD 0) + 1))), v101, v103, (IntKind.i64.wrap (v27 + 1)))))) (some (Sum.inr (.inr (false))))) (some (Sum.inr (.inr (false))))) (some (Sum.inr (.inr (false))))) (some (Sum.inr (.inr (false))))) (some (Sum.inr (.inr (false))))) (some (Sum.inr (.inl (v24, v25, v26, v27))))
theorem netmap_Valid_L4_eq (a0 : Nt) (v24 : List (List UInt8 × Int)) (v25 : List (Int × Bool)) (v26 : Int) (v27 : Int) : netmap_Valid_L4 a0 (v24, v25, v26, v27) = cond (decide (v27 < ((a0.spurs.length : Nat) : Int))) (Option.bind (idxO a0.spurs v27) fun x71 => Option.bind (fname_v x71.name) fun x75 => cond x75 (Option.bind (netmap_within_v x71.inn 0 (IntKind.i64.wrap (((a0.blocks.length : Nat) : Int) - 1))) fun x78 => cond x78 (Option.bind (netmap_within_v x71.out 0 (IntKind.i64.wrap (((a0.blocks.length : Nat) : Int) - 1))) fun x81 => cond x81 (Option.bind (netmap_within_v x71.slots 1 4) fun x84 => cond x84 (cond (decide (x71.base = v26)) (Option.bind (loopO (netmap_Valid_L3 x71) (v25, 0, v26)) (fun (v101, v102, v103) => some (Sum.inl ((putS v24 x71.name (IntKind.i64.wrap (((getS v24 x71.name).getD 0) + 1))), v101, v103, (IntKind.i64.wrap (v27 + 1)))))) (some (Sum.inr (.inr (false))))) (some (Sum.inr (.inr (false))))) (some (Sum.inr (.inr (false))))) (some (Sum.inr (.inr (false))))) (some (Sum.inr (.inr (false))))) (some (Sum.inr (.inl (v24, v25, v26, v27)))) := rfl
noncomputable def netmap_Valid_L5 (a0 : Nt) : (List (List UInt8 × Int)) × Int → Option (((List (List UInt8 × Int)) × Int) ⊕ (((List (List UInt8 × Int)) × Int) ⊕ Bool))
  | (v12, v13) => cond (decide (v13 < ((a0.blocks.length : Nat) : Int))) (Option.bind (idxO a0.blocks v13) fun x146 => Option.bind (fname_v x146.name) fun x150 => cond x150 (Option.bind (netmap_within_v x146.x (-9999) 9999) fun x153 => cond x153 (Option.bind (netmap_within_v x146.y (-9999) 9999) fun x156 => cond x156 (Option.bind (idxO a0.next v13) fun x159 => Option.bind (netmap_validNext_v x159 v13 ((a0.blocks.length : Nat) : Int)) fun x163 => cond x163 (some (Sum.inl ((putS v12 x146.name (IntKind.i64.wrap (((getS v12 x146.name).getD 0) + 1))), (IntKind.i64.wrap (v13 + 1))))) (some (Sum.inr (.inr (false))))) (some (Sum.inr (.inr (false))))) (some (Sum.inr (.inr (false))))) (some (Sum.inr (.inr (false))))) (some (Sum.inr (.inl (v12, v13))))
theorem netmap_Valid_L5_eq (a0 : Nt) (v12 : List (List UInt8 × Int)) (v13 : Int) : netmap_Valid_L5 a0 (v12, v13) = cond (decide (v13 < ((a0.blocks.length : Nat) : Int))) (Option.bind (idxO a0.blocks v13) fun x146 => Option.bind (fname_v x146.name) fun x150 => cond x150 (Option.bind (netmap_within_v x146.x (-9999) 9999) fun x153 => cond x153 (Option.bind (netmap_within_v x146.y (-9999) 9999) fun x156 => cond x156 (Option.bind (idxO a0.next v13) fun x159 => Option.bind (netmap_validNext_v x159 v13 ((a0.blocks.length : Nat) : Int)) fun x163 => cond x163 (some (Sum.inl ((putS v12 x146.name (IntKind.i64.wrap (((getS v12 x146.name).getD 0) + 1))), (IntKind.i64.wrap (v13 + 1))))) (some (Sum.inr (.inr (false))))) (some (Sum.inr (.inr (false))))) (some (Sum.inr (.inr (false))))) (some (Sum.inr (.inr (false))))) (some (Sum.inr (.inl (v12, v13)))) := rfl
noncomputable def netmap_Valid_v (a0 : Nt) : Option (Bool) :=
  Option.bind (netmap_within_v ((a0.blocks.length : Nat) : Int) 1 24) fun x1 => cond x1 (cond (decide (((a0.next.length : Nat) : Int) = ((a0.blocks.length : Nat) : Int))) (cond (decide (6 < ((a0.spurs.length : Nat) : Int))) (some false) (cond (decide (8 < ((a0.robots.length : Nat) : Int))) (some false) (Option.bind (netmap_validConfig_v (⟨a0.cq, a0.ca, a0.cd, a0.cp⟩ : Cfg4)) fun x7 => cond x7 (Option.bind (loopO (netmap_Valid_L5 a0) ([], 0)) (fun | .inl (v166, v167) => Option.bind (loopO (netmap_Valid_L4 a0) (v166, [], ((a0.blocks.length : Nat) : Int), 0)) (fun | .inl (v252, v253, v254, v255) => cond (decide (0 < ((v253.length : Nat) : Int))) (Option.bind (loopO (netmap_Valid_L2 a0) (v253, decide (((v252.length : Nat) : Int) = (IntKind.i64.wrap (((a0.blocks.length : Nat) : Int) + ((a0.spurs.length : Nat) : Int)))), 0)) (fun (v290, v291, v292) => some v291)) (Option.bind (loopO (netmap_Valid_L1 a0) (v253, 0)) (fun (v271, v272) => some false)) | .inr (r293) => some r293) | .inr (r294) => some r294)) (some false)))) (some false)) (some false)
theorem netmap_Valid_vok (a0 : Nt) (r : Bool) (hr : netmap_Valid_v a0 = some r) :
    ACalls Try.prog 34 [.agg [.p (.sl (encK a0.blocks)), .p (.sl (encG a0.next)), .p (.sl (encP a0.spurs)), .p (.sl (encI a0.robots)), .p (.int .i64 a0.cq), .p (.int .i64 a0.ca), .p (.int .i64 a0.cd), .p (.int .i64 a0.cp)]] [] fun h d => h = [] ∧ d = .p (.bool r) := by
  refine ACalls_X Try.func34 rfl enters34 (by simp [Try.f34]) ?_
  unfold netmap_Valid_v at hr
  rcases g2 : netmap_within_v ((a0.blocks.length : Nat) : Int) 1 24 with _ | x1
  · simp only [g2, Option.bind_none, reduceCtorEq] at hr
  simp only [g2, Option.bind_some] at hr
  try simp only [go_sem]
  refine Cc_of (netmap_within_vok ((a0.blocks.length : Nat) : Int) 1 24 _ g2) ?_
  rintro h' r ⟨rfl, rfl⟩
  cases c3 : x1
  · simp only [c3, cond_false] at hr
    obtain rfl := Option.some.inj hr
    try simp only [go_sem, c3]
    all_goals (try refine end_pure ?_)
    all_goals (try simp only [go_sem, c3])
    all_goals (try (first | rfl | exact ⟨rfl, rfl⟩ | (simp; done)))
  simp only [c3, cond_true] at hr
  cases c4 : decide (((a0.next.length : Nat) : Int) = ((a0.blocks.length : Nat) : Int))
  · simp only [c4, cond_false] at hr
    obtain rfl := Option.some.inj hr
    try simp only [go_sem, c3, c4]
    all_goals (try refine end_pure ?_)
    all_goals (try simp only [go_sem, c3, c4])
    all_goals (try (first | rfl | exact ⟨rfl, rfl⟩ | (simp; done)))
  simp only [c4, cond_true] at hr
  cases c5 : decide (6 < ((a0.spurs.length : Nat) : Int))
  · simp only [c5, cond_false] at hr
    cases c6 : decide (8 < ((a0.robots.length : Nat) : Int))
    · simp only [c6, cond_false] at hr
      rcases g8 : netmap_validConfig_v (⟨a0.cq, a0.ca, a0.cd, a0.cp⟩ : Cfg4) with _ | x7
      · simp only [g8, Option.bind_none, reduceCtorEq] at hr
      simp only [g8, Option.bind_some] at hr
      try simp only [go_sem, c3, c4, c5, c6]
      refine Cc_of (netmap_validConfig_vok (⟨a0.cq, a0.ca, a0.cd, a0.cp⟩ : Cfg4) _ g8) ?_
      rintro h' r ⟨rfl, rfl⟩
      cases c9 : x7
      · simp only [c9, cond_false] at hr
        obtain rfl := Option.some.inj hr
        try simp only [go_sem, c3, c4, c5, c6, c9]
        all_goals (try refine end_pure ?_)
        all_goals (try simp only [go_sem, c3, c4, c5, c6, c9])
        all_goals (try (first | rfl | exact ⟨rfl, rfl⟩ | (simp; done)))
      simp only [c9, cond_true] at hr
      rcases g18 : loopO (netmap_Valid_L5 a0) ([], 0) with _ | e17
      · simp only [g18, Option.bind_none, reduceCtorEq] at hr
      simp only [g18, Option.bind_some] at hr
      try simp only [go_sem, c3, c4, c5, c6, c9]
      refine X_loopO g18 (fun q : (List (List UInt8 × Int)) × Int => ⟨[(1, .ptr 1 0), (3, .mv 45), (47, .p (.sl (encK a0.blocks))), (48, .p (.int .i64 ((a0.blocks.length : Nat) : Int))), (49, .p (.int .i64 q.2))], [(1, .box [.p (.sl (encK a0.blocks)), .p (.sl (encG a0.next)), .p (.sl (encP a0.spurs)), .p (.sl (encI a0.robots)), .p (.int .i64 a0.cq), .p (.int .i64 a0.ca), .p (.int .i64 a0.cd), .p (.int .i64 a0.cp)]), (45, .mp (mpS q.1))], 185⟩) ((Wk.forget (by simp [Le, LeE, LeH, get, envIds, hpIds, KeepH, D.ids, idsL, AO.ids, setL, base, encI_nil, encS_nil, encT_nil, encG_nil, encC_nil, encL_nil, encK_nil, encP_nil, mpS_nil, mpB_nil, encI_consE, encS_consE, encT_consE, encG_consE, encI_one, encS_one, encT_one, encI_snoc, encS_snoc, encT_snocE, encG_snocE, encC_snoc, encL_snoc, encK_snocE, encP_snocE, encI_set, encS_set, encT_setE, encG_setE, encC_setE, encK_setE, encP_setE, encI_len, encS_len, encT_len2, encG_len2, encC_len, encL_len, encK_len2, encP_len2, c3, c9]))) ?_
      rintro ⟨v12, v13⟩ m16 hh14 ih15
      rw [netmap_Valid_L5_eq] at hh14
      cases c19 : decide (v13 < ((a0.blocks.length : Nat) : Int))
      · simp only [c19, cond_false] at hh14
        simp only [Option.bind_some, nextO_inr] at hh14
        obtain rfl := Option.some.inj hh14
        try dsimp only at hr
        rcases g32 : loopO (netmap_Valid_L4 a0) (v12, [], ((a0.blocks.length : Nat) : Int), 0) with _ | e31
        · simp only [g32, Option.bind_none, reduceCtorEq] at hr
        simp only [g32, Option.bind_some] at hr
        try simp only [go_sem, c3, c4, c5, c6, c9, c19]
        refine X_loopO g32 (fun q : (List (List UInt8 × Int)) × (List (Int × Bool)) × Int × Int => ⟨[(1, .ptr 1 0), (3, .mv 45), (6, .p (.int .i64 q.2.2.1)), (7, .mv 92), (94, .p (.sl (encP a0.spurs))), (95, .p (.int .i64 ((a0.spurs.length : Nat) : Int))), (96, .p (.int .i64 q.2.2.2))], [(1, .box [.p (.sl (encK a0.blocks)), .p (.sl (encG a0.next)), .p (.sl (encP a0.spurs)), .p (.sl (encI a0.robots)), .p (.int .i64 a0.cq), .p (.int .i64 a0.ca), .p (.int .i64 a0.cd), .p (.int .i64 a0.cp)]), (45, .mp (mpS q.1)), (92, .mp (mpB q.2.1))], 185⟩) ((Wk.forget (by simp [Le, LeE, LeH, get, envIds, hpIds, KeepH, D.ids, idsL, AO.ids, setL, base, encI_nil, encS_nil, encT_nil, encG_nil, encC_nil, encL_nil, encK_nil, encP_nil, mpS_nil, mpB_nil, encI_consE, encS_consE, encT_consE, encG_consE, encI_one, encS_one, encT_one, encI_snoc, encS_snoc, encT_snocE, encG_snocE, encC_snoc, encL_snoc, encK_snocE, encP_snocE, encI_set, encS_set, encT_setE, encG_setE, encC_setE, encK_setE, encP_setE, encI_len, encS_len, encT_len2, encG_len2, encC_len, encL_len, encK_len2, encP_len2, c3, c9]))) ?_
        rintro ⟨v24, v25, v26, v27⟩ m30 hh28 ih29
        rw [netmap_Valid_L4_eq] at hh28
        cases c33 : decide (v27 < ((a0.spurs.length : Nat) : Int))
        · simp only [c33, cond_false] at hh28
          simp only [Option.bind_some, nextO_inr] at hh28
          obtain rfl := Option.some.inj hh28
          try dsimp only at hr
          try simp only [go_sem, c3, c4, c5, c6, c9, c19, c33]
          refine Af_maplen rfl rfl rfl rfl mp112 rfl rfl ?_
          cases c34 : decide (0 < ((v25.length : Nat) : Int))
          · simp only [c34, cond_false] at hr
            rcases g43 : loopO (netmap_Valid_L1 a0) (v25, 0) with _ | e42
            · simp only [g43, Option.bind_none, reduceCtorEq] at hr
            simp only [g43, Option.bind_some] at hr
            try simp only [go_sem, c3, c4, c5, c6, c9, c19, c33, c34]
            refine X_loopO g43 (fun q : (List (Int × Bool)) × Int => ⟨[(7, .mv 92), (10, .p (.bool false)), (169, .p (.sl (encI a0.robots))), (170, .p (.int .i64 ((a0.robots.length : Nat) : Int))), (171, .p (.int .i64 q.2))], [(92, .mp (mpB q.1))], 185⟩) ((Wk.forget (by simp [Le, LeE, LeH, get, envIds, hpIds, KeepH, D.ids, idsL, AO.ids, setL, base, encI_nil, encS_nil, encT_nil, encG_nil, encC_nil, encL_nil, encK_nil, encP_nil, mpS_nil, mpB_nil, encI_consE, encS_consE, encT_consE, encG_consE, encI_one, encS_one, encT_one, encI_snoc, encS_snoc, encT_snocE, encG_snocE, encC_snoc, encL_snoc, encK_snocE, encP_snocE, encI_set, encS_set, encT_setE, encG_setE, encC_setE, encK_setE, encP_setE, encI_len, encS_len, encT_len2, encG_len2, encC_len, encL_len, encK_len2, encP_len2, c3, c9]))) ?_
            rintro ⟨v37, v38⟩ m41 hh39 ih40
            rw [netmap_Valid_L1_eq] at hh39
            cases c44 : decide (v38 < ((a0.robots.length : Nat) : Int))
            · simp only [c44, cond_false] at hh39
              simp only [Option.bind_some, nextO_inr] at hh39
              obtain rfl := Option.some.inj hh39
              try dsimp only at hr
              obtain rfl := Option.some.inj hr
              try simp only [go_sem, c3, c4, c5, c6, c9, c19, c33, c34, c44]
              all_goals (try refine end_pure ?_)
              all_goals (try simp only [go_sem, c3, c4, c5, c6, c9, c19, c33, c34, c44])
              all_goals (try (first | rfl | exact ⟨rfl, rfl⟩ | (simp; done)))
            simp only [c44, cond_true] at hh39
            rcases g46 : idxO a0.robots v38 with _ | x45
            · simp only [g46, Option.bind_none, reduceCtorEq] at hh39
            simp only [g46, Option.bind_some] at hh39
            have f47 := idxO_rng g46
            have f48 : (encI a0.robots).getD (Int.toNat v38) [] = [(.int .i64 x45)] := idxO_map _ g46
            try simp only [go_sem, c3, c4, c5, c6, c9, c19, c33, c34, c44, f47, f48]
            refine Af_mapdel rfl rfl rfl rfl mp112 rfl rfl rfl rfl (mfit_B _ _) ?_
            simp only [Option.bind_some, nextO_inl] at hh39
            try simp only [go_sem, c3, c4, c5, c6, c9, c19, c33, c34, c44, f47, f48]
            exact ih40 ((delB v37 x45), (IntKind.i64.wrap (v38 + 1))) _ hh39 ((Wk.forget (by simp [Le, LeE, LeH, get, envIds, hpIds, KeepH, D.ids, idsL, AO.ids, setL, base, encI_nil, encS_nil, encT_nil, encG_nil, encC_nil, encL_nil, encK_nil, encP_nil, mpS_nil, mpB_nil, encI_consE, encS_consE, encT_consE, encG_consE, encI_one, encS_one, encT_one, encI_snoc, encS_snoc, encT_snocE, encG_snocE, encC_snoc, encL_snoc, encK_snocE, encP_snocE, encI_set, encS_set, encT_setE, encG_setE, encC_setE, encK_setE, encP_setE, encI_len, encS_len, encT_len2, encG_len2, encC_len, encL_len, encK_len2, encP_len2, c3, c9])))
          simp only [c34, cond_true] at hr
          try simp only [go_sem, c3, c4, c5, c6, c9, c19, c33, c34]
          refine Af_maplen rfl rfl rfl rfl mp91 rfl rfl ?_
          rcases g61 : loopO (netmap_Valid_L2 a0) (v25, decide (((v24.length : Nat) : Int) = (IntKind.i64.wrap (((a0.blocks.length : Nat) : Int) + ((a0.spurs.length : Nat) : Int)))), 0) with _ | e60
          · simp only [g61, Option.bind_none, reduceCtorEq] at hr
          simp only [g61, Option.bind_some] at hr
          try simp only [go_sem, c3, c4, c5, c6, c9, c19, c33, c34]
          refine X_loopO g61 (fun q : (List (Int × Bool)) × Bool × Int => ⟨[(7, .mv 92), (10, .p (.bool q.2.1)), (169, .p (.sl (encI a0.robots))), (170, .p (.int .i64 ((a0.robots.length : Nat) : Int))), (171, .p (.int .i64 q.2.2))], [(92, .mp (mpB q.1))], 185⟩) ((Wk.forget (by simp [Le, LeE, LeH, get, envIds, hpIds, KeepH, D.ids, idsL, AO.ids, setL, base, encI_nil, encS_nil, encT_nil, encG_nil, encC_nil, encL_nil, encK_nil, encP_nil, mpS_nil, mpB_nil, encI_consE, encS_consE, encT_consE, encG_consE, encI_one, encS_one, encT_one, encI_snoc, encS_snoc, encT_snocE, encG_snocE, encC_snoc, encL_snoc, encK_snocE, encP_snocE, encI_set, encS_set, encT_setE, encG_setE, encC_setE, encK_setE, encP_setE, encI_len, encS_len, encT_len2, encG_len2, encC_len, encL_len, encK_len2, encP_len2, c3, c9]))) ?_
          rintro ⟨v54, v55, v56⟩ m59 hh57 ih58
          rw [netmap_Valid_L2_eq] at hh57
          cases c62 : decide (v56 < ((a0.robots.length : Nat) : Int))
          · simp only [c62, cond_false] at hh57
            simp only [Option.bind_some, nextO_inr] at hh57
            obtain rfl := Option.some.inj hh57
            try dsimp only at hr
            obtain rfl := Option.some.inj hr
            try simp only [go_sem, c3, c4, c5, c6, c9, c19, c33, c34, c62]
            all_goals (try refine end_pure ?_)
            all_goals (try simp only [go_sem, c3, c4, c5, c6, c9, c19, c33, c34, c62])
            all_goals (try (first | rfl | exact ⟨rfl, rfl⟩ | (simp; done)))
          simp only [c62, cond_true] at hh57
          rcases g64 : idxO a0.robots v56 with _ | x63
          · simp only [g64, Option.bind_none, reduceCtorEq] at hh57
          simp only [g64, Option.bind_some] at hh57
          have f65 := idxO_rng g64
          have f66 : (encI a0.robots).getD (Int.toNat v56) [] = [(.int .i64 x63)] := idxO_map _ g64
          cases c67 : v55
          · simp only [c67, cond_false] at hh57
            try simp only [go_sem, c3, c4, c5, c6, c9, c19, c33, c34, c62, f65, f66, c67]
            refine Af_mapdel rfl rfl rfl rfl mp112 rfl rfl rfl rfl (mfit_B _ _) ?_
            simp only [Option.bind_some, nextO_inl] at hh57
            try simp only [go_sem, c3, c4, c5, c6, c9, c19, c33, c34, c62, f65, f66, c67]
            exact ih58 ((delB v54 x63), false, (IntKind.i64.wrap (v56 + 1))) _ hh57 ((Wk.forget (by simp [Le, LeE, LeH, get, envIds, hpIds, KeepH, D.ids, idsL, AO.ids, setL, base, encI_nil, encS_nil, encT_nil, encG_nil, encC_nil, encL_nil, encK_nil, encP_nil, mpS_nil, mpB_nil, encI_consE, encS_consE, encT_consE, encG_consE, encI_one, encS_one, encT_one, encI_snoc, encS_snoc, encT_snocE, encG_snocE, encC_snoc, encL_snoc, encK_snocE, encP_snocE, encI_set, encS_set, encT_setE, encG_setE, encC_setE, encK_setE, encP_setE, encI_len, encS_len, encT_len2, encG_len2, encC_len, encL_len, encK_len2, encP_len2, c3, c9, c67])))
          simp only [c67, cond_true] at hh57
          try simp only [go_sem, c3, c4, c5, c6, c9, c19, c33, c34, c62, f65, f66, c67]
          refine Af_mapdel rfl rfl rfl rfl mp112 rfl rfl rfl rfl (mfit_B _ _) ?_
          simp only [Option.bind_some, nextO_inl] at hh57
          try simp only [go_sem, c3, c4, c5, c6, c9, c19, c33, c34, c62, f65, f66, c67]
          exact ih58 ((delB v54 x63), ((getB v54 x63).getD false), (IntKind.i64.wrap (v56 + 1))) _ hh57 ((Wk.forget (by simp [Le, LeE, LeH, get, envIds, hpIds, KeepH, D.ids, idsL, AO.ids, setL, base, encI_nil, encS_nil, encT_nil, encG_nil, encC_nil, encL_nil, encK_nil, encP_nil, mpS_nil, mpB_nil, encI_consE, encS_consE, encT_consE, encG_consE, encI_one, encS_one, encT_one, encI_snoc, encS_snoc, encT_snocE, encG_snocE, encC_snoc, encL_snoc, encK_snocE, encP_snocE, encI_set, encS_set, encT_setE, encG_setE, encC_setE, encK_setE, encP_setE, encI_len, encS_len, encT_len2, encG_len2, encC_len, encL_len, encK_len2, encP_len2, c3, c9, c67])))
        simp only [c33, cond_true] at hh28
        rcases g72 : idxO a0.spurs v27 with _ | x71
        · simp only [g72, Option.bind_none, reduceCtorEq] at hh28
        simp only [g72, Option.bind_some] at hh28
        have f73 := idxO_rng g72
        have f74 : (encP a0.spurs).getD (Int.toNat v27) [] = [(.str x71.name), (.bool x71.depot), (.int .i64 x71.inn), (.int .i64 x71.out), (.int .i64 x71.slots), (.int .i64 x71.base)] := idxO_map _ g72
        rcases g76 : fname_v x71.name with _ | x75
        · simp only [g76, Option.bind_none, reduceCtorEq] at hh28
        simp only [g76, Option.bind_some] at hh28
        try simp only [go_sem, c3, c4, c5, c6, c9, c19, c33, f73, f74]
        refine Cc_of (fname_vok x71.name _ g76) ?_
        rintro h' r ⟨rfl, rfl⟩
        cases c77 : x75
        · simp only [c77, cond_false] at hh28
          simp only [Option.bind_some, nextO_inr] at hh28
          obtain rfl := Option.some.inj hh28
          try dsimp only at hr
          obtain rfl := Option.some.inj hr
          try simp only [go_sem, c3, c4, c5, c6, c9, c19, c33, f73, f74, c77]
          all_goals (try refine end_pure ?_)
          all_goals (try simp only [go_sem, c3, c4, c5, c6, c9, c19, c33, f73, f74, c77])
          all_goals (try (first | rfl | exact ⟨rfl, rfl⟩ | (simp; done)))
        simp only [c77, cond_true] at hh28
        rcases g79 : netmap_within_v x71.inn 0 (IntKind.i64.wrap (((a0.blocks.length : Nat) : Int) - 1)) with _ | x78
        · simp only [g79, Option.bind_none, reduceCtorEq] at hh28
        simp only [g79, Option.bind_some] at hh28
        try simp only [go_sem, c3, c4, c5, c6, c9, c19, c33, f73, f74, c77]
        refine Cc_of (netmap_within_vok x71.inn 0 (IntKind.i64.wrap (((a0.blocks.length : Nat) : Int) - 1)) _ g79) ?_
        rintro h' r ⟨rfl, rfl⟩
        cases c80 : x78
        · simp only [c80, cond_false] at hh28
          simp only [Option.bind_some, nextO_inr] at hh28
          obtain rfl := Option.some.inj hh28
          try dsimp only at hr
          obtain rfl := Option.some.inj hr
          try simp only [go_sem, c3, c4, c5, c6, c9, c19, c33, f73, f74, c77, c80]
          all_goals (try refine end_pure ?_)
          all_goals (try simp only [go_sem, c3, c4, c5, c6, c9, c19, c33, f73, f74, c77, c80])
          all_goals (try (first | rfl | exact ⟨rfl, rfl⟩ | (simp; done)))
        simp only [c80, cond_true] at hh28
        rcases g82 : netmap_within_v x71.out 0 (IntKind.i64.wrap (((a0.blocks.length : Nat) : Int) - 1)) with _ | x81
        · simp only [g82, Option.bind_none, reduceCtorEq] at hh28
        simp only [g82, Option.bind_some] at hh28
        try simp only [go_sem, c3, c4, c5, c6, c9, c19, c33, f73, f74, c77, c80]
        refine Cc_of (netmap_within_vok x71.out 0 (IntKind.i64.wrap (((a0.blocks.length : Nat) : Int) - 1)) _ g82) ?_
        rintro h' r ⟨rfl, rfl⟩
        cases c83 : x81
        · simp only [c83, cond_false] at hh28
          simp only [Option.bind_some, nextO_inr] at hh28
          obtain rfl := Option.some.inj hh28
          try dsimp only at hr
          obtain rfl := Option.some.inj hr
          try simp only [go_sem, c3, c4, c5, c6, c9, c19, c33, f73, f74, c77, c80, c83]
          all_goals (try refine end_pure ?_)
          all_goals (try simp only [go_sem, c3, c4, c5, c6, c9, c19, c33, f73, f74, c77, c80, c83])
          all_goals (try (first | rfl | exact ⟨rfl, rfl⟩ | (simp; done)))
        simp only [c83, cond_true] at hh28
        rcases g85 : netmap_within_v x71.slots 1 4 with _ | x84
        · simp only [g85, Option.bind_none, reduceCtorEq] at hh28
        simp only [g85, Option.bind_some] at hh28
        try simp only [go_sem, c3, c4, c5, c6, c9, c19, c33, f73, f74, c77, c80, c83]
        refine Cc_of (netmap_within_vok x71.slots 1 4 _ g85) ?_
        rintro h' r ⟨rfl, rfl⟩
        cases c86 : x84
        · simp only [c86, cond_false] at hh28
          simp only [Option.bind_some, nextO_inr] at hh28
          obtain rfl := Option.some.inj hh28
          try dsimp only at hr
          obtain rfl := Option.some.inj hr
          try simp only [go_sem, c3, c4, c5, c6, c9, c19, c33, f73, f74, c77, c80, c83, c86]
          all_goals (try refine end_pure ?_)
          all_goals (try simp only [go_sem, c3, c4, c5, c6, c9, c19, c33, f73, f74, c77, c80, c83, c86])
          all_goals (try (first | rfl | exact ⟨rfl, rfl⟩ | (simp; done)))
        simp only [c86, cond_true] at hh28
        cases c87 : decide (x71.base = v26)
        · simp only [c87, cond_false] at hh28
          simp only [Option.bind_some, nextO_inr] at hh28
          obtain rfl := Option.some.inj hh28
          try dsimp only at hr
          obtain rfl := Option.some.inj hr
          try simp only [go_sem, c3, c4, c5, c6, c9, c19, c33, f73, f74, c77, c80, c83, c86, c87]
          all_goals (try refine end_pure ?_)
          all_goals (try simp only [go_sem, c3, c4, c5, c6, c9, c19, c33, f73, f74, c77, c80, c83, c86, c87])
          all_goals (try (first | rfl | exact ⟨rfl, rfl⟩ | (simp; done)))
        simp only [c87, cond_true] at hh28
        rcases g98 : loopO (netmap_Valid_L3 x71) (v25, 0, v26) with _ | e97
        · simp only [g98, Option.bind_none, reduceCtorEq] at hh28
        simp only [g98, Option.bind_some] at hh28
        try simp only [go_sem, c3, c4, c5, c6, c9, c19, c33, f73, f74, c77, c80, c83, c86, c87]
        refine X_loopO g98 (fun q : (List (Int × Bool)) × Int × Int => ⟨[(1, .ptr 1 0), (3, .mv 45), (6, .p (.int .i64 q.2.2)), (7, .mv 92), (9, .ptr 9 0), (94, .p (.sl (encP a0.spurs))), (95, .p (.int .i64 ((a0.spurs.length : Nat) : Int))), (96, .p (.int .i64 v27)), (142, .p (.int .i64 x71.slots)), (143, .p (.int .i64 q.2.1))], [(1, .box [.p (.sl (encK a0.blocks)), .p (.sl (encG a0.next)), .p (.sl (encP a0.spurs)), .p (.sl (encI a0.robots)), .p (.int .i64 a0.cq), .p (.int .i64 a0.ca), .p (.int .i64 a0.cd), .p (.int .i64 a0.cp)]), (9, .box [.p (.str x71.name), .p (.bool x71.depot), .p (.int .i64 x71.inn), .p (.int .i64 x71.out), .p (.int .i64 x71.slots), .p (.int .i64 x71.base)]), (45, .mp (mpS (putS v24 x71.name (IntKind.i64.wrap (((getS v24 x71.name).getD 0) + 1))))), (92, .mp (mpB q.1))], 185⟩) ((Wk.forget (by simp [Le, LeE, LeH, get, envIds, hpIds, KeepH, D.ids, idsL, AO.ids, setL, base, encI_nil, encS_nil, encT_nil, encG_nil, encC_nil, encL_nil, encK_nil, encP_nil, mpS_nil, mpB_nil, encI_consE, encS_consE, encT_consE, encG_consE, encI_one, encS_one, encT_one, encI_snoc, encS_snoc, encT_snocE, encG_snocE, encC_snoc, encL_snoc, encK_snocE, encP_snocE, encI_set, encS_set, encT_setE, encG_setE, encC_setE, encK_setE, encP_setE, encI_len, encS_len, encT_len2, encG_len2, encC_len, encL_len, encK_len2, encP_len2, c3, c9, c77, c80, c83, c86]))) ?_
        rintro ⟨v91, v92, v93⟩ m96 hh94 ih95
        rw [netmap_Valid_L3_eq] at hh94
        cases c99 : decide (v92 < x71.slots)
        · simp only [c99, cond_false] at hh94
          simp only [Option.bind_some, nextO_inr] at hh94
          obtain rfl := Option.some.inj hh94
          try dsimp only at hh28
          simp only [Option.bind_some, nextO_inl] at hh28
          try simp only [go_sem, c3, c4, c5, c6, c9, c19, c33, f73, f74, c77, c80, c83, c86, c87, c99]
          exact ih29 ((putS v24 x71.name (IntKind.i64.wrap (((getS v24 x71.name).getD 0) + 1))), v91, v93, (IntKind.i64.wrap (v27 + 1))) _ hh28 ((Wk.forget (by simp [Le, LeE, LeH, get, envIds, hpIds, KeepH, D.ids, idsL, AO.ids, setL, base, encI_nil, encS_nil, encT_nil, encG_nil, encC_nil, encL_nil, encK_nil, encP_nil, mpS_nil, mpB_nil, encI_consE, encS_consE, encT_consE, encG_consE, encI_one, encS_one, encT_one, encI_snoc, encS_snoc, encT_snocE, encG_snocE, encC_snoc, encL_snoc, encK_snocE, encP_snocE, encI_set, encS_set, encT_setE, encG_setE, encC_setE, encK_setE, encP_setE, encI_len, encS_len, encT_len2, encG_len2, encC_len, encL_len, encK_len2, encP_len2, c3, c9, c77, c80, c83, c86])))
        simp only [c99, cond_true] at hh94
        cases c100 : x71.depot
        · simp only [c100, cond_false] at hh94
          simp only [Option.bind_some, nextO_inl] at hh94
          try simp only [go_sem, c3, c4, c5, c6, c9, c19, c33, f73, f74, c77, c80, c83, c86, c87, c99, c100]
          exact ih95 (v91, (IntKind.i64.wrap (v92 + 1)), (IntKind.i64.wrap (v93 + 1))) _ hh94 ((Wk.forget (by simp [Le, LeE, LeH, get, envIds, hpIds, KeepH, D.ids, idsL, AO.ids, setL, base, encI_nil, encS_nil, encT_nil, encG_nil, encC_nil, encL_nil, encK_nil, encP_nil, mpS_nil, mpB_nil, encI_consE, encS_consE, encT_consE, encG_consE, encI_one, encS_one, encT_one, encI_snoc, encS_snoc, encT_snocE, encG_snocE, encC_snoc, encL_snoc, encK_snocE, encP_snocE, encI_set, encS_set, encT_setE, encG_setE, encC_setE, encK_setE, encP_setE, encI_len, encS_len, encT_len2, encG_len2, encC_len, encL_len, encK_len2, encP_len2, c3, c9, c77, c80, c83, c86, c100])))
        simp only [c100, cond_true] at hh94
        simp only [Option.bind_some, nextO_inl] at hh94
        try simp only [go_sem, c3, c4, c5, c6, c9, c19, c33, f73, f74, c77, c80, c83, c86, c87, c99, c100]
        exact ih95 ((putB v91 v93 true), (IntKind.i64.wrap (v92 + 1)), (IntKind.i64.wrap (v93 + 1))) _ hh94 ((Wk.forget (by simp [Le, LeE, LeH, get, envIds, hpIds, KeepH, D.ids, idsL, AO.ids, setL, base, encI_nil, encS_nil, encT_nil, encG_nil, encC_nil, encL_nil, encK_nil, encP_nil, mpS_nil, mpB_nil, encI_consE, encS_consE, encT_consE, encG_consE, encI_one, encS_one, encT_one, encI_snoc, encS_snoc, encT_snocE, encG_snocE, encC_snoc, encL_snoc, encK_snocE, encP_snocE, encI_set, encS_set, encT_setE, encG_setE, encC_setE, encK_setE, encP_setE, encI_len, encS_len, encT_len2, encG_len2, encC_len, encL_len, encK_len2, encP_len2, c3, c9, c77, c80, c83, c86, c100])))
      simp only [c19, cond_true] at hh14
      rcases g147 : idxO a0.blocks v13 with _ | x146
      · simp only [g147, Option.bind_none, reduceCtorEq] at hh14
      simp only [g147, Option.bind_some] at hh14
      have f148 := idxO_rng g147
      have f149 : (encK a0.blocks).getD (Int.toNat v13) [] = [(.str x146.name), (.int .i64 x146.x), (.int .i64 x146.y)] := idxO_map _ g147
      try simp only [go_sem, c3, c4, c5, c6, c9, c19, f148, f149]
      refine X_any0 mixed (p := [(0, 0), (1, 0), (2, 2), (3, 0), (4, 0), (5, 0), (6, 0), (7, 2), (8, 0), (9, 0), (10, 0), (11, 0), (12, 0), (13, 2), (14, 0), (15, 0), (16, 0), (17, 0), (18, 0), (19, 0), (20, 0), (21, 0), (22, 0), (23, 0), (24, 0), (25, 0), (26, 2), (27, 0), (28, 0)]) (by kernel_rfl) (by simp [LeH, get]) ?_
      rcases g151 : fname_v x146.name with _ | x150
      · simp only [g151, Option.bind_none, reduceCtorEq] at hh14
      simp only [g151, Option.bind_some] at hh14
      try simp only [go_sem, c3, c4, c5, c6, c9, c19, f148, f149]
      refine Gh_of (fname_vok x146.name _ g151) ?_
      rintro h' r ⟨rfl, rfl⟩
      cases c152 : x150
      · simp only [c152, cond_false] at hh14
        simp only [Option.bind_some, nextO_inr] at hh14
        obtain rfl := Option.some.inj hh14
        try dsimp only at hr
        obtain rfl := Option.some.inj hr
        try simp only [go_sem, c3, c4, c5, c6, c9, c19, f148, f149, c152]
        all_goals (try refine end_pure ?_)
        all_goals (try simp only [go_sem, c3, c4, c5, c6, c9, c19, f148, f149, c152])
        all_goals (try (first | rfl | exact ⟨rfl, rfl⟩ | (simp; done)))
      simp only [c152, cond_true] at hh14
      rcases g154 : netmap_within_v x146.x (-9999) 9999 with _ | x153
      · simp only [g154, Option.bind_none, reduceCtorEq] at hh14
      simp only [g154, Option.bind_some] at hh14
      try simp only [go_sem, c3, c4, c5, c6, c9, c19, f148, f149, c152]
      refine Gh_of (netmap_within_vok x146.x (-9999) 9999 _ g154) ?_
      rintro h' r ⟨rfl, rfl⟩
      cases c155 : x153
      · simp only [c155, cond_false] at hh14
        simp only [Option.bind_some, nextO_inr] at hh14
        obtain rfl := Option.some.inj hh14
        try dsimp only at hr
        obtain rfl := Option.some.inj hr
        try simp only [go_sem, c3, c4, c5, c6, c9, c19, f148, f149, c152, c155]
        all_goals (try refine end_pure ?_)
        all_goals (try simp only [go_sem, c3, c4, c5, c6, c9, c19, f148, f149, c152, c155])
        all_goals (try (first | rfl | exact ⟨rfl, rfl⟩ | (simp; done)))
      simp only [c155, cond_true] at hh14
      rcases g157 : netmap_within_v x146.y (-9999) 9999 with _ | x156
      · simp only [g157, Option.bind_none, reduceCtorEq] at hh14
      simp only [g157, Option.bind_some] at hh14
      try simp only [go_sem, c3, c4, c5, c6, c9, c19, f148, f149, c152, c155]
      refine Gh_of (netmap_within_vok x146.y (-9999) 9999 _ g157) ?_
      rintro h' r ⟨rfl, rfl⟩
      cases c158 : x156
      · simp only [c158, cond_false] at hh14
        simp only [Option.bind_some, nextO_inr] at hh14
        obtain rfl := Option.some.inj hh14
        try dsimp only at hr
        obtain rfl := Option.some.inj hr
        try simp only [go_sem, c3, c4, c5, c6, c9, c19, f148, f149, c152, c155, c158]
        all_goals (try refine end_pure ?_)
        all_goals (try simp only [go_sem, c3, c4, c5, c6, c9, c19, f148, f149, c152, c155, c158])
        all_goals (try (first | rfl | exact ⟨rfl, rfl⟩ | (simp; done)))
      simp only [c158, cond_true] at hh14
      rcases g160 : idxO a0.next v13 with _ | x159
      · simp only [g160, Option.bind_none, reduceCtorEq] at hh14
      simp only [g160, Option.bind_some] at hh14
      have f161 := idxO_rng g160
      have f162 : (encG a0.next).getD (Int.toNat v13) [] = [(.sl (encI x159))] := idxO_map _ g160
      rcases g164 : netmap_validNext_v x159 v13 ((a0.blocks.length : Nat) : Int) with _ | x163
      · simp only [g164, Option.bind_none, reduceCtorEq] at hh14
      simp only [g164, Option.bind_some] at hh14
      try simp only [go_sem, c3, c4, c5, c6, c9, c19, f148, f149, c152, c155, c158, f161, f162]
      refine Gh_of (netmap_validNext_vok x159 v13 ((a0.blocks.length : Nat) : Int) _ g164) ?_
      rintro h' r ⟨rfl, rfl⟩
      cases c165 : x163
      · simp only [c165, cond_false] at hh14
        simp only [Option.bind_some, nextO_inr] at hh14
        obtain rfl := Option.some.inj hh14
        try dsimp only at hr
        obtain rfl := Option.some.inj hr
        try simp only [go_sem, c3, c4, c5, c6, c9, c19, f148, f149, c152, c155, c158, f161, f162, c165]
        all_goals (try refine end_pure ?_)
        all_goals (try simp only [go_sem, c3, c4, c5, c6, c9, c19, f148, f149, c152, c155, c158, f161, f162, c165])
        all_goals (try (first | rfl | exact ⟨rfl, rfl⟩ | (simp; done)))
      simp only [c165, cond_true] at hh14
      simp only [Option.bind_some, nextO_inl] at hh14
      try simp only [go_sem, c3, c4, c5, c6, c9, c19, f148, f149, c152, c155, c158, f161, f162, c165]
      exact ih15 ((putS v12 x146.name (IntKind.i64.wrap (((getS v12 x146.name).getD 0) + 1))), (IntKind.i64.wrap (v13 + 1))) _ hh14 ((Wk.forget (by simp [Le, LeE, LeH, get, envIds, hpIds, KeepH, D.ids, idsL, AO.ids, setL, base, encI_nil, encS_nil, encT_nil, encG_nil, encC_nil, encL_nil, encK_nil, encP_nil, mpS_nil, mpB_nil, encI_consE, encS_consE, encT_consE, encG_consE, encI_one, encS_one, encT_one, encI_snoc, encS_snoc, encT_snocE, encG_snocE, encC_snoc, encL_snoc, encK_snocE, encP_snocE, encI_set, encS_set, encT_setE, encG_setE, encC_setE, encK_setE, encP_setE, encI_len, encS_len, encT_len2, encG_len2, encC_len, encL_len, encK_len2, encP_len2, c3, c9, c152, c155, c158, c165])))
    simp only [c6, cond_true] at hr
    obtain rfl := Option.some.inj hr
    try simp only [go_sem, c3, c4, c5, c6]
    all_goals (try refine end_pure ?_)
    all_goals (try simp only [go_sem, c3, c4, c5, c6])
    all_goals (try (first | rfl | exact ⟨rfl, rfl⟩ | (simp; done)))
  simp only [c5, cond_true] at hr
  obtain rfl := Option.some.inj hr
  try simp only [go_sem, c3, c4, c5]
  all_goals (try refine end_pure ?_)
  all_goals (try simp only [go_sem, c3, c4, c5])
  all_goals (try (first | rfl | exact ⟨rfl, rfl⟩ | (simp; done)))
noncomputable def netmap_Describe_1_v (a0 : Int) (a1 : List (List UInt8)) (a2 : List Int) (a3 : List Dc) : Option ((List Dc)) :=
  cond (decide (a3.length + 1 < 10000000)) (some (a3 ++ [(⟨a0, (IntKind.i64.wrap (((a3.length : Nat) : Int) + 1)), a1, a2⟩ : Dc)])) none
theorem netmap_Describe_1_vok (a0 : Int) (a1 : List (List UInt8)) (a2 : List Int) (a3 : List Dc) (r : (List Dc)) (hr : netmap_Describe_1_v a0 a1 a2 a3 = some r) :
    ACalls Try.prog 58 [.p (.int .i64 a0), .p (.sl (encS a1)), .p (.sl (encI a2)), .ptr 1000000 0] [(1000000, .box [.ref 1000001 0 a3.length a3.length]), (1000001, .arr 54 4 (encC a3))] fun h d => h = [(1000000, .box [.ref 1000001 0 r.length r.length]), (1000001, .arr 54 4 (encC r))] ∧ d = .tup [] := by
  refine ACalls_X Try.func58 rfl enters58 (by simp [Try.f58]) ?_
  unfold netmap_Describe_1_v at hr
  cases c1 : decide (a3.length + 1 < 10000000)
  · simp only [c1, cond_false, Option.bind_none, reduceCtorEq] at hr
  simp only [c1, cond_true] at hr
  try simp only [go_sem]
  refine ⟨by have := of_decide_eq_true c1; (try simp only [List.length_cons, List.length_nil, List.length_append] at *); (repeat' refine And.intro ?_ ?_) <;> first | exact wid1 _ _ rfl | exact encC_wid _ | omega | (simp [Wid]; done), ?_⟩
  obtain rfl := Option.some.inj hr
  try simp only [go_sem]
  all_goals (try refine end_own ?_)
  all_goals (try simp only [go_sem])
  all_goals (try (first | rfl | exact ⟨rfl, rfl⟩ | (simp; done)))
noncomputable def netmap_Describe_2_v (a0 : Spr) (a1 : Int) : Option (Bool × Int) :=
  cond (decide (a0.base ≤ a1)) (some (decide (a1 < (IntKind.i64.wrap (a0.base + a0.slots))), a1)) (some (false, a1))
theorem netmap_Describe_2_vok (a0 : Spr) (a1 : Int) (r : Bool × Int) (hr : netmap_Describe_2_v a0 a1 = some r) :
    ACalls Try.prog 60 [.agg [.p (.str a0.name), .p (.bool a0.depot), .p (.int .i64 a0.inn), .p (.int .i64 a0.out), .p (.int .i64 a0.slots), .p (.int .i64 a0.base)], .ptr 1000000 0] [(1000000, .box [.p (.int .i64 a1)])] fun h d => h = [(1000000, .box [.p (.int .i64 r.2)])] ∧ d = .p (.bool r.1) := by
  refine ACalls_X Try.func60 rfl enters60 (by simp [Try.f60]) ?_
  unfold netmap_Describe_2_v at hr
  cases c1 : decide (a0.base ≤ a1)
  · simp only [c1, cond_false] at hr
    obtain rfl := Option.some.inj hr
    try simp only [go_sem, c1]
    all_goals (try refine end_own ?_)
    all_goals (try simp only [go_sem, c1])
    all_goals (try (first | rfl | exact ⟨rfl, rfl⟩ | (simp; done)))
  simp only [c1, cond_true] at hr
  obtain rfl := Option.some.inj hr
  try simp only [go_sem, c1]
  all_goals (try refine end_own ?_)
  all_goals (try simp only [go_sem, c1])
  all_goals (try (first | rfl | exact ⟨rfl, rfl⟩ | (simp; done)))
noncomputable def slices_IndexFunc_L1 (a0 : List Spr) : Int × Int → Option ((Int × Int) ⊕ ((Int × Int) ⊕ (Int × Int)))
  | (v3, v4) => cond (decide (v4 < ((a0.length : Nat) : Int))) (Option.bind (idxO a0 v4) fun x11 => Option.bind (netmap_Describe_2_v (⟨x11.name, x11.depot, x11.inn, x11.out, x11.slots, x11.base⟩ : Spr) v3) fun (x15, x16) => cond x15 (some (Sum.inr (.inr ((v4, x16))))) (some (Sum.inl (x16, (IntKind.i64.wrap (v4 + 1)))))) (some (Sum.inr (.inl (v3, v4))))
theorem slices_IndexFunc_L1_eq (a0 : List Spr) (v3 : Int) (v4 : Int) : slices_IndexFunc_L1 a0 (v3, v4) = cond (decide (v4 < ((a0.length : Nat) : Int))) (Option.bind (idxO a0 v4) fun x11 => Option.bind (netmap_Describe_2_v (⟨x11.name, x11.depot, x11.inn, x11.out, x11.slots, x11.base⟩ : Spr) v3) fun (x15, x16) => cond x15 (some (Sum.inr (.inr ((v4, x16))))) (some (Sum.inl (x16, (IntKind.i64.wrap (v4 + 1)))))) (some (Sum.inr (.inl (v3, v4)))) := rfl
noncomputable def slices_IndexFunc_v (a0 : List Spr) (a1 : Int) : Option (Int × Int) :=
  Option.bind (loopO (slices_IndexFunc_L1 a0) (a1, 0)) (fun | .inl (v19, v20) => some ((-1), v19) | .inr (r21) => some r21)
theorem slices_IndexFunc_vok (a0 : List Spr) (a1 : Int) (r : Int × Int) (hr : slices_IndexFunc_v a0 a1 = some r) :
    ACalls Try.prog 59 [.p (.sl (encP a0)), .fn 60 [.ptr 1000000 0]] [(1000000, .box [.p (.int .i64 a1)])] fun h d => h = [(1000000, .box [.p (.int .i64 r.2)])] ∧ d = .p (.int .i64 r.1) := by
  refine ACalls_X Try.func59 rfl enters59 (by simp [Try.f59]) ?_
  unfold slices_IndexFunc_v at hr
  rcases g9 : loopO (slices_IndexFunc_L1 a0) (a1, 0) with _ | e8
  · simp only [g9, Option.bind_none, reduceCtorEq] at hr
  simp only [g9, Option.bind_some] at hr
  try simp only [go_sem]
  refine X_loopO g9 (fun q : Int × Int => ⟨[(0, .p (.sl (encP a0))), (1, .fn 60 [.ptr 1000000 0]), (7, .p (.int .i64 ((a0.length : Nat) : Int))), (8, .p (.int .i64 q.2))], [(1000000, .box [.p (.int .i64 q.1)])], 19⟩) ((Wk.forget (by simp [Le, LeE, LeH, get, envIds, hpIds, KeepH, D.ids, idsL, AO.ids, setL, base, encI_nil, encS_nil, encT_nil, encG_nil, encC_nil, encL_nil, encK_nil, encP_nil, mpS_nil, mpB_nil, encI_consE, encS_consE, encT_consE, encG_consE, encI_one, encS_one, encT_one, encI_snoc, encS_snoc, encT_snocE, encG_snocE, encC_snoc, encL_snoc, encK_snocE, encP_snocE, encI_set, encS_set, encT_setE, encG_setE, encC_setE, encK_setE, encP_setE, encI_len, encS_len, encT_len2, encG_len2, encC_len, encL_len, encK_len2, encP_len2]))) ?_
  rintro ⟨v3, v4⟩ m7 hh5 ih6
  rw [slices_IndexFunc_L1_eq] at hh5
  cases c10 : decide (v4 < ((a0.length : Nat) : Int))
  · simp only [c10, cond_false] at hh5
    simp only [Option.bind_some, nextO_inr] at hh5
    obtain rfl := Option.some.inj hh5
    try dsimp only at hr
    obtain rfl := Option.some.inj hr
    try simp only [go_sem, c10]
    all_goals (try refine end_own ?_)
    all_goals (try simp only [go_sem, c10])
    all_goals (try (first | rfl | exact ⟨rfl, rfl⟩ | (simp; done)))
  simp only [c10, cond_true] at hh5
  rcases g12 : idxO a0 v4 with _ | x11
  · simp only [g12, Option.bind_none, reduceCtorEq] at hh5
  simp only [g12, Option.bind_some] at hh5
  have f13 := idxO_rng g12
  have f14 : (encP a0).getD (Int.toNat v4) [] = [(.str x11.name), (.bool x11.depot), (.int .i64 x11.inn), (.int .i64 x11.out), (.int .i64 x11.slots), (.int .i64 x11.base)] := idxO_map _ g12
  rcases g17 : netmap_Describe_2_v (⟨x11.name, x11.depot, x11.inn, x11.out, x11.slots, x11.base⟩ : Spr) v3 with _ | ⟨x15, x16⟩
  · simp only [g17, Option.bind_none, reduceCtorEq] at hh5
  simp only [g17, Option.bind_some] at hh5
  try simp only [go_sem, c10, f13, f14]
  refine Cc_of (netmap_Describe_2_vok (⟨x11.name, x11.depot, x11.inn, x11.out, x11.slots, x11.base⟩ : Spr) v3 _ g17) ?_
  rintro h' r ⟨rfl, rfl⟩
  cases c18 : x15
  · simp only [c18, cond_false] at hh5
    simp only [Option.bind_some, nextO_inl] at hh5
    try simp only [go_sem, c10, f13, f14, c18]
    exact ih6 (x16, (IntKind.i64.wrap (v4 + 1))) _ hh5 ((Wk.forget (by simp [Le, LeE, LeH, get, envIds, hpIds, KeepH, D.ids, idsL, AO.ids, setL, base, encI_nil, encS_nil, encT_nil, encG_nil, encC_nil, encL_nil, encK_nil, encP_nil, mpS_nil, mpB_nil, encI_consE, encS_consE, encT_consE, encG_consE, encI_one, encS_one, encT_one, encI_snoc, encS_snoc, encT_snocE, encG_snocE, encC_snoc, encL_snoc, encK_snocE, encP_snocE, encI_set, encS_set, encT_setE, encG_setE, encC_setE, encK_setE, encP_setE, encI_len, encS_len, encT_len2, encG_len2, encC_len, encL_len, encK_len2, encP_len2, c18])))
  simp only [c18, cond_true] at hh5
  simp only [Option.bind_some, nextO_inr] at hh5
  obtain rfl := Option.some.inj hh5
  try dsimp only at hr
  obtain rfl := Option.some.inj hr
  try simp only [go_sem, c10, f13, f14, c18]
  all_goals (try refine end_own ?_)
  all_goals (try simp only [go_sem, c10, f13, f14, c18])
  all_goals (try (first | rfl | exact ⟨rfl, rfl⟩ | (simp; done)))
noncomputable def ndescribe_L1 (a0 : Nt) : (List Dc) × Int → Option (((List Dc) × Int) ⊕ (((List Dc) × Int)))
  | (v36, v37) => cond (decide (v37 < ((a0.robots.length : Nat) : Int))) (Option.bind (idxO a0.robots v37) fun x46 => Option.bind (slices_IndexFunc_v a0.spurs x46) fun (x50, x51) => Option.bind (idxO a0.spurs x50) fun x53 => Option.bind (netmap_Describe_1_v 5 [x53.name] [(IntKind.i64.wrap ((IntKind.i64.wrap (x51 - x53.base)) + 1))] v36) fun x57 => some (Sum.inl (x57, (IntKind.i64.wrap (v37 + 1))))) (some (Sum.inr (v36, v37)))
theorem ndescribe_L1_eq (a0 : Nt) (v36 : List Dc) (v37 : Int) : ndescribe_L1 a0 (v36, v37) = cond (decide (v37 < ((a0.robots.length : Nat) : Int))) (Option.bind (idxO a0.robots v37) fun x46 => Option.bind (slices_IndexFunc_v a0.spurs x46) fun (x50, x51) => Option.bind (idxO a0.spurs x50) fun x53 => Option.bind (netmap_Describe_1_v 5 [x53.name] [(IntKind.i64.wrap ((IntKind.i64.wrap (x51 - x53.base)) + 1))] v36) fun x57 => some (Sum.inl (x57, (IntKind.i64.wrap (v37 + 1))))) (some (Sum.inr (v36, v37))) := rfl
noncomputable def ndescribe_L2 (a0 : Nt) : (List Dc) × Int → Option (((List Dc) × Int) ⊕ (((List Dc) × Int)))
  | (v26, v27) => cond (decide (v27 < ((a0.spurs.length : Nat) : Int))) (Option.bind (idxO a0.spurs v27) fun x63 => cond x63.depot (Option.bind (idxO a0.blocks x63.inn) fun x78 => Option.bind (idxO a0.blocks x63.out) fun x82 => Option.bind (netmap_Describe_1_v 4 [x63.name, x78.name, x82.name] [x63.slots] v26) fun x86 => some (Sum.inl (x86, (IntKind.i64.wrap (v27 + 1))))) (Option.bind (idxO a0.blocks x63.inn) fun x68 => Option.bind (idxO a0.blocks x63.out) fun x72 => Option.bind (netmap_Describe_1_v 3 [x63.name, x68.name, x72.name] [x63.slots] v26) fun x76 => some (Sum.inl (x76, (IntKind.i64.wrap (v27 + 1)))))) (some (Sum.inr (v26, v27)))
theorem ndescribe_L2_eq (a0 : Nt) (v26 : List Dc) (v27 : Int) : ndescribe_L2 a0 (v26, v27) = cond (decide (v27 < ((a0.spurs.length : Nat) : Int))) (Option.bind (idxO a0.spurs v27) fun x63 => cond x63.depot (Option.bind (idxO a0.blocks x63.inn) fun x78 => Option.bind (idxO a0.blocks x63.out) fun x82 => Option.bind (netmap_Describe_1_v 4 [x63.name, x78.name, x82.name] [x63.slots] v26) fun x86 => some (Sum.inl (x86, (IntKind.i64.wrap (v27 + 1))))) (Option.bind (idxO a0.blocks x63.inn) fun x68 => Option.bind (idxO a0.blocks x63.out) fun x72 => Option.bind (netmap_Describe_1_v 3 [x63.name, x68.name, x72.name] [x63.slots] v26) fun x76 => some (Sum.inl (x76, (IntKind.i64.wrap (v27 + 1)))))) (some (Sum.inr (v26, v27))) := rfl
noncomputable def ndescribe_L3 (a0 : Nt) (v17 : Int) (x119 : List Int) : (List Dc) × Int → Option (((List Dc) × Int) ⊕ (((List Dc) × Int)))
  | (v125, v126) => cond (decide (v126 < ((x119.length : Nat) : Int))) (Option.bind (idxO x119 v126) fun x133 => Option.bind (idxO a0.blocks v17) fun x137 => Option.bind (idxO a0.blocks x133) fun x141 => Option.bind (netmap_Describe_1_v 2 [x137.name, x141.name] [] v125) fun x145 => some (Sum.inl (x145, (IntKind.i64.wrap (v126 + 1))))) (some (Sum.inr (v125, v126)))
theorem ndescribe_L3_eq (a0 : Nt) (v17 : Int) (x119 : List Int) (v125 : List Dc) (v126 : Int) : ndescribe_L3 a0 v17 x119 (v125, v126) = cond (decide (v126 < ((x119.length : Nat) : Int))) (Option.bind (idxO x119 v126) fun x133 => Option.bind (idxO a0.blocks v17) fun x137 => Option.bind (idxO a0.blocks x133) fun x141 => Option.bind (netmap_Describe_1_v 2 [x137.name, x141.name] [] v125) fun x145 => some (Sum.inl (x145, (IntKind.i64.wrap (v126 + 1))))) (some (Sum.inr (v125, v126))) := rfl
noncomputable def ndescribe_L4 (a0 : Nt) : (List Dc) × Int → Option (((List Dc) × Int) ⊕ (((List Dc) × Int)))
  | (v16, v17) => cond (decide (v17 < ((a0.next.length : Nat) : Int))) (Option.bind (idxO a0.next v17) fun x119 => Option.bind (loopO (ndescribe_L3 a0 v17 x119) (v16, 0)) (fun (v147, v148) => some (Sum.inl (v147, (IntKind.i64.wrap (v17 + 1)))))) (some (Sum.inr (v16, v17)))
theorem ndescribe_L4_eq (a0 : Nt) (v16 : List Dc) (v17 : Int) : ndescribe_L4 a0 (v16, v17) = cond (decide (v17 < ((a0.next.length : Nat) : Int))) (Option.bind (idxO a0.next v17) fun x119 => Option.bind (loopO (ndescribe_L3 a0 v17 x119) (v16, 0)) (fun (v147, v148) => some (Sum.inl (v147, (IntKind.i64.wrap (v17 + 1)))))) (some (Sum.inr (v16, v17))) := rfl
noncomputable def ndescribe_L5 (a0 : Nt) : (List Dc) × Int → Option (((List Dc) × Int) ⊕ (((List Dc) × Int)))
  | (v6, v7) => cond (decide (v7 < ((a0.blocks.length : Nat) : Int))) (Option.bind (idxO a0.blocks v7) fun x246 => Option.bind (netmap_Describe_1_v 1 [x246.name] [x246.x, x246.y] v6) fun x250 => some (Sum.inl (x250, (IntKind.i64.wrap (v7 + 1))))) (some (Sum.inr (v6, v7)))
theorem ndescribe_L5_eq (a0 : Nt) (v6 : List Dc) (v7 : Int) : ndescribe_L5 a0 (v6, v7) = cond (decide (v7 < ((a0.blocks.length : Nat) : Int))) (Option.bind (idxO a0.blocks v7) fun x246 => Option.bind (netmap_Describe_1_v 1 [x246.name] [x246.x, x246.y] v6) fun x250 => some (Sum.inl (x250, (IntKind.i64.wrap (v7 + 1))))) (some (Sum.inr (v6, v7))) := rfl
noncomputable def ndescribe_v (a0 : Nt) : Option ((List Dc) × Int) :=
  Option.bind (netmap_Valid_v (⟨a0.blocks, a0.next, a0.spurs, a0.robots, a0.cq, a0.ca, a0.cd, a0.cp⟩ : Nt)) fun x1 => cond x1 (Option.bind (loopO (ndescribe_L5 a0) ([], 0)) (fun (v252, v253) => Option.bind (loopO (ndescribe_L4 a0) (v252, 0)) (fun (v389, v390) => Option.bind (loopO (ndescribe_L2 a0) (v389, 0)) (fun (v455, v456) => Option.bind (loopO (ndescribe_L1 a0) (v455, 0)) (fun (v482, v483) => Option.bind (netmap_Describe_1_v 6 [] [a0.cq, a0.ca, a0.cd, a0.cp] v482) fun x484 => some (x484, 0)))))) (some ([], 20))
theorem ndescribe_vok (a0 : Nt) (r : (List Dc) × Int) (hr : ndescribe_v a0 = some r) :
    ACalls Try.prog 33 [.agg [.p (.sl (encK a0.blocks)), .p (.sl (encG a0.next)), .p (.sl (encP a0.spurs)), .p (.sl (encI a0.robots)), .p (.int .i64 a0.cq), .p (.int .i64 a0.ca), .p (.int .i64 a0.cd), .p (.int .i64 a0.cp)]] [] fun h d => h = [] ∧ d = .tup [.p (.sl (encC r.1)), .p (.int .i64 r.2)] := by
  refine ACalls_X Try.func33 rfl enters33 (by simp [Try.f33]) ?_
  unfold ndescribe_v at hr
  rcases g2 : netmap_Valid_v (⟨a0.blocks, a0.next, a0.spurs, a0.robots, a0.cq, a0.ca, a0.cd, a0.cp⟩ : Nt) with _ | x1
  · simp only [g2, Option.bind_none, reduceCtorEq] at hr
  simp only [g2, Option.bind_some] at hr
  try simp only [go_sem]
  refine Cc_of (netmap_Valid_vok (⟨a0.blocks, a0.next, a0.spurs, a0.robots, a0.cq, a0.ca, a0.cd, a0.cp⟩ : Nt) _ g2) ?_
  rintro h' r ⟨rfl, rfl⟩
  cases c3 : x1
  · simp only [c3, cond_false] at hr
    obtain rfl := Option.some.inj hr
    try simp only [go_sem, c3]
    all_goals (try refine end_pure ?_)
    all_goals (try simp only [go_sem, c3])
    all_goals (try (first | rfl | exact ⟨rfl, rfl⟩ | (simp; done)))
  simp only [c3, cond_true] at hr
  rcases g12 : loopO (ndescribe_L5 a0) ([], 0) with _ | e11
  · simp only [g12, Option.bind_none, reduceCtorEq] at hr
  simp only [g12, Option.bind_some] at hr
  try simp only [go_sem, c3]
  refine X_loopO g12 (fun q : (List Dc) × Int => ⟨[(1, .ptr 1 0), (4, .ptr 4 0), (5, .fn 58 [.ptr 4 0]), (24, .p (.sl (encK a0.blocks))), (25, .p (.int .i64 ((a0.blocks.length : Nat) : Int))), (26, .p (.int .i64 q.2))], [(1, .box [.p (.sl (encK a0.blocks)), .p (.sl (encG a0.next)), .p (.sl (encP a0.spurs)), .p (.sl (encI a0.robots)), .p (.int .i64 a0.cq), .p (.int .i64 a0.ca), .p (.int .i64 a0.cd), .p (.int .i64 a0.cp)]), (4, .box [.ref 504000 0 q.1.length q.1.length]), (504000, .arr 54 4 (encC q.1))], 150⟩) ((Wk.nilBox (id := 4) (j := 0) (q := 504000) (sz := 4) 54 rfl rfl rfl (by decide)).trans ((Wk.forget (by simp [Le, LeE, LeH, get, envIds, hpIds, KeepH, D.ids, idsL, AO.ids, setL, base, encI_nil, encS_nil, encT_nil, encG_nil, encC_nil, encL_nil, encK_nil, encP_nil, mpS_nil, mpB_nil, encI_consE, encS_consE, encT_consE, encG_consE, encI_one, encS_one, encT_one, encI_snoc, encS_snoc, encT_snocE, encG_snocE, encC_snoc, encL_snoc, encK_snocE, encP_snocE, encI_set, encS_set, encT_setE, encG_setE, encC_setE, encK_setE, encP_setE, encI_len, encS_len, encT_len2, encG_len2, encC_len, encL_len, encK_len2, encP_len2, c3])))) ?_
  rintro ⟨v6, v7⟩ m10 hh8 ih9
  rw [ndescribe_L5_eq] at hh8
  cases c13 : decide (v7 < ((a0.blocks.length : Nat) : Int))
  · simp only [c13, cond_false] at hh8
    simp only [Option.bind_some, nextO_inr] at hh8
    obtain rfl := Option.some.inj hh8
    try dsimp only at hr
    rcases g22 : loopO (ndescribe_L4 a0) (v6, 0) with _ | e21
    · simp only [g22, Option.bind_none, reduceCtorEq] at hr
    simp only [g22, Option.bind_some] at hr
    try simp only [go_sem, c3, c13]
    refine X_loopO g22 (fun q : (List Dc) × Int => ⟨[(1, .ptr 1 0), (4, .ptr 4 0), (5, .fn 58 [.ptr 4 0]), (42, .p (.sl (encG a0.next))), (43, .p (.int .i64 ((a0.next.length : Nat) : Int))), (44, .p (.int .i64 q.2))], [(1, .box [.p (.sl (encK a0.blocks)), .p (.sl (encG a0.next)), .p (.sl (encP a0.spurs)), .p (.sl (encI a0.robots)), .p (.int .i64 a0.cq), .p (.int .i64 a0.ca), .p (.int .i64 a0.cd), .p (.int .i64 a0.cp)]), (4, .box [.ref 504000 0 q.1.length q.1.length]), (504000, .arr 54 4 (encC q.1))], 150⟩) ((Wk.forget (by simp [Le, LeE, LeH, get, envIds, hpIds, KeepH, D.ids, idsL, AO.ids, setL, base, encI_nil, encS_nil, encT_nil, encG_nil, encC_nil, encL_nil, encK_nil, encP_nil, mpS_nil, mpB_nil, encI_consE, encS_consE, encT_consE, encG_consE, encI_one, encS_one, encT_one, encI_snoc, encS_snoc, encT_snocE, encG_snocE, encC_snoc, encL_snoc, encK_snocE, encP_snocE, encI_set, encS_set, encT_setE, encG_setE, encC_setE, encK_setE, encP_setE, encI_len, encS_len, encT_len2, encG_len2, encC_len, encL_len, encK_len2, encP_len2, c3]))) ?_
    rintro ⟨v16, v17⟩ m20 hh18 ih19
    rw [ndescribe_L4_eq] at hh18
    cases c23 : decide (v17 < ((a0.next.length : Nat) : Int))
    · simp only [c23, cond_false] at hh18
      simp only [Option.bind_some, nextO_inr] at hh18
      obtain rfl := Option.some.inj hh18
      try dsimp only at hr
      rcases g32 : loopO (ndescribe_L2 a0) (v16, 0) with _ | e31
      · simp only [g32, Option.bind_none, reduceCtorEq] at hr
      simp only [g32, Option.bind_some] at hr
      try simp only [go_sem, c3, c13, c23]
      refine X_loopO g32 (fun q : (List Dc) × Int => ⟨[(1, .ptr 1 0), (4, .ptr 4 0), (5, .fn 58 [.ptr 4 0]), (73, .p (.sl (encP a0.spurs))), (74, .p (.int .i64 ((a0.spurs.length : Nat) : Int))), (75, .p (.int .i64 q.2))], [(1, .box [.p (.sl (encK a0.blocks)), .p (.sl (encG a0.next)), .p (.sl (encP a0.spurs)), .p (.sl (encI a0.robots)), .p (.int .i64 a0.cq), .p (.int .i64 a0.ca), .p (.int .i64 a0.cd), .p (.int .i64 a0.cp)]), (4, .box [.ref 504000 0 q.1.length q.1.length]), (504000, .arr 54 4 (encC q.1))], 150⟩) ((Wk.forget (by simp [Le, LeE, LeH, get, envIds, hpIds, KeepH, D.ids, idsL, AO.ids, setL, base, encI_nil, encS_nil, encT_nil, encG_nil, encC_nil, encL_nil, encK_nil, encP_nil, mpS_nil, mpB_nil, encI_consE, encS_consE, encT_consE, encG_consE, encI_one, encS_one, encT_one, encI_snoc, encS_snoc, encT_snocE, encG_snocE, encC_snoc, encL_snoc, encK_snocE, encP_snocE, encI_set, encS_set, encT_setE, encG_setE, encC_setE, encK_setE, encP_setE, encI_len, encS_len, encT_len2, encG_len2, encC_len, encL_len, encK_len2, encP_len2, c3]))) ?_
      rintro ⟨v26, v27⟩ m30 hh28 ih29
      rw [ndescribe_L2_eq] at hh28
      cases c33 : decide (v27 < ((a0.spurs.length : Nat) : Int))
      · simp only [c33, cond_false] at hh28
        simp only [Option.bind_some, nextO_inr] at hh28
        obtain rfl := Option.some.inj hh28
        try dsimp only at hr
        rcases g42 : loopO (ndescribe_L1 a0) (v26, 0) with _ | e41
        · simp only [g42, Option.bind_none, reduceCtorEq] at hr
        simp only [g42, Option.bind_some] at hr
        try simp only [go_sem, c3, c13, c23, c33]
        refine X_loopO g42 (fun q : (List Dc) × Int => ⟨[(1, .ptr 1 0), (4, .ptr 4 0), (5, .fn 58 [.ptr 4 0]), (106, .p (.sl (encI a0.robots))), (107, .p (.int .i64 ((a0.robots.length : Nat) : Int))), (108, .p (.int .i64 q.2))], [(1, .box [.p (.sl (encK a0.blocks)), .p (.sl (encG a0.next)), .p (.sl (encP a0.spurs)), .p (.sl (encI a0.robots)), .p (.int .i64 a0.cq), .p (.int .i64 a0.ca), .p (.int .i64 a0.cd), .p (.int .i64 a0.cp)]), (4, .box [.ref 504000 0 q.1.length q.1.length]), (504000, .arr 54 4 (encC q.1))], 150⟩) ((Wk.forget (by simp [Le, LeE, LeH, get, envIds, hpIds, KeepH, D.ids, idsL, AO.ids, setL, base, encI_nil, encS_nil, encT_nil, encG_nil, encC_nil, encL_nil, encK_nil, encP_nil, mpS_nil, mpB_nil, encI_consE, encS_consE, encT_consE, encG_consE, encI_one, encS_one, encT_one, encI_snoc, encS_snoc, encT_snocE, encG_snocE, encC_snoc, encL_snoc, encK_snocE, encP_snocE, encI_set, encS_set, encT_setE, encG_setE, encC_setE, encK_setE, encP_setE, encI_len, encS_len, encT_len2, encG_len2, encC_len, encL_len, encK_len2, encP_len2, c3]))) ?_
        rintro ⟨v36, v37⟩ m40 hh38 ih39
        rw [ndescribe_L1_eq] at hh38
        cases c43 : decide (v37 < ((a0.robots.length : Nat) : Int))
        · simp only [c43, cond_false] at hh38
          simp only [Option.bind_some, nextO_inr] at hh38
          obtain rfl := Option.some.inj hh38
          try dsimp only at hr
          rcases g45 : netmap_Describe_1_v 6 [] [a0.cq, a0.ca, a0.cd, a0.cp] v36 with _ | x44
          · simp only [g45, Option.bind_none, reduceCtorEq] at hr
          simp only [g45, Option.bind_some] at hr
          try simp only [go_sem, c3, c13, c23, c33, c43]
          refine Cc_of (netmap_Describe_1_vok 6 [] [a0.cq, a0.ca, a0.cd, a0.cp] v36 _ g45) ?_
          rintro h' r ⟨rfl, rfl⟩
          obtain rfl := Option.some.inj hr
          try simp only [go_sem, c3, c13, c23, c33, c43]
          all_goals (try refine end_pure ?_)
          all_goals (try simp only [go_sem, c3, c13, c23, c33, c43])
          all_goals (try (first | rfl | exact ⟨rfl, rfl⟩ | (simp; done)))
        simp only [c43, cond_true] at hh38
        rcases g47 : idxO a0.robots v37 with _ | x46
        · simp only [g47, Option.bind_none, reduceCtorEq] at hh38
        simp only [g47, Option.bind_some] at hh38
        have f48 := idxO_rng g47
        have f49 : (encI a0.robots).getD (Int.toNat v37) [] = [(.int .i64 x46)] := idxO_map _ g47
        rcases g52 : slices_IndexFunc_v a0.spurs x46 with _ | ⟨x50, x51⟩
        · simp only [g52, Option.bind_none, reduceCtorEq] at hh38
        simp only [g52, Option.bind_some] at hh38
        try simp only [go_sem, c3, c13, c23, c33, c43, f48, f49]
        refine Cc_of (slices_IndexFunc_vok a0.spurs x46 _ g52) ?_
        rintro h' r ⟨rfl, rfl⟩
        try simp only [go_sem, c3, c13, c23, c33, c43, f48, f49]
        refine X_any0 mixed (p := [(0, 0), (1, 0), (2, 0), (3, 0), (4, 0), (5, 0), (6, 0), (8, 0), (9, 0), (10, 0), (11, 0), (12, 0), (13, 0), (14, 0), (15, 0), (16, 0), (7, 1), (17, 1), (18, 3)]) (by kernel_rfl) (by simp [LeH, get]) ?_
        rcases g54 : idxO a0.spurs x50 with _ | x53
        · simp only [g54, Option.bind_none, reduceCtorEq] at hh38
        simp only [g54, Option.bind_some] at hh38
        have f55 := idxO_rng g54
        have f56 : (encP a0.spurs).getD (Int.toNat x50) [] = [(.str x53.name), (.bool x53.depot), (.int .i64 x53.inn), (.int .i64 x53.out), (.int .i64 x53.slots), (.int .i64 x53.base)] := idxO_map _ g54
        rcases g58 : netmap_Describe_1_v 5 [x53.name] [(IntKind.i64.wrap ((IntKind.i64.wrap (x51 - x53.base)) + 1))] v36 with _ | x57
        · simp only [g58, Option.bind_none, reduceCtorEq] at hh38
        simp only [g58, Option.bind_some] at hh38
        try simp only [go_sem, c3, c13, c23, c33, c43, f48, f49, f55, f56]
        refine Gh_of (netmap_Describe_1_vok 5 [x53.name] [(IntKind.i64.wrap ((IntKind.i64.wrap (x51 - x53.base)) + 1))] v36 _ g58) ?_
        rintro h' r ⟨rfl, rfl⟩
        simp only [Option.bind_some, nextO_inl] at hh38
        try simp only [go_sem, c3, c13, c23, c33, c43, f48, f49, f55, f56]
        exact ih39 (x57, (IntKind.i64.wrap (v37 + 1))) _ hh38 ((Wk.forget (by simp [Le, LeE, LeH, get, envIds, hpIds, KeepH, D.ids, idsL, AO.ids, setL, base, encI_nil, encS_nil, encT_nil, encG_nil, encC_nil, encL_nil, encK_nil, encP_nil, mpS_nil, mpB_nil, encI_consE, encS_consE, encT_consE, encG_consE, encI_one, encS_one, encT_one, encI_snoc, encS_snoc, encT_snocE, encG_snocE, encC_snoc, encL_snoc, encK_snocE, encP_snocE, encI_set, encS_set, encT_setE, encG_setE, encC_setE, encK_setE, encP_setE, encI_len, encS_len, encT_len2, encG_len2, encC_len, encL_len, encK_len2, encP_len2, c3])))
      simp only [c33, cond_true] at hh28
      rcases g64 : idxO a0.spurs v27 with _ | x63
      · simp only [g64, Option.bind_none, reduceCtorEq] at hh28
      simp only [g64, Option.bind_some] at hh28
      have f65 := idxO_rng g64
      have f66 : (encP a0.spurs).getD (Int.toNat v27) [] = [(.str x63.name), (.bool x63.depot), (.int .i64 x63.inn), (.int .i64 x63.out), (.int .i64 x63.slots), (.int .i64 x63.base)] := idxO_map _ g64
      cases c67 : x63.depot
      · simp only [c67, cond_false] at hh28
        try simp only [go_sem, c3, c13, c23, c33, f65, f66, c67]
        refine X_any0 mixed (p := [(0, 0), (1, 0), (2, 0), (3, 0), (4, 0), (5, 0), (6, 0), (7, 0), (8, 0), (9, 0), (10, 0), (11, 0), (12, 0), (13, 0), (14, 0), (15, 0), (16, 0), (17, 0), (19, 0), (20, 0), (18, 1), (21, 1), (22, 3)]) (by kernel_rfl) (by simp [LeH, get]) ?_
        rcases g69 : idxO a0.blocks x63.inn with _ | x68
        · simp only [g69, Option.bind_none, reduceCtorEq] at hh28
        simp only [g69, Option.bind_some] at hh28
        have f70 := idxO_rng g69
        have f71 : (encK a0.blocks).getD (Int.toNat x63.inn) [] = [(.str x68.name), (.int .i64 x68.x), (.int .i64 x68.y)] := idxO_map _ g69
        rcases g73 : idxO a0.blocks x63.out with _ | x72
        · simp only [g73, Option.bind_none, reduceCtorEq] at hh28
        simp only [g73, Option.bind_some] at hh28
        have f74 := idxO_rng g73
        have f75 : (encK a0.blocks).getD (Int.toNat x63.out) [] = [(.str x72.name), (.int .i64 x72.x), (.int .i64 x72.y)] := idxO_map _ g73
        rcases g77 : netmap_Describe_1_v 3 [x63.name, x68.name, x72.name] [x63.slots] v26 with _ | x76
        · simp only [g77, Option.bind_none, reduceCtorEq] at hh28
        simp only [g77, Option.bind_some] at hh28
        try simp only [go_sem, c3, c13, c23, c33, f65, f66, c67, f70, f71, f74, f75]
        refine Gh_of (netmap_Describe_1_vok 3 [x63.name, x68.name, x72.name] [x63.slots] v26 _ g77) ?_
        rintro h' r ⟨rfl, rfl⟩
        simp only [Option.bind_some, nextO_inl] at hh28
        try simp only [go_sem, c3, c13, c23, c33, f65, f66, c67, f70, f71, f74, f75]
        exact ih29 (x76, (IntKind.i64.wrap (v27 + 1))) _ hh28 ((Wk.forget (by simp [Le, LeE, LeH, get, envIds, hpIds, KeepH, D.ids, idsL, AO.ids, setL, base, encI_nil, encS_nil, encT_nil, encG_nil, encC_nil, encL_nil, encK_nil, encP_nil, mpS_nil, mpB_nil, encI_consE, encS_consE, encT_consE, encG_consE, encI_one, encS_one, encT_one, encI_snoc, encS_snoc, encT_snocE, encG_snocE, encC_snoc, encL_snoc, encK_snocE, encP_snocE, encI_set, encS_set, encT_setE, encG_setE, encC_setE, encK_setE, encP_setE, encI_len, encS_len, encT_len2, encG_len2, encC_len, encL_len, encK_len2, encP_len2, c3, c67])))
      simp only [c67, cond_true] at hh28
      try simp only [go_sem, c3, c13, c23, c33, f65, f66, c67]
      refine X_any0 mixed (p := [(0, 0), (1, 0), (2, 0), (3, 0), (4, 0), (5, 0), (6, 0), (7, 0), (8, 0), (9, 0), (10, 0), (11, 0), (12, 0), (13, 0), (14, 0), (15, 0), (16, 0), (17, 0), (19, 0), (20, 0), (18, 1), (21, 1), (22, 3)]) (by kernel_rfl) (by simp [LeH, get]) ?_
      rcases g79 : idxO a0.blocks x63.inn with _ | x78
      · simp only [g79, Option.bind_none, reduceCtorEq] at hh28
      simp only [g79, Option.bind_some] at hh28
      have f80 := idxO_rng g79
      have f81 : (encK a0.blocks).getD (Int.toNat x63.inn) [] = [(.str x78.name), (.int .i64 x78.x), (.int .i64 x78.y)] := idxO_map _ g79
      rcases g83 : idxO a0.blocks x63.out with _ | x82
      · simp only [g83, Option.bind_none, reduceCtorEq] at hh28
      simp only [g83, Option.bind_some] at hh28
      have f84 := idxO_rng g83
      have f85 : (encK a0.blocks).getD (Int.toNat x63.out) [] = [(.str x82.name), (.int .i64 x82.x), (.int .i64 x82.y)] := idxO_map _ g83
      rcases g87 : netmap_Describe_1_v 4 [x63.name, x78.name, x82.name] [x63.slots] v26 with _ | x86
      · simp only [g87, Option.bind_none, reduceCtorEq] at hh28
      simp only [g87, Option.bind_some] at hh28
      try simp only [go_sem, c3, c13, c23, c33, f65, f66, c67, f80, f81, f84, f85]
      refine Gh_of (netmap_Describe_1_vok 4 [x63.name, x78.name, x82.name] [x63.slots] v26 _ g87) ?_
      rintro h' r ⟨rfl, rfl⟩
      simp only [Option.bind_some, nextO_inl] at hh28
      try simp only [go_sem, c3, c13, c23, c33, f65, f66, c67, f80, f81, f84, f85]
      exact ih29 (x86, (IntKind.i64.wrap (v27 + 1))) _ hh28 ((Wk.forget (by simp [Le, LeE, LeH, get, envIds, hpIds, KeepH, D.ids, idsL, AO.ids, setL, base, encI_nil, encS_nil, encT_nil, encG_nil, encC_nil, encL_nil, encK_nil, encP_nil, mpS_nil, mpB_nil, encI_consE, encS_consE, encT_consE, encG_consE, encI_one, encS_one, encT_one, encI_snoc, encS_snoc, encT_snocE, encG_snocE, encC_snoc, encL_snoc, encK_snocE, encP_snocE, encI_set, encS_set, encT_setE, encG_setE, encC_setE, encK_setE, encP_setE, encI_len, encS_len, encT_len2, encG_len2, encC_len, encL_len, encK_len2, encP_len2, c3, c67])))
    simp only [c23, cond_true] at hh18
    rcases g120 : idxO a0.next v17 with _ | x119
    · simp only [g120, Option.bind_none, reduceCtorEq] at hh18
    simp only [g120, Option.bind_some] at hh18
    have f121 := idxO_rng g120
    have f122 : (encG a0.next).getD (Int.toNat v17) [] = [(.sl (encI x119))] := idxO_map _ g120
    rcases g131 : loopO (ndescribe_L3 a0 v17 x119) (v16, 0) with _ | e130
    · simp only [g131, Option.bind_none, reduceCtorEq] at hh18
    simp only [g131, Option.bind_some] at hh18
    try simp only [go_sem, c3, c13, c23, f121, f122]
    refine X_loopO g131 (fun q : (List Dc) × Int => ⟨[(1, .ptr 1 0), (4, .ptr 4 0), (5, .fn 58 [.ptr 4 0]), (8, .p (.int .i64 v17)), (42, .p (.sl (encG a0.next))), (43, .p (.int .i64 ((a0.next.length : Nat) : Int))), (44, .p (.int .i64 v17)), (49, .p (.sl (encI x119))), (50, .p (.int .i64 ((x119.length : Nat) : Int))), (51, .p (.int .i64 q.2))], [(1, .box [.p (.sl (encK a0.blocks)), .p (.sl (encG a0.next)), .p (.sl (encP a0.spurs)), .p (.sl (encI a0.robots)), .p (.int .i64 a0.cq), .p (.int .i64 a0.ca), .p (.int .i64 a0.cd), .p (.int .i64 a0.cp)]), (4, .box [.ref 504000 0 q.1.length q.1.length]), (504000, .arr 54 4 (encC q.1))], 150⟩) ((Wk.forget (by simp [Le, LeE, LeH, get, envIds, hpIds, KeepH, D.ids, idsL, AO.ids, setL, base, encI_nil, encS_nil, encT_nil, encG_nil, encC_nil, encL_nil, encK_nil, encP_nil, mpS_nil, mpB_nil, encI_consE, encS_consE, encT_consE, encG_consE, encI_one, encS_one, encT_one, encI_snoc, encS_snoc, encT_snocE, encG_snocE, encC_snoc, encL_snoc, encK_snocE, encP_snocE, encI_set, encS_set, encT_setE, encG_setE, encC_setE, encK_setE, encP_setE, encI_len, encS_len, encT_len2, encG_len2, encC_len, encL_len, encK_len2, encP_len2, c3]))) ?_
    rintro ⟨v125, v126⟩ m129 hh127 ih128
    rw [ndescribe_L3_eq] at hh127
    cases c132 : decide (v126 < ((x119.length : Nat) : Int))
    · simp only [c132, cond_false] at hh127
      simp only [Option.bind_some, nextO_inr] at hh127
      obtain rfl := Option.some.inj hh127
      try dsimp only at hh18
      simp only [Option.bind_some, nextO_inl] at hh18
      try simp only [go_sem, c3, c13, c23, f121, f122, c132]
      exact ih19 (v125, (IntKind.i64.wrap (v17 + 1))) _ hh18 ((Wk.forget (by simp [Le, LeE, LeH, get, envIds, hpIds, KeepH, D.ids, idsL, AO.ids, setL, base, encI_nil, encS_nil, encT_nil, encG_nil, encC_nil, encL_nil, encK_nil, encP_nil, mpS_nil, mpB_nil, encI_consE, encS_consE, encT_consE, encG_consE, encI_one, encS_one, encT_one, encI_snoc, encS_snoc, encT_snocE, encG_snocE, encC_snoc, encL_snoc, encK_snocE, encP_snocE, encI_set, encS_set, encT_setE, encG_setE, encC_setE, encK_setE, encP_setE, encI_len, encS_len, encT_len2, encG_len2, encC_len, encL_len, encK_len2, encP_len2, c3])))
    simp only [c132, cond_true] at hh127
    rcases g134 : idxO x119 v126 with _ | x133
    · simp only [g134, Option.bind_none, reduceCtorEq] at hh127
    simp only [g134, Option.bind_some] at hh127
    have f135 := idxO_rng g134
    have f136 : (encI x119).getD (Int.toNat v126) [] = [(.int .i64 x133)] := idxO_map _ g134
    try simp only [go_sem, c3, c13, c23, f121, f122, c132, f135, f136]
    refine X_any0 mixed (p := [(0, 0), (1, 0), (2, 0), (3, 0), (4, 0), (5, 0), (6, 0), (7, 0), (8, 0), (9, 0), (10, 0), (11, 0), (12, 0), (13, 1), (14, 3)]) (by kernel_rfl) (by simp [LeH, get]) ?_
    rcases g138 : idxO a0.blocks v17 with _ | x137
    · simp only [g138, Option.bind_none, reduceCtorEq] at hh127
    simp only [g138, Option.bind_some] at hh127
    have f139 := idxO_rng g138
    have f140 : (encK a0.blocks).getD (Int.toNat v17) [] = [(.str x137.name), (.int .i64 x137.x), (.int .i64 x137.y)] := idxO_map _ g138
    rcases g142 : idxO a0.blocks x133 with _ | x141
    · simp only [g142, Option.bind_none, reduceCtorEq] at hh127
    simp only [g142, Option.bind_some] at hh127
    have f143 := idxO_rng g142
    have f144 : (encK a0.blocks).getD (Int.toNat x133) [] = [(.str x141.name), (.int .i64 x141.x), (.int .i64 x141.y)] := idxO_map _ g142
    rcases g146 : netmap_Describe_1_v 2 [x137.name, x141.name] [] v125 with _ | x145
    · simp only [g146, Option.bind_none, reduceCtorEq] at hh127
    simp only [g146, Option.bind_some] at hh127
    try simp only [go_sem, c3, c13, c23, f121, f122, c132, f135, f136, f139, f140, f143, f144]
    refine Gh_of (netmap_Describe_1_vok 2 [x137.name, x141.name] [] v125 _ g146) ?_
    rintro h' r ⟨rfl, rfl⟩
    simp only [Option.bind_some, nextO_inl] at hh127
    try simp only [go_sem, c3, c13, c23, f121, f122, c132, f135, f136, f139, f140, f143, f144]
    exact ih128 (x145, (IntKind.i64.wrap (v126 + 1))) _ hh127 ((Wk.forget (by simp [Le, LeE, LeH, get, envIds, hpIds, KeepH, D.ids, idsL, AO.ids, setL, base, encI_nil, encS_nil, encT_nil, encG_nil, encC_nil, encL_nil, encK_nil, encP_nil, mpS_nil, mpB_nil, encI_consE, encS_consE, encT_consE, encG_consE, encI_one, encS_one, encT_one, encI_snoc, encS_snoc, encT_snocE, encG_snocE, encC_snoc, encL_snoc, encK_snocE, encP_snocE, encI_set, encS_set, encT_setE, encG_setE, encC_setE, encK_setE, encP_setE, encI_len, encS_len, encT_len2, encG_len2, encC_len, encL_len, encK_len2, encP_len2, c3])))
  simp only [c13, cond_true] at hh8
  rcases g247 : idxO a0.blocks v7 with _ | x246
  · simp only [g247, Option.bind_none, reduceCtorEq] at hh8
  simp only [g247, Option.bind_some] at hh8
  have f248 := idxO_rng g247
  have f249 : (encK a0.blocks).getD (Int.toNat v7) [] = [(.str x246.name), (.int .i64 x246.x), (.int .i64 x246.y)] := idxO_map _ g247
  rcases g251 : netmap_Describe_1_v 1 [x246.name] [x246.x, x246.y] v6 with _ | x250
  · simp only [g251, Option.bind_none, reduceCtorEq] at hh8
  simp only [g251, Option.bind_some] at hh8
  try simp only [go_sem, c3, c13, f248, f249]
  refine Cc_of (netmap_Describe_1_vok 1 [x246.name] [x246.x, x246.y] v6 _ g251) ?_
  rintro h' r ⟨rfl, rfl⟩
  simp only [Option.bind_some, nextO_inl] at hh8
  try simp only [go_sem, c3, c13, f248, f249]
  exact ih9 (x250, (IntKind.i64.wrap (v7 + 1))) _ hh8 ((Wk.forget (by simp [Le, LeE, LeH, get, envIds, hpIds, KeepH, D.ids, idsL, AO.ids, setL, base, encI_nil, encS_nil, encT_nil, encG_nil, encC_nil, encL_nil, encK_nil, encP_nil, mpS_nil, mpB_nil, encI_consE, encS_consE, encT_consE, encG_consE, encI_one, encS_one, encT_one, encI_snoc, encS_snoc, encT_snocE, encG_snocE, encC_snoc, encL_snoc, encK_snocE, encP_snocE, encI_set, encS_set, encT_setE, encG_setE, encC_setE, encK_setE, encP_setE, encI_len, encS_len, encT_len2, encG_len2, encC_len, encL_len, encK_len2, encP_len2, c3])))
noncomputable def mk_Cut_v (a0 : Int) (a1 : Int) : Option (Int) :=
  cond (decide (a1 ≤ 1)) (some 0) (cond (decide (¬ a1 = 0)) (cond (decide ((Int.tmod a0 a1) < 0)) (some (IntKind.i64.wrap ((Int.tmod a0 a1) + a1))) (some (Int.tmod a0 a1))) none)
theorem mk_Cut_vok (a0 : Int) (a1 : Int) (r : Int) (hr : mk_Cut_v a0 a1 = some r) :
    ACalls Try.prog 26 [.p (.int .i64 a0), .p (.int .i64 a1)] [] fun h d => h = [] ∧ d = .p (.int .i64 r) := by
  refine ACalls_X Try.func26 rfl enters26 (by simp [Try.f26]) ?_
  unfold mk_Cut_v at hr
  cases c1 : decide (a1 ≤ 1)
  · simp only [c1, cond_false] at hr
    cases c2 : decide (¬ a1 = 0)
    · simp only [c2, cond_false, Option.bind_none, reduceCtorEq] at hr
    simp only [c2, cond_true] at hr
    have f3 := of_decide_eq_true c2
    cases c4 : decide ((Int.tmod a0 a1) < 0)
    · simp only [c4, cond_false] at hr
      obtain rfl := Option.some.inj hr
      try simp only [go_sem, c1, f3, c4]
      all_goals (try refine end_pure ?_)
      all_goals (try simp only [go_sem, c1, f3, c4])
      all_goals (try (first | rfl | exact ⟨rfl, rfl⟩ | (simp; done)))
    simp only [c4, cond_true] at hr
    obtain rfl := Option.some.inj hr
    try simp only [go_sem, c1, f3, c4]
    all_goals (try refine end_pure ?_)
    all_goals (try simp only [go_sem, c1, f3, c4])
    all_goals (try (first | rfl | exact ⟨rfl, rfl⟩ | (simp; done)))
  simp only [c1, cond_true] at hr
  obtain rfl := Option.some.inj hr
  try simp only [go_sem, c1]
  all_goals (try refine end_pure ?_)
  all_goals (try simp only [go_sem, c1])
  all_goals (try (first | rfl | exact ⟨rfl, rfl⟩ | (simp; done)))
noncomputable def spoil_v (a0 : Nt) (a1 : Int × Int × Int) : Option (Nt) :=
  Option.bind (mk_Cut_v a1.1 9) fun x1 => cond (decide (x1 = 0)) (cond (decide (a0.robots.length < 10000000)) (cond (decide (a0.robots.length + 1 < 10000000)) (some (⟨a0.blocks, a0.next, a0.spurs, (a0.robots ++ [a1.2.2]), a0.cq, a0.ca, a0.cd, a0.cp⟩ : Nt)) none) none) (cond (decide (x1 = 1)) (some (⟨a0.blocks, a0.next, a0.spurs, a0.robots, a1.2.2, a0.ca, a0.cd, a0.cp⟩ : Nt)) (cond (decide (x1 = 2)) (some (⟨a0.blocks, a0.next, a0.spurs, a0.robots, a0.cq, a0.ca, a0.cd, a1.2.2⟩ : Nt)) (cond (decide (x1 = 3)) (cond (decide (a0.spurs.length < 10000000)) (Option.bind (mk_Cut_v a1.2.1 ((a0.spurs.length : Nat) : Int)) fun x38 => Option.bind (idxO a0.spurs x38) fun x40 => some (⟨a0.blocks, a0.next, (a0.spurs.set (Int.toNat x38) (⟨x40.name, x40.depot, x40.inn, x40.out, x40.slots, a1.2.2⟩ : Spr)), a0.robots, a0.cq, a0.ca, a0.cd, a0.cp⟩ : Nt)) none) (cond (decide (x1 = 4)) (cond (decide (a0.spurs.length < 10000000)) (Option.bind (mk_Cut_v a1.2.1 ((a0.spurs.length : Nat) : Int)) fun x31 => Option.bind (idxO a0.spurs x31) fun x33 => some (⟨a0.blocks, a0.next, (a0.spurs.set (Int.toNat x31) (⟨x33.name, x33.depot, x33.inn, x33.out, a1.2.2, x33.base⟩ : Spr)), a0.robots, a0.cq, a0.ca, a0.cd, a0.cp⟩ : Nt)) none) (cond (decide (x1 = 5)) (cond (decide (a0.next.length < 10000000)) (Option.bind (mk_Cut_v a1.2.1 ((a0.next.length : Nat) : Int)) fun x24 => Option.bind (idxO a0.next x24) fun x26 => some (⟨a0.blocks, (a0.next.set (Int.toNat x24) [a1.2.2]), a0.spurs, a0.robots, a0.cq, a0.ca, a0.cd, a0.cp⟩ : Nt)) none) (cond (decide (x1 = 6)) (cond (decide (a0.blocks.length < 10000000)) (Option.bind (idxO a0.blocks 0) fun x19 => some (⟨(a0.blocks.set 0 (⟨[115, 49], x19.x, x19.y⟩ : Blk)), a0.next, a0.spurs, a0.robots, a0.cq, a0.ca, a0.cd, a0.cp⟩ : Nt)) none) (cond (decide (x1 = 7)) (cond (decide (a0.blocks.length < 10000000)) (Option.bind (mk_Cut_v a1.2.1 ((a0.blocks.length : Nat) : Int)) fun x12 => Option.bind (idxO a0.blocks x12) fun x14 => some (⟨(a0.blocks.set (Int.toNat x12) (⟨x14.name, a1.2.2, x14.y⟩ : Blk)), a0.next, a0.spurs, a0.robots, a0.cq, a0.ca, a0.cd, a0.cp⟩ : Nt)) none) (some (⟨a0.blocks, a0.next, a0.spurs, a0.robots, a0.cq, a0.ca, a0.cd, a0.cp⟩ : Nt)))))))))
theorem spoil_vok (a0 : Nt) (a1 : Int × Int × Int) (r : Nt) (hr : spoil_v a0 a1 = some r) :
    ACalls Try.prog 32 [.agg [.p (.sl (encK a0.blocks)), .p (.sl (encG a0.next)), .p (.sl (encP a0.spurs)), .p (.sl (encI a0.robots)), .p (.int .i64 a0.cq), .p (.int .i64 a0.ca), .p (.int .i64 a0.cd), .p (.int .i64 a0.cp)], .agg [.p (.int .i64 a1.1), .p (.int .i64 a1.2.1), .p (.int .i64 a1.2.2)]] [] fun h d => h = [] ∧ d = .agg [.p (.sl (encK r.blocks)), .p (.sl (encG r.next)), .p (.sl (encP r.spurs)), .p (.sl (encI r.robots)), .p (.int .i64 r.cq), .p (.int .i64 r.ca), .p (.int .i64 r.cd), .p (.int .i64 r.cp)] := by
  refine ACalls_X Try.func32 rfl enters32 (by simp [Try.f32]) ?_
  unfold spoil_v at hr
  rcases g2 : mk_Cut_v a1.1 9 with _ | x1
  · simp only [g2, Option.bind_none, reduceCtorEq] at hr
  simp only [g2, Option.bind_some] at hr
  try simp only [go_sem]
  refine Cc_of (mk_Cut_vok a1.1 9 _ g2) ?_
  rintro h' r ⟨rfl, rfl⟩
  cases c3 : decide (x1 = 0)
  · simp only [c3, cond_false] at hr
    cases c4 : decide (x1 = 1)
    · simp only [c4, cond_false] at hr
      cases c5 : decide (x1 = 2)
      · simp only [c5, cond_false] at hr
        cases c6 : decide (x1 = 3)
        · simp only [c6, cond_false] at hr
          cases c7 : decide (x1 = 4)
          · simp only [c7, cond_false] at hr
            cases c8 : decide (x1 = 5)
            · simp only [c8, cond_false] at hr
              cases c9 : decide (x1 = 6)
              · simp only [c9, cond_false] at hr
                cases c10 : decide (x1 = 7)
                · simp only [c10, cond_false] at hr
                  obtain rfl := Option.some.inj hr
                  try simp only [go_sem, c3, c4, c5, c6, c7, c8, c9, c10]
                  all_goals (try refine end_pure ?_)
                  all_goals (try simp only [go_sem, c3, c4, c5, c6, c7, c8, c9, c10])
                  all_goals (try (first | rfl | exact ⟨rfl, rfl⟩ | (simp; done)))
                simp only [c10, cond_true] at hr
                cases c11 : decide (a0.blocks.length < 10000000)
                · simp only [c11, cond_false, Option.bind_none, reduceCtorEq] at hr
                simp only [c11, cond_true] at hr
                try simp only [go_sem, c3, c4, c5, c6, c7, c8, c9, c10]
                refine ⟨by have := of_decide_eq_true c11; (try simp only [List.length_cons, List.length_nil, List.length_append] at *); (repeat' refine And.intro ?_ ?_) <;> first | exact wid1 _ _ rfl | exact encK_wid _ | omega | (simp [Wid]; done), ?_⟩
                try simp only [go_sem, c3, c4, c5, c6, c7, c8, c9, c10]
                refine X_any0 mixed (p := [(0, 0), (1, 0), (2, 0), (3, 0), (4, 0), (5, 0), (6, 0), (8, 0), (7, 2), (9, 0), (10, 0), (11, 3)]) (by kernel_rfl) (by simp [LeH, get]) ?_
                rcases g13 : mk_Cut_v a1.2.1 ((a0.blocks.length : Nat) : Int) with _ | x12
                · simp only [g13, Option.bind_none, reduceCtorEq] at hr
                simp only [g13, Option.bind_some] at hr
                try simp only [go_sem, c3, c4, c5, c6, c7, c8, c9, c10]
                refine Gh_of (mk_Cut_vok a1.2.1 ((a0.blocks.length : Nat) : Int) _ g13) ?_
                rintro h' r ⟨rfl, rfl⟩
                rcases g15 : idxO a0.blocks x12 with _ | x14
                · simp only [g15, Option.bind_none, reduceCtorEq] at hr
                simp only [g15, Option.bind_some] at hr
                have f16 := idxO_rng g15
                have f17 : (encK a0.blocks).getD (Int.toNat x12) [] = [(.str x14.name), (.int .i64 x14.x), (.int .i64 x14.y)] := idxO_map _ g15
                obtain rfl := Option.some.inj hr
                try simp only [go_sem, c3, c4, c5, c6, c7, c8, c9, c10, f16, f17]
                all_goals (try refine end_pure ?_)
                all_goals (try simp only [go_sem, c3, c4, c5, c6, c7, c8, c9, c10, f16, f17])
                all_goals (try (first | rfl | exact ⟨rfl, rfl⟩ | (simp; done)))
              simp only [c9, cond_true] at hr
              cases c18 : decide (a0.blocks.length < 10000000)
              · simp only [c18, cond_false, Option.bind_none, reduceCtorEq] at hr
              simp only [c18, cond_true] at hr
              try simp only [go_sem, c3, c4, c5, c6, c7, c8, c9]
              refine ⟨by have := of_decide_eq_true c18; (try simp only [List.length_cons, List.length_nil, List.length_append] at *); (repeat' refine And.intro ?_ ?_) <;> first | exact wid1 _ _ rfl | exact encK_wid _ | omega | (simp [Wid]; done), ?_⟩
              rcases g20 : idxO a0.blocks 0 with _ | x19
              · simp only [g20, Option.bind_none, reduceCtorEq] at hr
              simp only [g20, Option.bind_some] at hr
              have f21 := idxO_rng g20
              have f22 : (encK a0.blocks).getD 0 [] = [(.str x19.name), (.int .i64 x19.x), (.int .i64 x19.y)] := idxO_map _ g20
              obtain rfl := Option.some.inj hr
              try simp only [go_sem, c3, c4, c5, c6, c7, c8, c9, f21, f22]
              all_goals (try refine end_pure ?_)
              all_goals (try simp only [go_sem, c3, c4, c5, c6, c7, c8, c9, f21, f22])
              all_goals (try (first | rfl | exact ⟨rfl, rfl⟩ | (simp; done)))
            simp only [c8, cond_true] at hr
            cases c23 : decide (a0.next.length < 10000000)
            · simp only [c23, cond_false, Option.bind_none, reduceCtorEq] at hr
            simp only [c23, cond_true] at hr
            try simp only [go_sem, c3, c4, c5, c6, c7, c8]
            refine ⟨by have := of_decide_eq_true c23; (try simp only [List.length_cons, List.length_nil, List.length_append] at *); (repeat' refine And.intro ?_ ?_) <;> first | exact wid1 _ _ rfl | exact encG_wid _ | omega | (simp [Wid]; done), ?_⟩
            try simp only [go_sem, c3, c4, c5, c6, c7, c8]
            refine X_any0 mixed (p := [(0, 0), (1, 0), (2, 0), (3, 0), (4, 0), (5, 0), (6, 0), (8, 0), (9, 1), (7, 2), (10, 0), (11, 3)]) (by kernel_rfl) (by simp [LeH, get]) ?_
            rcases g25 : mk_Cut_v a1.2.1 ((a0.next.length : Nat) : Int) with _ | x24
            · simp only [g25, Option.bind_none, reduceCtorEq] at hr
            simp only [g25, Option.bind_some] at hr
            try simp only [go_sem, c3, c4, c5, c6, c7, c8]
            refine Gh_of (mk_Cut_vok a1.2.1 ((a0.next.length : Nat) : Int) _ g25) ?_
            rintro h' r ⟨rfl, rfl⟩
            rcases g27 : idxO a0.next x24 with _ | x26
            · simp only [g27, Option.bind_none, reduceCtorEq] at hr
            simp only [g27, Option.bind_some] at hr
            have f28 := idxO_rng g27
            have f29 : (encG a0.next).getD (Int.toNat x24) [] = [(.sl (encI x26))] := idxO_map _ g27
            obtain rfl := Option.some.inj hr
            try simp only [go_sem, c3, c4, c5, c6, c7, c8, f28, f29]
            all_goals (try refine end_pure ?_)
            all_goals (try simp only [go_sem, c3, c4, c5, c6, c7, c8, f28, f29])
            all_goals (try (first | rfl | exact ⟨rfl, rfl⟩ | (simp; done)))
          simp only [c7, cond_true] at hr
          cases c30 : decide (a0.spurs.length < 10000000)
          · simp only [c30, cond_false, Option.bind_none, reduceCtorEq] at hr
          simp only [c30, cond_true] at hr
          try simp only [go_sem, c3, c4, c5, c6, c7]
          refine ⟨by have := of_decide_eq_true c30; (try simp only [List.length_cons, List.length_nil, List.length_append] at *); (repeat' refine And.intro ?_ ?_) <;> first | exact wid1 _ _ rfl | exact encP_wid _ | omega | (simp [Wid]; done), ?_⟩
          try simp only [go_sem, c3, c4, c5, c6, c7]
          refine X_any0 mixed (p := [(0, 0), (1, 0), (2, 0), (3, 0), (4, 0), (5, 0), (6, 0), (8, 0), (7, 2), (9, 0), (10, 0), (11, 3)]) (by kernel_rfl) (by simp [LeH, get]) ?_
          rcases g32 : mk_Cut_v a1.2.1 ((a0.spurs.length : Nat) : Int) with _ | x31
          · simp only [g32, Option.bind_none, reduceCtorEq] at hr
          simp only [g32, Option.bind_some] at hr
          try simp only [go_sem, c3, c4, c5, c6, c7]
          refine Gh_of (mk_Cut_vok a1.2.1 ((a0.spurs.length : Nat) : Int) _ g32) ?_
          rintro h' r ⟨rfl, rfl⟩
          rcases g34 : idxO a0.spurs x31 with _ | x33
          · simp only [g34, Option.bind_none, reduceCtorEq] at hr
          simp only [g34, Option.bind_some] at hr
          have f35 := idxO_rng g34
          have f36 : (encP a0.spurs).getD (Int.toNat x31) [] = [(.str x33.name), (.bool x33.depot), (.int .i64 x33.inn), (.int .i64 x33.out), (.int .i64 x33.slots), (.int .i64 x33.base)] := idxO_map _ g34
          obtain rfl := Option.some.inj hr
          try simp only [go_sem, c3, c4, c5, c6, c7, f35, f36]
          all_goals (try refine end_pure ?_)
          all_goals (try simp only [go_sem, c3, c4, c5, c6, c7, f35, f36])
          all_goals (try (first | rfl | exact ⟨rfl, rfl⟩ | (simp; done)))
        simp only [c6, cond_true] at hr
        cases c37 : decide (a0.spurs.length < 10000000)
        · simp only [c37, cond_false, Option.bind_none, reduceCtorEq] at hr
        simp only [c37, cond_true] at hr
        try simp only [go_sem, c3, c4, c5, c6]
        refine ⟨by have := of_decide_eq_true c37; (try simp only [List.length_cons, List.length_nil, List.length_append] at *); (repeat' refine And.intro ?_ ?_) <;> first | exact wid1 _ _ rfl | exact encP_wid _ | omega | (simp [Wid]; done), ?_⟩
        try simp only [go_sem, c3, c4, c5, c6]
        refine X_any0 mixed (p := [(0, 0), (1, 0), (2, 0), (3, 0), (4, 0), (5, 0), (6, 0), (8, 0), (7, 2), (9, 0), (10, 0), (11, 3)]) (by kernel_rfl) (by simp [LeH, get]) ?_
        rcases g39 : mk_Cut_v a1.2.1 ((a0.spurs.length : Nat) : Int) with _ | x38
        · simp only [g39, Option.bind_none, reduceCtorEq] at hr
        simp only [g39, Option.bind_some] at hr
        try simp only [go_sem, c3, c4, c5, c6]
        refine Gh_of (mk_Cut_vok a1.2.1 ((a0.spurs.length : Nat) : Int) _ g39) ?_
        rintro h' r ⟨rfl, rfl⟩
        rcases g41 : idxO a0.spurs x38 with _ | x40
        · simp only [g41, Option.bind_none, reduceCtorEq] at hr
        simp only [g41, Option.bind_some] at hr
        have f42 := idxO_rng g41
        have f43 : (encP a0.spurs).getD (Int.toNat x38) [] = [(.str x40.name), (.bool x40.depot), (.int .i64 x40.inn), (.int .i64 x40.out), (.int .i64 x40.slots), (.int .i64 x40.base)] := idxO_map _ g41
        obtain rfl := Option.some.inj hr
        try simp only [go_sem, c3, c4, c5, c6, f42, f43]
        all_goals (try refine end_pure ?_)
        all_goals (try simp only [go_sem, c3, c4, c5, c6, f42, f43])
        all_goals (try (first | rfl | exact ⟨rfl, rfl⟩ | (simp; done)))
      simp only [c5, cond_true] at hr
      obtain rfl := Option.some.inj hr
      try simp only [go_sem, c3, c4, c5]
      all_goals (try refine end_pure ?_)
      all_goals (try simp only [go_sem, c3, c4, c5])
      all_goals (try (first | rfl | exact ⟨rfl, rfl⟩ | (simp; done)))
    simp only [c4, cond_true] at hr
    obtain rfl := Option.some.inj hr
    try simp only [go_sem, c3, c4]
    all_goals (try refine end_pure ?_)
    all_goals (try simp only [go_sem, c3, c4])
    all_goals (try (first | rfl | exact ⟨rfl, rfl⟩ | (simp; done)))
  simp only [c3, cond_true] at hr
  cases c44 : decide (a0.robots.length < 10000000)
  · simp only [c44, cond_false, Option.bind_none, reduceCtorEq] at hr
  simp only [c44, cond_true] at hr
  try simp only [go_sem, c3]
  refine ⟨by have := of_decide_eq_true c44; (try simp only [List.length_cons, List.length_nil, List.length_append] at *); (repeat' refine And.intro ?_ ?_) <;> first | exact wid1 _ _ rfl | exact encI_wid _ | omega | (simp [Wid]; done), ?_⟩
  cases c45 : decide (a0.robots.length + 1 < 10000000)
  · simp only [c45, cond_false, Option.bind_none, reduceCtorEq] at hr
  simp only [c45, cond_true] at hr
  try simp only [go_sem, c3]
  refine ⟨by have := of_decide_eq_true c45; (try simp only [List.length_cons, List.length_nil, List.length_append] at *); (repeat' refine And.intro ?_ ?_) <;> first | exact wid1 _ _ rfl | exact encI_wid _ | omega | (simp [Wid]; done), ?_⟩
  obtain rfl := Option.some.inj hr
  try simp only [go_sem, c3]
  all_goals (try refine end_pure ?_)
  all_goals (try simp only [go_sem, c3])
  all_goals (try (first | rfl | exact ⟨rfl, rfl⟩ | (simp; done)))
noncomputable def example03_v  : Option ((List Dc)) :=
  some [(⟨1, 1, [[97]], [0, 0]⟩ : Dc), (⟨1, 2, [[98]], [1, 0]⟩ : Dc), (⟨2, 3, [[97], [98], [97]], []⟩ : Dc), (⟨4, 4, [[100], [97], [98]], [2]⟩ : Dc), (⟨5, 5, [[100]], [2]⟩ : Dc)]
theorem example03_vok  (r : (List Dc)) (hr : example03_v  = some r) :
    ACalls Try.prog 50 [] [] fun h d => h = [] ∧ d = .p (.sl (encC r)) := by
  refine ACalls_X Try.func50 rfl enters50 (by simp [Try.f50]) ?_
  unfold example03_v at hr
  obtain rfl := Option.some.inj hr
  try simp only [go_sem]
  all_goals (try refine end_pure ?_)
  all_goals (try simp only [go_sem])
  all_goals (try (first | rfl | exact ⟨rfl, rfl⟩ | (simp; done)))
end Go.Am
end
section
namespace Go.Am
open Go Go.Proofs
set_option maxRecDepth 100000
set_option linter.unusedVariables false
set_option linter.unusedSimpArgs false
def Nt.pd (n : Nt) : List Pd := [.sl (encK n.blocks), .sl (encG n.next), .sl (encP n.spurs), .sl (encI n.robots), .int .i64 n.cq, .int .i64 n.ca, .int .i64 n.cd, .int .i64 n.cp]
def encN (l : List Nt) : List (List Pd) := l.map fun n => [.sl (encK n.blocks), .sl (encG n.next), .sl (encP n.spurs), .sl (encI n.robots), .int .i64 n.cq, .int .i64 n.ca, .int .i64 n.cd, .int .i64 n.cp]
theorem encN_nil : encN [] = [] := rfl
theorem encN_consE (x : Nt) (l : List Nt) : encN (x :: l) = [.sl (encK x.blocks), .sl (encG x.next), .sl (encP x.spurs), .sl (encI x.robots), .int .i64 x.cq, .int .i64 x.ca, .int .i64 x.cd, .int .i64 x.cp] :: encN l := rfl
theorem encN_len2 (l : List Nt) : (encN l).length = l.length := by simp [encN]
attribute [go_sem] encN_len2
open Classical in
noncomputable def nbuild_v (d : List Dc) : Option (Nt × Int × Int) := if smallD d then some (nbuildV d) else none
theorem nbuild_vok (d : List Dc) (r : Nt × Int × Int) (h : nbuild_v d = some r) : ACalls Try.prog 27 [.p (.sl (encC d))] [] fun h d => h = [] ∧ d = .tup [.agg [.p (.sl (encK r.1.blocks)), .p (.sl (encG r.1.next)), .p (.sl (encP r.1.spurs)), .p (.sl (encI r.1.robots)), .p (.int .i64 r.1.cq), .p (.int .i64 r.1.ca), .p (.int .i64 r.1.cd), .p (.int .i64 r.1.cp)], .p (.int .i64 r.2.1), .p (.int .i64 r.2.2)] := by
  unfold nbuild_v at h
  split at h
  · rename_i hd
    cases h
    exact nbuild_ok d hd
  · cases h
theorem nbuild_v_at (d : List Dc) (h : smallD d) : nbuild_v d = some (nbuildV d) := by unfold nbuild_v; rw [if_pos h]
def LooseQ (n : Nt) (l : List Int) (a : Int) : Prop := validN n ∧ n.blocks.length ≤ 10
theorem loose6 (l : List Int) : ACalls Try.prog 25 [.ptr 1000000 0, .p (.int .i64 6)] [(1000000, .box [.p (.sl (encI l)), .p (.int .i64 0)])]
    fun h r => ∃ (n : Nt) (l' : List Int) (a : Int), LooseQ n l' a ∧ h = [(1000000, .box [.p (.sl (encI l')), .p (.int .i64 a)])] ∧ r = .agg [.p (.sl (encK n.blocks)), .p (.sl (encG n.next)), .p (.sl (encP n.spurs)), .p (.sl (encI n.robots)), .p (.int .i64 n.cq), .p (.int .i64 n.ca), .p (.int .i64 n.cd), .p (.int .i64 n.cp)] :=
  (loose_ok l 0 6 (by omega) (by omega) (by omega)).mono fun h r ⟨a, n, _, hq, h1, h2⟩ => ⟨n, l, (a : Int), hq, h1, h2⟩
theorem loose8 (l : List Int) : ACalls Try.prog 25 [.ptr 1000000 0, .p (.int .i64 8)] [(1000000, .box [.p (.sl (encI l)), .p (.int .i64 0)])]
    fun h r => ∃ (n : Nt) (l' : List Int) (a : Int), LooseQ n l' a ∧ h = [(1000000, .box [.p (.sl (encI l')), .p (.int .i64 a)])] ∧ r = .agg [.p (.sl (encK n.blocks)), .p (.sl (encG n.next)), .p (.sl (encP n.spurs)), .p (.sl (encI n.robots)), .p (.int .i64 n.cq), .p (.int .i64 n.ca), .p (.int .i64 n.cd), .p (.int .i64 n.cp)] :=
  (loose_ok l 0 8 (by omega) (by omega) (by omega)).mono fun h r ⟨a, n, _, hq, h1, h2⟩ => ⟨n, l, (a : Int), hq, h1, h2⟩
end Go.Am
end
section
namespace Go.Am
open Go Go.Proofs
set_option maxRecDepth 100000
set_option linter.unusedVariables false
set_option linter.unusedSimpArgs false
theorem loopO_thru {σ ε : Type} {step : σ → Option (σ ⊕ ε)} (n : Nat) (S : Nat → σ) (out : ε) (h1 : ∀ i, i < n → step (S i) = some (.inl (S (i + 1)))) (h2 : step (S n) = some (.inr out)) : loopO step (S 0) = some out := by
  have := loopO_for n S out (fun _ => none) (fun i hi _ => h1 i hi) (fun _ => h2)
  rw [this]
  have : (List.range n).findSome? (fun _ => (none : Option ε)) = none := by rw [List.findSome?_eq_none_iff]; simp
  rw [this]; rfl
theorem loopO_all {σ ε : Type} {step : σ → Option (σ ⊕ ε)} (n : Nat) (S : Nat → σ) (out bad : ε) (good : Nat → Bool)
    (h1 : ∀ i, i < n → (∀ j, j < i → good j = true) → step (S i) = some (if good i = true then .inl (S (i + 1)) else .inr bad)) (h2 : (∀ j, j < n → good j = true) → step (S n) = some (.inr out)) :
    loopO step (S 0) = some (if (∀ j, j < n → good j = true) then out else bad) := by
  have h := loopO_for n S out (fun i => if good i = true then none else some bad)
    (fun i hi hj => by
      rw [h1 i hi (fun j hj2 => by have := hj j hj2; by_cases g : good j = true; exact g; simp [g] at this)]
      by_cases g : good i = true <;> simp [g])
    (fun hj => h2 (fun j hj2 => by have := hj j hj2; by_cases g : good j = true; exact g; simp [g] at this))
  rw [h]
  by_cases g : ∀ j, j < n → good j = true
  · rw [if_pos g]
    have : (List.range n).findSome? (fun i => if good i = true then none else some bad) = none := by
      rw [List.findSome?_eq_none_iff]
      intro x hx
      simp [g x (by simpa using hx)]
    rw [this]; rfl
  · rw [if_neg g]
    cases hf : (List.range n).findSome? (fun i => if good i = true then none else some bad) with
    | none =>
      exfalso
      rw [List.findSome?_eq_none_iff] at hf
      refine g fun j hj => ?_
      have := hf j (by simpa using hj)
      by_cases g2 : good j = true
      · exact g2
      · simp [g2] at this
    | some e =>
      obtain ⟨i, hi, he⟩ := List.exists_of_findSome?_eq_some hf
      by_cases g2 : good i = true
      · simp [g2] at he
      · simp [g2] at he; simp [he]
theorem idxO_at {α : Type} (l : List α) (i : Nat) (x : α) (h : i < l.length) : idxO l (i : Int) = some (l.getD i x) := by rw [idxO_nat]; simp [List.getD, h]
theorem lt_c {i n : Nat} (h : i < n) : decide ((i : Int) < ((n : Nat) : Int)) = true := decide_eq_true (by omega)
theorem lt_n {n : Nat} : decide ((n : Int) < ((n : Nat) : Int)) = false := decide_eq_false (by omega)
theorem within_v (a lo hi : Int) : netmap_within_v a lo hi = some (decide (lo ≤ a) && decide (a ≤ hi)) := by
  unfold netmap_within_v
  cases decide (lo ≤ a) <;> rfl
theorem cond4 : ∀ b1 b2 b3 b4 : Bool, cond b1 (cond b2 (cond b3 (some b4) (some false)) (some false)) (some false) = some (b1 && (b2 && (b3 && b4))) := by decide
theorem wrap_sm {n : Nat} (h : n < 10000000) : IntKind.i64.wrap ((n : Int) + 1) = ((n + 1 : Nat) : Int) := wrap_succ n (by omega)
theorem validConfig_v (q a d p : Int) : netmap_validConfig_v ⟨q, a, d, p⟩ = some (decide (cfgP q a d p)) := by
  unfold netmap_validConfig_v
  simp only [within_v, Option.bind_some]
  rw [cond4]
  congr 1
  rw [Bool.eq_iff_iff]
  simp only [Bool.and_eq_true, decide_eq_true_eq]
  exact ⟨fun ⟨⟨a1, a2⟩, ⟨b1, b2⟩, ⟨c1, c2⟩, d1, d2⟩ => ⟨a1, a2, b1, b2, c1, c2, d1, d2⟩, fun ⟨a1, a2, b1, b2, c1, c2, d1, d2⟩ => ⟨⟨a1, a2⟩, ⟨b1, b2⟩, ⟨c1, c2⟩, d1, d2⟩⟩
def lastV (l : List Int) (i : Nat) : Int := if i = 0 then -1 else l.getD (i - 1) 0
theorem validNext_v (l : List Int) (i nb : Nat) (hl : l.length ≤ 10000000) : netmap_validNext_v l (i : Int) (nb : Int) = some (decide (rowP nb i l ∧ l.length ≤ 4)) := by
  have h := loopO_all (step := netmap_validNext_L1 l (i : Int) (nb : Int)) l.length (fun k => ((k : Int), lastV l k)) (Sum.inl ((l.length : Int), lastV l l.length)) (Sum.inr false) (fun k => decide (okAt nb i l k))
    (fun k hk hj => by
      rw [netmap_validNext_L1_eq, lt_c hk, cond_true, idxO_at l k 0 hk, Option.bind_some]
      have hw := wrap_sm (show k < 10000000 by omega)
      have hprev : 0 < k → 0 ≤ l.getD (k - 1) 0 := fun h => by have := of_decide_eq_true (hj (k - 1) (by omega)); exact this.1
      have hlast : lastV l (k + 1) = l.getD k 0 := by unfold lastV; rw [if_neg (by omega)]; rfl
      by_cases c1 : l.getD k 0 ≤ lastV l k
      · rw [decide_eq_true c1, cond_true, if_neg]
        intro h
        have := of_decide_eq_true h
        unfold lastV at c1
        split at c1
        · have := this.1; omega
        · have := this.2.2.2 (by omega); omega
      · rw [decide_eq_false c1, cond_false]
        by_cases c2 : (nb : Int) ≤ l.getD k 0
        · rw [decide_eq_true c2, cond_true, if_neg]
          intro h
          have := (of_decide_eq_true h).2.1; omega
        · rw [decide_eq_false c2, cond_false]
          by_cases c3 : l.getD k 0 = (i : Int)
          · rw [decide_eq_true c3, cond_true, if_neg]
            intro h
            exact (of_decide_eq_true h).2.2.1 c3
          · rw [decide_eq_false c3, cond_false, if_pos, hw, hlast]
            refine decide_eq_true ⟨?_, by omega, c3, fun h => ?_⟩
            · unfold lastV at c1
              split at c1
              · omega
              · have := hprev (by omega); omega
            · unfold lastV at c1
              rw [if_neg (by omega)] at c1
              omega)
    (fun _ => by rw [netmap_validNext_L1_eq, lt_n, cond_false])
  unfold netmap_validNext_v
  rw [show ((0 : Int), (-1 : Int)) = (((0 : Nat) : Int), lastV l 0) from rfl, h, Option.bind_some]
  by_cases g : ∀ j, j < l.length → decide (okAt nb i l j) = true
  · rw [if_pos g]
    simp only
    congr 1
    have hr : rowP nb i l := fun k hk => of_decide_eq_true (g k hk)
    by_cases h4 : l.length ≤ 4
    · rw [decide_eq_true (show (l.length : Int) ≤ 4 by omega), decide_eq_true ⟨hr, h4⟩]
    · rw [decide_eq_false (show ¬ (l.length : Int) ≤ 4 by omega), decide_eq_false (fun h => h4 h.2)]
  · rw [if_neg g]
    simp only
    congr 1
    symm
    exact decide_eq_false fun h => g fun j hj => decide_eq_true (h.1 j hj)
def cntS : List (List UInt8 × Int) → List (List UInt8) → List (List UInt8 × Int)
  | m, [] => m
  | m, x :: r => cntS (putS m x (IntKind.i64.wrap ((getS m x).getD 0 + 1))) r
theorem cntS_snoc (m : List (List UInt8 × Int)) (l : List (List UInt8)) (x : List UInt8) : cntS m (l ++ [x]) = putS (cntS m l) x (IntKind.i64.wrap ((getS (cntS m l) x).getD 0 + 1)) := by
  induction l generalizing m with
  | nil => rfl
  | cons y r ih => simp only [List.cons_append, cntS]; exact ih _
theorem cntS_app (m : List (List UInt8 × Int)) (a b : List (List UInt8)) : cntS m (a ++ b) = cntS (cntS m a) b := by
  induction a generalizing m with
  | nil => rfl
  | cons y r ih => simp only [List.cons_append, cntS]; exact ih _
theorem putS_keys (m : List (List UInt8 × Int)) (k : List UInt8) (v : Int) : (putS m k v).map (·.1) = if k ∈ m.map (·.1) then m.map (·.1) else m.map (·.1) ++ [k] := by
  induction m with
  | nil => simp [putS]
  | cons p r ih =>
    simp only [putS]
    by_cases h : p.1 = k
    · simp [h]
    · rw [if_neg h, List.map_cons, ih]
      by_cases h2 : k ∈ r.map (·.1)
      · rw [if_pos h2, if_pos (by simp only [List.map_cons, List.mem_cons]; exact .inr h2)]; rfl
      · rw [if_neg h2, if_neg (by simp only [List.map_cons, List.mem_cons, not_or]; exact ⟨Ne.symm h, h2⟩)]; rfl
theorem cntS_keys : ∀ (l : List (List UInt8)) (m : List (List UInt8 × Int)), (m.map (·.1)).Nodup → ((cntS m l).map (·.1)).Nodup ∧ (cntS m l).length ≤ m.length + l.length ∧ ((cntS m l).length = m.length + l.length ↔ (m.map (·.1) ++ l).Nodup)
  | [], m, h => by simp [cntS, h]
  | x :: r, m, h => by
    simp only [cntS]
    have hk := putS_keys m x (IntKind.i64.wrap ((getS m x).getD 0 + 1))
    have hlen : (putS m x (IntKind.i64.wrap ((getS m x).getD 0 + 1))).length = if x ∈ m.map (·.1) then m.length else m.length + 1 := by
      have := congrArg List.length hk
      rw [List.length_map] at this
      rw [this]; split <;> simp
    have hnd : ((putS m x (IntKind.i64.wrap ((getS m x).getD 0 + 1))).map (·.1)).Nodup := by
      rw [hk]
      split
      · exact h
      · rename_i hx
        rw [List.nodup_append]
        exact ⟨h, by simp, fun a ha b hb => by simp at hb; subst hb; intro e; subst e; exact hx ha⟩
    obtain ⟨h1, h2, h3⟩ := cntS_keys r _ hnd
    refine ⟨h1, by rw [hlen] at h2; split at h2 <;> simp <;> omega, ?_⟩
    by_cases hx : x ∈ m.map (·.1)
    · rw [hlen, if_pos hx] at h2
      constructor
      · intro he; simp at he; omega
      · intro hn
        rw [List.nodup_append] at hn
        exact (hn.2.2 x hx x (by simp) rfl).elim
    · rw [hlen, if_neg hx, hk, if_neg hx] at h3
      rw [show m.length + (x :: r).length = m.length + 1 + r.length by simp; omega, h3, List.append_assoc]
      rfl
end Go.Am
end
section
namespace Go.Am
open Go Go.Proofs
set_option maxRecDepth 100000
set_option linter.unusedVariables false
set_option linter.unusedSimpArgs false
theorem getB_cons (p : Int × Bool) (r : List (Int × Bool)) (x : Int) : getB (p :: r) x = if p.1 = x then some p.2 else getB r x := by
  unfold getB
  rw [List.find?_cons]
  by_cases h : p.1 = x
  · simp [h]
  · rw [if_neg h, beq_eq_false_iff_ne.2 h]
theorem putB_cons (p : Int × Bool) (r : List (Int × Bool)) (k : Int) (v : Bool) : putB (p :: r) k v = if p.1 = k then (k, v) :: r else p :: putB r k v := rfl
theorem delB_cons (p : Int × Bool) (r : List (Int × Bool)) (k : Int) : delB (p :: r) k = if p.1 = k then r else p :: delB r k := rfl
theorem getB_putB (m : List (Int × Bool)) (k : Int) (v : Bool) (x : Int) : getB (putB m k v) x = if x = k then some v else getB m x := by
  induction m with
  | nil =>
    have : putB [] k v = [(k, v)] := rfl
    rw [this, getB_cons]
    by_cases h : x = k
    · rw [if_pos h, if_pos h.symm]
    · rw [if_neg h, if_neg (Ne.symm h)]
  | cons p r ih =>
    rw [putB_cons, getB_cons]
    by_cases h : p.1 = k
    · rw [if_pos h, getB_cons]
      by_cases h2 : x = k
      · rw [if_pos h2, if_pos h2.symm]
      · rw [if_neg h2, if_neg (Ne.symm h2), if_neg (fun e => h2 (by rw [← e, ← h]))]
    · rw [if_neg h, getB_cons, ih]
      by_cases h2 : p.1 = x
      · rw [if_pos h2, if_pos h2, if_neg (fun e => h (by rw [h2, e]))]
      · rw [if_neg h2, if_neg h2]
theorem putB_keys (m : List (Int × Bool)) (k : Int) (v : Bool) : (putB m k v).map (·.1) = if k ∈ m.map (·.1) then m.map (·.1) else m.map (·.1) ++ [k] := by
  induction m with
  | nil => simp [putB]
  | cons p r ih =>
    rw [putB_cons]
    by_cases h : p.1 = k
    · simp [h]
    · rw [if_neg h, List.map_cons, ih]
      by_cases h2 : k ∈ r.map (·.1)
      · rw [if_pos h2, if_pos (by simp only [List.map_cons, List.mem_cons]; exact .inr h2)]; rfl
      · rw [if_neg h2, if_neg (by simp only [List.map_cons, List.mem_cons, not_or]; exact ⟨Ne.symm h, h2⟩)]; rfl
theorem delB_mem (m : List (Int × Bool)) (k x : Int) (h : x ∈ (delB m k).map (·.1)) : x ∈ m.map (·.1) := by
  induction m with
  | nil => exact h
  | cons p r ih =>
    rw [delB_cons] at h
    split at h
    · simp only [List.map_cons, List.mem_cons]; exact .inr h
    · simp only [List.map_cons, List.mem_cons] at h ⊢
      exact h.imp id ih
theorem getB_none (m : List (Int × Bool)) (x : Int) : getB m x = none ↔ x ∉ m.map (·.1) := by
  induction m with
  | nil => simp [getB]
  | cons p r ih =>
    rw [getB_cons]
    by_cases h : p.1 = x
    · simp [h]
    · rw [if_neg h, ih]; simp [Ne.symm h]
theorem delB_get (m : List (Int × Bool)) (k x : Int) (hn : (m.map (·.1)).Nodup) : ((delB m k).map (·.1)).Nodup ∧ getB (delB m k) x = if x = k then none else getB m x := by
  induction m with
  | nil => exact ⟨hn, by simp [delB, getB]⟩
  | cons p r ih =>
    simp only [List.map_cons, List.nodup_cons] at hn
    obtain ⟨h1, h2⟩ := ih hn.2
    rw [delB_cons]
    by_cases h : p.1 = k
    · rw [if_pos h]
      refine ⟨hn.2, ?_⟩
      by_cases hx : x = k
      · rw [if_pos hx, getB_none, hx, ← h]; exact hn.1
      · rw [if_neg hx, getB_cons, if_neg (fun e => hx (by rw [← e, h]))]
    · rw [if_neg h]
      refine ⟨by simp only [List.map_cons, List.nodup_cons]; exact ⟨fun hm => hn.1 (delB_mem r k _ hm), h1⟩, ?_⟩
      rw [getB_cons, getB_cons, h2]
      by_cases hp : p.1 = x
      · rw [if_pos hp, if_pos hp, if_neg (fun e => h (by rw [hp, e]))]
      · rw [if_neg hp, if_neg hp]
def MB (m : List (Int × Bool)) (f : Int → Bool) : Prop := (m.map (·.1)).Nodup ∧ ∀ x, getB m x = if f x = true then some true else none
theorem MB.nil : MB [] (fun _ => false) := ⟨by simp, fun x => by simp [getB]⟩
theorem MB.put {m : List (Int × Bool)} {f : Int → Bool} (h : MB m f) (k : Int) : MB (putB m k true) (fun x => f x || decide (x = k)) := by
  refine ⟨?_, fun x => ?_⟩
  · rw [putB_keys]
    split
    · exact h.1
    · rename_i hx
      rw [List.nodup_append]
      exact ⟨h.1, by simp, fun a ha b hb => by simp at hb; subst hb; intro e; subst e; exact hx ha⟩
  · rw [getB_putB, h.2]
    by_cases hx : x = k
    · simp [hx]
    · simp [hx]
theorem MB.del {m : List (Int × Bool)} {f : Int → Bool} (h : MB m f) (k : Int) : MB (delB m k) (fun x => f x && !decide (x = k)) := by
  refine ⟨(delB_get m k 0 h.1).1, fun x => ?_⟩
  rw [(delB_get m k x h.1).2, h.2]
  by_cases hx : x = k
  · simp [hx]
  · simp [hx]
theorem MB.pos {m : List (Int × Bool)} {f : Int → Bool} (h : MB m f) : 0 < m.length ↔ ∃ x, f x = true := by
  constructor
  · intro hm
    obtain ⟨p, r, rfl⟩ : ∃ p r, m = p :: r := by cases m with | nil => simp at hm | cons p r => exact ⟨p, r, rfl⟩
    refine ⟨p.1, ?_⟩
    have := h.2 p.1
    rw [getB_cons, if_pos rfl] at this
    by_cases hf : f p.1 = true
    · exact hf
    · rw [if_neg hf] at this; cases this
  · rintro ⟨x, hx⟩
    cases m with
    | nil => have := h.2 x; rw [if_pos hx] at this; simp [getB] at this
    | cons p r => simp
theorem MB.congr {m : List (Int × Bool)} {f g : Int → Bool} (h : MB m f) (e : ∀ x, f x = g x) : MB m g := ⟨h.1, fun x => by rw [← e]; exact h.2 x⟩
def putN (m : List (Int × Bool)) (b : Int) : Nat → List (Int × Bool)
  | 0 => m
  | n + 1 => putB (putN m b n) (b + n) true
end Go.Am
end
