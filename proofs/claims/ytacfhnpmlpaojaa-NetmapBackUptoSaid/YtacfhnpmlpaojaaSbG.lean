/- Texts of this proof, what it rests on, merged: part G. -/
import Derived.Test.YtacfhnpmlpaojaaSbF
section
namespace Go.Am
open Go Go.Proofs
set_option maxRecDepth 100000
set_option linter.unusedVariables false
set_option linter.unusedSimpArgs false
theorem MB.putN {m : List (Int × Bool)} {f : Int → Bool} (h : MB m f) (b : Int) : ∀ n : Nat, MB (putN m b n) (fun x => f x || (decide (b ≤ x) && decide (x < b + n)))
  | 0 => h.congr fun x => by
    have : (decide (b ≤ x) && decide (x < b + ((0 : Nat) : Int))) = false := by
      rw [Bool.and_eq_false_iff]
      by_cases h : b ≤ x
      · exact .inr (decide_eq_false (by omega))
      · exact .inl (decide_eq_false h)
    rw [this, Bool.or_false]
  | n + 1 => (MB.put (h.putN b n) (b + n)).congr fun x => by
    rw [Bool.or_assoc]
    congr 1
    rw [Bool.eq_iff_iff]
    simp only [Bool.or_eq_true, Bool.and_eq_true, decide_eq_true_eq]
    omega
def depM (m : List (Int × Bool)) (s : Spr) : List (Int × Bool) := if s.depot = true then putN m s.base s.slots.toNat else m
theorem MB.dep {m : List (Int × Bool)} {f : Int → Bool} (h : MB m f) (s : Spr) (hs : 0 ≤ s.slots) : MB (depM m s) (fun x => f x || inD x s) := by
  unfold depM inD
  cases s.depot
  · exact h.congr fun x => by simp
  · refine (h.putN s.base s.slots.toNat).congr fun x => ?_
    rw [Int.toNat_of_nonneg hs]; simp
theorem MB.deps {m : List (Int × Bool)} {f : Int → Bool} : ∀ (l : List Spr) (h : MB m f), (∀ s ∈ l, 0 ≤ s.slots) → MB (l.foldl depM m) (fun x => f x || l.any (inD x))
  | [], h, _ => h.congr fun x => by simp
  | s :: r, h, hs => by
    rw [List.foldl_cons]
    exact (MB.deps r (h.dep s (hs s (by simp))) (fun t ht => hs t (by simp [ht]))).congr fun x => by simp [Bool.or_assoc]
theorem slots_v (s : Spr) (m : List (Int × Bool)) (hs : 1 ≤ s.slots ∧ s.slots ≤ 4) (hb : 0 ≤ s.base ∧ s.base ≤ 100) : loopO (netmap_Valid_L3 s) (m, 0, s.base) = some (depM m s, s.slots, s.base + s.slots) := by
  have e : ∃ n : Nat, s.slots = (n : Int) := ⟨s.slots.toNat, by omega⟩
  obtain ⟨n, hn⟩ := e
  have h := loopO_thru (step := netmap_Valid_L3 s) n (fun j => (if s.depot = true then putN m s.base j else m, (j : Int), s.base + (j : Int))) (depM m s, s.slots, s.base + s.slots)
    (fun j hj => by
      rw [netmap_Valid_L3_eq, hn, lt_c hj, cond_true]
      have w1 := wrap_sm (show j < 10000000 by omega)
      have w2 : IntKind.i64.wrap (s.base + (j : Int) + 1) = s.base + ((j + 1 : Nat) : Int) := by rw [IntKind.wrap_i64]; omega
      cases s.depot
      · rw [cond_false, w1, w2]; rfl
      · rw [cond_true, w1, w2]; rfl)
    (by
      rw [netmap_Valid_L3_eq, hn, lt_n, cond_false]
      unfold depM
      rw [hn]
      rfl)
  have e0 : (m, (0 : Int), s.base) = (if s.depot = true then putN m s.base 0 else m, ((0 : Nat) : Int), s.base + ((0 : Nat) : Int)) := by
    cases s.depot <;> simp [putN]
  rw [e0, h]
end Go.Am
end
section
namespace Go.Am
open Go Go.Proofs
set_option maxRecDepth 100000
set_option linter.unusedVariables false
set_option linter.unusedSimpArgs false
theorem sumS_take (sp : List Spr) (i : Nat) (h : i < sp.length) : sumS (sp.take (i + 1)) = sumS (sp.take i) + (sp.getD i spr0).slots := by rw [take_snoc sp i spr0 h, sumS_snoc]
def goodB (n : Nt) (i : Nat) : Bool := nameB (n.blocks.getD i blk0).name && (decide (xyP (n.blocks.getD i blk0)) && decide (rowP n.blocks.length i (n.next.getD i []) ∧ (n.next.getD i []).length ≤ 4))
def goodS (n : Nt) (i : Nat) : Bool := nameB (n.spurs.getD i spr0).name && decide (spurP n.blocks.length (n.blocks.length + sumS (n.spurs.take i)) (n.spurs.getD i spr0))
theorem vblocks (n : Nt) (hl : n.blocks.length ≤ 24) (hn : n.next.length = n.blocks.length) (hr : ∀ r ∈ n.next, r.length ≤ 10000000) :
    loopO (netmap_Valid_L5 n) ([], 0) = some (if (∀ j, j < n.blocks.length → goodB n j = true) then Sum.inl (cntS [] (n.blocks.map Blk.name), (n.blocks.length : Int)) else Sum.inr false) := by
  have h := loopO_all (step := netmap_Valid_L5 n) n.blocks.length (fun i => (cntS [] ((n.blocks.take i).map Blk.name), (i : Int))) (Sum.inl (cntS [] (n.blocks.map Blk.name), (n.blocks.length : Int))) (Sum.inr false) (fun i => goodB n i)
    (fun i hi hj => by
      rw [netmap_Valid_L5_eq, lt_c hi, cond_true, idxO_at n.blocks i blk0 hi, Option.bind_some]
      have w2 := wrap_sm (show i < 10000000 by omega)
      simp only [fname_v, within_v, Option.bind_some]
      have hnx : (cntS [] ((n.blocks.take (i + 1)).map Blk.name), ((i + 1 : Nat) : Int)) =
          (putS (cntS [] ((n.blocks.take i).map Blk.name)) (n.blocks.getD i blk0).name (IntKind.i64.wrap ((getS (cntS [] ((n.blocks.take i).map Blk.name)) (n.blocks.getD i blk0).name).getD 0 + 1)), ((i + 1 : Nat) : Int)) := by
        rw [take_snoc n.blocks i blk0 hi, List.map_append, List.map_cons, List.map_nil, cntS_snoc]
      rw [hnx, idxO_at n.next i [] (by omega), Option.bind_some, validNext_v _ i n.blocks.length (by have := hr (n.next.getD i []) (getD_mem n.next i [] (by omega)); exact this), Option.bind_some]
      unfold goodB
      generalize n.blocks.getD i blk0 = b
      cases c0 : nameB b.name
      · simp
      rw [cond_true, Bool.true_and]
      by_cases c1 : (-9999) ≤ b.x ∧ b.x ≤ 9999
      rotate_left
      · have e1 : (decide ((-9999) ≤ b.x) && decide (b.x ≤ 9999)) = false := by rw [← Bool.decide_and]; exact decide_eq_false c1
        rw [e1, cond_false, if_neg (by rw [Bool.and_eq_true, decide_eq_true_eq]; intro h; exact c1 ⟨h.1.1, h.1.2.1⟩)]
      rw [show (decide ((-9999) ≤ b.x) && decide (b.x ≤ 9999)) = true by rw [← Bool.decide_and]; exact decide_eq_true c1, cond_true]
      by_cases c2 : (-9999) ≤ b.y ∧ b.y ≤ 9999
      rotate_left
      · have e1 : (decide ((-9999) ≤ b.y) && decide (b.y ≤ 9999)) = false := by rw [← Bool.decide_and]; exact decide_eq_false c2
        rw [e1, cond_false, if_neg (by rw [Bool.and_eq_true, decide_eq_true_eq]; intro h; exact c2 ⟨h.1.2.2.1, h.1.2.2.2⟩)]
      rw [show (decide ((-9999) ≤ b.y) && decide (b.y ≤ 9999)) = true by rw [← Bool.decide_and]; exact decide_eq_true c2, cond_true]
      rw [show decide (xyP b) = true from decide_eq_true ⟨c1.1, c1.2, c2.1, c2.2⟩, Bool.true_and]
      cases decide (rowP n.blocks.length i (n.next.getD i []) ∧ (n.next.getD i []).length ≤ 4)
      · simp
      · rw [cond_true, if_pos rfl, w2])
    (fun hj => by rw [netmap_Valid_L5_eq, lt_n, cond_false, List.take_length])
  exact h
theorem vspurs (n : Nt) (m : List (List UInt8 × Int)) (hb : 1 ≤ n.blocks.length ∧ n.blocks.length ≤ 24) (hl : n.spurs.length ≤ 6) :
    loopO (netmap_Valid_L4 n) (m, [], (n.blocks.length : Int), 0) = some (if (∀ j, j < n.spurs.length → goodS n j = true) then Sum.inl (cntS m (n.spurs.map Spr.name), n.spurs.foldl depM [], (n.blocks.length : Int) + sumS n.spurs, (n.spurs.length : Int)) else Sum.inr false) := by
  have hpre : ∀ i, i ≤ n.spurs.length → (∀ j, j < i → goodS n j = true) → 0 ≤ sumS (n.spurs.take i) ∧ sumS (n.spurs.take i) ≤ 4 * i := by
    intro i hi hj
    exact sumS_rng n.blocks.length n.spurs i hi (fun j h => by
      have := hj j h
      simp only [goodS, Bool.and_eq_true, decide_eq_true_eq] at this
      exact this.2)
  have h := loopO_all (step := netmap_Valid_L4 n) n.spurs.length (fun i => (cntS m ((n.spurs.take i).map Spr.name), (n.spurs.take i).foldl depM [], (n.blocks.length : Int) + sumS (n.spurs.take i), (i : Int)))
    (Sum.inl (cntS m (n.spurs.map Spr.name), n.spurs.foldl depM [], (n.blocks.length : Int) + sumS n.spurs, (n.spurs.length : Int))) (Sum.inr false) (fun i => goodS n i)
    (fun i hi hj => by
      have hs := hpre i (by omega) hj
      rw [netmap_Valid_L4_eq, lt_c hi, cond_true, idxO_at n.spurs i spr0 hi, Option.bind_some]
      have w1 : IntKind.i64.wrap ((n.blocks.length : Int) - 1) = (n.blocks.length : Int) - 1 := by rw [IntKind.wrap_i64]; omega
      have w2 := wrap_sm (show i < 10000000 by omega)
      simp only [fname_v, within_v, Option.bind_some, w1]
      have hnx : (cntS m ((n.spurs.take (i + 1)).map Spr.name), (n.spurs.take (i + 1)).foldl depM [], (n.blocks.length : Int) + sumS (n.spurs.take (i + 1)), ((i + 1 : Nat) : Int)) =
          (putS (cntS m ((n.spurs.take i).map Spr.name)) (n.spurs.getD i spr0).name (IntKind.i64.wrap ((getS (cntS m ((n.spurs.take i).map Spr.name)) (n.spurs.getD i spr0).name).getD 0 + 1)), depM ((n.spurs.take i).foldl depM []) (n.spurs.getD i spr0), (n.blocks.length : Int) + sumS (n.spurs.take i) + (n.spurs.getD i spr0).slots, ((i + 1 : Nat) : Int)) := by
        rw [sumS_take _ _ hi, take_snoc n.spurs i spr0 hi, List.map_append, List.foldl_append, List.map_cons, List.map_nil, cntS_snoc, Int.add_assoc]
        rfl
      rw [hnx]
      unfold goodS
      generalize hse : n.spurs.getD i spr0 = s
      cases c0 : nameB s.name
      · simp
      rw [cond_true, Bool.true_and]
      by_cases c1 : 0 ≤ s.inn ∧ s.inn ≤ (n.blocks.length : Int) - 1
      rotate_left
      · have e1 : (decide (0 ≤ s.inn) && decide (s.inn ≤ (n.blocks.length : Int) - 1)) = false := by rw [← Bool.decide_and]; exact decide_eq_false c1
        rw [e1, cond_false, if_neg (by rw [decide_eq_true_eq]; intro h; exact c1 ⟨h.1, by have := h.2.1; omega⟩)]
      rw [show (decide (0 ≤ s.inn) && decide (s.inn ≤ (n.blocks.length : Int) - 1)) = true by rw [← Bool.decide_and]; exact decide_eq_true c1, cond_true]
      by_cases c2 : 0 ≤ s.out ∧ s.out ≤ (n.blocks.length : Int) - 1
      rotate_left
      · have e1 : (decide (0 ≤ s.out) && decide (s.out ≤ (n.blocks.length : Int) - 1)) = false := by rw [← Bool.decide_and]; exact decide_eq_false c2
        rw [e1, cond_false, if_neg (by rw [decide_eq_true_eq]; intro h; exact c2 ⟨h.2.2.1, by have := h.2.2.2.1; omega⟩)]
      rw [show (decide (0 ≤ s.out) && decide (s.out ≤ (n.blocks.length : Int) - 1)) = true by rw [← Bool.decide_and]; exact decide_eq_true c2, cond_true]
      by_cases c3 : 1 ≤ s.slots ∧ s.slots ≤ 4
      rotate_left
      · have e1 : (decide (1 ≤ s.slots) && decide (s.slots ≤ 4)) = false := by rw [← Bool.decide_and]; exact decide_eq_false c3
        rw [e1, cond_false, if_neg (by rw [decide_eq_true_eq]; intro h; exact c3 ⟨h.2.2.2.2.1, h.2.2.2.2.2.1⟩)]
      rw [show (decide (1 ≤ s.slots) && decide (s.slots ≤ 4)) = true by rw [← Bool.decide_and]; exact decide_eq_true c3, cond_true]
      by_cases c4 : s.base = (n.blocks.length : Int) + sumS (n.spurs.take i)
      rotate_left
      · rw [decide_eq_false c4, cond_false, if_neg (by rw [decide_eq_true_eq]; intro h; exact c4 h.2.2.2.2.2.2)]
      rw [decide_eq_true c4, cond_true, if_pos (decide_eq_true ⟨c1.1, by omega, c2.1, by omega, c3.1, c3.2, c4⟩), ← c4, slots_v s _ c3 (by omega), Option.bind_some, w2])
    (fun hj => by rw [netmap_Valid_L4_eq, lt_n, cond_false, List.take_length])
  have e0 : (m, ([] : List (Int × Bool)), (n.blocks.length : Int), (0 : Int)) = (cntS m ((n.spurs.take 0).map Spr.name), (n.spurs.take 0).foldl depM [], (n.blocks.length : Int) + sumS (n.spurs.take 0), ((0 : Nat) : Int)) := by
    simp [cntS, sumS]
  rw [e0]
  exact h
theorem vrobots (n : Nt) (m : List (Int × Bool)) (f : Int → Bool) (hm : MB m f) (ok : Bool) (hl : n.robots.length ≤ 8) :
    ∃ m', loopO (netmap_Valid_L2 n) (m, ok, 0) = some (m', ok && decide (∀ i, i < n.robots.length → f (n.robots.getD i 0) = true ∧ n.robots.getD i 0 ∉ n.robots.take i), (n.robots.length : Int)) := by
  have key : ∀ k, k ≤ n.robots.length → ∃ m', MB m' (fun x => f x && decide (x ∉ n.robots.take k)) ∧
      ∀ r, loopO (netmap_Valid_L2 n) (m', ok && decide (∀ i, i < k → f (n.robots.getD i 0) = true ∧ n.robots.getD i 0 ∉ n.robots.take i), (k : Int)) = some r → loopO (netmap_Valid_L2 n) (m, ok, 0) = some r := by
    intro k
    induction k with
    | zero =>
      intro _
      refine ⟨m, hm.congr fun x => by simp, fun r hr => ?_⟩
      simp only [Nat.not_lt_zero, false_implies, implies_true, decide_true, Bool.and_true] at hr
      exact hr
    | succ k ih =>
      intro hk
      obtain ⟨m', h1, h2⟩ := ih (by omega)
      refine ⟨delB m' (n.robots.getD k 0), (h1.del _).congr fun x => ?_, fun r hr => h2 r ?_⟩
      · rw [take_snoc n.robots k 0 (by omega), Bool.and_assoc]
        congr 1
        rw [Bool.eq_iff_iff]
        simp [not_or]
      · have w2 := wrap_sm (show k < 10000000 by omega)
        rw [loopO_step, netmap_Valid_L2_eq, lt_c (by omega), cond_true, idxO_at n.robots k 0 (by omega), Option.bind_some, w2]
        have hg : (getB m' (n.robots.getD k 0)).getD false = (f (n.robots.getD k 0) && decide (n.robots.getD k 0 ∉ n.robots.take k)) := by
          rw [h1.2]
          split
          · rename_i e; simpa using e.symm
          · rename_i e; simpa using e
        have hst : decide (∀ i, i < k + 1 → f (n.robots.getD i 0) = true ∧ n.robots.getD i 0 ∉ n.robots.take i) = (decide (∀ i, i < k → f (n.robots.getD i 0) = true ∧ n.robots.getD i 0 ∉ n.robots.take i) && (f (n.robots.getD k 0) && decide (n.robots.getD k 0 ∉ n.robots.take k))) := by
          rw [Bool.eq_iff_iff]
          simp only [Bool.and_eq_true, decide_eq_true_eq]
          constructor
          · intro h
            exact ⟨fun i hi => h i (by omega), h k (by omega)⟩
          · rintro ⟨h3, h4⟩ i hi
            by_cases e : i = k
            · subst e; exact h4
            · exact h3 i (by omega)
        rw [hst] at hr
        cases c : (ok && decide (∀ i, i < k → f (n.robots.getD i 0) = true ∧ n.robots.getD i 0 ∉ n.robots.take i))
        · rw [cond_false, Option.bind_some, nextO_inl]
          rw [← Bool.and_assoc, c, Bool.false_and] at hr
          exact hr
        · rw [cond_true, Option.bind_some, nextO_inl, hg]
          rw [← Bool.and_assoc, c, Bool.true_and] at hr
          exact hr
  obtain ⟨m', h1, h2⟩ := key n.robots.length (Nat.le_refl _)
  exact ⟨m', h2 _ (by rw [loopO_step, netmap_Valid_L2_eq, lt_n, cond_false, Option.bind_some, nextO_inr])⟩
theorem vrobots0 (n : Nt) (m : List (Int × Bool)) (hl : n.robots.length ≤ 8) : ∃ r, loopO (netmap_Valid_L1 n) (m, 0) = some r := by
  have key : ∀ k (m : List (Int × Bool)) i, i + k = n.robots.length → ∃ r, loopO (netmap_Valid_L1 n) (m, (i : Int)) = some r := by
    intro k
    induction k with
    | zero =>
      intro m i hi
      obtain rfl : i = n.robots.length := by omega
      exact ⟨_, by rw [loopO_step, netmap_Valid_L1_eq, lt_n, cond_false, Option.bind_some, nextO_inr]⟩
    | succ k ih =>
      intro m i hi
      have w2 := wrap_sm (show i < 10000000 by omega)
      obtain ⟨r, hr⟩ := ih (delB m (n.robots.getD i 0)) (i + 1) (by omega)
      exact ⟨r, by rw [loopO_step, netmap_Valid_L1_eq, lt_c (by omega), cond_true, idxO_at n.robots i 0 (by omega), Option.bind_some, w2, Option.bind_some, nextO_inl]; exact hr⟩
  exact key n.robots.length m 0 (by omega)
theorem nodup_getD (l : List (List UInt8)) : l.Nodup ↔ ∀ i, i < l.length → ∀ k, k < i → l.getD i [] ≠ l.getD k [] := by
  unfold List.Nodup
  rw [List.pairwise_iff_getElem]
  constructor
  · intro h i hi k hk
    have := h k i (by omega) hi hk
    rw [getD_eq hi, getD_eq (show k < l.length by omega)]
    exact Ne.symm this
  · intro h i j hi hj hij
    have := h j hj i hij
    rw [getD_eq hi, getD_eq hj] at this
    exact Ne.symm this
theorem nvalid_v (n : Nt) (hs : smallN n) : netmap_Valid_v n = some (decide (validN n)) := by
  obtain ⟨s1, ⟨s2, s2'⟩, s3, s4⟩ := hs
  have no : ∀ {r : Option Bool}, ¬ validN n → r = some false → r = some (decide (validN n)) := fun h hr => by rw [hr, decide_eq_false h]
  unfold netmap_Valid_v
  rw [within_v, Option.bind_some]
  by_cases b1 : 1 ≤ n.blocks.length ∧ n.blocks.length ≤ 24
  rotate_left
  · refine no (fun h => b1 ⟨h.1.1, h.1.2.1⟩) ?_
    rw [show (decide ((1 : Int) ≤ ((n.blocks.length : Nat) : Int)) && decide (((n.blocks.length : Nat) : Int) ≤ 24)) = false by rw [← Bool.decide_and]; exact decide_eq_false (by omega)]
    rfl
  rw [show (decide ((1 : Int) ≤ ((n.blocks.length : Nat) : Int)) && decide (((n.blocks.length : Nat) : Int) ≤ 24)) = true by rw [← Bool.decide_and]; exact decide_eq_true (by omega), cond_true]
  by_cases b2 : n.next.length = n.blocks.length
  rotate_left
  · refine no (fun h => b2 h.1.2.2.1) ?_
    rw [decide_eq_false (by omega), cond_false]
  rw [decide_eq_true (by omega), cond_true]
  by_cases b3 : n.spurs.length ≤ 6
  rotate_left
  · refine no (fun h => b3 h.2.1) ?_
    rw [decide_eq_true (by omega), cond_true]
  rw [decide_eq_false (by omega : ¬ (6 : Int) < ((n.spurs.length : Nat) : Int)), cond_false]
  by_cases b4 : n.robots.length ≤ 8
  rotate_left
  · refine no (fun h => b4 h.2.2.2.1) ?_
    rw [decide_eq_true (by omega), cond_true]
  rw [decide_eq_false (by omega : ¬ (8 : Int) < ((n.robots.length : Nat) : Int)), cond_false, validConfig_v, Option.bind_some]
  by_cases b5 : cfgP n.cq n.ca n.cd n.cp
  rotate_left
  · refine no (fun h => b5 h.2.2.2.2.1) ?_
    rw [decide_eq_false b5, cond_false]
  rw [decide_eq_true b5, cond_true, vblocks n b1.2 b2 s2', Option.bind_some]
  by_cases b6 : ∀ j, j < n.blocks.length → goodB n j = true
  rotate_left
  · refine no (fun h => b6 fun j hj => ?_) ?_
    · have h1 := h.1.2.2.2 j hj
      have h2 := (h.2.2.1 j (by simp [namesN]; omega)).1
      have h3 : (namesN n).getD j [] = (n.blocks.getD j blk0).name := by
        unfold namesN
        simp [List.getD, List.getElem?_append, hj]
      rw [h3] at h2
      simp only [goodB, Bool.and_eq_true, decide_eq_true_eq]
      exact ⟨h2, h1.1, h1.2.2, h1.2.1⟩
    · rw [if_neg b6]
  rw [if_pos b6]
  simp only
  rw [vspurs n _ b1 b3, Option.bind_some]
  by_cases b7 : ∀ j, j < n.spurs.length → goodS n j = true
  rotate_left
  · refine no (fun h => b7 fun j hj => ?_) ?_
    · have h1 := h.2.2.2.2.2.1 j hj
      have h2 := (h.2.2.1 (n.blocks.length + j) (by simp [namesN]; omega)).1
      have h3 : (namesN n).getD (n.blocks.length + j) [] = (n.spurs.getD j spr0).name := by
        unfold namesN
        simp [List.getD, List.getElem?_append, hj]
      rw [h3] at h2
      simp only [goodS, Bool.and_eq_true, decide_eq_true_eq]
      exact ⟨h2, h1⟩
    · rw [if_neg b7]
  rw [if_pos b7]
  simp only
  have g6 : ∀ j, j < n.blocks.length → nameB (n.blocks.getD j blk0).name = true ∧ xyP (n.blocks.getD j blk0) ∧ (n.next.getD j []).length ≤ 4 ∧ rowP n.blocks.length j (n.next.getD j []) := fun j hj => by
    have := b6 j hj
    simp only [goodB, Bool.and_eq_true, decide_eq_true_eq] at this
    exact ⟨this.1, this.2.1, this.2.2.2, this.2.2.1⟩
  have g7 : ∀ j, j < n.spurs.length → nameB (n.spurs.getD j spr0).name = true ∧ spurP n.blocks.length (n.blocks.length + sumS (n.spurs.take j)) (n.spurs.getD j spr0) := fun j hj => by
    have := b7 j hj
    simp only [goodS, Bool.and_eq_true, decide_eq_true_eq] at this
    exact this
  have hslots : ∀ s ∈ n.spurs, 1 ≤ s.slots := by
    intro s hs
    obtain ⟨i, hi, rfl⟩ := List.getElem_of_mem hs
    have := (g7 i hi).2.2.2.2.2.1
    rwa [getD_eq hi] at this
  have hM := (MB.deps n.spurs MB.nil (fun s hs => by have := hslots s hs; omega)).congr (g := fun x => n.spurs.any (inD x)) (fun x => by simp)
  have hdep : (0 < (n.spurs.foldl depM []).length) ↔ 0 < (n.spurs.filter Spr.depot).length := by
    rw [hM.pos, List.length_pos_iff_exists_mem]
    constructor
    · rintro ⟨x, hx⟩
      obtain ⟨s, hs, h⟩ := List.any_eq_true.1 hx
      refine ⟨s, List.mem_filter.2 ⟨hs, ?_⟩⟩
      unfold inD at h
      simp only [Bool.and_eq_true] at h
      exact h.1
    · rintro ⟨s, hs⟩
      obtain ⟨hs, hd⟩ := List.mem_filter.1 hs
      refine ⟨s.base, List.any_eq_true.2 ⟨s, hs, ?_⟩⟩
      have := hslots s hs
      simp [inD, hd]
      omega
  have hkeys := cntS_keys (namesN n) [] (by simp)
  have hcnt : cntS (cntS [] (n.blocks.map Blk.name)) (n.spurs.map Spr.name) = cntS [] (namesN n) := by rw [← cntS_app]; rfl
  have hnl : (namesN n).length = n.blocks.length + n.spurs.length := by simp [namesN]
  rw [hcnt]
  have w1 : IntKind.i64.wrap (((n.blocks.length : Nat) : Int) + ((n.spurs.length : Nat) : Int)) = ((n.blocks.length + n.spurs.length : Nat) : Int) := by rw [IntKind.wrap_i64]; omega
  have hnn : namesP n ↔ (namesN n).Nodup := by
    rw [nodup_getD]
    constructor
    · intro h i hi k hk
      exact (h i hi).2 k hk
    · intro h i hi
      refine ⟨?_, fun k hk => h i hi k hk⟩
      by_cases hb : i < n.blocks.length
      · have h3 : (namesN n).getD i [] = (n.blocks.getD i blk0).name := by
          unfold namesN
          simp [List.getD, List.getElem?_append, hb]
        rw [h3]; exact (g6 i hb).1
      · have h3 : (namesN n).getD i [] = (n.spurs.getD (i - n.blocks.length) spr0).name := by
          unfold namesN
          simp [List.getD, List.getElem?_append, hb, show i - n.blocks.length < n.spurs.length by omega]
        rw [h3]; exact (g7 _ (by omega)).1
  have hok : decide ((((cntS [] (namesN n)).length : Nat) : Int) = ((n.blocks.length + n.spurs.length : Nat) : Int)) = decide (namesP n) := by
    rw [Bool.eq_iff_iff, decide_eq_true_eq, decide_eq_true_eq, hnn]
    have := hkeys.2.2
    simp only [List.length_nil, Nat.zero_add, List.map_nil, List.nil_append] at this
    rw [← this, hnl]
    omega
  by_cases b8 : 0 < (n.spurs.foldl depM []).length
  · rw [decide_eq_true (by omega : (0 : Int) < (((n.spurs.foldl depM []).length : Nat) : Int)), cond_true, w1, hok]
    obtain ⟨m', hm'⟩ := vrobots n (n.spurs.foldl depM []) _ hM (decide (namesP n)) b4
    rw [hm', Option.bind_some]
    simp only
    congr 1
    rw [Bool.eq_iff_iff, Bool.and_eq_true, decide_eq_true_eq, decide_eq_true_eq, decide_eq_true_eq]
    constructor
    · rintro ⟨h1, h2⟩
      exact ⟨⟨b1.1, b1.2, b2, fun i hi => (g6 i hi).2⟩, b3, h1, b4, b5, fun i hi => (g7 i hi).2, h2, hdep.1 b8⟩
    · intro h
      exact ⟨h.2.2.1, h.2.2.2.2.2.2.1⟩
  · rw [decide_eq_false (by omega : ¬ (0 : Int) < (((n.spurs.foldl depM []).length : Nat) : Int)), cond_false]
    obtain ⟨r, hr⟩ := vrobots0 n (n.spurs.foldl depM []) b4
    rw [hr, Option.bind_some]
    exact no (fun h => b8 (hdep.2 h.2.2.2.2.2.2.2)) rfl
end Go.Am
end
section
namespace Go.Am
open Go Go.Proofs
set_option maxRecDepth 100000
set_option linter.unusedVariables false
set_option linter.unusedSimpArgs false
theorem gde {α : Type} {l : List α} {k : Nat} {x : α} (h : k < l.length) : l.getD k x = l[k] := by simp [List.getD, h]
theorem dt {a : Prop} [Decidable a] (h : a) : decide a = true := decide_eq_true h
theorem sameInts_self (l : List Int) (h : l.length ≤ 10000000) : mk_SameInts_v l l = some true := by
  have hl := loopO_thru (step := mk_SameInts_L1 l l) l.length (fun k => (k : Int)) (Sum.inl ((l.length : Nat) : Int))
    (fun k hk => by
      rw [mk_SameInts_L1_eq, lt_c hk, cond_true, idxO_at l k 0 hk]
      simp only [Option.bind_some]
      simp only [decide_true, cond_true, Option.bind_some, Bool.and_self, beq_self_eq_true, eq_self_iff_true, Bool.true_and]
      rw [wrap_sm (by omega)])
    (by rw [mk_SameInts_L1_eq, lt_n, cond_false])
  unfold mk_SameInts_v
  rw [dt rfl, cond_true, show (0 : Int) = ((0 : Nat) : Int) from rfl, hl, Option.bind_some]
theorem sameStrings_self (l : List (List UInt8)) (h : l.length ≤ 10000000) : mk_SameStrings_v l l = some true := by
  have hl := loopO_thru (step := mk_SameStrings_L1 l l) l.length (fun k => (k : Int)) (Sum.inl ((l.length : Nat) : Int))
    (fun k hk => by
      rw [mk_SameStrings_L1_eq, lt_c hk, cond_true, idxO_at l k [] hk]
      simp only [Option.bind_some]
      simp only [decide_true, cond_true, Option.bind_some, Bool.and_self, beq_self_eq_true, eq_self_iff_true, Bool.true_and]
      rw [wrap_sm (by omega)])
    (by rw [mk_SameStrings_L1_eq, lt_n, cond_false])
  unfold mk_SameStrings_v
  rw [dt rfl, cond_true, show (0 : Int) = ((0 : Nat) : Int) from rfl, hl, Option.bind_some]
theorem sameLists_self (l : List (List Int)) (h : l.length ≤ 10000000) (h2 : ∀ r ∈ l, r.length ≤ 10000000) : mk_SameLists_v l l = some true := by
  have hl := loopO_thru (step := mk_SameLists_L1 l l) l.length (fun k => (k : Int)) (Sum.inl ((l.length : Nat) : Int))
    (fun k hk => by
      rw [mk_SameLists_L1_eq, lt_c hk, cond_true, idxO_at l k [] hk]
      simp only [Option.bind_some]
      rw [sameInts_self _ (h2 _ (by rw [gde hk]; exact List.getElem_mem hk))]
      simp only [Option.bind_some]
      rw [cond_true, wrap_sm (by omega)])
    (by rw [mk_SameLists_L1_eq, lt_n, cond_false])
  unfold mk_SameLists_v
  rw [dt rfl, cond_true, show (0 : Int) = ((0 : Nat) : Int) from rfl, hl, Option.bind_some]
theorem sameDecls_self (l : List Dc) (h : l.length ≤ 10000000) (h2 : ∀ x ∈ l, x.names.length ≤ 10000000 ∧ x.nums.length ≤ 10000000) : sameDecls_v l l = some true := by
  have hl := loopO_thru (step := sameDecls_L1 l l) l.length (fun k => (k : Int)) (Sum.inl ((l.length : Nat) : Int))
    (fun k hk => by
      rw [sameDecls_L1_eq, lt_c hk, cond_true, idxO_at l k (l[k]'hk) hk]
      simp only [Option.bind_some]
      have hm : l.getD k (l[k]'hk) ∈ l := by rw [gde hk]; exact List.getElem_mem hk
      simp only [decide_true, cond_true, Option.bind_some, Bool.and_self, beq_self_eq_true, eq_self_iff_true, Bool.true_and]
      rw [sameStrings_self _ (h2 _ hm).1]
      simp only [Option.bind_some]
      rw [cond_true, sameInts_self _ (h2 _ hm).2]
      simp only [Option.bind_some]
      rw [cond_true, wrap_sm (by omega)])
    (by rw [sameDecls_L1_eq, lt_n, cond_false])
  unfold sameDecls_v
  rw [dt rfl, cond_true, show (0 : Int) = ((0 : Nat) : Int) from rfl, hl, Option.bind_some]
theorem sameNet_self (n : Nt) (h1 : n.blocks.length ≤ 10000000) (h2 : n.next.length ≤ 10000000) (h3 : ∀ r ∈ n.next, r.length ≤ 10000000) (h4 : n.spurs.length ≤ 10000000) (h5 : n.robots.length ≤ 10000000) : sameNet_v n n = some true := by
  have hl2 := loopO_thru (step := sameNet_L2 n n) n.blocks.length (fun k => (k : Int)) (Sum.inl ((n.blocks.length : Nat) : Int))
    (fun k hk => by
      rw [sameNet_L2_eq, lt_c hk, cond_true, idxO_at n.blocks k (n.blocks[k]'hk) hk]
      simp only [Option.bind_some]
      simp only [decide_true, cond_true, Option.bind_some, Bool.and_self, beq_self_eq_true, eq_self_iff_true, Bool.true_and]
      rw [wrap_sm (by omega)])
    (by rw [sameNet_L2_eq, lt_n, cond_false])
  have hl1 := loopO_thru (step := sameNet_L1 n n) n.spurs.length (fun k => (k : Int)) (Sum.inl ((n.spurs.length : Nat) : Int))
    (fun k hk => by
      rw [sameNet_L1_eq, lt_c hk, cond_true, idxO_at n.spurs k (n.spurs[k]'hk) hk]
      simp only [Option.bind_some]
      simp only [decide_true, cond_true, Option.bind_some, Bool.and_self, beq_self_eq_true, eq_self_iff_true, Bool.true_and]
      rw [wrap_sm (by omega)])
    (by rw [sameNet_L1_eq, lt_n, cond_false])
  unfold sameNet_v
  rw [dt rfl, cond_true, sameLists_self _ h2 h3]
  simp only [Option.bind_some]
  simp only [decide_true, cond_true, Option.bind_some, Bool.and_self, beq_self_eq_true, eq_self_iff_true, Bool.true_and]
  rw [sameInts_self _ h5]
  simp only [decide_true, cond_true, Option.bind_some, Bool.and_self, beq_self_eq_true, eq_self_iff_true, Bool.true_and]
  rw [show (0 : Int) = ((0 : Nat) : Int) from rfl, hl2]
  simp only [Option.bind_some]
  rw [hl1]
  rfl
end Go.Am
end
section
namespace Go.Am
open Go Go.Proofs
set_option maxRecDepth 100000
set_option linter.unusedVariables false
set_option linter.unusedSimpArgs false
theorem filter_one {α : Type} (p : α → Bool) (x0 : α) : ∀ (l : List α) (j : Nat), j < l.length → p (l.getD j x0) = true → (∀ k, k < l.length → k ≠ j → p (l.getD k x0) = false) → l.filter p = [l.getD j x0]
  | [], j, h, _, _ => by simp at h
  | x :: r, 0, _, h, hu => by
    have hx : p x = true := h
    rw [List.filter_cons_of_pos hx]
    have : r.filter p = [] := by
      rw [List.filter_eq_nil_iff]
      intro y hy
      obtain ⟨k, hk, rfl⟩ := List.mem_iff_getElem.1 hy
      have := hu (k + 1) (by simp; omega) (by omega)
      rw [List.getD_cons_succ, gde hk] at this
      simp [this]
    rw [this]; rfl
  | x :: r, j + 1, hj, h, hu => by
    have hx : p x = false := hu 0 (by simp) (by omega)
    rw [List.filter_cons_of_neg (by simp [hx])]
    exact filter_one p x0 r j (by simpa using hj) (by simpa using h) (fun k hk hne => by have := hu (k + 1) (by simpa using hk) (by omega); simpa using this)
theorem sumT_mono (nb : Nat) (l : List Spr) (h : spursP nb l) : ∀ (b a : Nat), a ≤ b → b ≤ l.length → sumS (l.take a) ≤ sumS (l.take b)
  | 0, a, ha, _ => by have : a = 0 := by omega
                      subst this; exact Int.le_refl _
  | b + 1, a, ha, hb => by
    rcases Nat.lt_or_ge b a with h1 | h1
    · have : a = b + 1 := by omega
      subst this; exact Int.le_refl _
    · have h2 := sumT_mono nb l h b a h1 (by omega)
      have h3 := (h b (by omega)).2.2.2.2.1
      rw [take_snoc l b spr0 (by omega), sumS_snoc]
      omega
theorem inS_rng {nb : Nat} {l : List Spr} (h : spursP nb l) {i : Nat} (hi : i < l.length) {r : Int} (h1 : inS r (l.getD i spr0) = true) : (nb : Int) + sumS (l.take i) ≤ r ∧ r < (nb : Int) + sumS (l.take (i + 1)) := by
  have h2 := (h i hi).2.2.2.2.2.2
  rw [take_snoc l i spr0 hi, sumS_snoc]
  simp only [inS, Bool.and_eq_true, decide_eq_true_eq] at h1
  rw [h2] at h1
  omega
theorem inS_one {nb : Nat} {l : List Spr} (h : spursP nb l) {i j : Nat} (hi : i < l.length) (hj : j < l.length) {r : Int} (h1 : inS r (l.getD i spr0) = true) (h2 : inS r (l.getD j spr0) = true) : i = j := by
  have a := inS_rng h hi h1
  have b := inS_rng h hj h2
  rcases Nat.lt_trichotomy i j with c | c | c
  · have := sumT_mono nb l h j (i + 1) (by omega) (by omega); omega
  · exact c
  · have := sumT_mono nb l h i (j + 1) (by omega) (by omega); omega
theorem rob_spur {nb : Nat} {sp : List Spr} (h : spursP nb sp) {rb : List Int} (hr : robotsP sp rb) {k : Nat} (hk : k < rb.length) :
    ∃ j, j < sp.length ∧ inS (rb.getD k 0) (sp.getD j spr0) = true ∧ (sp.getD j spr0).depot = true ∧ sp.filter (inS (rb.getD k 0)) = [sp.getD j spr0] := by
  have h1 := (hr k hk).1
  rw [List.any_eq_true] at h1
  obtain ⟨s, hs, h2⟩ := h1
  obtain ⟨j, hj, rfl⟩ := List.mem_iff_getElem.1 hs
  have e : sp.getD j spr0 = sp[j] := gde hj
  simp only [inD, Bool.and_eq_true] at h2
  have h3 : inS (rb.getD k 0) (sp.getD j spr0) = true := by rw [e]; simp only [inS, Bool.and_eq_true]; exact h2.2
  refine ⟨j, hj, h3, by rw [e]; exact h2.1, filter_one _ _ _ j hj h3 fun i hi hne => ?_⟩
  cases c : inS (rb.getD k 0) (sp.getD i spr0)
  · rfl
  · exact (hne (inS_one h hi hj c h3)).elim
theorem add_v (w : Int) (ns : List (List UInt8)) (nu : List Int) (L : List Dc) (h : L.length + 1 < 10000000) : netmap_Describe_1_v w ns nu (numD 0 L) = some (numD 0 (L ++ [⟨w, 0, ns, nu⟩])) := by
  unfold netmap_Describe_1_v
  rw [numD_len, decide_eq_true h, cond_true, numD_app, wrap_sm (by omega)]
  simp [numD]
theorem nd5 (n : Nt) (h : n.blocks.length ≤ 24) : loopO (ndescribe_L5 n) ([], 0) = some (numD 0 (desc1 n), (n.blocks.length : Int)) := by
  have hl := loopO_thru (step := ndescribe_L5 n) n.blocks.length (fun k => (numD 0 ((n.blocks.take k).map blkD), (k : Int))) (numD 0 (desc1 n), (n.blocks.length : Int))
    (fun k hk => by
      rw [ndescribe_L5_eq, lt_c hk, cond_true, idxO_at n.blocks k blk0 hk, Option.bind_some, add_v _ _ _ _ (by simp; omega), Option.bind_some, wrap_sm (by omega), take_snoc n.blocks k blk0 hk, List.map_append]; rfl)
    (by rw [ndescribe_L5_eq, lt_n, cond_false]; simp [desc1])
  exact hl
theorem nd3 (n : Nt) (acc : List Dc) (i : Nat) (row : List Int) (ha : acc.length ≤ 1000) (hr4 : row.length ≤ 4) (hrow : rowP n.blocks.length i row) (hi : i < n.blocks.length) :
    loopO (ndescribe_L3 n (i : Int) row) (numD 0 acc, 0) = some (numD 0 (acc ++ row.map (lanD n i)), (row.length : Int)) := by
  have hl := loopO_thru (step := ndescribe_L3 n (i : Int) row) row.length (fun k => (numD 0 (acc ++ (row.take k).map (lanD n i)), (k : Int))) (numD 0 (acc ++ row.map (lanD n i)), (row.length : Int))
    (fun k hk => by
      have hro := hrow k hk
      obtain ⟨x, hx⟩ : ∃ x : Nat, row.getD k 0 = (x : Int) := ⟨(row.getD k 0).toNat, by have := hro.1; omega⟩
      have hxb : x < n.blocks.length := by have := hro.2.1; omega
      rw [ndescribe_L3_eq, lt_c hk, cond_true, idxO_at row k 0 hk, Option.bind_some, idxO_at n.blocks i blk0 hi, Option.bind_some, hx, idxO_at n.blocks x blk0 hxb, Option.bind_some, add_v _ _ _ _ (by simp; omega), Option.bind_some, wrap_sm (by omega), take_snoc row k 0 hk, List.map_append, hx, List.append_assoc]; rfl)
    (by rw [ndescribe_L3_eq, lt_n, cond_false]; simp)
  simpa using hl
theorem desc2_len (n : Nt) (hb : blocksP n) (i : Nat) (hi : i ≤ n.blocks.length) : (desc2 n i).length ≤ 4 * i := by
  induction i with
  | zero => simp [desc2]
  | succ i ih =>
    rw [desc2_succ, List.length_append]
    have h1 := ih (by omega)
    have h2 := (hb.2.2.2 i (by omega)).2.1
    simp only [lanL, List.length_map]
    omega
theorem nd4 (n : Nt) (hb : blocksP n) : loopO (ndescribe_L4 n) (numD 0 (desc1 n), 0) = some (numD 0 (desc1 n ++ desc2 n n.blocks.length), (n.next.length : Int)) := by
  have hb24 := hb.2.1
  have hnl := hb.2.2.1
  have hl := loopO_thru (step := ndescribe_L4 n) n.next.length (fun k => (numD 0 (desc1 n ++ desc2 n k), (k : Int))) (numD 0 (desc1 n ++ desc2 n n.blocks.length), (n.next.length : Int))
    (fun k hk => by
      have hd2 := desc2_len n hb k (by omega)
      obtain ⟨_, h4, hrow⟩ := hb.2.2.2 k (by omega)
      rw [ndescribe_L4_eq, lt_c hk, cond_true, idxO_at n.next k [] hk, Option.bind_some, nd3 n _ k _ (by simp [desc1]; omega) h4 hrow (by omega), Option.bind_some, wrap_sm (by omega), desc2_succ, lanL, List.append_assoc])
    (by rw [ndescribe_L4_eq, lt_n, cond_false, hnl])
  have h0 : desc2 n 0 = [] := rfl
  simpa [h0] using hl
theorem spur_blk {nb : Nat} {l : List Spr} (h : spursP nb l) {k : Nat} (hk : k < l.length) : ∃ x y : Nat, (l.getD k spr0).inn = (x : Int) ∧ x < nb ∧ (l.getD k spr0).out = (y : Int) ∧ y < nb := by
  obtain ⟨a, b, c, d, _⟩ := h k hk
  exact ⟨(l.getD k spr0).inn.toNat, (l.getD k spr0).out.toNat, by omega, by omega, by omega, by omega⟩
theorem nd2 (n : Nt) (acc : List Dc) (ha : acc.length ≤ 1000) (hs : n.spurs.length ≤ 6) (hsp : spursP n.blocks.length n.spurs) : loopO (ndescribe_L2 n) (numD 0 acc, 0) = some (numD 0 (acc ++ desc3 n), (n.spurs.length : Int)) := by
  have hl := loopO_thru (step := ndescribe_L2 n) n.spurs.length (fun k => (numD 0 (acc ++ (n.spurs.take k).map (sprD n)), (k : Int))) (numD 0 (acc ++ desc3 n), (n.spurs.length : Int))
    (fun k hk => by
      obtain ⟨x, y, hx, hxb, hy, hyb⟩ := spur_blk hsp hk
      rw [ndescribe_L2_eq, lt_c hk, cond_true, idxO_at n.spurs k spr0 hk, Option.bind_some, hx, hy, idxO_at n.blocks x blk0 hxb, Option.bind_some, idxO_at n.blocks y blk0 hyb, Option.bind_some, take_snoc n.spurs k spr0 hk, List.map_append]
      have hsd : sprD n (n.spurs.getD k spr0) = ⟨if (n.spurs.getD k spr0).depot then 4 else 3, 0, [(n.spurs.getD k spr0).name, (n.blocks.getD x blk0).name, (n.blocks.getD y blk0).name], [(n.spurs.getD k spr0).slots]⟩ := by
        simp only [sprD, bnm, hx, hy, Int.toNat_natCast]
      simp only [List.map_cons, List.map_nil, hsd]
      cases (n.spurs.getD k spr0).depot
      · rw [cond_false, Option.bind_some, Option.bind_some, add_v _ _ _ _ (by simp; omega), Option.bind_some, wrap_sm (by omega), List.append_assoc]; rfl
      · rw [cond_true, add_v _ _ _ _ (by simp; omega), Option.bind_some, wrap_sm (by omega), List.append_assoc]; rfl)
    (by rw [ndescribe_L2_eq, lt_n, cond_false]; simp [desc3])
  simpa using hl
theorem desc2_v (s : Spr) (r : Int) (hb : 0 ≤ s.base ∧ s.base ≤ 1000) (hs : 0 ≤ s.slots ∧ s.slots ≤ 1000) : netmap_Describe_2_v s r = some (inS r s, r) := by
  unfold netmap_Describe_2_v inS
  rw [wrap_i64_id (by omega) (by omega)]
  cases decide (s.base ≤ r) <;> rfl
theorem spur_sml {nb : Nat} {l : List Spr} (h : spursP nb l) (hl : l.length ≤ 6) (hn : nb ≤ 24) {k : Nat} (hk : k < l.length) : (0 ≤ (l.getD k spr0).base ∧ (l.getD k spr0).base ≤ 100) ∧ 1 ≤ (l.getD k spr0).slots ∧ (l.getD k spr0).slots ≤ 4 := by
  have := h k hk
  have h2 := sumS_rng nb l k (by omega) (fun j hj => h j (by omega))
  obtain ⟨_, _, _, _, a, b, c⟩ := this
  omega
theorem indf_v (nb : Nat) (l : List Spr) (h : spursP nb l) (hl : l.length ≤ 6) (hn : nb ≤ 24) (r : Int) (j : Nat) (hj : j < l.length) (h1 : inS r (l.getD j spr0) = true) : slices_IndexFunc_v l r = some ((j : Int), r) := by
  have hl2 := loopO_thru (step := slices_IndexFunc_L1 l) j (fun k => (r, (k : Int))) (Sum.inr ((j : Int), r))
    (fun k hk => by
      have hkl : k < l.length := by omega
      obtain ⟨a, b⟩ := spur_sml h hl hn hkl
      have hf : inS r (l.getD k spr0) = false := by
        cases c : inS r (l.getD k spr0)
        · rfl
        · have := inS_one h hkl hj c h1; omega
      rw [slices_IndexFunc_L1_eq, lt_c hkl, cond_true, idxO_at l k spr0 hkl, Option.bind_some, desc2_v _ _ (by simp only; omega) (by simp only; omega), Option.bind_some]
      show cond (inS r (l.getD k spr0)) _ _ = _
      rw [hf, cond_false, wrap_sm (by omega)])
    (by
      obtain ⟨a, b⟩ := spur_sml h hl hn hj
      rw [slices_IndexFunc_L1_eq, lt_c hj, cond_true, idxO_at l j spr0 hj, Option.bind_some, desc2_v _ _ (by simp only; omega) (by simp only; omega), Option.bind_some]
      show cond (inS r (l.getD j spr0)) _ _ = _
      rw [h1, cond_true])
  unfold slices_IndexFunc_v
  rw [show (r, (0 : Int)) = (r, ((0 : Nat) : Int)) from rfl, hl2]
  rfl
theorem desc4_len (n : Nt) (hsp : spursP n.blocks.length n.spurs) (hr : robotsP n.spurs n.robots) : ∀ k, k ≤ n.robots.length → (desc4 n k).length = k := by
  intro k
  induction k with
  | zero => intro _; rfl
  | succ k ih =>
    intro hk
    obtain ⟨j, _, _, _, hf⟩ := rob_spur hsp hr (show k < n.robots.length by omega)
    rw [desc4_succ n k (by omega), List.length_append, ih (by omega), robL, List.take_length, hf]; rfl
theorem nd1 (n : Nt) (acc : List Dc) (ha : acc.length ≤ 1000) (hb : n.blocks.length ≤ 24) (hs : n.spurs.length ≤ 6) (hrl : n.robots.length ≤ 8) (hsp : spursP n.blocks.length n.spurs) (hr : robotsP n.spurs n.robots) :
    loopO (ndescribe_L1 n) (numD 0 acc, 0) = some (numD 0 (acc ++ desc4 n n.robots.length), (n.robots.length : Int)) := by
  have hl := loopO_thru (step := ndescribe_L1 n) n.robots.length (fun k => (numD 0 (acc ++ desc4 n k), (k : Int))) (numD 0 (acc ++ desc4 n n.robots.length), (n.robots.length : Int))
    (fun k hk => by
      obtain ⟨j, hj, h1, _, hf⟩ := rob_spur hsp hr hk
      have h4 := desc4_len n hsp hr k (by omega)
      obtain ⟨a, b⟩ := spur_sml hsp hs hb hj
      rw [ndescribe_L1_eq, lt_c hk, cond_true, idxO_at n.robots k 0 hk, Option.bind_some, indf_v _ _ hsp hs hb _ j hj h1, Option.bind_some]
      simp only
      rw [idxO_at n.spurs j spr0 hj, Option.bind_some, desc4_succ n k hk, robL, List.take_length, hf]
      simp only [inS, Bool.and_eq_true, decide_eq_true_eq] at h1
      generalize n.robots.getD k 0 = r at *
      rw [wrap_i64_id (x := r - (n.spurs.getD j spr0).base) (by omega) (by omega), wrap_i64_id (by omega) (by omega), add_v _ _ _ _ (by simp; omega), Option.bind_some, wrap_sm (by omega), List.append_assoc]; rfl)
    (by rw [ndescribe_L1_eq, lt_n, cond_false])
  have h0 : desc4 n 0 = [] := rfl
  simpa [h0] using hl
theorem validN_small {n : Nt} (h : validN n) : smallN n := small_of_valid h
theorem ndescribe_at (n : Nt) (hs : smallN n) : ndescribe_v n = some (if validN n then (descV n, 0) else ([], 20)) := by
  unfold ndescribe_v
  rw [show (⟨n.blocks, n.next, n.spurs, n.robots, n.cq, n.ca, n.cd, n.cp⟩ : Nt) = n from rfl, nvalid_v n hs, Option.bind_some]
  by_cases hv : validN n
  · rw [decide_eq_true hv, cond_true, if_pos hv]
    obtain ⟨hb, hs6, _, hr8, _, hsp, hrb, _⟩ := hv
    have hd2 := desc2_len n hb n.blocks.length (Nat.le_refl _)
    have h4 := desc4_len n hsp hrb _ (Nat.le_refl _)
    have hb24 := hb.2.1
    have e1 : (desc1 n).length = n.blocks.length := by simp [desc1]
    have e3 : (desc3 n).length = n.spurs.length := by simp [desc3]
    rw [nd5 n hb24, Option.bind_some]
    simp only
    rw [nd4 n hb, Option.bind_some]
    simp only
    rw [nd2 n _ (by simp; omega) hs6 hsp, Option.bind_some]
    simp only
    rw [nd1 n _ (by simp; omega) hb24 hs6 hr8 hsp hrb, Option.bind_some]
    simp only
    rw [add_v _ _ _ _ (by simp; omega), Option.bind_some]
    rfl
  · rw [decide_eq_false hv, cond_false, if_neg hv]
theorem descV_len (n : Nt) (hv : validN n) : (descV n).length ≤ 200 ∧ ∀ x ∈ descV n, x.names.length ≤ 10 ∧ x.nums.length ≤ 10 := by
  obtain ⟨hb, hs6, _, hr8, _, hsp, hrb, _⟩ := hv
  have hd2 := desc2_len n hb n.blocks.length (Nat.le_refl _)
  have h4 := desc4_len n hsp hrb _ (Nat.le_refl _)
  have hb24 := hb.2.1
  have e1 : (desc1 n).length = n.blocks.length := by simp [desc1]
  have e3 : (desc3 n).length = n.spurs.length := by simp [desc3]
  refine ⟨by rw [descV, numD_len, desc0]; simp; omega, ?_⟩
  have key : ∀ (L : List Dc) (i : Nat), (∀ x ∈ L, x.names.length ≤ 10 ∧ x.nums.length ≤ 10) → ∀ x ∈ numD i L, x.names.length ≤ 10 ∧ x.nums.length ≤ 10 := by
    intro L
    induction L with
    | nil => intro i _ x hx; simp [numD] at hx
    | cons y r ih =>
      intro i h x hx
      simp only [numD, List.mem_cons] at hx
      rcases hx with rfl | hx
      · exact h y (by simp)
      · exact ih _ (fun z hz => h z (by simp [hz])) x hx
  refine key _ _ fun x hx => ?_
  simp only [desc0, List.mem_append, List.mem_singleton] at hx
  rcases hx with (((hx | hx) | hx) | hx) | rfl
  · obtain ⟨b, _, rfl⟩ := List.mem_map.1 hx; simp [blkD]
  · obtain ⟨i, _, hx⟩ := List.mem_flatMap.1 hx
    obtain ⟨b, _, rfl⟩ := List.mem_map.1 hx; simp [lanD]
  · obtain ⟨b, _, rfl⟩ := List.mem_map.1 hx; simp [sprD]
  · obtain ⟨i, _, hx⟩ := List.mem_flatMap.1 hx
    obtain ⟨b, _, rfl⟩ := List.mem_map.1 hx; simp [robD]
  · simp
open Classical in
noncomputable def rvalid_v (n : Nt) : Option Bool := if smallN n then some (decide (validN n)) else none
theorem rvalid_at (n : Nt) (h : smallN n) : rvalid_v n = some (decide (validN n)) := by unfold rvalid_v; rw [if_pos h]
theorem rvalid_vok (n : Nt) (r : Bool) (h : rvalid_v n = some r) : ACalls Try.prog 35 [.agg [.p (.sl (encK n.blocks)), .p (.sl (encG n.next)), .p (.sl (encP n.spurs)), .p (.sl (encI n.robots)), .p (.int .i64 n.cq), .p (.int .i64 n.ca), .p (.int .i64 n.cd), .p (.int .i64 n.cp)]] [] fun h d => h = [] ∧ d = .p (.bool r) := by
  by_cases hs : smallN n
  · rw [rvalid_at n hs] at h
    cases h
    exact validN_ok n hs
  · unfold rvalid_v at h; rw [if_neg hs] at h; cases h
open Classical in
noncomputable def rdesc_v (n : Nt) : Option (List Dc × Int) := if smallN n then some (if validN n then (descV n, 0) else ([], 20)) else none
theorem rdesc_at (n : Nt) (h : smallN n) : rdesc_v n = some (if validN n then (descV n, 0) else ([], 20)) := by
  unfold rdesc_v; rw [if_pos h]
theorem rdesc_bad (n : Nt) (hs : smallN n) (hn : ¬ validN n) : ACalls Try.prog 24 [.agg n.cs] [] fun h r => h = [] ∧ r = .tup [.p (.sl (encC [])), .p (.int .i64 20)] := by
  have hV := validN_ok n hs
  rw [decide_eq_false hn] at hV
  refine ACalls_X Try.func24 rfl enters24 (by simp [Try.f24]) ?_
  simp only [go_sem, Nt.cs]
  refine Cc_of ((hV)) ?_
  rintro h' r ⟨rfl, rfl⟩
  simp only [go_sem]
  try (refine end_pure ?_)
  all_goals (try simp only [go_sem, encC])
  all_goals (try (first | rfl | exact ⟨rfl, rfl⟩ | (simp; done)))
theorem rdesc_vok (n : Nt) (r : List Dc × Int) (h : rdesc_v n = some r) : ACalls Try.prog 24 [.agg [.p (.sl (encK n.blocks)), .p (.sl (encG n.next)), .p (.sl (encP n.spurs)), .p (.sl (encI n.robots)), .p (.int .i64 n.cq), .p (.int .i64 n.ca), .p (.int .i64 n.cd), .p (.int .i64 n.cp)]] [] fun h d => h = [] ∧ d = .tup [.p (.sl (encC r.1)), .p (.int .i64 r.2)] := by
  by_cases hs : smallN n
  · rw [rdesc_at n hs] at h
    by_cases hv : validN n
    · rw [if_pos hv] at h; cases h; exact describe_ok n hv
    · rw [if_neg hv] at h; cases h; exact rdesc_bad n hs hv
  · unfold rdesc_v at h; rw [if_neg hs] at h; cases h
end Go.Am
end
section
namespace Go.Am
open Go Go.Proofs
set_option maxRecDepth 100000
set_option linter.unusedVariables false
set_option linter.unusedSimpArgs false
def ixN (l : List (List UInt8)) (x : List UInt8) : Option Nat := l.findIdx? (fun y => decide (y = x))
def ixI (o : Option Nat) : Int := match o with | some i => (i : Int) | none => -1
theorem ixI_nonneg (o : Option Nat) : decide (0 ≤ ixI o) = o.isSome := by cases o <;> simp [ixI]
theorem ixI_neg (o : Option Nat) : decide (ixI o < 0) = o.isNone := by
  cases o with
  | none => rfl
  | some i => exact decide_eq_false (by simp only [ixI]; omega)
theorem ixN_some {l : List (List UInt8)} {x : List UInt8} {i : Nat} (h : ixN l x = some i) : i < l.length ∧ l.getD i [] = x := by
  unfold ixN at h
  obtain ⟨h1, h2, _⟩ := List.findIdx?_eq_some_iff_getElem.1 h
  exact ⟨h1, by rw [getD_eq h1]; simpa using h2⟩
theorem ixN_none {l : List (List UInt8)} {x : List UInt8} : ixN l x = none ↔ x ∉ l := by
  unfold ixN
  rw [List.findIdx?_eq_none_iff]
  constructor
  · intro h hx; have := h x hx; simp at this
  · intro h y hy; simp; rintro rfl; exact h hy
theorem ixN_snoc (l : List (List UInt8)) (y x : List UInt8) (hy : y ∉ l) : ixN (l ++ [y]) x = if x = y then some l.length else ixN l x := by
  unfold ixN
  rw [List.findIdx?_append]
  by_cases h : x = y
  · subst h
    have : l.findIdx? (fun z => decide (z = x)) = none := ixN_none.2 hy
    rw [this, if_pos rfl]
    simp
  · rw [if_neg h]
    cases hf : l.findIdx? (fun z => decide (z = x)) with
    | some i => rfl
    | none => simp [Ne.symm h]
theorem loop_ix {ns : List (List UInt8)} {x : List UInt8} (step : Int → Option (Int ⊕ (Int ⊕ Int))) (hl : ns.length ≤ 10000000)
    (h1 : ∀ i, i < ns.length → step (i : Int) = some (if ns.getD i [] = x then .inr (.inr (i : Int)) else .inl ((i + 1 : Nat) : Int))) (h2 : step (ns.length : Int) = some (.inr (.inl (ns.length : Int)))) :
    loopO step 0 = some (match ixN ns x with | some i => .inr (i : Int) | none => .inl (ns.length : Int)) := by
  have h := loopO_for (step := step) ns.length (fun i => (i : Int)) (Sum.inl (ns.length : Int)) (fun i => if ns.getD i [] = x then some (Sum.inr (i : Int)) else none)
    (fun i hi _ => by rw [h1 i hi]; split <;> simp_all) (fun _ => h2)
  rw [show ((0 : Nat) : Int) = 0 from rfl] at h
  rw [h]
  congr 1
  cases hx : ixN ns x with
  | none =>
    have hn := ixN_none.1 hx
    have : (List.range ns.length).findSome? (fun i => if ns.getD i [] = x then some (Sum.inr (i : Int) : Int ⊕ Int) else none) = none := by
      rw [List.findSome?_eq_none_iff]
      intro i hi
      rw [if_neg]
      intro e
      exact hn (by rw [← e]; exact getD_mem ns i [] (by simpa using hi))
    rw [this]; rfl
  | some i =>
    obtain ⟨g1, g2⟩ := ixN_some hx
    have hfst : ∀ j, j < i → ns.getD j [] ≠ x := by
      intro j hj
      have := (List.findIdx?_eq_some_iff_getElem.1 hx).2.2 j hj
      rw [getD_eq (by omega)]
      simpa using this
    have hr : List.range ns.length = List.range i ++ i :: (List.range (ns.length - i - 1)).map (· + (i + 1)) := by
      have : ns.length = i + 1 + (ns.length - i - 1) := by omega
      conv => lhs; rw [this, List.range_add, List.range_succ]
      simp [Nat.add_comm]
    rw [hr, List.findSome?_append]
    have : (List.range i).findSome? (fun i => if ns.getD i [] = x then some (Sum.inr (i : Int) : Int ⊕ Int) else none) = none := by
      rw [List.findSome?_eq_none_iff]
      intro j hj
      rw [if_neg (hfst j (by simpa using hj))]
    rw [this, Option.none_or, List.findSome?_cons, if_pos g2]
    rfl
theorem rblock_at (n : Nt) (x : List UInt8) (hl : n.blocks.length ≤ 10000000) : rblock_v n x = some (ixI (ixN (n.blocks.map Blk.name) x)) := by
  have h := loop_ix (ns := n.blocks.map Blk.name) (x := x) (rblock_L1 n x) (by simpa using hl)
    (fun i hi => by
      have hi2 : i < n.blocks.length := by simpa using hi
      rw [rblock_L1_eq, lt_c hi2, cond_true, idxO_at n.blocks i blk0 hi2, Option.bind_some, wrap_sm (by omega)]
      have e : (n.blocks.map Blk.name).getD i [] = (n.blocks.getD i blk0).name := by simp [List.getD, hi2]
      rw [e]
      by_cases c : (n.blocks.getD i blk0).name = x
      · rw [if_pos c, decide_eq_true c]; rfl
      · rw [if_neg c, decide_eq_false c]; rfl)
    (by rw [List.length_map, rblock_L1_eq, lt_n, cond_false])
  unfold rblock_v
  rw [h]
  cases ixN (n.blocks.map Blk.name) x <;> rfl
theorem rspur_at (n : Nt) (x : List UInt8) (hl : n.spurs.length ≤ 10000000) : rspur_v n x = some (ixI (ixN (n.spurs.map Spr.name) x)) := by
  have h := loop_ix (ns := n.spurs.map Spr.name) (x := x) (rspur_L1 n x) (by simpa using hl)
    (fun i hi => by
      have hi2 : i < n.spurs.length := by simpa using hi
      rw [rspur_L1_eq, lt_c hi2, cond_true, idxO_at n.spurs i spr0 hi2, Option.bind_some, wrap_sm (by omega)]
      have e : (n.spurs.map Spr.name).getD i [] = (n.spurs.getD i spr0).name := by simp [List.getD, hi2]
      rw [e]
      by_cases c : (n.spurs.getD i spr0).name = x
      · rw [if_pos c, decide_eq_true c]; rfl
      · rw [if_neg c, decide_eq_false c]; rfl)
    (by rw [List.length_map, rspur_L1_eq, lt_n, cond_false])
  unfold rspur_v
  rw [h]
  cases ixN (n.spurs.map Spr.name) x <;> rfl
end Go.Am
end
section
namespace Go.Am
open Go Go.Proofs
set_option maxRecDepth 100000
set_option linter.unusedVariables false
set_option linter.unusedSimpArgs false
set_option maxHeartbeats 1000000
theorem sortV_mem (l p : List Int) (x : Int) : x ∈ l.foldl insS p ↔ x ∈ p ∨ x ∈ l := by
  induction l generalizing p with
  | nil => simp
  | cons y r ih =>
    rw [List.foldl_cons, ih, insS_mem]
    simp only [List.mem_cons]
    constructor
    · rintro ((h | h) | h) <;> simp [h]
    · rintro (h | h | h) <;> simp [h]
theorem has_at (l : List Int) (x : Int) (hl : l.length ≤ 10000000) : has_v l x = some (decide (x ∈ l)) := by
  have h := loopO_for (step := has_L1 l x) l.length (fun i => (i : Int)) (Sum.inl (l.length : Int)) (fun i => if l.getD i 0 = x then some (Sum.inr true) else none)
    (fun i hi _ => by
      rw [has_L1_eq, lt_c hi, cond_true, idxO_at l i 0 hi, Option.bind_some, wrap_sm (by omega)]
      by_cases c : l.getD i 0 = x
      · rw [if_pos c, decide_eq_true c]; rfl
      · rw [if_neg c, decide_eq_false c]; rfl)
    (fun _ => by rw [has_L1_eq, lt_n, cond_false])
  unfold has_v
  rw [show ((0 : Nat) : Int) = 0 from rfl] at h
  rw [h]
  by_cases c : x ∈ l
  · rw [decide_eq_true c]
    cases hf : (List.range l.length).findSome? (fun i => if l.getD i 0 = x then some (Sum.inr true : Int ⊕ Bool) else none) with
    | none =>
      exfalso
      rw [List.findSome?_eq_none_iff] at hf
      obtain ⟨i, hi, e⟩ := List.getElem_of_mem c
      have := hf i (by simpa using hi)
      rw [getD_eq hi, if_pos e] at this
      cases this
    | some e =>
      obtain ⟨i, hi, he⟩ := List.exists_of_findSome?_eq_some hf
      split at he
      · cases he; rfl
      · cases he
  · rw [decide_eq_false c]
    have : (List.range l.length).findSome? (fun i => if l.getD i 0 = x then some (Sum.inr true : Int ⊕ Bool) else none) = none := by
      rw [List.findSome?_eq_none_iff]
      intro i hi
      rw [if_neg]
      intro e
      exact c (by rw [← e]; exact getD_mem l i 0 (by simpa using hi))
    rw [this]; rfl
theorem insert_at (l : List Int) (x : Int) (hl : l.length ≤ 1000000) : insert_v l x = some (insS l x) := by
  have key : ∀ (r p : List Int) (dn : Bool), p.length + 2 * r.length ≤ 3000000 → (∃ q : List Int, q.length + r.length = l.length ∧ l = q ++ r) →
      ∃ dn' i', loopO (insert_L1 l x) (p, dn, ((l.length - r.length : Nat) : Int)) = some (if dn = true then p ++ r else (if dn' = true then p ++ insS r x else p ++ r), dn', i') ∧ (dn = true → dn' = true) ∧ (dn = false → dn' = false → insS r x = r ++ [x]) := by
    intro r
    induction r with
    | nil =>
      intro p dn hp hq
      refine ⟨dn, ((l.length - 0 : Nat) : Int), ?_, id, fun h _ => by simp [insS]⟩
      rw [loopO_step, insert_L1_eq, List.length_nil, Nat.sub_zero, lt_n, cond_false, Option.bind_some, nextO_inr]
      cases dn <;> simp [insS]
    | cons y r ih =>
      intro p dn hp ⟨q, hq1, hq2⟩
      have hql : q.length < l.length := by simp at hq1; omega
      have hpos : l.length - (y :: r).length = q.length := by simp at hq1 ⊢; omega
      have hat : idxO l (q.length : Int) = some y := by rw [idxO_nat, hq2]; simp
      have hnx : ((l.length - r.length : Nat) : Int) = ((q.length + 1 : Nat) : Int) := by simp at hq1; omega
      rw [hpos, loopO_step, insert_L1_eq, lt_c hql, cond_true]
      simp only [hat, Option.bind_some, wrap_sm (show q.length < 10000000 by omega)]
      have hlp : p.length + 2 < 10000000 := by simp only [List.length_cons] at hp; omega
      cases dn with
      | true =>
        rw [cond_true, decide_eq_true (by (try simp only [List.length_cons, List.length_nil]); omega), cond_true, Option.bind_some, nextO_inl, ← hnx]
        obtain ⟨dn', i', h1, h2, h3⟩ := ih (p ++ [y]) true (by simp only [List.length_append, List.length_cons, List.length_nil] at hp ⊢; omega) ⟨q ++ [y], (by simp only [List.length_append, List.length_cons, List.length_nil] at hq1 ⊢; omega), (by simp [hq2])⟩
        exact ⟨dn', i', by rw [h1]; simp, h2, fun h => (by cases h)⟩
      | false =>
        rw [cond_false]
        by_cases c : x < y
        · rw [decide_eq_true c, cond_true, decide_eq_true (by (try simp only [List.length_cons, List.length_nil]); omega), cond_true, decide_eq_true (by (try simp only [List.length_append, List.length_cons, List.length_nil]); omega), cond_true, Option.bind_some, nextO_inl, ← hnx]
          obtain ⟨dn', i', h1, h2, h3⟩ := ih ((p ++ [x]) ++ [y]) true (by simp only [List.length_append, List.length_cons, List.length_nil] at hp ⊢; omega) ⟨q ++ [y], (by simp only [List.length_append, List.length_cons, List.length_nil] at hq1 ⊢; omega), (by simp [hq2])⟩
          refine ⟨true, i', ?_, fun h => (by cases h), fun _ h => (by cases h)⟩
          rw [h1, h2 rfl]
          simp [insS, c]
        · rw [decide_eq_false c, cond_false, decide_eq_true (by (try simp only [List.length_cons, List.length_nil]); omega), cond_true, Option.bind_some, nextO_inl, ← hnx]
          obtain ⟨dn', i', h1, h2, h3⟩ := ih (p ++ [y]) false (by simp only [List.length_append, List.length_cons, List.length_nil] at hp ⊢; omega) ⟨q ++ [y], (by simp only [List.length_append, List.length_cons, List.length_nil] at hq1 ⊢; omega), (by simp [hq2])⟩
          refine ⟨dn', i', ?_, fun h => (by cases h), fun _ h => (by simp [insS, c, h3 rfl h])⟩
          rw [h1]
          simp [insS, c]
  obtain ⟨dn', i', h1, _, h3⟩ := key l [] false (by simp only [List.length_nil]; omega) ⟨[], by simp, rfl⟩
  rw [Nat.sub_self] at h1
  unfold insert_v
  rw [show ((0 : Nat) : Int) = 0 from rfl] at h1
  rw [h1, Option.bind_some]
  simp only [Bool.false_eq_true, if_false, List.nil_append]
  cases dn'
  · simp only [Bool.false_eq_true, if_false, cond_false]
    rw [decide_eq_true (by (try simp only [List.length_cons, List.length_nil]); omega), cond_true, h3 rfl rfl]
  · simp
def enc8 (p : Int × Int) : Int := p.1 * 8 + p.2
def ixO (o : Option Nat) : Option Int := match o with | some i => some (i : Int) | none => none
structure NI (b : Bdr) : Prop where
  mb : ∀ x, getS b.mb x = ixO (ixN (b.bl.map Blk.name) x)
  ms : ∀ x, getS b.ms x = ixO (ixN (b.sp.map Spr.name) x)
  ba : ∀ i, i < b.sp.length → b.ba.getD i 0 = sumS (b.sp.take i)
  sl : b.sl = sumS b.sp
def rS (b : Bdr) : (List Blk) × (List (List Int)) × (List Spr) × (List Int) × Int × Int × Int × Int × Bool := (b.bl, b.nx.map sortV, b.sp, b.pl.map enc8, b.cq, b.ca, b.cd, b.cp, b.cf)
theorem named_at {b : Bdr} (n : NI b) (x : List UInt8) : b.namedV x = ((ixN (b.bl.map Blk.name) x).isSome || (ixN (b.sp.map Spr.name) x).isSome) := by
  unfold Bdr.namedV
  rw [n.mb, n.ms]
  cases ixN (b.bl.map Blk.name) x <;> cases ixN (b.sp.map Spr.name) x <;> rfl
theorem rb_block {b : Bdr} (h : BI b) (n : NI b) (d : Dc) (h1 : 1 ≤ d.names.length) (h2 : 2 ≤ d.nums.length) :
    ∃ s', rbBlock_v b.bl (b.nx.map sortV) b.sp (b.pl.map enc8) b.cq b.ca b.cd b.cp b.cf d = some ((b.blockV d).1, s') ∧ ((b.blockV d).1 = 0 → s' = rS (b.blockV d).2 ∧ NI (b.blockV d).2) := by
  have hnb := h.nb
  have hns := h.ns
  unfold rbBlock_v
  rw [show idxO d.names 0 = some (d.names.getD 0 []) from idxO_at d.names 0 [] (by omega), Option.bind_some, rblock_at _ _ (by simp; omega), Option.bind_some, ixI_nonneg]
  unfold Bdr.blockV
  rw [named_at n]
  cases c1 : ixN (b.bl.map Blk.name) (d.names.getD 0 []) with
  | some i => exact ⟨rS b, by simp [rS], by simp⟩
  | none =>
    rw [Option.isSome_none, cond_false, rspur_at _ _ (by simp; omega), Option.bind_some, ixI_nonneg]
    cases c2 : ixN (b.sp.map Spr.name) (d.names.getD 0 []) with
    | some i => exact ⟨rS b, by simp [rS], by simp⟩
    | none =>
      rw [Option.isSome_none, cond_false, Bool.or_self, if_neg Bool.false_ne_true]
      by_cases c3 : b.bl.length = 24
      · rw [decide_eq_true (by omega), cond_true, if_pos c3]
        exact ⟨rS b, rfl, by simp⟩
      · rw [decide_eq_false (by omega), cond_false, if_neg c3, show idxO d.nums 0 = some (d.nums.getD 0 0) from idxO_at d.nums 0 0 (by omega), Option.bind_some,
          show idxO d.nums 1 = some (d.nums.getD 1 0) from idxO_at d.nums 1 0 (by omega), Option.bind_some, decide_eq_true (by omega), cond_true, decide_eq_true (by rw [List.length_map, h.nn]; omega), cond_true]
        refine ⟨_, rfl, fun _ => ⟨by simp [rS, sortV], ⟨fun x => ?_, n.ms, n.ba, n.sl⟩⟩⟩
        simp only [getS_putS, List.map_append, List.map_cons, List.map_nil]
        rw [ixN_snoc _ _ _ (ixN_none.1 c1)]
        split
        · simp [ixO]
        · exact n.mb x
end Go.Am
end
section
namespace Go.Am
open Go Go.Proofs
set_option maxRecDepth 100000
set_option linter.unusedVariables false
set_option linter.unusedSimpArgs false
set_option maxHeartbeats 1000000
theorem rb_spur {b : Bdr} (h : BI b) (n : NI b) (d : Dc) (h1 : 3 ≤ d.names.length) (h2 : 1 ≤ d.nums.length) :
    ∃ s', rbSpur_v b.bl (b.nx.map sortV) b.sp (b.pl.map enc8) b.cq b.ca b.cd b.cp b.cf d = some ((b.spurV d).1, s') ∧ ((b.spurV d).1 = 0 → s' = rS (b.spurV d).2 ∧ NI (b.spurV d).2) := by
  have hnb := h.nb
  have hns := h.ns
  unfold rbSpur_v
  rw [show idxO d.names 1 = some (d.names.getD 1 []) from idxO_at d.names 1 [] (by omega), Option.bind_some, show idxO d.names 2 = some (d.names.getD 2 []) from idxO_at d.names 2 [] (by omega), Option.bind_some,
    rblock_at _ _ (by simp; omega), Option.bind_some, rblock_at _ _ (by simp; omega), Option.bind_some, show idxO d.names 0 = some (d.names.getD 0 []) from idxO_at d.names 0 [] (by omega), Option.bind_some,
    rblock_at _ _ (by simp; omega), Option.bind_some, ixI_nonneg]
  unfold Bdr.spurV
  rw [named_at n, n.mb, n.mb]
  cases c1 : ixN (b.bl.map Blk.name) (d.names.getD 0 []) with
  | some i => exact ⟨rS b, by simp [rS, ixO], by simp [ixO]⟩
  | none =>
    rw [Option.isSome_none, cond_false, rspur_at _ _ (by simp; omega), Option.bind_some, ixI_nonneg]
    cases c2 : ixN (b.sp.map Spr.name) (d.names.getD 0 []) with
    | some i => exact ⟨rS b, by simp [rS, ixO], by simp [ixO]⟩
    | none =>
      rw [Option.isSome_none, cond_false, Bool.or_self, if_neg Bool.false_ne_true, ixI_neg, ixI_neg]
      cases c3 : ixN (b.bl.map Blk.name) (d.names.getD 1 []) with
      | none => exact ⟨rS b, by simp [rS, ixO], by simp [ixO]⟩
      | some i =>
        rw [Option.isNone_some, cond_false]
        cases c4 : ixN (b.bl.map Blk.name) (d.names.getD 2 []) with
        | none => exact ⟨rS b, by simp [rS, ixO], by simp [ixO]⟩
        | some j =>
          rw [Option.isNone_some, cond_false, show idxO d.nums 0 = some (d.nums.getD 0 0) from idxO_at d.nums 0 0 (by omega), Option.bind_some]
          simp only [ixO]
          cases c5 : decide (d.nums.getD 0 0 < 1)
          rotate_left
          · exact ⟨rS b, by simp [rS, ixO], by simp [ixO]⟩
          rw [cond_false, if_neg Bool.false_ne_true]
          cases c6 : decide (4 < d.nums.getD 0 0)
          rotate_left
          · exact ⟨rS b, by simp [rS, ixO], by simp [ixO]⟩
          rw [cond_false, if_neg Bool.false_ne_true]
          by_cases c7 : b.sp.length = 6
          · rw [decide_eq_true (by omega), cond_true, if_pos c7]
            exact ⟨rS b, rfl, by simp⟩
          · rw [decide_eq_false (by omega), cond_false, if_neg c7, decide_eq_true (by omega), cond_true]
            refine ⟨_, rfl, fun _ => ⟨rfl, ⟨n.mb, fun x => ?_, fun i hi => ?_, ?_⟩⟩⟩
            · simp only [getS_putS, List.map_append, List.map_cons, List.map_nil]
              rw [ixN_snoc _ _ _ (ixN_none.1 c2)]
              split
              · simp [ixO]
              · exact n.ms x
            · have hba := h.nba
              simp only [List.length_append, List.length_cons, List.length_nil] at hi
              by_cases e : i < b.sp.length
              · rw [List.take_append_of_le_length (by omega)]
                have := n.ba i e
                rw [← this]
                simp [List.getD, List.getElem?_append, show i < b.ba.length by omega]
              · have e2 : i = b.sp.length := by omega
                subst e2
                rw [List.take_left' rfl, ← n.sl]
                simp [List.getD, List.getElem?_append, hba]
            · simp only [sumS_snoc, n.sl]
theorem enc8_inj {p q : Int × Int} (hp : 1 ≤ p.2 ∧ p.2 ≤ 4) (hq : 1 ≤ q.2 ∧ q.2 ≤ 4) (h : enc8 p = enc8 q) : p = q := by
  unfold enc8 at h
  have h1 : p.1 = q.1 := by omega
  have h2 : p.2 = q.2 := by omega
  exact Prod.ext h1 h2
theorem rb_robot {b : Bdr} (h : BI b) (n : NI b) (d : Dc) (h1 : 1 ≤ d.names.length) (h2 : 1 ≤ d.nums.length) :
    ∃ s', rbRobot_v b.bl (b.nx.map sortV) b.sp (b.pl.map enc8) b.cq b.ca b.cd b.cp b.cf d = some ((b.robotV d).1, s') ∧ ((b.robotV d).1 = 0 → s' = rS (b.robotV d).2 ∧ NI (b.robotV d).2) := by
  have hnb := h.nb
  have hns := h.ns
  have hnp := h.np
  unfold rbRobot_v
  rw [show idxO d.names 0 = some (d.names.getD 0 []) from idxO_at d.names 0 [] (by omega), Option.bind_some, rspur_at _ _ (by simp; omega), Option.bind_some, ixI_neg]
  unfold Bdr.robotV
  rw [n.ms]
  cases c1 : ixN (b.sp.map Spr.name) (d.names.getD 0 []) with
  | none => exact ⟨rS b, by simp [rS, ixO], by simp [ixO]⟩
  | some i =>
    have hi : i < b.sp.length := by simpa using (ixN_some c1).1
    rw [Option.isNone_some, cond_false, show idxO b.sp (ixI (some i)) = some (b.sp.getD i spr0) from idxO_at b.sp i spr0 hi, Option.bind_some]
    simp only [ixO, Int.toNat_natCast]
    have hs := h.sps (b.sp.getD i spr0) (getD_mem b.sp i spr0 hi)
    cases c2 : (b.sp.getD i spr0).depot
    · exact ⟨rS b, by simp [rS, ixO], by simp [ixO]⟩
    rw [cond_true, if_neg (by simp), show idxO d.nums 0 = some (d.nums.getD 0 0) from idxO_at d.nums 0 0 (by omega), Option.bind_some]
    cases c3 : decide (d.nums.getD 0 0 < 1)
    rotate_left
    · exact ⟨rS b, by simp [rS, ixO], by simp [ixO]⟩
    rw [cond_false, if_neg Bool.false_ne_true]
    have c3' := of_decide_eq_false c3
    by_cases c4' : (b.sp.getD i spr0).slots < d.nums.getD 0 0
    · have c4 := decide_eq_true c4'
      simp only [c4, cond_true, if_true]
      exact ⟨rS b, rfl, by simp⟩
    have c4 := decide_eq_false c4'
    have hw : IntKind.i64.wrap (IntKind.i64.wrap (ixI (some i) * 8) + d.nums.getD 0 0) = enc8 ((i : Int), d.nums.getD 0 0) := by
      unfold enc8 ixI
      rw [IntKind.wrap_i64, IntKind.wrap_i64]; simp only; omega
    simp only [c4, cond_false, Bool.false_eq_true, if_false]
    rw [hw, has_at _ _ (by simp; omega), Option.bind_some]
    have hm : decide (enc8 ((i : Int), d.nums.getD 0 0) ∈ b.pl.map enc8) = decide (((i : Int), d.nums.getD 0 0) ∈ b.pl) := by
      rw [Bool.eq_iff_iff, decide_eq_true_eq, decide_eq_true_eq, List.mem_map]
      constructor
      · rintro ⟨q, hq, e⟩
        rw [← enc8_inj (h.pls q hq).2 (by simp only; omega) e]; exact hq
      · intro hq; exact ⟨_, hq, rfl⟩
    rw [hm]
    by_cases c5 : ((i : Int), d.nums.getD 0 0) ∈ b.pl
    · rw [decide_eq_true c5, cond_true, if_pos c5]
      exact ⟨rS b, rfl, by simp⟩
    rw [decide_eq_false c5, cond_false, if_neg c5]
    by_cases c6 : b.pl.length = 8
    · rw [decide_eq_true (by rw [List.length_map]; omega), cond_true, if_pos c6]
      exact ⟨rS b, rfl, by simp⟩
    · rw [decide_eq_false (by rw [List.length_map]; omega), cond_false, if_neg c6, decide_eq_true (by rw [List.length_map]; omega), cond_true]
      exact ⟨_, rfl, fun _ => ⟨by simp [rS], ⟨n.mb, n.ms, n.ba, n.sl⟩⟩⟩
theorem rconf_at (q a d p : Int) : rconfigured_v ⟨q, a, d, p⟩ = some (decide (cfgP q a d p)) := by
  unfold rconfigured_v
  have hc : ∀ b1 b2 b3 b4 b5 b6 b7 b8 : Bool, cond b1 (cond b2 (cond b3 (cond b4 (cond b5 (cond b6 (cond b7 (some b8) (some false)) (some false)) (some false)) (some false)) (some false)) (some false)) (some false) = some (b1 && (b2 && (b3 && (b4 && (b5 && (b6 && (b7 && b8))))))) := by decide
  rw [hc]
  congr 1
  rw [Bool.eq_iff_iff]
  simp only [Bool.and_eq_true, decide_eq_true_eq]
  exact Iff.rfl
theorem cfgV_P (q a d p : Int) : cfgV q a d p = decide (cfgP q a d p) := by
  unfold cfgV inV
  rw [Bool.eq_iff_iff]
  simp only [Bool.and_eq_true, decide_eq_true_eq]
  exact ⟨fun ⟨⟨a1, a2⟩, ⟨b1, b2⟩, ⟨c1, c2⟩, d1, d2⟩ => ⟨a1, a2, b1, b2, c1, c2, d1, d2⟩, fun ⟨a1, a2, b1, b2, c1, c2, d1, d2⟩ => ⟨⟨a1, a2⟩, ⟨b1, b2⟩, ⟨c1, c2⟩, d1, d2⟩⟩
theorem rb_config {b : Bdr} (n : NI b) (d : Dc) (h2 : 4 ≤ d.nums.length) :
    ∃ s', rbConfig_v b.bl (b.nx.map sortV) b.sp (b.pl.map enc8) b.cq b.ca b.cd b.cp b.cf d = some ((b.configV d).1, s') ∧ ((b.configV d).1 = 0 → s' = rS (b.configV d).2 ∧ NI (b.configV d).2) := by
  unfold rbConfig_v Bdr.configV
  cases c1 : b.cf
  rotate_left
  · exact ⟨_, rfl, by simp⟩
  rw [cond_false, if_neg Bool.false_ne_true, show idxO d.nums 0 = some (d.nums.getD 0 0) from idxO_at d.nums 0 0 (by omega), Option.bind_some, show idxO d.nums 1 = some (d.nums.getD 1 0) from idxO_at d.nums 1 0 (by omega), Option.bind_some,
    show idxO d.nums 2 = some (d.nums.getD 2 0) from idxO_at d.nums 2 0 (by omega), Option.bind_some, show idxO d.nums 3 = some (d.nums.getD 3 0) from idxO_at d.nums 3 0 (by omega), Option.bind_some, rconf_at, Option.bind_some, cfgV_P]
  cases decide (cfgP (d.nums.getD 0 0) (d.nums.getD 1 0) (d.nums.getD 2 0) (d.nums.getD 3 0))
  · exact ⟨_, rfl, by simp⟩
  · exact ⟨_, rfl, fun _ => ⟨rfl, ⟨n.mb, n.ms, n.ba, n.sl⟩⟩⟩
end Go.Am
end
section
namespace Go.Am
open Go Go.Proofs
set_option maxRecDepth 100000
set_option linter.unusedVariables false
set_option linter.unusedSimpArgs false
set_option maxHeartbeats 1000000
theorem rb_lanes (d : Dc) (hd : d.names.length ≤ 10000000) : ∀ (r : List (List UInt8)) (i : Nat) (b : Bdr), BI b → NI b → d.names.drop i = r → i ≤ d.names.length →
    ∃ e s', loopO (rbLane_L1 b.bl b.sp (b.pl.map enc8) b.cq b.ca b.cd b.cp b.cf d) (b.nx.map sortV, (i : Int)) = some e ∧
      (match e with | .inl x => (0, b.bl, x.1, b.sp, b.pl.map enc8, b.cq, b.ca, b.cd, b.cp, b.cf) | .inr y => y) = ((b.lanesV r).1, s') ∧ ((b.lanesV r).1 = 0 → s' = rS (b.lanesV r).2 ∧ NI (b.lanesV r).2)
  | [], i, b, h, n, hr, hi => by
    have hil : i = d.names.length := by have := congrArg List.length hr; simp at this; omega
    refine ⟨_, rS b, by rw [loopO_step, rbLane_L1_eq, decide_eq_false (by rw [IntKind.wrap_i64]; omega), cond_false, Option.bind_some, nextO_inr], rfl, fun _ => ⟨rfl, n⟩⟩
  | [x], i, b, h, n, hr, hi => by
    have hil : i + 1 = d.names.length := by have := congrArg List.length hr; simp at this; omega
    refine ⟨_, rS b, by rw [loopO_step, rbLane_L1_eq, decide_eq_false (by rw [IntKind.wrap_i64]; omega), cond_false, Option.bind_some, nextO_inr], rfl, fun _ => ⟨rfl, n⟩⟩
  | x :: y :: r, i, b, h, n, hr, hi => by
    have hnb := h.nb
    have hnn := h.nn
    have hil : i + 1 < d.names.length := by have := congrArg List.length hr; simp at this; omega
    have hx : idxO d.names (i : Int) = some x := by
      rw [idxO_nat]
      have := congrArg (·[0]?) hr
      simpa [List.getElem?_drop] using this
    have hy : idxO d.names ((i + 1 : Nat) : Int) = some y := by
      rw [idxO_nat]
      have := congrArg (·[1]?) hr
      simpa [List.getElem?_drop] using this
    have hdr : d.names.drop (i + 1) = y :: r := by
      rw [← List.drop_drop, hr]; rfl
    have hw : IntKind.i64.wrap ((i : Int) + 1) = ((i + 1 : Nat) : Int) := by rw [IntKind.wrap_i64]; omega
    rw [loopO_step, rbLane_L1_eq, hw, decide_eq_true (by omega), cond_true, hx, Option.bind_some, hy, Option.bind_some, rblock_at _ _ (by simp; omega), Option.bind_some, rblock_at _ _ (by simp; omega), Option.bind_some, ixI_neg, ixI_neg]
    have hno : ∀ c : Int, c ≠ 0 → b.laneV x y = (c, b) → b.lanesV (x :: y :: r) = (c, b) := fun c hc h => by simp [Bdr.lanesV, h, hc]
    have hL : b.laneV x y = (match ixO (ixN (b.bl.map Blk.name) x), ixO (ixN (b.bl.map Blk.name) y) with
      | some i, some j => if i = j then (10, b) else if j ∈ b.nx.getD i.toNat [] then (11, b) else if (b.nx.getD i.toNat []).length = 4 then (14, b) else (0, { b with nx := b.nx.set i.toNat (b.nx.getD i.toNat [] ++ [j]) })
      | _, _ => (9, b)) := by
      unfold Bdr.laneV
      rw [n.mb, n.mb]
      cases ixN (b.bl.map Blk.name) x <;> cases ixN (b.bl.map Blk.name) y <;> rfl
    cases c1 : ixN (b.bl.map Blk.name) x with
    | none =>
      rw [hno 9 (by decide) (by rw [hL, c1]; rfl)]
      exact ⟨_, rS b, rfl, rfl, by simp⟩
    | some u =>
      rw [Option.isNone_some, cond_false]
      cases c2 : ixN (b.bl.map Blk.name) y with
      | none =>
        rw [hno 9 (by decide) (by rw [hL, c1, c2]; rfl)]
        exact ⟨_, rS b, rfl, rfl, by simp⟩
      | some v =>
        have hu : u < b.nx.length := by have := (ixN_some c1).1; simp at this; omega
        rw [Option.isNone_some, cond_false, show (decide (ixI (some u) = ixI (some v))) = decide ((u : Int) = (v : Int)) from rfl]
        rw [show ixI (some u) = (u : Int) from rfl, show ixI (some v) = (v : Int) from rfl]
        have hL2 : b.laneV x y = (if (u : Int) = (v : Int) then (10, b) else if (v : Int) ∈ b.nx.getD u [] then (11, b) else if (b.nx.getD u []).length = 4 then (14, b) else (0, { b with nx := b.nx.set u (b.nx.getD u [] ++ [(v : Int)]) })) := by rw [hL, c1, c2]; rfl
        by_cases c3 : (u : Int) = (v : Int)
        · rw [decide_eq_true c3, cond_true, hno 10 (by decide) (by rw [hL2, if_pos c3])]
          exact ⟨_, rS b, rfl, rfl, by simp⟩
        rw [decide_eq_false c3, cond_false]
        rw [if_neg c3] at hL2
        have hrow : idxO (b.nx.map sortV) (u : Int) = some (sortV (b.nx.getD u [])) := by rw [idxO_nat]; simp [List.getD, hu]
        have h4 := h.row u
        rw [hrow, Option.bind_some, has_at _ _ (by rw [sortV_len]; omega), Option.bind_some]
        have hm : decide ((v : Int) ∈ sortV (b.nx.getD u [])) = decide ((v : Int) ∈ b.nx.getD u []) := by
          rw [Bool.eq_iff_iff, decide_eq_true_eq, decide_eq_true_eq]
          unfold sortV
          rw [sortV_mem]; simp
        rw [hm]
        by_cases c4 : (v : Int) ∈ b.nx.getD u []
        · rw [decide_eq_true c4, cond_true, hno 11 (by decide) (by rw [hL2, if_pos c4])]
          exact ⟨_, rS b, rfl, rfl, by simp⟩
        rw [if_neg c4] at hL2
        rw [decide_eq_false c4, cond_false, sortV_len]
        by_cases c5 : (b.nx.getD u []).length = 4
        · rw [decide_eq_true (by omega), cond_true, hno 14 (by decide) (by rw [hL2, if_pos c5])]
          exact ⟨_, rS b, rfl, rfl, by simp⟩
        rw [if_neg c5] at hL2
        rw [decide_eq_false (by omega), cond_false, insert_at _ _ (by rw [sortV_len]; omega), Option.bind_some, Option.bind_some, nextO_inl]
        have hB2 : BI { b with nx := b.nx.set u (b.nx.getD u [] ++ [(v : Int)]) } := by
          have := h.lane x y
          rw [hL2] at this
          exact this
        have hset : (b.nx.map sortV).set u (insS (sortV (b.nx.getD u [])) (v : Int)) = (b.nx.set u (b.nx.getD u [] ++ [(v : Int)])).map sortV := by
          rw [List.map_set]
          congr 1
          unfold sortV
          rw [List.foldl_append]; rfl
        rw [Int.toNat_natCast, hset]
        have hlv : b.lanesV (x :: y :: r) = Bdr.lanesV { b with nx := b.nx.set u (b.nx.getD u [] ++ [(v : Int)]) } (y :: r) := by
          simp [Bdr.lanesV, hL2]
        rw [hlv]
        exact rb_lanes d hd (y :: r) (i + 1) { b with nx := b.nx.set u (b.nx.getD u [] ++ [(v : Int)]) } hB2 ⟨n.mb, n.ms, n.ba, n.sl⟩ hdr (by omega)
theorem rb_lane {b : Bdr} (h : BI b) (n : NI b) (d : Dc) (hd : d.names.length ≤ 10000000) :
    ∃ s', rbLane_v b.bl (b.nx.map sortV) b.sp (b.pl.map enc8) b.cq b.ca b.cd b.cp b.cf d = some ((b.lanesV d.names).1, s') ∧ ((b.lanesV d.names).1 = 0 → s' = rS (b.lanesV d.names).2 ∧ NI (b.lanesV d.names).2) := by
  obtain ⟨e, s', g1, g2, g3⟩ := rb_lanes d hd d.names 0 b h n (by simp) (Nat.zero_le _)
  refine ⟨s', ?_, g3⟩
  unfold rbLane_v
  rw [show ((0 : Nat) : Int) = 0 from rfl] at g1
  rw [g1, Option.bind_some, ← g2]
  cases e <;> rfl
theorem rnm_all (l : List (List UInt8)) (hl : l.length ≤ 10000000) (d : Dc) (hd : d.names = l) : loopO (r02_Valid_L2 d) 0 = some (if (∀ j, j < l.length → nameB (l.getD j []) = true) then .inl (l.length : Int) else .inr false) := by
  subst hd
  have h := loopO_all (step := r02_Valid_L2 d) d.names.length (fun i => (i : Int)) (Sum.inl (d.names.length : Int)) (Sum.inr false) (fun i => nameB (d.names.getD i []))
    (fun i hi _ => by
      rw [r02_Valid_L2_eq, lt_c hi, cond_true, idxO_at d.names i [] hi, Option.bind_some, wrap_sm (by omega)]
      simp only [rname_v, Option.bind_some]
      cases nameB (d.names.getD i []) <;> rfl)
    (fun _ => by rw [r02_Valid_L2_eq, lt_n, cond_false])
  exact h
theorem rnum_all (d : Dc) (hl : d.nums.length ≤ 10000000) : loopO (r02_Valid_L1 d) 0 = some (if (∀ j, j < d.nums.length → (!(decide (d.nums.getD j 0 < -9999) || decide (9999 < d.nums.getD j 0))) = true) then .inl (d.nums.length : Int) else .inr false) := by
  have h := loopO_all (step := r02_Valid_L1 d) d.nums.length (fun i => (i : Int)) (Sum.inl (d.nums.length : Int)) (Sum.inr false) (fun i => !(decide (d.nums.getD i 0 < -9999) || decide (9999 < d.nums.getD i 0)))
    (fun i hi _ => by
      rw [r02_Valid_L1_eq, lt_c hi, cond_true, idxO_at d.nums i 0 hi, Option.bind_some, wrap_sm (by omega)]
      cases decide (d.nums.getD i 0 < -9999) <;> cases decide (9999 < d.nums.getD i 0) <;> rfl)
    (fun _ => by rw [r02_Valid_L1_eq, lt_n, cond_false])
  exact h
theorem all_getD {α : Type} (l : List α) (p : α → Bool) (x : α) : l.all p = true ↔ ∀ j, j < l.length → p (l.getD j x) = true := by
  rw [List.all_eq_true]
  constructor
  · intro h j hj; exact h _ (getD_mem l j x hj)
  · intro h y hy
    obtain ⟨i, hi, rfl⟩ := List.getElem_of_mem hy
    have := h i hi
    rwa [getD_eq hi] at this
theorem shape_at (w : Int) : r02_shape_v w = some (shapeV w) := by
  unfold r02_shape_v shapeV
  by_cases h1 : w = 1
  · simp [h1]
  by_cases h2 : w = 2
  · simp [h2]
  by_cases h3 : w = 3
  · simp [h3]
  by_cases h4 : w = 4
  · simp [h4]
  by_cases h5 : w = 5
  · simp [h5]
  · simp [h1, h2, h3, h4, h5]
theorem r02_end (w : Int) (nl ml : Nat) (x3 x4 : Int) (t : Bool) :
    cond (decide (w < 1)) (some false) (cond (decide (6 < w)) (some false) (cond (decide ((ml : Int) = x4)) (cond (decide ((nl : Int) < x3)) (some false) (cond (decide (x3 < (nl : Int))) (cond (decide (w = 2)) (some t) (some false)) (some t))) (some false))) =
      some (decide (1 ≤ w ∧ w ≤ 6) && (decide ((ml : Int) = x4) && ((decide ((nl : Int) = x3) || (decide (x3 < (nl : Int)) && decide (w = 2))) && t))) := by
  by_cases h1 : w < 1
  · rw [decide_eq_true h1, cond_true, decide_eq_false (by omega : ¬ (1 ≤ w ∧ w ≤ 6)), Bool.false_and]
  rw [decide_eq_false h1, cond_false]
  by_cases h2 : 6 < w
  · rw [decide_eq_true h2, cond_true, decide_eq_false (by omega : ¬ (1 ≤ w ∧ w ≤ 6)), Bool.false_and]
  rw [decide_eq_false h2, cond_false, decide_eq_true (by omega : 1 ≤ w ∧ w ≤ 6), Bool.true_and]
  by_cases h3 : (ml : Int) = x4
  rotate_left
  · rw [decide_eq_false h3, cond_false, Bool.false_and]
  rw [decide_eq_true h3, cond_true, Bool.true_and]
  by_cases h4 : (nl : Int) < x3
  · rw [decide_eq_true h4, cond_true, decide_eq_false (by omega : ¬ (nl : Int) = x3), decide_eq_false (by omega : ¬ x3 < (nl : Int))]
    rfl
  rw [decide_eq_false h4, cond_false]
  by_cases h5 : x3 < (nl : Int)
  · rw [decide_eq_true h5, cond_true, decide_eq_false (by omega : ¬ (nl : Int) = x3), Bool.true_and, Bool.false_or]
    cases decide (w = 2) <;> rfl
  · rw [decide_eq_false h5, cond_false, decide_eq_true (by omega : (nl : Int) = x3), Bool.true_or, Bool.true_and]
theorem r02valid_at (d : Dc) (hd : d.names.length ≤ 10000000 ∧ d.nums.length ≤ 10000000) : r02_Valid_v d = some (validV d) := by
  have hA := rnm_all d.names hd.1 d rfl
  have hB := rnum_all d hd.2
  unfold r02_Valid_v validV
  rw [shape_at, Option.bind_some]
  generalize shapeV d.word = sh
  obtain ⟨x3, x4⟩ := sh
  dsimp only
  by_cases g1 : ∀ j, j < d.names.length → nameB (d.names.getD j []) = true
  · rw [(all_getD d.names nameB []).2 g1, Bool.true_and]
    by_cases g2 : ∀ j, j < d.nums.length → (!(decide (d.nums.getD j 0 < -9999) || decide (9999 < d.nums.getD j 0))) = true
    · rw [(all_getD d.nums (fun n => !(decide (n < -9999) || decide (9999 < n))) 0).2 g2]
      simp only [hA, hB, if_pos g1, if_pos g2, Option.bind_some]
      exact r02_end _ _ _ _ _ _
    · have e2 : (d.nums.all fun n => !(decide (n < -9999) || decide (9999 < n))) = false := by
        rw [Bool.eq_false_iff]; intro h; exact g2 ((all_getD d.nums (fun n => !(decide (n < -9999) || decide (9999 < n))) 0).1 h)
      rw [e2]
      simp only [hA, hB, if_pos g1, if_neg g2, Option.bind_some]
      exact r02_end _ _ _ _ _ _
  · have e1 : d.names.all nameB = false := by
      rw [Bool.eq_false_iff]; intro h; exact g1 ((all_getD d.names nameB []).1 h)
    rw [e1, Bool.false_and]
    simp only [hA, if_neg g1, Option.bind_some]
    exact r02_end _ _ _ _ _ _
end Go.Am
end
section
namespace Go.Am
open Go Go.Proofs
set_option maxRecDepth 100000
set_option linter.unusedVariables false
set_option linter.unusedSimpArgs false
set_option maxHeartbeats 1000000
theorem one_at {b : Bdr} (h : BI b) (n : NI b) (d : Dc) (hd : d.names.length ≤ 10000000 ∧ d.nums.length ≤ 10000000) :
    ∃ s', r03_builder_one_v b.bl (b.nx.map sortV) b.sp (b.pl.map enc8) b.cq b.ca b.cd b.cp b.cf d = some ((b.addV d).1, s') ∧ ((b.addV d).1 = 0 → s' = rS (b.addV d).2 ∧ NI (b.addV d).2) := by
  unfold r03_builder_one_v
  have he : (⟨d.word, d.line, d.names, d.nums⟩ : Dc) = d := rfl
  rw [he, r02valid_at d hd, Option.bind_some]
  cases c0 : validV d
  · have hv : b.addV d = (20, b) := by unfold Bdr.addV; rw [if_pos c0]
    rw [hv]
    exact ⟨rS b, rfl, by simp⟩
  rw [cond_true]
  have hs := valid_shape c0
  by_cases c1 : d.word = 1
  · rw [c1] at hs
    simp [shapeV] at hs
    have hv : b.addV d = b.blockV d := by unfold Bdr.addV; rw [if_neg (by rw [c0]; simp), if_pos (decide_eq_true c1)]
    rw [hv, decide_eq_true c1, cond_true]
    obtain ⟨s', g1, g2⟩ := rb_block h n d (by omega) (by omega)
    rw [g1]
    exact ⟨s', rfl, g2⟩
  rw [decide_eq_false c1, cond_false]
  by_cases c2 : d.word = 2
  · have hv : b.addV d = b.lanesV d.names := by unfold Bdr.addV; rw [if_neg (by rw [c0]; simp), if_neg (by rw [decide_eq_false c1]; simp), if_pos (decide_eq_true c2)]
    rw [hv, decide_eq_true c2, cond_true]
    obtain ⟨s', g1, g2⟩ := rb_lane h n d hd.1
    rw [g1]
    exact ⟨s', rfl, g2⟩
  rw [decide_eq_false c2, cond_false]
  by_cases c3 : d.word = 3 ∨ d.word = 4
  · simp only [shapeV, c1, c2, c3, if_false, if_true] at hs
    have hv : b.addV d = b.spurV d := by
      unfold Bdr.addV
      rw [if_neg (by rw [c0]; simp), if_neg (by rw [decide_eq_false c1]; simp), if_neg (by rw [decide_eq_false c2]; simp), if_neg (by rw [decide_eq_false (by omega)]; simp), if_neg (by rw [decide_eq_false (by omega)]; simp)]
    rw [hv]
    obtain ⟨s', g1, g2⟩ := rb_spur h n d (by omega) (by omega)
    rw [g1]
    rcases c3 with c3 | c3
    · rw [decide_eq_true c3, cond_true]
      exact ⟨s', rfl, g2⟩
    · rw [decide_eq_false (by omega : ¬ d.word = 3), cond_false, decide_eq_true c3, cond_true]
      exact ⟨s', rfl, g2⟩
  rw [decide_eq_false (by omega : ¬ d.word = 3), cond_false, decide_eq_false (by omega : ¬ d.word = 4), cond_false]
  by_cases c5 : d.word = 5
  · rw [c5] at hs
    simp [shapeV] at hs
    have hv : b.addV d = b.robotV d := by
      unfold Bdr.addV
      rw [if_neg (by rw [c0]; simp), if_neg (by rw [decide_eq_false c1]; simp), if_neg (by rw [decide_eq_false c2]; simp), if_pos (decide_eq_true c5)]
    rw [hv, decide_eq_true c5, cond_true]
    obtain ⟨s', g1, g2⟩ := rb_robot h n d (by omega) (by omega)
    rw [g1]
    exact ⟨s', rfl, g2⟩
  rw [decide_eq_false c5, cond_false]
  have c6 : d.word = 6 := by omega
  rw [c6] at hs
  simp [shapeV] at hs
  have hv : b.addV d = b.configV d := by
    unfold Bdr.addV
    rw [if_neg (by rw [c0]; simp), if_neg (by rw [decide_eq_false c1]; simp), if_neg (by rw [decide_eq_false c2]; simp), if_neg (by rw [decide_eq_false c5]; simp), if_pos (decide_eq_true c6)]
  rw [hv]
  obtain ⟨s', g1, g2⟩ := rb_config n d (by omega)
  rw [g1]
  exact ⟨s', rfl, g2⟩
theorem NI.init : NI Bdr.init := ⟨fun x => rfl, fun x => rfl, fun i hi => by simp [Bdr.init] at hi, rfl⟩
theorem adds_at (l : List Dc) (hl : smallD l) : ∀ (r : List Dc) (i : Nat) (b : Bdr), BI b → NI b → l.drop i = r → i ≤ l.length →
    loopO (rBuild_L3 l) (b.bl, b.nx.map sortV, b.sp, b.pl.map enc8, b.cq, b.ca, b.cd, b.cp, b.cf, (i : Int)) = some (match addsV b r with
      | (some (x, e), _) => .inr (nt0, x, e)
      | (none, b') => .inl (b'.bl, b'.nx.map sortV, b'.sp, b'.pl.map enc8, b'.cq, b'.ca, b'.cd, b'.cp, b'.cf, (l.length : Int))) ∧ ((addsV b r).1 = none → NI (addsV b r).2)
  | [], i, b, h, n, hr, hi => by
    have hil : i = l.length := by have := congrArg List.length hr; simp at this; omega
    subst hil
    exact ⟨by rw [loopO_step, rBuild_L3_eq, lt_n, cond_false, Option.bind_some, nextO_inr]; rfl, fun _ => n⟩
  | x :: r, i, b, h, n, hr, hi => by
    have hil : i < l.length := by have := congrArg List.length hr; simp at this; omega
    have hx : idxO l (i : Int) = some x := by
      rw [idxO_nat]
      have := congrArg (·[0]?) hr
      simpa [List.getElem?_drop] using this
    have hdr : l.drop (i + 1) = r := by rw [← List.drop_drop, hr]; rfl
    have hxm : x ∈ l := by
      have : x ∈ l.drop i := by rw [hr]; simp
      exact List.mem_of_mem_drop this
    obtain ⟨s', g1, g2⟩ := one_at h n x (hl.2 x hxm)
    obtain ⟨t1, t2, t3, t4, t5, t6, t7, t8, t9⟩ := s'
    have he : (⟨x.word, x.line, x.names, x.nums⟩ : Dc) = x := rfl
    rw [loopO_step, rBuild_L3_eq, lt_c hil, cond_true, hx, Option.bind_some, he, g1, Option.bind_some]
    simp only [addsV]
    by_cases c : (b.addV x).1 = 0
    · obtain ⟨g3, g4⟩ := g2 c
      unfold rS at g3
      simp only [Prod.mk.injEq] at g3
      obtain ⟨rfl, rfl, rfl, rfl, rfl, rfl, rfl, rfl, rfl⟩ := g3
      rw [if_pos c]
      simp only [c, decide_true, cond_true, Option.bind_some, nextO_inl, wrap_sm (show i < 10000000 by have := hl.1; omega)]
      exact adds_at l hl r (i + 1) (b.addV x).2 (h.add x) g4 hdr (by omega)
    · rw [if_neg c]
      simp only [c, decide_false, cond_false, Option.bind_some, nextO_inr]
      exact ⟨rfl, fun h => by cases h⟩
end Go.Am
end
section
namespace Go.Am
open Go Go.Proofs
set_option maxRecDepth 100000
set_option linter.unusedVariables false
set_option linter.unusedSimpArgs false
def Bdr.nms (b : Bdr) : List (List UInt8) := b.bl.map Blk.name ++ b.sp.map Spr.name
structure VI (b : Bdr) : Prop where
  xy : ∀ x ∈ b.bl, xyP x
  nm : ∀ x ∈ b.nms, nameB x = true
  nod : b.nms.Nodup
  row : ∀ i, i < b.bl.length → (b.nx.getD i []).Nodup ∧ ∀ j ∈ b.nx.getD i [], 0 ≤ j ∧ j < (b.bl.length : Int) ∧ j ≠ (i : Int)
  io : ∀ s ∈ b.sp, 0 ≤ s.inn ∧ s.inn < (b.bl.length : Int) ∧ 0 ≤ s.out ∧ s.out < (b.bl.length : Int)
  pn : b.pl.Nodup
  pd : ∀ p ∈ b.pl, (b.sp.getD p.1.toNat spr0).depot = true ∧ p.2 ≤ (b.sp.getD p.1.toNat spr0).slots
  cf : cfgP b.cq b.ca b.cd b.cp
theorem not_named {b : Bdr} (n : NI b) {x : List UInt8} (h : ¬ b.namedV x = true) : x ∉ b.nms := by
  rw [named_at n] at h
  simp only [Bdr.nms, List.mem_append]
  cases c1 : ixN (b.bl.map Blk.name) x with
  | some i => rw [c1] at h; exact absurd rfl h
  | none =>
    cases c2 : ixN (b.sp.map Spr.name) x with
    | some i => rw [c1, c2] at h; exact absurd rfl h
    | none => exact fun h1 => h1.elim (ixN_none.1 c1) (ixN_none.1 c2)
theorem VI.block {b : Bdr} (h : BI b) (n : NI b) (v : VI b) (d : Dc) (hn : nameB (d.names.getD 0 []) = true) (hx : xyP ⟨d.names.getD 0 [], d.nums.getD 0 0, d.nums.getD 1 0⟩) : VI (b.blockV d).2 := by
  unfold Bdr.blockV
  split
  · exact v
  · split
    · exact v
    · rename_i h1 h2
      have hni := not_named n h1
      have hP : ∀ (y : List UInt8), y ∈ (b.bl ++ [(⟨d.names.getD 0 [], d.nums.getD 0 0, d.nums.getD 1 0⟩ : Blk)]).map Blk.name ++ b.sp.map Spr.name ↔ y = d.names.getD 0 [] ∨ y ∈ b.nms := by
        intro y; simp only [Bdr.nms, List.map_append, List.map_cons, List.map_nil, List.mem_append, List.mem_singleton]
        constructor
        · rintro ((h | h) | h) <;> simp [h]
        · rintro (h | h | h) <;> simp [h]
      refine ⟨fun x hx2 => ?_, fun x hx2 => ?_, ?_, fun i hi => ?_, fun s hs => ?_, v.pn, v.pd, v.cf⟩
      · rcases List.mem_append.1 hx2 with hx2 | hx2
        · exact v.xy x hx2
        · rw [List.mem_singleton.1 hx2]; exact hx
      · rcases (hP x).1 hx2 with rfl | hx2
        · exact hn
        · exact v.nm x hx2
      · have hv := v.nod
        simp only [Bdr.nms] at hv hni ⊢
        simp only [List.map_append, List.map_cons, List.map_nil, List.append_assoc, List.singleton_append]
        rw [List.nodup_append] at hv ⊢
        obtain ⟨a1, a2, a3⟩ := hv
        simp only [List.mem_append, not_or] at hni
        refine ⟨a1, List.nodup_cons.2 ⟨hni.2, a2⟩, fun a ha c hc => ?_⟩
        rcases List.mem_cons.1 hc with rfl | hc
        · rintro rfl; exact hni.1 ha
        · exact a3 a ha c hc
      · simp only [List.length_append, List.length_cons, List.length_nil] at hi
        by_cases hl : i < b.bl.length
        · have : (b.nx ++ [[]]).getD i [] = b.nx.getD i [] := by simp only [List.getD]; rw [List.getElem?_append_left (by rw [h.nn]; exact hl)]
          rw [this]
          obtain ⟨r1, r2⟩ := v.row i hl
          refine ⟨r1, fun j hj => ?_⟩
          have := r2 j hj
          simp only [List.length_append, List.length_cons, List.length_nil]; omega
        · have : (b.nx ++ [[]]).getD i [] = [] := by
            obtain rfl : i = b.nx.length := by rw [h.nn]; omega
            simp [List.getD]
          rw [this]
          exact ⟨List.nodup_nil, fun j hj => by simp at hj⟩
      · have := v.io s hs
        simp only [List.length_append, List.length_cons, List.length_nil]; omega
theorem VI.lane {b : Bdr} (h : BI b) (v : VI b) (x y : List UInt8) : VI (b.laneV x y).2 := by
  unfold Bdr.laneV
  split
  · rename_i i j h1 h2
    split
    · exact v
    · split
      · exact v
      · split
        · exact v
        · rename_i h3 h4 h5
          obtain ⟨p, rfl, hp⟩ := h.mb x i h1
          obtain ⟨q, rfl, hq⟩ := h.mb y j h2
          refine ⟨v.xy, v.nm, v.nod, fun k hk => ?_, v.io, v.pn, v.pd, v.cf⟩
          simp only [Int.toNat_natCast] at h4 ⊢
          obtain ⟨r1, r2⟩ := v.row k hk
          have hnn := h.nn
          by_cases e : p = k
          · subst e
            have : (b.nx.set p (b.nx.getD p [] ++ [(q : Int)])).getD p [] = b.nx.getD p [] ++ [(q : Int)] := by
              simp [List.getD, show p < b.nx.length by omega]
            rw [this]
            refine ⟨?_, fun j hj => ?_⟩
            · rw [List.nodup_append]
              refine ⟨r1, by simp, fun a ha c hc => ?_⟩
              rw [List.mem_singleton.1 hc]; rintro rfl; exact h4 ha
            · rcases List.mem_append.1 hj with hj | hj
              · exact r2 j hj
              · rw [List.mem_singleton.1 hj]; omega
          · have : (b.nx.set p (b.nx.getD p [] ++ [(q : Int)])).getD k [] = b.nx.getD k [] := by
              simp [List.getD, List.getElem?_set, e]
            rw [this]
            exact ⟨r1, r2⟩
  · exact v
theorem VI.lanes : ∀ {l : List (List UInt8)} {b : Bdr}, BI b → VI b → VI (b.lanesV l).2
  | [], b, h, v => v
  | [x], b, h, v => v
  | x :: y :: r, b, h, v => by
    simp only [Bdr.lanesV]
    split
    · exact VI.lanes (h.lane x y) (v.lane h x y)
    · exact v.lane h x y
theorem VI.spur {b : Bdr} (h : BI b) (n : NI b) (v : VI b) (d : Dc) (hn : nameB (d.names.getD 0 []) = true) : VI (b.spurV d).2 := by
  unfold Bdr.spurV
  split
  · exact v
  · rename_i h0
    have hni := not_named n h0
    split
    · rename_i i j g1 g2
      split
      · exact v
      · split
        · exact v
        · split
          · exact v
          · rename_i h1 h2 h3
            obtain ⟨p, rfl, hp⟩ := h.mb _ i g1
            obtain ⟨q, rfl, hq⟩ := h.mb _ j g2
            refine ⟨v.xy, fun x hx2 => ?_, ?_, v.row, fun s hs => ?_, v.pn, fun p hp => ?_, v.cf⟩
            · simp only [Bdr.nms, List.map_append, List.map_cons, List.map_nil, List.mem_append, List.mem_singleton] at hx2
              rcases hx2 with hx2 | hx2 | rfl
              · exact v.nm x (by simp only [Bdr.nms, List.mem_append]; exact .inl hx2)
              · exact v.nm x (by simp only [Bdr.nms, List.mem_append]; exact .inr hx2)
              · exact hn
            · have hv := v.nod
              simp only [Bdr.nms] at hv hni ⊢
              simp only [List.map_append, List.map_cons, List.map_nil, ← List.append_assoc]
              rw [List.nodup_append]
              refine ⟨hv, by simp, fun a ha c hc => ?_⟩
              rw [List.mem_singleton.1 hc]; rintro rfl; exact hni ha
            · rcases List.mem_append.1 hs with hs | hs
              · exact v.io s hs
              · rw [List.mem_singleton.1 hs]; simp only; omega
            · obtain ⟨⟨m, hm, hml⟩, _⟩ := h.pls p hp
              have := v.pd p hp
              rw [hm] at this ⊢
              simp only [Int.toNat_natCast] at this ⊢
              simp only [List.getD] at this ⊢
              rw [List.getElem?_append_left hml]
              exact this
    · exact v
theorem VI.robot {b : Bdr} (v : VI b) (d : Dc) : VI (b.robotV d).2 := by
  unfold Bdr.robotV
  split
  · exact v
  · rename_i i hi
    split
    · exact v
    split
    · exact v
    split
    · exact v
    split
    · exact v
    split
    · exact v
    rename_i h1 h2 h3 h4 h5
    refine ⟨v.xy, v.nm, v.nod, v.row, v.io, ?_, fun p hp => ?_, v.cf⟩
    · simp only
      rw [List.nodup_append]
      refine ⟨v.pn, by simp, fun a ha c hc => ?_⟩
      rw [List.mem_singleton.1 hc]; rintro rfl; exact h4 ha
    · rcases List.mem_append.1 hp with hp | hp
      · exact v.pd p hp
      · rw [List.mem_singleton.1 hp]
        simp only [decide_eq_true_eq] at h3 ⊢
        exact ⟨by simpa using h1, by omega⟩
theorem VI.config {b : Bdr} (v : VI b) (d : Dc) : VI (b.configV d).2 := by
  unfold Bdr.configV
  split
  · exact v
  · split
    · exact v
    · rename_i h1 h2
      refine ⟨v.xy, v.nm, v.nod, v.row, v.io, v.pn, v.pd, ?_⟩
      rw [cfgV_P] at h2
      simpa using h2
theorem valid_names {d : Dc} (h : validV d = true) : (∀ x ∈ d.names, nameB x = true) ∧ ∀ x ∈ d.nums, -9999 ≤ x ∧ x ≤ 9999 := by
  simp only [validV, Bool.and_eq_true, List.all_eq_true] at h
  obtain ⟨_, _, _, h4, h5⟩ := h
  refine ⟨h4, fun x hx => ?_⟩
  have := h5 x hx
  simp only [Bool.not_eq_true', Bool.or_eq_false_iff, decide_eq_false_iff_not] at this
  omega
theorem VI.add {b : Bdr} (h : BI b) (n : NI b) (v : VI b) (d : Dc) : VI (b.addV d).2 := by
  unfold Bdr.addV
  split
  · exact v
  rename_i hv
  have hv : validV d = true := by simpa using hv
  obtain ⟨⟨hw1, hw2⟩, hnu, hna⟩ := valid_shape hv
  obtain ⟨hnm, hnum⟩ := valid_names hv
  have nm0 : 1 ≤ d.names.length → nameB (d.names.getD 0 []) = true := fun h => hnm _ (getD_mem d.names 0 [] (by omega))
  have nu0 : ∀ i, i < d.nums.length → -9999 ≤ d.nums.getD i 0 ∧ d.nums.getD i 0 ≤ 9999 := fun i h => hnum _ (getD_mem d.nums i 0 h)
  split
  · rename_i c
    simp only [decide_eq_true_eq] at c
    simp only [shapeV, c, if_true] at hnu hna
    have a := nu0 0 (by omega)
    have c := nu0 1 (by omega)
    exact v.block h n d (nm0 (by omega)) ⟨a.1, a.2, c.1, c.2⟩
  split
  · exact v.lanes h
  split
  · exact v.robot d
  split
  · exact v.config d
  rename_i c1 c2 c3 c4
  simp only [decide_eq_true_eq] at c1 c2 c3 c4
  have : d.word = 3 ∨ d.word = 4 := by omega
  simp only [shapeV, c1, c2, this, if_true, if_false] at hnu hna
  exact v.spur h n d (nm0 (by omega))
theorem NI.add {b : Bdr} (h : BI b) (n : NI b) (d : Dc) (hd : d.names.length ≤ 10000000 ∧ d.nums.length ≤ 10000000) (h0 : (b.addV d).1 = 0) : NI (b.addV d).2 := by
  obtain ⟨_, _, h2⟩ := one_at h n d hd
  exact (h2 h0).2
theorem VI.adds : ∀ (l : List Dc) {b : Bdr}, smallD l → BI b → NI b → VI b → VI (addsV b l).2
  | [], b, _, h, n, v => v
  | d :: r, b, hs, h, n, v => by
    simp only [addsV]
    split
    · rename_i h0
      exact VI.adds r ⟨by have := hs.1; simp only [List.length_cons] at this; omega, fun x hx => hs.2 x (List.mem_cons_of_mem _ hx)⟩ (h.add d) (n.add h d (hs.2 d (by simp)) h0) (v.add h n d)
    · exact v
theorem VI.init : VI Bdr.init := by
  refine ⟨by simp [Bdr.init], by simp [Bdr.init, Bdr.nms], by simp [Bdr.init, Bdr.nms], by simp [Bdr.init], by simp [Bdr.init], by simp [Bdr.init], by simp [Bdr.init], ?_⟩
  show cfgP 4 2 1 8
  unfold cfgP; omega
theorem NI.adds {l : List Dc} (hl : smallD l) (h : (addsV Bdr.init l).1 = none) : NI (addsV Bdr.init l).2 := (adds_at l hl l 0 Bdr.init BI.init NI.init rfl (Nat.zero_le _)).2 h
theorem insS_nodup (l : List Int) (x : Int) (h : l.Nodup) (hx : x ∉ l) : (insS l x).Nodup := by
  induction l with
  | nil => simp [insS]
  | cons y r ih =>
    simp only [insS]
    obtain ⟨h1, h2⟩ := List.nodup_cons.1 h
    split
    · exact List.nodup_cons.2 ⟨hx, h⟩
    · refine List.nodup_cons.2 ⟨?_, ih h2 (fun h => hx (by simp [h]))⟩
      rw [insS_mem]
      rintro (rfl | h3)
      · exact hx (by simp)
      · exact h1 h3
theorem foldl_insS_ok : ∀ (l p : List Int), p.Pairwise (· ≤ ·) → p.Nodup → l.Nodup → (∀ x ∈ l, x ∉ p) → (l.foldl insS p).Pairwise (· ≤ ·) ∧ (l.foldl insS p).Nodup
  | [], p, h1, h2, _, _ => ⟨h1, h2⟩
  | x :: r, p, h1, h2, h3, h4 => by
    obtain ⟨h5, h6⟩ := List.nodup_cons.1 h3
    refine foldl_insS_ok r (insS p x) (insS_sorted p x h1) (insS_nodup p x h2 (h4 x (by simp))) h6 fun y hy => ?_
    rw [insS_mem]
    rintro (rfl | h7)
    · exact h5 hy
    · exact h4 y (by simp [hy]) h7
theorem sortV_ok (l : List Int) (h : l.Nodup) : (sortV l).Pairwise (· ≤ ·) ∧ (sortV l).Nodup := foldl_insS_ok l [] List.Pairwise.nil List.nodup_nil h (by simp)
theorem sortV_in (l : List Int) (x : Int) : x ∈ sortV l ↔ x ∈ l := by rw [sortV, sortV_mem]; simp
theorem getD_map' {α β : Type} (f : α → β) (l : List α) (i : Nat) (x : α) (y : β) (h : i < l.length) : (l.map f).getD i y = f (l.getD i x) := by simp [List.getD, h]
theorem row_sorted (nb i : Nat) (l : List Int) (h : l.Nodup) (h2 : ∀ j ∈ l, 0 ≤ j ∧ j < (nb : Int) ∧ j ≠ (i : Int)) : rowP nb i (sortV l) := by
  obtain ⟨h3, h4⟩ := sortV_ok l h
  intro k hk
  have hm : (sortV l).getD k 0 ∈ l := (sortV_in l _).1 (getD_mem _ k 0 hk)
  obtain ⟨a, b, c⟩ := h2 _ hm
  refine ⟨a, b, c, fun hk0 => ?_⟩
  have e1 : (sortV l).getD k 0 = (sortV l)[k] := gde hk
  have hk1 : k - 1 < (sortV l).length := by omega
  have e2 : (sortV l).getD (k - 1) 0 = (sortV l)[k - 1] := gde hk1
  rw [e1, e2]
  have h5 := List.pairwise_iff_getElem.1 h3 (k - 1) k hk1 hk (by omega)
  have h6 : (sortV l)[k - 1] ≠ (sortV l)[k] := fun e => by
    have := (List.nodup_iff_pairwise_ne.1 h4)
    exact List.pairwise_iff_getElem.1 this (k - 1) k hk1 hk (by omega) e
  omega
theorem sortV_rows {b : Bdr} (h : BI b) (v : VI b) (i : Nat) (hi : i < b.bl.length) : rowP b.bl.length i ((b.nx.map sortV).getD i []) ∧ ((b.nx.map sortV).getD i []).length ≤ 4 := by
  have hn := h.nn
  rw [getD_map' sortV b.nx i [] [] (by omega)]
  obtain ⟨r1, r2⟩ := v.row i hi
  exact ⟨row_sorted _ _ _ r1 r2, by rw [sortV_len]; exact h.row i⟩
theorem spB_get (n : Int) (sp : List Spr) (ba : List Int) (h : ba.length = sp.length) (i : Nat) (hi : i < sp.length) : (spB n sp ba).getD i spr0 = { sp.getD i spr0 with base := n + ba.getD i 0 } := by
  have h1 : i < (spB n sp ba).length := by rw [spB_len _ _ _ h]; exact hi
  have h2 : i < ba.length := by omega
  rw [gde h1, gde hi, gde h2]
  simp [spB]
theorem spB_sum (n : Int) : ∀ (sp : List Spr) (ba : List Int) (i : Nat), ba.length = sp.length → sumS ((spB n sp ba).take i) = sumS (sp.take i)
  | [], ba, i, h => by simp [spB]
  | s :: r, [], i, h => by simp at h
  | s :: r, x :: t, 0, h => by simp
  | s :: r, x :: t, i + 1, h => by
    have := spB_sum n r t i (by simpa using h)
    simp only [spB, List.zipWith_cons_cons, List.take_succ_cons, sumS] at this ⊢
    rw [this]
theorem mem_any_inD {sp : List Spr} {i : Nat} (hi : i < sp.length) {x : Int} (h1 : (sp.getD i spr0).depot = true) (h2 : (sp.getD i spr0).base ≤ x) (h3 : x < (sp.getD i spr0).base + (sp.getD i spr0).slots) : sp.any (inD x) = true := by
  rw [List.any_eq_true]
  exact ⟨sp.getD i spr0, getD_mem sp i spr0 hi, by simp only [inD, h1, Bool.true_and, Bool.and_eq_true, decide_eq_true_eq]; exact ⟨h2, h3⟩⟩
theorem net_valid {b : Bdr} (h : BI b) (n : NI b) (v : VI b) (h1 : b.bl.length ≠ 0) (h2 : b.sp.any (·.depot) = true) : validN b.net := by
  have hnn := h.nn
  have hba := h.nba
  have hlen : (spB b.bl.length b.sp b.ba).length = b.sp.length := spB_len _ _ _ hba
  have hsp : spursP b.bl.length (spB b.bl.length b.sp b.ba) := by
    intro i hi
    rw [hlen] at hi
    have hm := getD_mem b.sp i spr0 hi
    rw [spB_get _ _ _ hba i hi, spB_sum _ _ _ _ hba]
    obtain ⟨a1, a2, a3, a4⟩ := v.io _ hm
    obtain ⟨a5, a6⟩ := h.sps _ hm
    exact ⟨a1, a2, a3, a4, a5, a6, by simp only; rw [n.ba i hi]⟩
  have hpl : ∀ p ∈ b.pl, ∃ m : Nat, p.1 = (m : Int) ∧ m < b.sp.length ∧ plB (spB b.bl.length b.sp b.ba) p = ((spB b.bl.length b.sp b.ba).getD m spr0).base + p.2 - 1 ∧ 1 ≤ p.2 ∧ p.2 ≤ ((spB b.bl.length b.sp b.ba).getD m spr0).slots ∧ ((spB b.bl.length b.sp b.ba).getD m spr0).depot = true := by
    intro p hp
    obtain ⟨⟨m, hm, hml⟩, hp1, hp2⟩ := h.pls p hp
    obtain ⟨hd1, hd2⟩ := v.pd p hp
    rw [hm, Int.toNat_natCast] at hd1 hd2
    refine ⟨m, hm, hml, by rw [plB, hm, Int.toNat_natCast], hp1, ?_, ?_⟩ <;> rw [spB_get _ _ _ hba m hml]
    · exact hd2
    · exact hd1
  refine ⟨⟨by show 1 ≤ b.bl.length; omega, h.nb, by show (b.nx.map sortV).length = b.bl.length; simp [hnn], fun i hi => ⟨v.xy _ (getD_mem b.bl i blk0 hi), (sortV_rows h v i hi).2, (sortV_rows h v i hi).1⟩⟩, ?_, ?_, ?_, v.cf, hsp, ?_, ?_⟩
  · show (spB b.bl.length b.sp b.ba).length ≤ 6
    rw [hlen]; exact h.ns
  · have e : namesN b.net = b.nms := by
      have : (spB b.bl.length b.sp b.ba).map Spr.name = b.sp.map Spr.name := by
        apply List.ext_getElem (by simp [hlen])
        intro i h1 h2
        simp [spB]
      simp only [namesN, Bdr.net, Bdr.nms, this]
    unfold namesP
    rw [e]
    intro i hi
    exact ⟨v.nm _ (getD_mem _ i [] hi), fun k hk => (nodup_getD _).1 v.nod i hi k hk⟩
  · show (b.pl.map _).length ≤ 8
    simp only [List.length_map]; exact h.np
  · have hnod : (b.pl.map (plB (spB b.bl.length b.sp b.ba))).Nodup := by
      have hinj : ∀ p ∈ b.pl, ∀ q ∈ b.pl, plB (spB b.bl.length b.sp b.ba) p = plB (spB b.bl.length b.sp b.ba) q → p = q := by
        intro p hp q hq he
        obtain ⟨m, hm, hml, e1, a1, a2, _⟩ := hpl p hp
        obtain ⟨k, hk, hkl, e2, c1, c2, _⟩ := hpl q hq
        have i1 : inS (plB (spB b.bl.length b.sp b.ba) p) ((spB b.bl.length b.sp b.ba).getD m spr0) = true := by
          simp only [inS, Bool.and_eq_true, decide_eq_true_eq]; omega
        have i2 : inS (plB (spB b.bl.length b.sp b.ba) p) ((spB b.bl.length b.sp b.ba).getD k spr0) = true := by
          simp only [inS, Bool.and_eq_true, decide_eq_true_eq]; omega
        have := inS_one hsp (by omega) (by omega) i1 i2
        subst this
        obtain ⟨p1, p2⟩ := p
        obtain ⟨q1, q2⟩ := q
        simp only at hm hk e1 e2
        rw [Prod.mk.injEq]
        exact ⟨by omega, by omega⟩
      refine List.pairwise_map.2 ?_
      refine List.Pairwise.imp_of_mem ?_ (List.nodup_iff_pairwise_ne.1 v.pn)
      intro p q hp hq hne he
      exact hne (hinj p hp q hq he)
    intro i hi
    have hi2 : i < b.pl.length := by simpa [Bdr.net] using hi
    obtain ⟨m, hm, hml, e1, a1, a2, a3⟩ := hpl _ (getD_mem b.pl i (0, 0) hi2)
    show (spB b.bl.length b.sp b.ba).any (inD ((b.pl.map (plB (spB b.bl.length b.sp b.ba))).getD i 0)) = true ∧ (b.pl.map (plB (spB b.bl.length b.sp b.ba))).getD i 0 ∉ (b.pl.map (plB (spB b.bl.length b.sp b.ba))).take i
    refine ⟨?_, fun hmem => ?_⟩
    · rw [getD_map' _ b.pl i (0, 0) 0 hi2]
      exact mem_any_inD (by rw [hlen]; exact hml) a3 (by omega) (by omega)
    · obtain ⟨k, hk, he⟩ := List.mem_iff_getElem.1 hmem
      have hi3 : i < (b.pl.map (plB (spB b.bl.length b.sp b.ba))).length := by simpa using hi2
      rw [List.getElem_take, gde hi3] at he
      have hk2 : k < i := by simp at hk; omega
      exact List.pairwise_iff_getElem.1 (List.nodup_iff_pairwise_ne.1 hnod) k i (by omega) hi3 hk2 he
  · show 0 < ((spB b.bl.length b.sp b.ba).filter Spr.depot).length
    rw [List.any_eq_true] at h2
    obtain ⟨s, hs, hd⟩ := h2
    obtain ⟨i, hi, rfl⟩ := List.mem_iff_getElem.1 hs
    have hm : (spB b.bl.length b.sp b.ba).getD i spr0 ∈ (spB b.bl.length b.sp b.ba).filter Spr.depot := by
      rw [List.mem_filter]
      refine ⟨getD_mem _ i spr0 (by rw [hlen]; exact hi), ?_⟩
      rw [spB_get _ _ _ hba i hi, gde hi]; exact hd
    exact List.length_pos_of_mem hm
theorem adds_err : ∀ (l : List Dc) (b : Bdr) (x e : Int), (addsV b l).1 = some (x, e) → e ≠ 0
  | [], b, x, e, h => by simp [addsV] at h
  | d :: r, b, x, e, h => by
    simp only [addsV] at h
    split at h
    · exact adds_err r _ x e h
    · rename_i h0
      simp only [Option.some.injEq, Prod.mk.injEq] at h
      rw [← h.2]; exact h0
theorem build_valid (d : List Dc) (hd : smallD d) (h : (nbuildV d).2.2 = 0) : validN (nbuildV d).1 := by
  have h1 : BI (addsV Bdr.init d).2 := BI.init.adds d
  have h3 : VI (addsV Bdr.init d).2 := VI.adds d hd BI.init NI.init VI.init
  have h2 := NI.adds hd
  unfold nbuildV at h ⊢
  rcases hb : addsV Bdr.init d with ⟨o, b⟩
  rw [hb] at h h1 h2 h3
  cases o with
  | some p =>
    obtain ⟨x, e⟩ := p
    exact absurd h (adds_err d Bdr.init x e (by rw [hb]))
  | none =>
    simp only at h ⊢
    by_cases c1 : b.bl.length = 0
    · rw [decide_eq_true c1, if_pos rfl] at h; simp at h
    · by_cases c2 : b.sp.any (·.depot) = false
      · rw [if_neg (by simpa using c1), if_pos c2] at h; simp at h
      · rw [if_neg (by simpa using c1), if_neg c2]
        exact net_valid h1 (h2 rfl) h3 c1 (by simpa using c2)
end Go.Am
end
section
namespace Go.Am
open Go Go.Proofs
set_option maxRecDepth 100000
set_option linter.unusedVariables false
set_option linter.unusedSimpArgs false
theorem addsV_app : ∀ (l1 l2 : List Dc) (b b' : Bdr), addsV b l1 = (none, b') → addsV b (l1 ++ l2) = addsV b' l2
  | [], l2, b, b', h => by simp only [addsV, Prod.mk.injEq, true_and] at h; subst h; rfl
  | d :: r, l2, b, b', h => by
    simp only [List.cons_append, addsV] at h ⊢
    split at h
    · rename_i h0; rw [if_pos h0]; exact addsV_app r l2 _ b' h
    · simp at h
theorem addsV_one {b b' : Bdr} {d : Dc} (h : b.addV d = (0, b')) : addsV b [d] = (none, b') := by simp only [addsV, h, if_true]
theorem addsV_num : ∀ (l : List Dc) (i : Nat) (b b' : Bdr), addsV b l = (none, b') → addsV b (numD i l) = (none, b')
  | [], i, b, b', h => h
  | d :: r, i, b, b', h => by
    have e : b.addV ⟨d.word, (i : Int) + 1, d.names, d.nums⟩ = b.addV d := rfl
    simp only [numD, addsV, e] at h ⊢
    split at h
    · rename_i h0; rw [if_pos h0]; exact addsV_num r (i + 1) _ b' h
    · simp at h
theorem adds_BN : ∀ (l : List Dc) (b b' : Bdr), (∀ x ∈ l, x.names.length ≤ 10 ∧ x.nums.length ≤ 10) → BI b → NI b → addsV b l = (none, b') → BI b' ∧ NI b'
  | [], b, b', _, h, n, he => by simp only [addsV, Prod.mk.injEq, true_and] at he; subst he; exact ⟨h, n⟩
  | d :: r, b, b', hs, h, n, he => by
    simp only [addsV] at he
    split at he
    · rename_i h0
      exact adds_BN r _ b' (fun x hx => hs x (List.mem_cons_of_mem _ hx)) (h.add d) (n.add h d (by have := hs d (by simp); omega) h0) he
    · simp at he
theorem namedV_no {b : Bdr} (n : NI b) {x : List UInt8} (h1 : x ∉ b.bl.map Blk.name) (h2 : x ∉ b.sp.map Spr.name) : b.namedV x = false := by
  rw [named_at n, ixN_none.2 h1, ixN_none.2 h2]; rfl
theorem ixN_nodup {l : List (List UInt8)} (h : l.Nodup) (i : Nat) (hi : i < l.length) : ixN l (l.getD i []) = some i := by
  cases c : ixN l (l.getD i []) with
  | none => exact absurd (getD_mem l i [] hi) (ixN_none.1 c)
  | some j =>
    obtain ⟨hj, he⟩ := ixN_some c
    rcases Nat.lt_trichotomy i j with h1 | h1 | h1
    · exact absurd he.symm (fun e => (nodup_getD l).1 h j hj i h1 e.symm)
    · rw [h1]
    · exact absurd he.symm ((nodup_getD l).1 h i hi j h1)
theorem valid_blk {x : Blk} (hn : nameB x.name = true) (hx : xyP x) : validV (blkD x) = true := by
  unfold xyP at hx
  simp [validV, blkD, shapeV, hn]
  omega
theorem add_blk {b : Bdr} (n : NI b) (x : Blk) (hn : nameB x.name = true) (hx : xyP x) (h1 : x.name ∉ b.bl.map Blk.name) (h2 : x.name ∉ b.sp.map Spr.name) (hl : b.bl.length < 24) :
    b.addV (blkD x) = (0, { b with mb := putS b.mb x.name b.bl.length, bl := b.bl ++ [x], nx := b.nx ++ [[]] }) := by
  unfold Bdr.addV
  rw [valid_blk hn hx, if_neg (by decide)]
  show (if decide ((1 : Int) = 1) = true then b.blockV (blkD x) else _) = _
  rw [if_pos (by decide)]
  unfold Bdr.blockV
  show (if b.namedV x.name = true then _ else _) = _
  rw [namedV_no n h1 h2, if_neg (by decide), if_neg (by omega)]
  rfl
theorem valid_lan {n : Nt} {i : Nat} {x : Int} (h1 : nameB (n.blocks.getD i blk0).name = true) (h2 : nameB (bnm n x) = true) : validV (lanD n i x) = true := by
  unfold lanD
  generalize (n.blocks.getD i blk0).name = a at *
  generalize bnm n x = c at *
  simp [validV, shapeV, h1, h2]
theorem add_lan {b : Bdr} {n : Nt} {i : Nat} {j : Nat} (h1 : nameB (n.blocks.getD i blk0).name = true) (h2 : nameB (bnm n j) = true) (g1 : getS b.mb (n.blocks.getD i blk0).name = some (i : Int)) (g2 : getS b.mb (bnm n j) = some (j : Int))
    (hij : i ≠ j) (hm : (j : Int) ∉ b.nx.getD i []) (hl : (b.nx.getD i []).length < 4) :
    b.addV (lanD n i j) = (0, { b with nx := b.nx.set i (b.nx.getD i [] ++ [(j : Int)]) }) := by
  have hL : b.laneV (n.blocks.getD i blk0).name (bnm n j) = (0, { b with nx := b.nx.set i (b.nx.getD i [] ++ [(j : Int)]) }) := by
    unfold Bdr.laneV
    rw [g1, g2]
    simp only
    rw [if_neg (by omega), if_neg (by simpa using hm), if_neg (by simp only [Int.toNat_natCast]; omega)]
    simp
  unfold Bdr.addV
  rw [valid_lan h1 h2, if_neg (by decide)]
  show (if decide ((2 : Int) = 1) = true then _ else if decide ((2 : Int) = 2) = true then b.lanesV [(n.blocks.getD i blk0).name, bnm n j] else _) = _
  rw [if_neg (by decide), if_pos (by decide)]
  simp only [Bdr.lanesV, hL, if_true]
def base0 (s : Spr) : Spr := { s with base := 0 }
theorem add_spr {b : Bdr} (nI : NI b) {n : Nt} {s : Spr} {i j : Nat} (h1 : nameB s.name = true) (h2 : nameB (bnm n s.inn) = true) (h3 : nameB (bnm n s.out) = true) (hi : s.inn = (i : Int)) (hj : s.out = (j : Int))
    (g1 : getS b.mb (bnm n s.inn) = some (i : Int)) (g2 : getS b.mb (bnm n s.out) = some (j : Int)) (n1 : s.name ∉ b.bl.map Blk.name) (n2 : s.name ∉ b.sp.map Spr.name) (hs : 1 ≤ s.slots ∧ s.slots ≤ 4) (hl : b.sp.length < 6) :
    b.addV (sprD n s) = (0, { b with ms := putS b.ms s.name b.sp.length, sp := b.sp ++ [base0 s], ba := b.ba ++ [b.sl], sl := b.sl + s.slots }) := by
  have hv : validV (sprD n s) = true := by
    cases hd : s.depot
    · simp [validV, sprD, shapeV, h1, h2, h3, hd]; omega
    · simp [validV, sprD, shapeV, h1, h2, h3, hd]; omega
  have hw : (sprD n s).word = 3 ∨ (sprD n s).word = 4 := by
    cases hd : s.depot
    · simp [sprD, hd]
    · simp [sprD, hd]
  have hw4 : decide ((sprD n s).word = 4) = s.depot := by
    cases hd : s.depot
    · simp [sprD, hd]
    · simp [sprD, hd]
  unfold Bdr.addV
  rw [hv, if_neg (by decide), if_neg (by simp only [decide_eq_true_eq]; omega), if_neg (by simp only [decide_eq_true_eq]; omega), if_neg (by simp only [decide_eq_true_eq]; omega), if_neg (by simp only [decide_eq_true_eq]; omega)]
  unfold Bdr.spurV
  rw [show (sprD n s).names.getD 0 [] = s.name from rfl, show (sprD n s).names.getD 1 [] = bnm n s.inn from rfl, show (sprD n s).names.getD 2 [] = bnm n s.out from rfl, show (sprD n s).nums.getD 0 0 = s.slots from rfl,
    namedV_no nI n1 n2, if_neg (by decide), g1, g2, hw4]
  simp only
  rw [if_neg (by simp only [decide_eq_true_eq]; omega), if_neg (by simp only [decide_eq_true_eq]; omega), if_neg (by omega), ← hi, ← hj]
  rfl
theorem add_rob {b : Bdr} {r : Int} {s : Spr} {j : Nat} (h1 : nameB s.name = true) (g1 : getS b.ms s.name = some (j : Int)) (hd : (b.sp.getD j spr0).depot = true) (hs : (b.sp.getD j spr0).slots = s.slots)
    (hr : inS r s = true) (hs4 : s.slots ≤ 4) (hm : ((j : Int), r - s.base + 1) ∉ b.pl) (hl : b.pl.length < 8) : b.addV (robD r s) = (0, { b with pl := b.pl ++ [((j : Int), r - s.base + 1)] }) := by
  simp only [inS, Bool.and_eq_true, decide_eq_true_eq] at hr
  have hv : validV (robD r s) = true := by simp [validV, robD, shapeV, h1]; omega
  unfold Bdr.addV
  rw [hv, if_neg (by decide)]
  show (if decide ((5 : Int) = 1) = true then _ else if decide ((5 : Int) = 2) = true then _ else if decide ((5 : Int) = 5) = true then b.robotV (robD r s) else _) = _
  rw [if_neg (by decide), if_neg (by decide), if_pos (by decide)]
  unfold Bdr.robotV
  rw [show (robD r s).names.getD 0 [] = s.name from rfl, show (robD r s).nums.getD 0 0 = r - s.base + 1 from rfl, g1]
  simp only [Int.toNat_natCast]
  rw [if_neg (by rw [hd]; decide), if_neg (by simp only [decide_eq_true_eq]; omega), if_neg (by simp only [decide_eq_true_eq]; omega), if_neg hm, if_neg (by omega)]
theorem add_cfg {b : Bdr} {q a d p : Int} (hc : cfgP q a d p) (hf : b.cf = false) : b.addV ⟨6, 0, [], [q, a, d, p]⟩ = (0, { b with cq := q, ca := a, cd := d, cp := p, cf := true }) := by
  have hc2 := hc
  unfold cfgP at hc2
  have hv : validV ⟨6, 0, [], [q, a, d, p]⟩ = true := by simp [validV, shapeV]; omega
  unfold Bdr.addV
  rw [hv, if_neg (by decide)]
  show (if decide ((6 : Int) = 1) = true then _ else if decide ((6 : Int) = 2) = true then _ else if decide ((6 : Int) = 5) = true then _ else if decide ((6 : Int) = 6) = true then b.configV ⟨6, 0, [], [q, a, d, p]⟩ else _) = _
  rw [if_neg (by decide), if_neg (by decide), if_neg (by decide), if_pos (by decide)]
  unfold Bdr.configV
  rw [if_neg (by simp [hf])]
  show (if cfgV q a d p = false then _ else _) = _
  rw [cfgV_P, decide_eq_true hc, if_neg (by decide)]
  rfl
theorem nms_nodup {n : Nt} (h : namesP n) : (namesN n).Nodup := (nodup_getD _).2 fun i hi k hk => (h i hi).2 k hk
theorem nms_blk {n : Nt} (h : namesP n) (i : Nat) (hi : i < n.blocks.length) : nameB (n.blocks.getD i blk0).name = true := by
  have := (h i (by simp [namesN]; omega)).1
  rwa [namesN_get i (by simp [namesN]; omega), if_pos hi] at this
theorem nms_spr {n : Nt} (h : namesP n) (i : Nat) (hi : i < n.spurs.length) : nameB (n.spurs.getD i spr0).name = true := by
  have := (h (n.blocks.length + i) (by simp [namesN]; omega)).1
  rwa [namesN_get _ (by simp [namesN]; omega), if_neg (by omega), show n.blocks.length + i - n.blocks.length = i by omega] at this
theorem nod_blk {n : Nt} (h : namesP n) : (n.blocks.map Blk.name).Nodup := (List.nodup_append.1 (nms_nodup h)).1
theorem nod_spr {n : Nt} (h : namesP n) : (n.spurs.map Spr.name).Nodup := (List.nodup_append.1 (nms_nodup h)).2.1
theorem nod_x {n : Nt} (h : namesP n) {a : List UInt8} (h1 : a ∈ n.blocks.map Blk.name) (h2 : a ∈ n.spurs.map Spr.name) : False := (List.nodup_append.1 (nms_nodup h)).2.2 a h1 a h2 rfl
theorem nod_take {l : List (List UInt8)} (h : l.Nodup) (k : Nat) (hk : k < l.length) : l.getD k [] ∉ l.take k := by
  intro hm
  obtain ⟨i, hi, he⟩ := List.mem_iff_getElem.1 hm
  rw [List.getElem_take] at he
  have hik : i < k := by simp at hi; omega
  refine (nodup_getD l).1 h k hk i hik ?_
  rw [gde (show i < l.length by omega), he]
theorem add_blks {n : Nt} (hv : validN n) : ∀ k, k ≤ n.blocks.length → ∃ b, addsV Bdr.init ((n.blocks.take k).map blkD) = (none, b) ∧ BI b ∧ NI b ∧ b.bl = n.blocks.take k ∧ b.nx = List.replicate k [] ∧ b.sp = [] ∧ b.ba = [] ∧ b.pl = [] ∧ b.cf = false := by
  obtain ⟨hb, hs6, hnm, hr8, hcf, hsp, hrb, _⟩ := hv
  intro k
  induction k with
  | zero => intro _; exact ⟨Bdr.init, rfl, BI.init, NI.init, rfl, rfl, rfl, rfl, rfl, rfl⟩
  | succ k ih =>
    intro hk
    obtain ⟨b, h1, h2, h3, h4, h5, h6, h7, h8, h9⟩ := ih (by omega)
    have hx := (hb.2.2.2 k (by omega)).1
    have hlen : b.bl.length = k := by rw [h4]; simp; omega
    have hst := add_blk (x := n.blocks.getD k blk0) h3 (nms_blk hnm k (by omega)) hx
      (by
        rw [h4, List.map_take]
        have := nod_take (nod_blk hnm) k (by simp; omega)
        rwa [getD_map' Blk.name n.blocks k blk0 [] (by omega)] at this)
      (by rw [h6]; simp) (by have := hb.2.1; omega)
    have h10 := (addsV_app _ _ _ _ h1).trans (addsV_one hst)
    have e : (n.blocks.take (k + 1)).map blkD = (n.blocks.take k).map blkD ++ [blkD (n.blocks.getD k blk0)] := by rw [take_snoc n.blocks k blk0 (by omega), List.map_append]; rfl
    rw [← e] at h10
    have hBN := adds_BN _ _ _ (fun x hx => by obtain ⟨y, _, rfl⟩ := List.mem_map.1 hx; simp [blkD]) BI.init NI.init h10
    refine ⟨_, h10, hBN.1, hBN.2, ?_, ?_, h6, h7, h8, h9⟩
    · simp only; rw [h4, take_snoc n.blocks k blk0 (by omega)]
    · simp only; rw [h5, List.replicate_succ']
theorem nx_at (p : List (List Int)) (x : List Int) (q : List (List Int)) (i : Nat) (h : i = p.length) : (p ++ x :: q).getD i [] = x := by subst h; simp [List.getD]
theorem get_mb {n : Nt} (hnm : namesP n) {b : Bdr} (h3 : NI b) (hbl : b.bl = n.blocks) (i : Nat) (hi : i < n.blocks.length) : getS b.mb (n.blocks.getD i blk0).name = some (i : Int) := by
  rw [h3.mb, hbl]
  have := ixN_nodup (nod_blk hnm) i (by simpa using hi)
  rw [getD_map' Blk.name n.blocks i blk0 [] hi] at this
  rw [this]; rfl
theorem rowP_lt {nb i : Nat} {l : List Int} (h : rowP nb i l) : ∀ {k t : Nat}, t < k → k < l.length → l.getD t 0 < l.getD k 0 := by
  intro k
  induction k with
  | zero => intro t h; omega
  | succ k ih =>
    intro t ht hk
    have h1 := (h (k + 1) hk).2.2.2 (by omega)
    rw [show k + 1 - 1 = k by omega] at h1
    by_cases e : t = k
    · rw [e]; exact h1
    · have := ih (t := t) (by omega) (by omega); omega
theorem add_row {n : Nt} (hv : validN n) (i : Nat) (hi : i < n.blocks.length) (q : List (List Int)) : ∀ (k : Nat) (b : Bdr), BI b → NI b → b.bl = n.blocks → k ≤ (n.next.getD i []).length → b.nx = n.next.take i ++ (n.next.getD i []).take k :: q →
    addsV b (((n.next.getD i []).drop k).map (lanD n i)) = (none, { b with nx := n.next.take i ++ n.next.getD i [] :: q }) := by
  obtain ⟨hb, hs6, hnm, hr8, hcf, hsp, hrb, _⟩ := hv
  have hnl := hb.2.2.1
  obtain ⟨_, hl4, hrow⟩ := hb.2.2.2 i hi
  have hrs := hrow
  generalize hR : n.next.getD i [] = R at *
  have hti : (n.next.take i).length = i := by simp; omega
  intro k
  generalize hm : R.length - k = m
  induction m generalizing k with
  | zero =>
    intro b h2 h3 hbl hk hnx
    have : k = R.length := by omega
    subst this
    rw [List.drop_length, List.map_nil, List.take_length] at *
    simp only [addsV]
    rw [← hnx]
  | succ m ih =>
    intro b h2 h3 hbl hk hnx
    have hkl : k < R.length := by omega
    obtain ⟨a1, a2, a3, a4⟩ := hrow k hkl
    rw [List.drop_eq_getElem_cons hkl, List.map_cons]
    obtain ⟨j, hj⟩ : ∃ j : Nat, R.getD k 0 = (j : Int) := ⟨(R.getD k 0).toNat, by omega⟩
    have hj2 : R[k] = (j : Int) := by rw [← gde hkl]; exact hj
    have hjb : j < n.blocks.length := by omega
    have hx : b.nx.getD i [] = R.take k := by rw [hnx]; exact nx_at _ _ _ i hti.symm
    have hst := add_lan (b := b) (n := n) (i := i) (j := j) (nms_blk hnm i hi) (by unfold bnm; rw [Int.toNat_natCast]; exact nms_blk hnm j hjb) (get_mb hnm h3 hbl i hi) (by unfold bnm; rw [Int.toNat_natCast]; exact get_mb hnm h3 hbl j hjb)
      (by omega) (by
        rw [hx]; intro hmem
        obtain ⟨t, ht, he⟩ := List.mem_iff_getElem.1 hmem
        rw [List.getElem_take] at he
        have htk : t < k := by simp at ht; omega
        have := rowP_lt hrow htk hkl
        rw [gde (show t < R.length by omega), gde hkl] at this
        omega)
      (by rw [hx, List.length_take]; omega)
    rw [hj2]
    simp only [addsV, hst, if_true]
    have hset : b.nx.set i (b.nx.getD i [] ++ [(j : Int)]) = n.next.take i ++ R.take (k + 1) :: q := by
      rw [hx, hnx]
      have := set_mid (n.next.take i) q (R.take k) (R.take k ++ [(j : Int)])
      rw [hti] at this
      rw [this, take_snoc R k 0 hkl, hj]
    rw [hset]
    have hBN := adds_BN [lanD n i j] b _ (fun x hx => by rw [List.mem_singleton.1 hx]; simp [lanD]) h2 h3 (addsV_one hst)
    rw [hset] at hBN
    exact ih (k + 1) (by omega) { b with nx := n.next.take i ++ R.take (k + 1) :: q } hBN.1 hBN.2 hbl (by omega) rfl
theorem lanL_sml (n : Nt) (i : Nat) : ∀ x ∈ lanL n i, x.names.length ≤ 10 ∧ x.nums.length ≤ 10 := by
  intro x hx
  obtain ⟨y, _, rfl⟩ := List.mem_map.1 hx; simp [lanD]
theorem add_lans {n : Nt} (hv : validN n) {b : Bdr} (h2 : BI b) (h3 : NI b) (hbl : b.bl = n.blocks) (hnx : b.nx = List.replicate n.blocks.length []) : ∀ i, i ≤ n.blocks.length →
    addsV b (desc2 n i) = (none, { b with nx := n.next.take i ++ List.replicate (n.blocks.length - i) [] }) := by
  have hnl := hv.1.2.2.1
  intro i
  induction i with
  | zero => intro _; simp only [desc2, List.range_zero, List.flatMap_nil, addsV, List.take_zero, List.nil_append, Nat.sub_zero, ← hnx]
  | succ i ih =>
    intro hi
    have h1 := ih (by omega)
    have hsm : ∀ x ∈ desc2 n i, x.names.length ≤ 10 ∧ x.nums.length ≤ 10 := by
      intro x hx
      obtain ⟨y, _, hy⟩ := List.mem_flatMap.1 hx
      exact lanL_sml n y x hy
    obtain ⟨hB, hN⟩ := adds_BN _ _ _ hsm h2 h3 h1
    rw [desc2_succ, addsV_app _ _ _ _ h1]
    have hrep : List.replicate (n.blocks.length - i) ([] : List Int) = [] :: List.replicate (n.blocks.length - (i + 1)) [] := by
      rw [show n.blocks.length - i = (n.blocks.length - (i + 1)) + 1 by omega, List.replicate_succ]
    rw [hrep] at hB hN ⊢
    have := add_row hv i (by omega) (List.replicate (n.blocks.length - (i + 1)) []) 0 _ hB hN hbl (Nat.zero_le _) (by simp)
    rw [List.drop_zero] at this
    rw [lanL, this, take_snoc n.next i [] (by omega), List.append_assoc]; rfl
theorem add_spurs {n : Nt} (hv : validN n) {b0 : Bdr} (hB0 : BI b0) (hN0 : NI b0) (hbl : b0.bl = n.blocks) (hsp0 : b0.sp = []) : ∀ k, k ≤ n.spurs.length →
    ∃ b, addsV b0 ((n.spurs.take k).map (sprD n)) = (none, b) ∧ BI b ∧ NI b ∧ b.bl = b0.bl ∧ b.nx = b0.nx ∧ b.sp = (n.spurs.take k).map base0 ∧ b.pl = b0.pl ∧ b.cf = b0.cf := by
  obtain ⟨hb, hs6, hnm, hr8, hcf, hsp, hrb, _⟩ := hv
  intro k
  induction k with
  | zero => intro _; exact ⟨b0, rfl, hB0, hN0, rfl, rfl, by simpa using hsp0, rfl, rfl⟩
  | succ k ih =>
    intro hk
    obtain ⟨b, h1, h2, h3, h4, h5, h6, h7, h8⟩ := ih (by omega)
    obtain ⟨x, y, hx, hxb, hy, hyb⟩ := spur_blk hsp (show k < n.spurs.length by omega)
    obtain ⟨_, _, _, _, s1, s2, _⟩ := hsp k (by omega)
    have hbn : ∀ z : Nat, bnm n (z : Int) = (n.blocks.getD z blk0).name := fun z => by unfold bnm; rw [Int.toNat_natCast]
    have hnsp : (n.spurs.getD k spr0).name ∉ b.sp.map Spr.name := by
      have e : b.sp.map Spr.name = (n.spurs.map Spr.name).take k := by
        rw [h6, List.map_map, List.map_take]; rfl
      rw [e]
      have := nod_take (nod_spr hnm) k (by simp; omega)
      rwa [getD_map' Spr.name n.spurs k spr0 [] (by omega)] at this
    have hnbl : (n.spurs.getD k spr0).name ∉ b.bl.map Blk.name := fun hm => by
      rw [h4, hbl] at hm
      exact nod_x hnm hm (List.mem_map.2 ⟨_, getD_mem n.spurs k spr0 (by omega), rfl⟩)
    have hst := add_spr (b := b) h3 (n := n) (s := n.spurs.getD k spr0) (i := x) (j := y) (nms_spr hnm k (by omega)) (by rw [hx, hbn]; exact nms_blk hnm x hxb) (by rw [hy, hbn]; exact nms_blk hnm y hyb) hx hy
      (by rw [hx, hbn]; exact get_mb hnm h3 (h4.trans hbl) x hxb) (by rw [hy, hbn]; exact get_mb hnm h3 (h4.trans hbl) y hyb) hnbl hnsp ⟨s1, s2⟩ (by rw [h6]; simp; omega)
    have h10 := (addsV_app _ _ _ _ h1).trans (addsV_one hst)
    have e : (n.spurs.take (k + 1)).map (sprD n) = (n.spurs.take k).map (sprD n) ++ [sprD n (n.spurs.getD k spr0)] := by rw [take_snoc n.spurs k spr0 (by omega), List.map_append]; rfl
    rw [← e] at h10
    have hBN := adds_BN _ _ _ (fun x hx => by obtain ⟨y, _, rfl⟩ := List.mem_map.1 hx; simp [sprD]) hB0 hN0 h10
    refine ⟨_, h10, hBN.1, hBN.2, h4, h5, ?_, h7, h8⟩
    simp only; rw [h6, take_snoc n.spurs k spr0 (by omega), List.map_append]; rfl
def plOf (sp : List Spr) (r : Int) : Int × Int := match sp.findIdx? (inS r) with
  | some j => ((j : Int), r - (sp.getD j spr0).base + 1)
  | none => (0, 0)
theorem plOf_at {nb : Nat} {sp : List Spr} (hsp : spursP nb sp) {rb : List Int} (hr : robotsP sp rb) {k : Nat} (hk : k < rb.length) :
    ∃ j, j < sp.length ∧ inS (rb.getD k 0) (sp.getD j spr0) = true ∧ (sp.getD j spr0).depot = true ∧ sp.filter (inS (rb.getD k 0)) = [sp.getD j spr0] ∧ plOf sp (rb.getD k 0) = ((j : Int), rb.getD k 0 - (sp.getD j spr0).base + 1) := by
  obtain ⟨j, hj, h1, h2, h3⟩ := rob_spur hsp hr hk
  refine ⟨j, hj, h1, h2, h3, ?_⟩
  unfold plOf
  cases c : sp.findIdx? (inS (rb.getD k 0)) with
  | none =>
    rw [List.findIdx?_eq_none_iff] at c
    have := c _ (getD_mem sp j spr0 hj)
    rw [h1] at this; cases this
  | some i =>
    obtain ⟨hi, hi2, _⟩ := List.findIdx?_eq_some_iff_getElem.1 c
    have := inS_one hsp hi hj (by rw [gde hi]; exact hi2) h1
    rw [this]
theorem get_ms {n : Nt} (hnm : namesP n) {b : Bdr} (h3 : NI b) (hsp : b.sp = n.spurs.map base0) (i : Nat) (hi : i < n.spurs.length) : getS b.ms (n.spurs.getD i spr0).name = some (i : Int) := by
  have e : b.sp.map Spr.name = n.spurs.map Spr.name := by rw [hsp, List.map_map]; rfl
  rw [h3.ms, e]
  have := ixN_nodup (nod_spr hnm) i (by simpa using hi)
  rw [getD_map' Spr.name n.spurs i spr0 [] hi] at this
  rw [this]; rfl
theorem add_robs {n : Nt} (hv : validN n) {b : Bdr} (hB0 : BI b) (hN0 : NI b) (hsp0 : b.sp = n.spurs.map base0) (hpl : b.pl = []) : ∀ k, k ≤ n.robots.length →
    addsV b (desc4 n k) = (none, { b with pl := (n.robots.take k).map (plOf n.spurs) }) := by
  obtain ⟨hb, hs6, hnm, hr8, hcf, hsp, hrb, _⟩ := hv
  intro k
  induction k with
  | zero => intro _; simp only [desc4, List.take_zero, List.flatMap_nil, addsV, List.map_nil, ← hpl]
  | succ k ih =>
    intro hk
    have h1 := ih (by omega)
    obtain ⟨j, hj, i1, i2, i3, i4⟩ := plOf_at hsp hrb (show k < n.robots.length by omega)
    obtain ⟨_, _, _, _, s1, s2, _⟩ := hsp j hj
    have hg : b.sp.getD j spr0 = base0 (n.spurs.getD j spr0) := by rw [hsp0]; exact getD_map' base0 n.spurs j spr0 spr0 hj
    have hst := add_rob (b := { b with pl := (n.robots.take k).map (plOf n.spurs) }) (r := n.robots.getD k 0) (s := n.spurs.getD j spr0) (j := j) (nms_spr hnm j hj) (get_ms hnm hN0 hsp0 j hj) (by simp only; rw [hg]; exact i2) (by simp only; rw [hg]; rfl) i1 s2
      (by
        simp only
        intro hmem
        obtain ⟨r, hr, he⟩ := List.mem_map.1 hmem
        obtain ⟨t, ht, rfl⟩ := List.mem_iff_getElem.1 hr
        rw [List.getElem_take] at he hr
        have htk : t < k := by simp at ht; omega
        obtain ⟨j2, hj2, l1, l2, l3, l4⟩ := plOf_at hsp hrb (show t < n.robots.length by omega)
        rw [gde (show t < n.robots.length by omega)] at l4 l1
        rw [l4, Prod.mk.injEq] at he
        have : j2 = j := by omega
        subst this
        have hnot := (hrb k (by omega)).2
        apply hnot
        have : n.robots.getD k 0 = n.robots[t] := by omega
        rw [this]
        exact hr)
      (by simp only [List.length_map, List.length_take]; omega)
    rw [desc4_succ n k (by omega), addsV_app _ _ _ _ h1, robL, List.take_length, i3]
    show addsV _ [robD _ _] = _
    rw [addsV_one hst]
    simp only
    rw [take_snoc n.robots k 0 (by omega), List.map_append]
    simp only [List.map_cons, List.map_nil, i4]
theorem sortV_id : ∀ (l p : List Int), (p ++ l).Pairwise (· ≤ ·) → l.foldl insS p = p ++ l
  | [], p, _ => by simp
  | x :: r, p, h => by
    have hx : insS p x = p ++ [x] := by
      rcases List.eq_nil_or_concat p with rfl | ⟨q, y, rfl⟩
      · rfl
      · rw [List.concat_eq_append] at h ⊢
        have h2 : (q ++ [y]).Pairwise (· ≤ ·) := (List.pairwise_append.1 h).1
        have h3 : y ≤ x := (List.pairwise_append.1 h).2.2 y (by simp) x (by simp)
        rw [insS_snoc_ge q y x h2 (by omega)]; simp
    simp only [List.foldl_cons]
    rw [hx, sortV_id r (p ++ [x]) (by rw [List.append_assoc]; exact h), List.append_assoc]; rfl
theorem row_id {nb i : Nat} {l : List Int} (h : rowP nb i l) : sortV l = l := by
  have : l.Pairwise (· ≤ ·) := by
    rw [List.pairwise_iff_getElem]
    intro t k ht hk htk
    have := rowP_lt h htk hk
    rw [gde ht, gde hk] at this
    omega
  simpa [sortV] using sortV_id l [] (by simpa using this)
theorem sumS_base0 (l : List Spr) (k : Nat) : sumS ((l.map base0).take k) = sumS (l.take k) := by
  induction l generalizing k with
  | nil => simp
  | cons s r ih => cases k with
    | zero => simp
    | succ k => simp only [List.map_cons, List.take_succ_cons, sumS, ih]; rfl
theorem back_adds {n : Nt} (hv : validN n) : ∃ b, addsV Bdr.init (descV n) = (none, b) ∧ BI b ∧ NI b ∧ b.net = n ∧ b.bl = n.blocks ∧ b.sp = n.spurs.map base0 ∧ b.cf = true := by
  have hv0 := hv
  obtain ⟨hb, hs6, hnm, hr8, hcf, hsp, hrb, _⟩ := hv
  have hnl := hb.2.2.1
  obtain ⟨b1, a1, a2, a3, a4, a5, a6, a7, a8, a9⟩ := add_blks hv0 n.blocks.length (Nat.le_refl _)
  rw [List.take_length] at a1 a4
  have c1 := add_lans hv0 a2 a3 a4 a5 n.blocks.length (Nat.le_refl _)
  have hsm2 : ∀ x ∈ desc2 n n.blocks.length, x.names.length ≤ 10 ∧ x.nums.length ≤ 10 := by
    intro x hx
    obtain ⟨y, _, hy⟩ := List.mem_flatMap.1 hx
    exact lanL_sml n y x hy
  obtain ⟨c2, c3⟩ := adds_BN _ _ _ hsm2 a2 a3 c1
  have ht : n.next.take n.blocks.length = n.next := by rw [← hnl, List.take_length]
  rw [Nat.sub_self, List.replicate_zero, List.append_nil, ht] at c1 c2 c3
  obtain ⟨b3, d1, d2, d3, d4, d5, d6, d7, d8⟩ := add_spurs hv0 c2 c3 a4 a6 n.spurs.length (Nat.le_refl _)
  rw [List.take_length] at d1 d6
  have e1 := add_robs hv0 d2 d3 d6 (d7.trans a8) n.robots.length (Nat.le_refl _)
  rw [List.take_length] at e1
  have hsm4 : ∀ x ∈ desc4 n n.robots.length, x.names.length ≤ 10 ∧ x.nums.length ≤ 10 := by
    intro x hx
    obtain ⟨i, _, hx⟩ := List.mem_flatMap.1 hx
    obtain ⟨b, _, rfl⟩ := List.mem_map.1 hx; simp [robD]
  obtain ⟨e2, e3⟩ := adds_BN _ _ _ hsm4 d2 d3 e1
  have f1 := addsV_one (add_cfg (b := { b3 with pl := n.robots.map (plOf n.spurs) }) hcf (d8.trans a9))
  have e0 := (addsV_app _ _ _ _ a1).trans ((addsV_app _ _ _ _ c1).trans ((addsV_app _ _ _ _ d1).trans ((addsV_app _ _ _ _ e1).trans f1)))
  have ee : desc0 n = n.blocks.map blkD ++ (desc2 n n.blocks.length ++ (n.spurs.map (sprD n) ++ (desc4 n n.robots.length ++ [⟨6, 0, [], [n.cq, n.ca, n.cd, n.cp]⟩]))) := by simp only [desc0, desc1, desc3, List.append_assoc]
  rw [← ee] at e0
  obtain ⟨f2, f3⟩ := adds_BN _ _ _ (fun x hx => by rw [List.mem_singleton.1 hx]; simp) e2 e3 f1
  refine ⟨_, addsV_num _ 0 _ _ e0, f2, f3, ?_, d4.trans a4, d6, rfl⟩
  have g1 : (spB b3.bl.length b3.sp b3.ba) = n.spurs := by
    apply List.ext_getElem (by rw [spB_len _ _ _ d2.nba, d6]; simp)
    intro i h1 h2
    rw [← gde (x := spr0) h1, ← gde (x := spr0) h2]
    have hi : i < b3.sp.length := by rw [d6]; simpa using h2
    rw [spB_get _ _ _ d2.nba i hi, d3.ba i hi, d6, sumS_base0, getD_map' base0 n.spurs i spr0 spr0 h2]
    have := (hsp i h2).2.2.2.2.2.2
    rw [d4, a4, ← this]
    rfl
  have g2 : (n.robots.map (plOf n.spurs)).map (plB n.spurs) = n.robots := by
    rw [List.map_map]
    apply List.ext_getElem (by simp)
    intro i h1 h2
    obtain ⟨j, hj, i1, i2, i3, i4⟩ := plOf_at hsp hrb h2
    rw [gde h2] at i4
    rw [List.getElem_map]
    show plB n.spurs (plOf n.spurs n.robots[i]) = _
    rw [i4, plB]
    simp only [Int.toNat_natCast]
    omega
  have g3 : n.next.map sortV = n.next := by
    apply List.ext_getElem (by simp)
    intro i h1 h2
    rw [List.getElem_map]
    have := (hb.2.2.2 i (by omega)).2.2
    rw [gde h2] at this
    exact row_id this
  unfold Bdr.net
  simp only
  rw [g1, g2, d5]
  simp only
  rw [g3, d4, a4]
theorem build_back {n : Nt} (hv : validN n) : nbuildV (descV n) = (n, 0, 0) := by
  obtain ⟨b, h1, h2, h3, h4, h5, h6, h7⟩ := back_adds hv
  unfold nbuildV
  rw [h1]
  simp only
  rw [if_neg (by rw [h5]; have := hv.1.1; simp only [decide_eq_true_eq]; omega), h4, h6]
  rw [if_neg]
  intro he
  obtain ⟨_, _, _, _, _, _, _, hd⟩ := hv
  obtain ⟨s, hs⟩ := List.exists_mem_of_length_pos hd
  rw [List.mem_filter] at hs
  rw [List.any_eq_false] at he
  exact he (base0 s) (List.mem_map.2 ⟨s, hs.1, rfl⟩) hs.2
end Go.Am
end
section
namespace Go.Am
open Go Go.Proofs
set_option maxRecDepth 100000
set_option maxHeartbeats 2000000
set_option linter.unusedSimpArgs false
set_option linter.unusedVariables false
noncomputable def known03_v  : Option (Bool) :=
  Option.bind example03_v fun x1 => Option.bind (nbuild_v x1) fun (x3, x4, x5) => cond (decide (x5 = 0)) (cond (decide (x4 = 0)) (cond (decide (((x3.blocks.length : Nat) : Int) = 2)) (Option.bind (mk_SameLists_v x3.next [[1], [0]]) fun x10 => cond x10 (cond (decide (((x3.spurs.length : Nat) : Int) = 1)) (Option.bind (idxO x3.spurs 0) fun x14 => cond (decide (x14.base = 2)) (Option.bind (mk_SameInts_v x3.robots [3]) fun x19 => cond x19 (cond (decide (x3.cq = 4) && (decide (x3.ca = 2) && (decide (x3.cd = 1) && decide (x3.cp = 8)))) (Option.bind (netmap_Valid_v (⟨x3.blocks, x3.next, x3.spurs, x3.robots, x3.cq, x3.ca, x3.cd, x3.cp⟩ : Nt)) fun x23 => some x23) (some false)) (some false)) (some false)) (some false)) (some false)) (some false)) (some false)) (some false)
theorem known03_vok  (r : Bool) (hr : known03_v  = some r) :
    ACalls Try.prog 23 [] [] fun h d => h = [] ∧ d = .p (.bool r) := by
  refine ACalls_X Try.func23 rfl enters23 (by simp [Try.f23]) ?_
  unfold known03_v at hr
  rcases g2 : example03_v with _ | x1
  · simp only [g2, Option.bind_none, reduceCtorEq] at hr
  simp only [g2, Option.bind_some] at hr
  try simp only [go_sem]
  refine Cc_of (example03_vok  _ g2) ?_
  rintro h' r ⟨rfl, rfl⟩
  rcases g6 : nbuild_v x1 with _ | ⟨x3, x4, x5⟩
  · simp only [g6, Option.bind_none, reduceCtorEq] at hr
  simp only [g6, Option.bind_some] at hr
  try simp only [go_sem]
  refine Cc_of (nbuild_vok x1 _ g6) ?_
  rintro h' r ⟨rfl, rfl⟩
  cases c7 : decide (x5 = 0)
  · simp only [c7, cond_false] at hr
    obtain rfl := Option.some.inj hr
    try simp only [go_sem, c7]
    all_goals (try refine end_pure ?_)
    all_goals (try simp only [go_sem, c7])
    all_goals (try (first | rfl | exact ⟨rfl, rfl⟩ | (simp; done)))
  simp only [c7, cond_true] at hr
  cases c8 : decide (x4 = 0)
  · simp only [c8, cond_false] at hr
    obtain rfl := Option.some.inj hr
    try simp only [go_sem, c7, c8]
    all_goals (try refine end_pure ?_)
    all_goals (try simp only [go_sem, c7, c8])
    all_goals (try (first | rfl | exact ⟨rfl, rfl⟩ | (simp; done)))
  simp only [c8, cond_true] at hr
  cases c9 : decide (((x3.blocks.length : Nat) : Int) = 2)
  · simp only [c9, cond_false] at hr
    obtain rfl := Option.some.inj hr
    try simp only [go_sem, c7, c8, c9]
    all_goals (try refine end_pure ?_)
    all_goals (try simp only [go_sem, c7, c8, c9])
    all_goals (try (first | rfl | exact ⟨rfl, rfl⟩ | (simp; done)))
  simp only [c9, cond_true] at hr
  rcases g11 : mk_SameLists_v x3.next [[1], [0]] with _ | x10
  · simp only [g11, Option.bind_none, reduceCtorEq] at hr
  simp only [g11, Option.bind_some] at hr
  try simp only [go_sem, c7, c8, c9]
  refine Cc_bor rfl rfl (mk_SameLists_vok x3.next [[1], [0]] _ g11) (by simp [BorL, Bor, ev, get, List.take_of_length_le, encI_takeF, encS_takeF, encT_takeF, encG_takeF, encC_takeF, encL_takeF, encK_takeF, encP_takeF, encI_len, encS_len, encT_len2, encG_len2, encC_len, encL_len, encK_len2, encP_len2, encI_nil, encS_nil, encT_nil, encG_nil, encC_nil, encL_nil, encK_nil, encP_nil] <;> rfl) ?_
  rintro h' r ⟨rfl, rfl⟩
  refine ⟨rfl, rfl, ?_⟩
  cases c12 : x10
  · simp only [c12, cond_false] at hr
    obtain rfl := Option.some.inj hr
    try simp only [go_sem, c7, c8, c9, c12]
    all_goals (try refine end_pure ?_)
    all_goals (try simp only [go_sem, c7, c8, c9, c12])
    all_goals (try (first | rfl | exact ⟨rfl, rfl⟩ | (simp; done)))
  simp only [c12, cond_true] at hr
  cases c13 : decide (((x3.spurs.length : Nat) : Int) = 1)
  · simp only [c13, cond_false] at hr
    obtain rfl := Option.some.inj hr
    try simp only [go_sem, c7, c8, c9, c12, c13]
    all_goals (try refine end_pure ?_)
    all_goals (try simp only [go_sem, c7, c8, c9, c12, c13])
    all_goals (try (first | rfl | exact ⟨rfl, rfl⟩ | (simp; done)))
  simp only [c13, cond_true] at hr
  rcases g15 : idxO x3.spurs 0 with _ | x14
  · simp only [g15, Option.bind_none, reduceCtorEq] at hr
  simp only [g15, Option.bind_some] at hr
  have f16 := idxO_rng g15
  have f17 : (encP x3.spurs).getD 0 [] = [(.str x14.name), (.bool x14.depot), (.int .i64 x14.inn), (.int .i64 x14.out), (.int .i64 x14.slots), (.int .i64 x14.base)] := idxO_map _ g15
  cases c18 : decide (x14.base = 2)
  · simp only [c18, cond_false] at hr
    obtain rfl := Option.some.inj hr
    try simp only [go_sem, c7, c8, c9, c12, c13, f16, f17, c18]
    all_goals (try refine end_pure ?_)
    all_goals (try simp only [go_sem, c7, c8, c9, c12, c13, f16, f17, c18])
    all_goals (try (first | rfl | exact ⟨rfl, rfl⟩ | (simp; done)))
  simp only [c18, cond_true] at hr
  rcases g20 : mk_SameInts_v x3.robots [3] with _ | x19
  · simp only [g20, Option.bind_none, reduceCtorEq] at hr
  simp only [g20, Option.bind_some] at hr
  try simp only [go_sem, c7, c8, c9, c12, c13, f16, f17, c18]
  refine Cc_bor rfl rfl (mk_SameInts_vok x3.robots [3] _ g20) (by simp [BorL, Bor, ev, get, List.take_of_length_le, encI_takeF, encS_takeF, encT_takeF, encG_takeF, encC_takeF, encL_takeF, encK_takeF, encP_takeF, encI_len, encS_len, encT_len2, encG_len2, encC_len, encL_len, encK_len2, encP_len2, encI_nil, encS_nil, encT_nil, encG_nil, encC_nil, encL_nil, encK_nil, encP_nil] <;> rfl) ?_
  rintro h' r ⟨rfl, rfl⟩
  refine ⟨rfl, rfl, ?_⟩
  cases c21 : x19
  · simp only [c21, cond_false] at hr
    obtain rfl := Option.some.inj hr
    try simp only [go_sem, c7, c8, c9, c12, c13, f16, f17, c18, c21]
    all_goals (try refine end_pure ?_)
    all_goals (try simp only [go_sem, c7, c8, c9, c12, c13, f16, f17, c18, c21])
    all_goals (try (first | rfl | exact ⟨rfl, rfl⟩ | (simp; done)))
  simp only [c21, cond_true] at hr
  cases c22 : decide (x3.cq = 4) && (decide (x3.ca = 2) && (decide (x3.cd = 1) && decide (x3.cp = 8)))
  · simp only [c22, cond_false] at hr
    obtain rfl := Option.some.inj hr
    try simp only [go_sem, c7, c8, c9, c12, c13, f16, f17, c18, c21, c22]
    all_goals (try refine end_pure ?_)
    all_goals (try simp only [go_sem, c7, c8, c9, c12, c13, f16, f17, c18, c21, c22])
    all_goals (try (first | rfl | exact ⟨rfl, rfl⟩ | (simp; done)))
  simp only [c22, cond_true] at hr
  rcases g24 : netmap_Valid_v (⟨x3.blocks, x3.next, x3.spurs, x3.robots, x3.cq, x3.ca, x3.cd, x3.cp⟩ : Nt) with _ | x23
  · simp only [g24, Option.bind_none, reduceCtorEq] at hr
  simp only [g24, Option.bind_some] at hr
  try simp only [go_sem, c7, c8, c9, c12, c13, f16, f17, c18, c21, c22]
  refine Cc_of (netmap_Valid_vok (⟨x3.blocks, x3.next, x3.spurs, x3.robots, x3.cq, x3.ca, x3.cd, x3.cp⟩ : Nt) _ g24) ?_
  rintro h' r ⟨rfl, rfl⟩
  obtain rfl := Option.some.inj hr
  try simp only [go_sem, c7, c8, c9, c12, c13, f16, f17, c18, c21, c22]
  all_goals (try refine end_pure ?_)
  all_goals (try simp only [go_sem, c7, c8, c9, c12, c13, f16, f17, c18, c21, c22])
  all_goals (try (first | rfl | exact ⟨rfl, rfl⟩ | (simp; done)))
end Go.Am
end
section
namespace Go.Am
open Go Go.Proofs
set_option maxRecDepth 100000
set_option linter.unusedVariables false
set_option linter.unusedSimpArgs false
def exD : List Dc := [⟨1, 1, [[97]], [0, 0]⟩, ⟨1, 2, [[98]], [1, 0]⟩, ⟨2, 3, [[97], [98], [97]], []⟩, ⟨4, 4, [[100], [97], [98]], [2]⟩, ⟨5, 5, [[100]], [2]⟩]
def exN : Nt := ⟨[⟨[97], 0, 0⟩, ⟨[98], 1, 0⟩], [[1], [0]], [⟨[100], true, 0, 1, 2, 2⟩], [3], 4, 2, 1, 8⟩
theorem exD_small : smallD exD := by
  refine ⟨by decide, fun x hx => ?_⟩
  simp only [exD, List.mem_cons, List.not_mem_nil, or_false] at hx
  rcases hx with rfl | rfl | rfl | rfl | rfl <;> decide
theorem ex_build : nbuildV exD = (exN, 0, 0) := by kernel_rfl
theorem exN_valid : validN exN := by
  have := build_valid exD exD_small (by rw [ex_build])
  rwa [ex_build] at this
theorem example_v : example03_v = some exD := rfl
theorem known03_true : known03_v = some true := by
  unfold known03_v
  rw [example_v, Option.bind_some, nbuild_v_at _ exD_small, ex_build, Option.bind_some]
  simp only [decide_true, cond_true]
  rw [show (decide (((exN.blocks.length : Nat) : Int) = 2)) = true from rfl, cond_true, show exN.next = [[1], [0]] from rfl, sameLists_self _ (by decide) (by simp), Option.bind_some, cond_true,
    show (decide (((exN.spurs.length : Nat) : Int) = 1)) = true from rfl, cond_true, show idxO exN.spurs 0 = some ⟨[100], true, 0, 1, 2, 2⟩ from rfl, Option.bind_some]
  simp only [decide_true, cond_true]
  rw [show exN.robots = [3] from rfl, sameInts_self _ (by decide), Option.bind_some, cond_true]
  have e : netmap_Valid_v exN = some true := by rw [nvalid_v exN (validN_small exN_valid), decide_eq_true exN_valid]
  rw [show (decide (exN.cq = 4) && (decide (exN.ca = 2) && (decide (exN.cd = 1) && decide (exN.cp = 8)))) = true from rfl, cond_true]
  show Option.bind (netmap_Valid_v exN) _ = _
  rw [e, Option.bind_some]
theorem known03_ok : ACalls Try.prog 23 [] [] fun h d => h = [] ∧ d = .p (.bool true) := known03_vok true known03_true
end Go.Am
end
section
namespace Go.Am
open Go Go.Proofs
set_option maxRecDepth 100000
set_option maxHeartbeats 2000000
set_option linter.unusedSimpArgs false
set_option linter.unusedVariables false
noncomputable def lawValid_L1 (a0 : Nt) (y1 : Nt) (x5 : Nt) : Int → Option ((Int) ⊕ (Int ⊕ Bool))
  | v8 => cond (decide (v8 < 3)) (Option.bind (idxO [(⟨a0.blocks, a0.next, a0.spurs, a0.robots, a0.cq, a0.ca, a0.cd, a0.cp⟩ : Nt), (⟨y1.blocks, y1.next, y1.spurs, y1.robots, y1.cq, y1.ca, y1.cd, y1.cp⟩ : Nt), (⟨x5.blocks, x5.next, x5.spurs, x5.robots, x5.cq, x5.ca, x5.cd, x5.cp⟩ : Nt)] v8) fun x17 => Option.bind (ndescribe_v (⟨x17.blocks, x17.next, x17.spurs, x17.robots, x17.cq, x17.ca, x17.cd, x17.cp⟩ : Nt)) fun (x21, x22) => Option.bind (rdesc_v (⟨x17.blocks, x17.next, x17.spurs, x17.robots, x17.cq, x17.ca, x17.cd, x17.cp⟩ : Nt)) fun (x24, x25) => Option.bind (netmap_Valid_v (⟨x17.blocks, x17.next, x17.spurs, x17.robots, x17.cq, x17.ca, x17.cd, x17.cp⟩ : Nt)) fun x27 => Option.bind (rvalid_v (⟨x17.blocks, x17.next, x17.spurs, x17.robots, x17.cq, x17.ca, x17.cd, x17.cp⟩ : Nt)) fun x29 => cond (x27 == x29) (cond (decide (x22 = x25)) (Option.bind (sameDecls_v x21 x24) fun x33 => cond x33 (some (Sum.inl (IntKind.i64.wrap (v8 + 1)))) (some (Sum.inr (.inr (false))))) (some (Sum.inr (.inr (false))))) (some (Sum.inr (.inr (false))))) (some (Sum.inr (.inl v8)))
theorem lawValid_L1_eq (a0 : Nt) (y1 : Nt) (x5 : Nt) (v8 : Int) : lawValid_L1 a0 y1 x5 v8 = cond (decide (v8 < 3)) (Option.bind (idxO [(⟨a0.blocks, a0.next, a0.spurs, a0.robots, a0.cq, a0.ca, a0.cd, a0.cp⟩ : Nt), (⟨y1.blocks, y1.next, y1.spurs, y1.robots, y1.cq, y1.ca, y1.cd, y1.cp⟩ : Nt), (⟨x5.blocks, x5.next, x5.spurs, x5.robots, x5.cq, x5.ca, x5.cd, x5.cp⟩ : Nt)] v8) fun x17 => Option.bind (ndescribe_v (⟨x17.blocks, x17.next, x17.spurs, x17.robots, x17.cq, x17.ca, x17.cd, x17.cp⟩ : Nt)) fun (x21, x22) => Option.bind (rdesc_v (⟨x17.blocks, x17.next, x17.spurs, x17.robots, x17.cq, x17.ca, x17.cd, x17.cp⟩ : Nt)) fun (x24, x25) => Option.bind (netmap_Valid_v (⟨x17.blocks, x17.next, x17.spurs, x17.robots, x17.cq, x17.ca, x17.cd, x17.cp⟩ : Nt)) fun x27 => Option.bind (rvalid_v (⟨x17.blocks, x17.next, x17.spurs, x17.robots, x17.cq, x17.ca, x17.cd, x17.cp⟩ : Nt)) fun x29 => cond (x27 == x29) (cond (decide (x22 = x25)) (Option.bind (sameDecls_v x21 x24) fun x33 => cond x33 (some (Sum.inl (IntKind.i64.wrap (v8 + 1)))) (some (Sum.inr (.inr (false))))) (some (Sum.inr (.inr (false))))) (some (Sum.inr (.inr (false))))) (some (Sum.inr (.inl v8))) := rfl
noncomputable def lawValid_v (a0 : Nt) (a1 : List Int) (a2 : Int × Int × Int) (y1 : Nt) (y2 : List Int) (y3 : Int) : Option (Bool) :=
  Option.bind (spoil_v (⟨y1.blocks, y1.next, y1.spurs, y1.robots, y1.cq, y1.ca, y1.cd, y1.cp⟩ : Nt) (a2.1, a2.2.1, a2.2.2)) fun x5 => Option.bind (loopO (lawValid_L1 a0 y1 x5) 0) (fun | .inl v36 => Option.bind (netmap_Valid_v (⟨y1.blocks, y1.next, y1.spurs, y1.robots, y1.cq, y1.ca, y1.cd, y1.cp⟩ : Nt)) fun x37 => some x37 | .inr (r39) => some r39)
theorem lawValid_vok (a0 : Nt) (a1 : List Int) (a2 : Int × Int × Int) (r : Bool) (hr : ∀ (y1 : Nt) (y2 : List Int) (y3 : Int), LooseQ y1 y2 y3 → lawValid_v a0 a1 a2 y1 y2 y3 = some r) :
    ACalls Try.prog 9 [.agg [.p (.sl (encK a0.blocks)), .p (.sl (encG a0.next)), .p (.sl (encP a0.spurs)), .p (.sl (encI a0.robots)), .p (.int .i64 a0.cq), .p (.int .i64 a0.ca), .p (.int .i64 a0.cd), .p (.int .i64 a0.cp)], .p (.sl (encI a1)), .agg [.p (.int .i64 a2.1), .p (.int .i64 a2.2.1), .p (.int .i64 a2.2.2)]] [] fun h d => h = [] ∧ d = .p (.bool r) := by
  refine ACalls_X Try.func9 rfl enters9 (by simp [Try.f9]) ?_
  unfold lawValid_v at hr
  try simp only [go_sem]
  refine Cc_of known03_ok ?_
  rintro h' r ⟨rfl, rfl⟩
  try simp only [go_sem]
  refine Cc_of (loose6 a1) ?_
  rintro h' r ⟨y1, y2, y3, q4, rfl, rfl⟩
  replace hr := hr y1 y2 y3 q4
  try simp only [go_sem]
  refine X_any0 mixed (p := [(0, 0), (1, 0), (2, 0), (3, 0), (4, 2), (5, 1), (6, 0)]) (by kernel_rfl) (by simp [LeH, get]) ?_
  rcases g6 : spoil_v (⟨y1.blocks, y1.next, y1.spurs, y1.robots, y1.cq, y1.ca, y1.cd, y1.cp⟩ : Nt) (a2.1, a2.2.1, a2.2.2) with _ | x5
  · simp only [g6, Option.bind_none, reduceCtorEq] at hr
  simp only [g6, Option.bind_some] at hr
  try simp only [go_sem]
  refine Gh_of (spoil_vok (⟨y1.blocks, y1.next, y1.spurs, y1.robots, y1.cq, y1.ca, y1.cd, y1.cp⟩ : Nt) (a2.1, a2.2.1, a2.2.2) _ g6) ?_
  rintro h' r ⟨rfl, rfl⟩
  rcases g13 : loopO (lawValid_L1 a0 y1 x5) 0 with _ | e12
  · simp only [g13, Option.bind_none, reduceCtorEq] at hr
  simp only [g13, Option.bind_some] at hr
  try simp only [go_sem]
  refine X_loopO g13 (fun q : Int => ⟨[(7, .ptr 7 0), (8, .ref 25 0 ([(⟨a0.blocks, a0.next, a0.spurs, a0.robots, a0.cq, a0.ca, a0.cd, a0.cp⟩ : Nt), (⟨y1.blocks, y1.next, y1.spurs, y1.robots, y1.cq, y1.ca, y1.cd, y1.cp⟩ : Nt), (⟨x5.blocks, x5.next, x5.spurs, x5.robots, x5.cq, x5.ca, x5.cd, x5.cp⟩ : Nt)].length) ([(⟨a0.blocks, a0.next, a0.spurs, a0.robots, a0.cq, a0.ca, a0.cd, a0.cp⟩ : Nt), (⟨y1.blocks, y1.next, y1.spurs, y1.robots, y1.cq, y1.ca, y1.cd, y1.cp⟩ : Nt), (⟨x5.blocks, x5.next, x5.spurs, x5.robots, x5.cq, x5.ca, x5.cd, x5.cp⟩ : Nt)].length)), (9, .p (.int .i64 q))], [(7, .box [.p (.sl (encK y1.blocks)), .p (.sl (encG y1.next)), .p (.sl (encP y1.spurs)), .p (.sl (encI y1.robots)), .p (.int .i64 y1.cq), .p (.int .i64 y1.ca), .p (.int .i64 y1.cd), .p (.int .i64 y1.cp)]), (25, .arr 49 8 (encN [(⟨a0.blocks, a0.next, a0.spurs, a0.robots, a0.cq, a0.ca, a0.cd, a0.cp⟩ : Nt), (⟨y1.blocks, y1.next, y1.spurs, y1.robots, y1.cq, y1.ca, y1.cd, y1.cp⟩ : Nt), (⟨x5.blocks, x5.next, x5.spurs, x5.robots, x5.cq, x5.ca, x5.cd, x5.cp⟩ : Nt)]))], 70⟩) ((Wk.forget (by simp [Le, LeE, LeH, get, envIds, hpIds, KeepH, D.ids, idsL, AO.ids, setL, base, encI_nil, encS_nil, encT_nil, encG_nil, encC_nil, encL_nil, encK_nil, encP_nil, mpS_nil, mpB_nil, encI_consE, encS_consE, encT_consE, encG_consE, encI_one, encS_one, encT_one, encI_snoc, encS_snoc, encT_snocE, encG_snocE, encC_snoc, encL_snoc, encK_snocE, encP_snocE, encI_set, encS_set, encT_setE, encG_setE, encC_setE, encK_setE, encP_setE, encI_len, encS_len, encT_len2, encG_len2, encC_len, encL_len, encK_len2, encP_len2, encN_nil, encN_consE, encN_len2]))) ?_
  rintro v8 m11 hh9 ih10
  rw [lawValid_L1_eq] at hh9
  cases c14 : decide (v8 < 3)
  · simp only [c14, cond_false] at hh9
    simp only [Option.bind_some, nextO_inr] at hh9
    obtain rfl := Option.some.inj hh9
    try dsimp only at hr
    rcases g16 : netmap_Valid_v (⟨y1.blocks, y1.next, y1.spurs, y1.robots, y1.cq, y1.ca, y1.cd, y1.cp⟩ : Nt) with _ | x15
    · simp only [g16, Option.bind_none, reduceCtorEq] at hr
    simp only [g16, Option.bind_some] at hr
    try simp only [go_sem, c14]
    refine Cc_of (netmap_Valid_vok (⟨y1.blocks, y1.next, y1.spurs, y1.robots, y1.cq, y1.ca, y1.cd, y1.cp⟩ : Nt) _ g16) ?_
    rintro h' r ⟨rfl, rfl⟩
    obtain rfl := Option.some.inj hr
    try simp only [go_sem, c14]
    all_goals (try refine end_pure ?_)
    all_goals (try simp only [go_sem, c14])
    all_goals (try (first | rfl | exact ⟨rfl, rfl⟩ | (simp; done)))
  simp only [c14, cond_true] at hh9
  rcases g18 : idxO [(⟨a0.blocks, a0.next, a0.spurs, a0.robots, a0.cq, a0.ca, a0.cd, a0.cp⟩ : Nt), (⟨y1.blocks, y1.next, y1.spurs, y1.robots, y1.cq, y1.ca, y1.cd, y1.cp⟩ : Nt), (⟨x5.blocks, x5.next, x5.spurs, x5.robots, x5.cq, x5.ca, x5.cd, x5.cp⟩ : Nt)] v8 with _ | x17
  · simp only [g18, Option.bind_none, reduceCtorEq] at hh9
  simp only [g18, Option.bind_some] at hh9
  have f19 : 0 ≤ v8 ∧ v8 < 3 := by have := idxO_rng g18; simp only [List.length_cons, List.length_nil] at this; omega
  have f20 : (encN [(⟨a0.blocks, a0.next, a0.spurs, a0.robots, a0.cq, a0.ca, a0.cd, a0.cp⟩ : Nt), (⟨y1.blocks, y1.next, y1.spurs, y1.robots, y1.cq, y1.ca, y1.cd, y1.cp⟩ : Nt), (⟨x5.blocks, x5.next, x5.spurs, x5.robots, x5.cq, x5.ca, x5.cd, x5.cp⟩ : Nt)]).getD (Int.toNat v8) [] = [(.sl (encK x17.blocks)), (.sl (encG x17.next)), (.sl (encP x17.spurs)), (.sl (encI x17.robots)), (.int .i64 x17.cq), (.int .i64 x17.ca), (.int .i64 x17.cd), (.int .i64 x17.cp)] := idxO_map _ g18
  rcases g23 : ndescribe_v (⟨x17.blocks, x17.next, x17.spurs, x17.robots, x17.cq, x17.ca, x17.cd, x17.cp⟩ : Nt) with _ | ⟨x21, x22⟩
  · simp only [g23, Option.bind_none, reduceCtorEq] at hh9
  simp only [g23, Option.bind_some] at hh9
  try simp only [go_sem, c14, f19, f20]
  refine Cc_of (ndescribe_vok (⟨x17.blocks, x17.next, x17.spurs, x17.robots, x17.cq, x17.ca, x17.cd, x17.cp⟩ : Nt) _ g23) ?_
  rintro h' r ⟨rfl, rfl⟩
  rcases g26 : rdesc_v (⟨x17.blocks, x17.next, x17.spurs, x17.robots, x17.cq, x17.ca, x17.cd, x17.cp⟩ : Nt) with _ | ⟨x24, x25⟩
  · simp only [g26, Option.bind_none, reduceCtorEq] at hh9
  simp only [g26, Option.bind_some] at hh9
  try simp only [go_sem, c14, f19, f20]
  refine Cc_of (rdesc_vok (⟨x17.blocks, x17.next, x17.spurs, x17.robots, x17.cq, x17.ca, x17.cd, x17.cp⟩ : Nt) _ g26) ?_
  rintro h' r ⟨rfl, rfl⟩
  try simp only [go_sem, c14, f19, f20]
  refine X_any0 mixed (p := [(0, 0), (1, 0), (2, 0), (3, 0), (5, 0), (6, 0), (7, 0), (8, 0), (4, 2), (9, 2), (10, 0), (11, 0), (12, 0), (13, 0), (14, 0), (15, 0), (16, 0), (17, 0), (18, 0), (19, 2), (20, 0), (21, 0)]) (by kernel_rfl) (by simp [LeH, get]) ?_
  rcases g28 : netmap_Valid_v (⟨x17.blocks, x17.next, x17.spurs, x17.robots, x17.cq, x17.ca, x17.cd, x17.cp⟩ : Nt) with _ | x27
  · simp only [g28, Option.bind_none, reduceCtorEq] at hh9
  simp only [g28, Option.bind_some] at hh9
  try simp only [go_sem, c14, f19, f20]
  refine Gh_of (netmap_Valid_vok (⟨x17.blocks, x17.next, x17.spurs, x17.robots, x17.cq, x17.ca, x17.cd, x17.cp⟩ : Nt) _ g28) ?_
  rintro h' r ⟨rfl, rfl⟩
  rcases g30 : rvalid_v (⟨x17.blocks, x17.next, x17.spurs, x17.robots, x17.cq, x17.ca, x17.cd, x17.cp⟩ : Nt) with _ | x29
  · simp only [g30, Option.bind_none, reduceCtorEq] at hh9
  simp only [g30, Option.bind_some] at hh9
  try simp only [go_sem, c14, f19, f20]
  refine Gh_of (rvalid_vok (⟨x17.blocks, x17.next, x17.spurs, x17.robots, x17.cq, x17.ca, x17.cd, x17.cp⟩ : Nt) _ g30) ?_
  rintro h' r ⟨rfl, rfl⟩
  cases c31 : x27 == x29
  · simp only [c31, cond_false] at hh9
    simp only [Option.bind_some, nextO_inr] at hh9
    obtain rfl := Option.some.inj hh9
    try dsimp only at hr
    obtain rfl := Option.some.inj hr
    try simp only [go_sem, c14, f19, f20, c31]
    all_goals (try refine end_pure ?_)
    all_goals (try simp only [go_sem, c14, f19, f20, c31])
    all_goals (try (first | rfl | exact ⟨rfl, rfl⟩ | (simp; done)))
  simp only [c31, cond_true] at hh9
  cases c32 : decide (x22 = x25)
  · simp only [c32, cond_false] at hh9
    simp only [Option.bind_some, nextO_inr] at hh9
    obtain rfl := Option.some.inj hh9
    try dsimp only at hr
    obtain rfl := Option.some.inj hr
    try simp only [go_sem, c14, f19, f20, c31, c32]
    all_goals (try refine end_pure ?_)
    all_goals (try simp only [go_sem, c14, f19, f20, c31, c32])
    all_goals (try (first | rfl | exact ⟨rfl, rfl⟩ | (simp; done)))
  simp only [c32, cond_true] at hh9
  rcases g34 : sameDecls_v x21 x24 with _ | x33
  · simp only [g34, Option.bind_none, reduceCtorEq] at hh9
  simp only [g34, Option.bind_some] at hh9
  try simp only [go_sem, c14, f19, f20, c31, c32]
  refine Gh_of (sameDecls_vok x21 x24 _ g34) ?_
  rintro h' r ⟨rfl, rfl⟩
  cases c35 : x33
  · simp only [c35, cond_false] at hh9
    simp only [Option.bind_some, nextO_inr] at hh9
    obtain rfl := Option.some.inj hh9
    try dsimp only at hr
    obtain rfl := Option.some.inj hr
    try simp only [go_sem, c14, f19, f20, c31, c32, c35]
    all_goals (try refine end_pure ?_)
    all_goals (try simp only [go_sem, c14, f19, f20, c31, c32, c35])
    all_goals (try (first | rfl | exact ⟨rfl, rfl⟩ | (simp; done)))
  simp only [c35, cond_true] at hh9
  simp only [Option.bind_some, nextO_inl] at hh9
  try simp only [go_sem, c14, f19, f20, c31, c32, c35]
  exact ih10 (IntKind.i64.wrap (v8 + 1)) _ hh9 ((Wk.forget (by simp [Le, LeE, LeH, get, envIds, hpIds, KeepH, D.ids, idsL, AO.ids, setL, base, encI_nil, encS_nil, encT_nil, encG_nil, encC_nil, encL_nil, encK_nil, encP_nil, mpS_nil, mpB_nil, encI_consE, encS_consE, encT_consE, encG_consE, encI_one, encS_one, encT_one, encI_snoc, encS_snoc, encT_snocE, encG_snocE, encC_snoc, encL_snoc, encK_snocE, encP_snocE, encI_set, encS_set, encT_setE, encG_setE, encC_setE, encK_setE, encP_setE, encI_len, encS_len, encT_len2, encG_len2, encC_len, encL_len, encK_len2, encP_len2, encN_nil, encN_consE, encN_len2, c31, c35])))
end Go.Am
end
section
namespace Go.Am
open Go Go.Proofs
set_option maxRecDepth 100000
set_option maxHeartbeats 2000000
set_option linter.unusedSimpArgs false
set_option linter.unusedVariables false
noncomputable def lawBack_v (a0 : List Int) (a1 : List Dc) (y1 : Nt) (y2 : List Int) (y3 : Int) : Option (Bool) :=
  Option.bind (ndescribe_v (⟨y1.blocks, y1.next, y1.spurs, y1.robots, y1.cq, y1.ca, y1.cd, y1.cp⟩ : Nt)) fun (x5, x6) => Option.bind (nbuild_v x5) fun (x8, x9, x10) => Option.bind (nbuild_v a1) fun (x12, x13, x14) => cond (decide (x6 = 0)) (cond (decide (x10 = 0)) (cond (decide (x9 = 0)) (Option.bind (sameNet_v (⟨y1.blocks, y1.next, y1.spurs, y1.robots, y1.cq, y1.ca, y1.cd, y1.cp⟩ : Nt) (⟨x8.blocks, x8.next, x8.spurs, x8.robots, x8.cq, x8.ca, x8.cd, x8.cp⟩ : Nt)) fun x19 => cond x19 (cond (decide (x14 = 0)) (Option.bind (netmap_Valid_v (⟨x12.blocks, x12.next, x12.spurs, x12.robots, x12.cq, x12.ca, x12.cd, x12.cp⟩ : Nt)) fun x23 => some x23) (some true)) (some false)) (some false)) (some false)) (some false)
theorem lawBack_vok (a0 : List Int) (a1 : List Dc) (r : Bool) (hr : ∀ (y1 : Nt) (y2 : List Int) (y3 : Int), LooseQ y1 y2 y3 → lawBack_v a0 a1 y1 y2 y3 = some r) :
    ACalls Try.prog 10 [.p (.sl (encI a0)), .p (.sl (encC a1))] [] fun h d => h = [] ∧ d = .p (.bool r) := by
  refine ACalls_X Try.func10 rfl enters10 (by simp [Try.f10]) ?_
  unfold lawBack_v at hr
  try simp only [go_sem]
  refine Cc_of known03_ok ?_
  rintro h' r ⟨rfl, rfl⟩
  try simp only [go_sem]
  refine Cc_of (loose8 a0) ?_
  rintro h' r ⟨y1, y2, y3, q4, rfl, rfl⟩
  replace hr := hr y1 y2 y3 q4
  rcases g7 : ndescribe_v (⟨y1.blocks, y1.next, y1.spurs, y1.robots, y1.cq, y1.ca, y1.cd, y1.cp⟩ : Nt) with _ | ⟨x5, x6⟩
  · simp only [g7, Option.bind_none, reduceCtorEq] at hr
  simp only [g7, Option.bind_some] at hr
  try simp only [go_sem]
  refine Cc_of (ndescribe_vok (⟨y1.blocks, y1.next, y1.spurs, y1.robots, y1.cq, y1.ca, y1.cd, y1.cp⟩ : Nt) _ g7) ?_
  rintro h' r ⟨rfl, rfl⟩
  rcases g11 : nbuild_v x5 with _ | ⟨x8, x9, x10⟩
  · simp only [g11, Option.bind_none, reduceCtorEq] at hr
  simp only [g11, Option.bind_some] at hr
  try simp only [go_sem]
  refine Cc_of (nbuild_vok x5 _ g11) ?_
  rintro h' r ⟨rfl, rfl⟩
  rcases g15 : nbuild_v a1 with _ | ⟨x12, x13, x14⟩
  · simp only [g15, Option.bind_none, reduceCtorEq] at hr
  simp only [g15, Option.bind_some] at hr
  try simp only [go_sem]
  refine Cc_of (nbuild_vok a1 _ g15) ?_
  rintro h' r ⟨rfl, rfl⟩
  cases c16 : decide (x6 = 0)
  · simp only [c16, cond_false] at hr
    obtain rfl := Option.some.inj hr
    try simp only [go_sem, c16]
    all_goals (try refine end_pure ?_)
    all_goals (try simp only [go_sem, c16])
    all_goals (try (first | rfl | exact ⟨rfl, rfl⟩ | (simp; done)))
  simp only [c16, cond_true] at hr
  cases c17 : decide (x10 = 0)
  · simp only [c17, cond_false] at hr
    obtain rfl := Option.some.inj hr
    try simp only [go_sem, c16, c17]
    all_goals (try refine end_pure ?_)
    all_goals (try simp only [go_sem, c16, c17])
    all_goals (try (first | rfl | exact ⟨rfl, rfl⟩ | (simp; done)))
  simp only [c17, cond_true] at hr
  cases c18 : decide (x9 = 0)
  · simp only [c18, cond_false] at hr
    obtain rfl := Option.some.inj hr
    try simp only [go_sem, c16, c17, c18]
    all_goals (try refine end_pure ?_)
    all_goals (try simp only [go_sem, c16, c17, c18])
    all_goals (try (first | rfl | exact ⟨rfl, rfl⟩ | (simp; done)))
  simp only [c18, cond_true] at hr
  rcases g20 : sameNet_v (⟨y1.blocks, y1.next, y1.spurs, y1.robots, y1.cq, y1.ca, y1.cd, y1.cp⟩ : Nt) (⟨x8.blocks, x8.next, x8.spurs, x8.robots, x8.cq, x8.ca, x8.cd, x8.cp⟩ : Nt) with _ | x19
  · simp only [g20, Option.bind_none, reduceCtorEq] at hr
  simp only [g20, Option.bind_some] at hr
  try simp only [go_sem, c16, c17, c18]
  refine Cc_of (sameNet_vok (⟨y1.blocks, y1.next, y1.spurs, y1.robots, y1.cq, y1.ca, y1.cd, y1.cp⟩ : Nt) (⟨x8.blocks, x8.next, x8.spurs, x8.robots, x8.cq, x8.ca, x8.cd, x8.cp⟩ : Nt) _ g20) ?_
  rintro h' r ⟨rfl, rfl⟩
  cases c21 : x19
  · simp only [c21, cond_false] at hr
    obtain rfl := Option.some.inj hr
    try simp only [go_sem, c16, c17, c18, c21]
    all_goals (try refine end_pure ?_)
    all_goals (try simp only [go_sem, c16, c17, c18, c21])
    all_goals (try (first | rfl | exact ⟨rfl, rfl⟩ | (simp; done)))
  simp only [c21, cond_true] at hr
  cases c22 : decide (x14 = 0)
  · simp only [c22, cond_false] at hr
    obtain rfl := Option.some.inj hr
    try simp only [go_sem, c16, c17, c18, c21, c22]
    all_goals (try refine end_pure ?_)
    all_goals (try simp only [go_sem, c16, c17, c18, c21, c22])
    all_goals (try (first | rfl | exact ⟨rfl, rfl⟩ | (simp; done)))
  simp only [c22, cond_true] at hr
  rcases g24 : netmap_Valid_v (⟨x12.blocks, x12.next, x12.spurs, x12.robots, x12.cq, x12.ca, x12.cd, x12.cp⟩ : Nt) with _ | x23
  · simp only [g24, Option.bind_none, reduceCtorEq] at hr
  simp only [g24, Option.bind_some] at hr
  try simp only [go_sem, c16, c17, c18, c21, c22]
  refine Cc_of (netmap_Valid_vok (⟨x12.blocks, x12.next, x12.spurs, x12.robots, x12.cq, x12.ca, x12.cd, x12.cp⟩ : Nt) _ g24) ?_
  rintro h' r ⟨rfl, rfl⟩
  obtain rfl := Option.some.inj hr
  try simp only [go_sem, c16, c17, c18, c21, c22]
  all_goals (try refine end_pure ?_)
  all_goals (try simp only [go_sem, c16, c17, c18, c21, c22])
  all_goals (try (first | rfl | exact ⟨rfl, rfl⟩ | (simp; done)))
noncomputable def lawTables_L1 (x8 : Nt) (v48 : Int) : Int → Option ((Int) ⊕ (Int ⊕ Bool))
  | v58 => cond (decide (v58 < v48)) (Option.bind (idxO x8.robots v48) fun x71 => Option.bind (idxO x8.robots v58) fun x75 => cond (decide (x71 = x75)) (some (Sum.inr (.inr (false)))) (some (Sum.inl (IntKind.i64.wrap (v58 + 1))))) (some (Sum.inr (.inl v58)))
theorem lawTables_L1_eq (x8 : Nt) (v48 : Int) (v58 : Int) : lawTables_L1 x8 v48 v58 = cond (decide (v58 < v48)) (Option.bind (idxO x8.robots v48) fun x71 => Option.bind (idxO x8.robots v58) fun x75 => cond (decide (x71 = x75)) (some (Sum.inr (.inr (false)))) (some (Sum.inl (IntKind.i64.wrap (v58 + 1))))) (some (Sum.inr (.inl v58))) := rfl
noncomputable def lawTables_L2 (x8 : Nt) (v39 : Int) : Int → Option ((Int) ⊕ (Int ⊕ Bool))
  | v48 => cond (decide (v48 < ((x8.robots.length : Nat) : Int))) (Option.bind (loopO (lawTables_L1 x8 v48) 0) (fun | .inl v80 => Option.bind (idxO x8.robots v48) fun x81 => cond (decide (x81 < ((x8.blocks.length : Nat) : Int))) (some (Sum.inr (.inr (false)))) (cond (decide (v39 ≤ x81)) (some (Sum.inr (.inr (false)))) (some (Sum.inl (IntKind.i64.wrap (v48 + 1))))) | .inr (r87) => some (Sum.inr (.inr (r87))))) (some (Sum.inr (.inl v48)))
theorem lawTables_L2_eq (x8 : Nt) (v39 : Int) (v48 : Int) : lawTables_L2 x8 v39 v48 = cond (decide (v48 < ((x8.robots.length : Nat) : Int))) (Option.bind (loopO (lawTables_L1 x8 v48) 0) (fun | .inl v80 => Option.bind (idxO x8.robots v48) fun x81 => cond (decide (x81 < ((x8.blocks.length : Nat) : Int))) (some (Sum.inr (.inr (false)))) (cond (decide (v39 ≤ x81)) (some (Sum.inr (.inr (false)))) (some (Sum.inl (IntKind.i64.wrap (v48 + 1))))) | .inr (r87) => some (Sum.inr (.inr (r87))))) (some (Sum.inr (.inl v48))) := rfl
noncomputable def lawTables_L3 (x8 : Nt) : Int × Int → Option ((Int × Int) ⊕ ((Int × Int) ⊕ Bool))
  | (v39, v40) => cond (decide (v40 < ((x8.spurs.length : Nat) : Int))) (Option.bind (idxO x8.spurs v40) fun x92 => cond (decide (x92.base = v39)) (some (Sum.inl ((IntKind.i64.wrap (v39 + x92.slots)), (IntKind.i64.wrap (v40 + 1))))) (some (Sum.inr (.inr (false))))) (some (Sum.inr (.inl (v39, v40))))
theorem lawTables_L3_eq (x8 : Nt) (v39 : Int) (v40 : Int) : lawTables_L3 x8 (v39, v40) = cond (decide (v40 < ((x8.spurs.length : Nat) : Int))) (Option.bind (idxO x8.spurs v40) fun x92 => cond (decide (x92.base = v39)) (some (Sum.inl ((IntKind.i64.wrap (v39 + x92.slots)), (IntKind.i64.wrap (v40 + 1))))) (some (Sum.inr (.inr (false))))) (some (Sum.inr (.inl (v39, v40)))) := rfl
noncomputable def lawTables_L4 (x145 : List Int) : Int → Option ((Int) ⊕ (Int ⊕ Bool))
  | v150 => cond (decide (v150 < ((x145.length : Nat) : Int))) (Option.bind (idxO x145 v150) fun x157 => Option.bind (idxO x145 (IntKind.i64.wrap (v150 - 1))) fun x161 => cond (decide (x157 ≤ x161)) (some (Sum.inr (.inr (false)))) (some (Sum.inl (IntKind.i64.wrap (v150 + 1))))) (some (Sum.inr (.inl v150)))
theorem lawTables_L4_eq (x145 : List Int) (v150 : Int) : lawTables_L4 x145 v150 = cond (decide (v150 < ((x145.length : Nat) : Int))) (Option.bind (idxO x145 v150) fun x157 => Option.bind (idxO x145 (IntKind.i64.wrap (v150 - 1))) fun x161 => cond (decide (x157 ≤ x161)) (some (Sum.inr (.inr (false)))) (some (Sum.inl (IntKind.i64.wrap (v150 + 1))))) (some (Sum.inr (.inl v150))) := rfl
noncomputable def lawTables_L5 (x8 : Nt) : Int × Int → Option ((Int × Int) ⊕ ((Int × Int) ⊕ Bool))
  | (v29, v30) => cond (decide (v29 < ((x8.next.length : Nat) : Int))) (Option.bind (idxO x8.next v29) fun x145 => Option.bind (loopO (lawTables_L4 x145) 1) (fun | .inl v166 => some (Sum.inl ((IntKind.i64.wrap (v29 + 1)), (IntKind.i64.wrap (v30 - ((x145.length : Nat) : Int))))) | .inr (r167) => some (Sum.inr (.inr (r167))))) (some (Sum.inr (.inl (v29, v30))))
theorem lawTables_L5_eq (x8 : Nt) (v29 : Int) (v30 : Int) : lawTables_L5 x8 (v29, v30) = cond (decide (v29 < ((x8.next.length : Nat) : Int))) (Option.bind (idxO x8.next v29) fun x145 => Option.bind (loopO (lawTables_L4 x145) 1) (fun | .inl v166 => some (Sum.inl ((IntKind.i64.wrap (v29 + 1)), (IntKind.i64.wrap (v30 - ((x145.length : Nat) : Int))))) | .inr (r167) => some (Sum.inr (.inr (r167))))) (some (Sum.inr (.inl (v29, v30)))) := rfl
noncomputable def lawTables_L6 (x5 : List Dc) : Int × Int × Int → Option ((Int × Int × Int) ⊕ ((Int × Int × Int)))
  | (v18, v19, v20) => cond (decide (v18 < ((x5.length : Nat) : Int))) (Option.bind (idxO x5 v18) fun x279 => cond (decide (x279.word = 2)) (some (Sum.inl ((IntKind.i64.wrap (v18 + 1)), (IntKind.i64.wrap (v19 + 1)), v20))) (cond (decide (x279.word = 5)) (some (Sum.inl ((IntKind.i64.wrap (v18 + 1)), v19, (IntKind.i64.wrap (v20 + 1))))) (some (Sum.inl ((IntKind.i64.wrap (v18 + 1)), v19, v20))))) (some (Sum.inr (v18, v19, v20)))
theorem lawTables_L6_eq (x5 : List Dc) (v18 : Int) (v19 : Int) (v20 : Int) : lawTables_L6 x5 (v18, v19, v20) = cond (decide (v18 < ((x5.length : Nat) : Int))) (Option.bind (idxO x5 v18) fun x279 => cond (decide (x279.word = 2)) (some (Sum.inl ((IntKind.i64.wrap (v18 + 1)), (IntKind.i64.wrap (v19 + 1)), v20))) (cond (decide (x279.word = 5)) (some (Sum.inl ((IntKind.i64.wrap (v18 + 1)), v19, (IntKind.i64.wrap (v20 + 1))))) (some (Sum.inl ((IntKind.i64.wrap (v18 + 1)), v19, v20))))) (some (Sum.inr (v18, v19, v20))) := rfl
noncomputable def lawTables_v (a0 : List Int) (y1 : Nt) (y2 : List Int) (y3 : Int) : Option (Bool) :=
  Option.bind (rdesc_v (⟨y1.blocks, y1.next, y1.spurs, y1.robots, y1.cq, y1.ca, y1.cd, y1.cp⟩ : Nt)) fun (x5, x6) => Option.bind (nbuild_v x5) fun (x8, x9, x10) => cond (decide (x6 = 0)) (cond (decide (x10 = 0)) (cond (decide (((x8.next.length : Nat) : Int) = ((x8.blocks.length : Nat) : Int))) (Option.bind (loopO (lawTables_L6 x5) (0, 0, 0)) (fun (v285, v286, v287) => Option.bind (loopO (lawTables_L5 x8) (0, v286)) (fun | .inl (v429, v430) => Option.bind (loopO (lawTables_L3 x8) (((x8.blocks.length : Nat) : Int), 0)) (fun | .inl (v491, v492) => Option.bind (loopO (lawTables_L2 x8 v491) 0) (fun | .inl v534 => cond (decide (v430 = 0)) (cond (decide (v287 = ((x8.robots.length : Nat) : Int))) (some (decide (v491 ≤ 48))) (some false)) (some false) | .inr (r537) => some r537) | .inr (r538) => some r538) | .inr (r539) => some r539))) (some false)) (some false)) (some false)
theorem lawTables_vok (a0 : List Int) (r : Bool) (hr : ∀ (y1 : Nt) (y2 : List Int) (y3 : Int), LooseQ y1 y2 y3 → lawTables_v a0 y1 y2 y3 = some r) :
    ACalls Try.prog 6 [.p (.sl (encI a0))] [] fun h d => h = [] ∧ d = .p (.bool r) := by
  refine ACalls_X Try.func6 rfl enters6 (by simp [Try.f6]) ?_
  unfold lawTables_v at hr
  try simp only [go_sem]
  refine Cc_of known03_ok ?_
  rintro h' r ⟨rfl, rfl⟩
  try simp only [go_sem]
  refine Cc_of (loose8 a0) ?_
  rintro h' r ⟨y1, y2, y3, q4, rfl, rfl⟩
  replace hr := hr y1 y2 y3 q4
  rcases g7 : rdesc_v (⟨y1.blocks, y1.next, y1.spurs, y1.robots, y1.cq, y1.ca, y1.cd, y1.cp⟩ : Nt) with _ | ⟨x5, x6⟩
  · simp only [g7, Option.bind_none, reduceCtorEq] at hr
  simp only [g7, Option.bind_some] at hr
  try simp only [go_sem]
  refine Cc_of (rdesc_vok (⟨y1.blocks, y1.next, y1.spurs, y1.robots, y1.cq, y1.ca, y1.cd, y1.cp⟩ : Nt) _ g7) ?_
  rintro h' r ⟨rfl, rfl⟩
  rcases g11 : nbuild_v x5 with _ | ⟨x8, x9, x10⟩
  · simp only [g11, Option.bind_none, reduceCtorEq] at hr
  simp only [g11, Option.bind_some] at hr
  try simp only [go_sem]
  refine Cc_of (nbuild_vok x5 _ g11) ?_
  rintro h' r ⟨rfl, rfl⟩
  cases c12 : decide (x6 = 0)
  · simp only [c12, cond_false] at hr
    obtain rfl := Option.some.inj hr
    try simp only [go_sem, c12]
    all_goals (try refine end_pure ?_)
    all_goals (try simp only [go_sem, c12])
    all_goals (try (first | rfl | exact ⟨rfl, rfl⟩ | (simp; done)))
  simp only [c12, cond_true] at hr
  cases c13 : decide (x10 = 0)
  · simp only [c13, cond_false] at hr
    obtain rfl := Option.some.inj hr
    try simp only [go_sem, c12, c13]
    all_goals (try refine end_pure ?_)
    all_goals (try simp only [go_sem, c12, c13])
    all_goals (try (first | rfl | exact ⟨rfl, rfl⟩ | (simp; done)))
  simp only [c13, cond_true] at hr
  cases c14 : decide (((x8.next.length : Nat) : Int) = ((x8.blocks.length : Nat) : Int))
  · simp only [c14, cond_false] at hr
    obtain rfl := Option.some.inj hr
    try simp only [go_sem, c12, c13, c14]
    all_goals (try refine end_pure ?_)
    all_goals (try simp only [go_sem, c12, c13, c14])
    all_goals (try (first | rfl | exact ⟨rfl, rfl⟩ | (simp; done)))
  simp only [c14, cond_true] at hr
  rcases g25 : loopO (lawTables_L6 x5) (0, 0, 0) with _ | e24
  · simp only [g25, Option.bind_none, reduceCtorEq] at hr
  simp only [g25, Option.bind_some] at hr
  try simp only [go_sem, c12, c13, c14]
  refine X_loopO g25 (fun q : Int × Int × Int => ⟨[(3, .p (.sl (encC x5))), (5, .ptr 5 0), (8, .p (.int .i64 q.2.1)), (9, .p (.int .i64 q.2.2)), (10, .p (.int .i64 q.1))], [(5, .box [.p (.sl (encK x8.blocks)), .p (.sl (encG x8.next)), .p (.sl (encP x8.spurs)), .p (.sl (encI x8.robots)), .p (.int .i64 x8.cq), .p (.int .i64 x8.ca), .p (.int .i64 x8.cd), .p (.int .i64 x8.cp)])], 190⟩) ((Wk.forget (by simp [Le, LeE, LeH, get, envIds, hpIds, KeepH, D.ids, idsL, AO.ids, setL, base, encI_nil, encS_nil, encT_nil, encG_nil, encC_nil, encL_nil, encK_nil, encP_nil, mpS_nil, mpB_nil, encI_consE, encS_consE, encT_consE, encG_consE, encI_one, encS_one, encT_one, encI_snoc, encS_snoc, encT_snocE, encG_snocE, encC_snoc, encL_snoc, encK_snocE, encP_snocE, encI_set, encS_set, encT_setE, encG_setE, encC_setE, encK_setE, encP_setE, encI_len, encS_len, encT_len2, encG_len2, encC_len, encL_len, encK_len2, encP_len2]))) ?_
  rintro ⟨v18, v19, v20⟩ m23 hh21 ih22
  rw [lawTables_L6_eq] at hh21
  cases c26 : decide (v18 < ((x5.length : Nat) : Int))
  · simp only [c26, cond_false] at hh21
    simp only [Option.bind_some, nextO_inr] at hh21
    obtain rfl := Option.some.inj hh21
    try dsimp only at hr
    rcases g35 : loopO (lawTables_L5 x8) (0, v19) with _ | e34
    · simp only [g35, Option.bind_none, reduceCtorEq] at hr
    simp only [g35, Option.bind_some] at hr
    try simp only [go_sem, c12, c13, c14, c26]
    refine X_loopO g35 (fun q : Int × Int => ⟨[(5, .ptr 5 0), (8, .p (.int .i64 q.2)), (9, .p (.int .i64 v20)), (11, .p (.int .i64 ((x8.blocks.length : Nat) : Int))), (12, .p (.int .i64 q.1))], [(5, .box [.p (.sl (encK x8.blocks)), .p (.sl (encG x8.next)), .p (.sl (encP x8.spurs)), .p (.sl (encI x8.robots)), .p (.int .i64 x8.cq), .p (.int .i64 x8.ca), .p (.int .i64 x8.cd), .p (.int .i64 x8.cp)])], 190⟩) ((Wk.forget (by simp [Le, LeE, LeH, get, envIds, hpIds, KeepH, D.ids, idsL, AO.ids, setL, base, encI_nil, encS_nil, encT_nil, encG_nil, encC_nil, encL_nil, encK_nil, encP_nil, mpS_nil, mpB_nil, encI_consE, encS_consE, encT_consE, encG_consE, encI_one, encS_one, encT_one, encI_snoc, encS_snoc, encT_snocE, encG_snocE, encC_snoc, encL_snoc, encK_snocE, encP_snocE, encI_set, encS_set, encT_setE, encG_setE, encC_setE, encK_setE, encP_setE, encI_len, encS_len, encT_len2, encG_len2, encC_len, encL_len, encK_len2, encP_len2]))) ?_
    rintro ⟨v29, v30⟩ m33 hh31 ih32
    rw [lawTables_L5_eq] at hh31
    cases c36 : decide (v29 < ((x8.next.length : Nat) : Int))
    · simp only [c36, cond_false] at hh31
      simp only [Option.bind_some, nextO_inr] at hh31
      obtain rfl := Option.some.inj hh31
      try dsimp only at hr
      rcases g45 : loopO (lawTables_L3 x8) (((x8.blocks.length : Nat) : Int), 0) with _ | e44
      · simp only [g45, Option.bind_none, reduceCtorEq] at hr
      simp only [g45, Option.bind_some] at hr
      try simp only [go_sem, c12, c13, c14, c26, c36]
      refine X_loopO g45 (fun q : Int × Int => ⟨[(5, .ptr 5 0), (8, .p (.int .i64 v30)), (9, .p (.int .i64 v20)), (11, .p (.int .i64 q.1)), (14, .p (.int .i64 q.2))], [(5, .box [.p (.sl (encK x8.blocks)), .p (.sl (encG x8.next)), .p (.sl (encP x8.spurs)), .p (.sl (encI x8.robots)), .p (.int .i64 x8.cq), .p (.int .i64 x8.ca), .p (.int .i64 x8.cd), .p (.int .i64 x8.cp)])], 190⟩) ((Wk.forget (by simp [Le, LeE, LeH, get, envIds, hpIds, KeepH, D.ids, idsL, AO.ids, setL, base, encI_nil, encS_nil, encT_nil, encG_nil, encC_nil, encL_nil, encK_nil, encP_nil, mpS_nil, mpB_nil, encI_consE, encS_consE, encT_consE, encG_consE, encI_one, encS_one, encT_one, encI_snoc, encS_snoc, encT_snocE, encG_snocE, encC_snoc, encL_snoc, encK_snocE, encP_snocE, encI_set, encS_set, encT_setE, encG_setE, encC_setE, encK_setE, encP_setE, encI_len, encS_len, encT_len2, encG_len2, encC_len, encL_len, encK_len2, encP_len2]))) ?_
      rintro ⟨v39, v40⟩ m43 hh41 ih42
      rw [lawTables_L3_eq] at hh41
      cases c46 : decide (v40 < ((x8.spurs.length : Nat) : Int))
      · simp only [c46, cond_false] at hh41
        simp only [Option.bind_some, nextO_inr] at hh41
        obtain rfl := Option.some.inj hh41
        try dsimp only at hr
        rcases g53 : loopO (lawTables_L2 x8 v39) 0 with _ | e52
        · simp only [g53, Option.bind_none, reduceCtorEq] at hr
        simp only [g53, Option.bind_some] at hr
        try simp only [go_sem, c12, c13, c14, c26, c36, c46]
        refine X_loopO g53 (fun q : Int => ⟨[(5, .ptr 5 0), (8, .p (.int .i64 v30)), (9, .p (.int .i64 v20)), (11, .p (.int .i64 v39)), (15, .p (.int .i64 q))], [(5, .box [.p (.sl (encK x8.blocks)), .p (.sl (encG x8.next)), .p (.sl (encP x8.spurs)), .p (.sl (encI x8.robots)), .p (.int .i64 x8.cq), .p (.int .i64 x8.ca), .p (.int .i64 x8.cd), .p (.int .i64 x8.cp)])], 190⟩) ((Wk.forget (by simp [Le, LeE, LeH, get, envIds, hpIds, KeepH, D.ids, idsL, AO.ids, setL, base, encI_nil, encS_nil, encT_nil, encG_nil, encC_nil, encL_nil, encK_nil, encP_nil, mpS_nil, mpB_nil, encI_consE, encS_consE, encT_consE, encG_consE, encI_one, encS_one, encT_one, encI_snoc, encS_snoc, encT_snocE, encG_snocE, encC_snoc, encL_snoc, encK_snocE, encP_snocE, encI_set, encS_set, encT_setE, encG_setE, encC_setE, encK_setE, encP_setE, encI_len, encS_len, encT_len2, encG_len2, encC_len, encL_len, encK_len2, encP_len2]))) ?_
        rintro v48 m51 hh49 ih50
        rw [lawTables_L2_eq] at hh49
        cases c54 : decide (v48 < ((x8.robots.length : Nat) : Int))
        · simp only [c54, cond_false] at hh49
          simp only [Option.bind_some, nextO_inr] at hh49
          obtain rfl := Option.some.inj hh49
          try dsimp only at hr
          cases c55 : decide (v30 = 0)
          · simp only [c55, cond_false] at hr
            obtain rfl := Option.some.inj hr
            try simp only [go_sem, c12, c13, c14, c26, c36, c46, c54, c55]
            all_goals (try refine end_pure ?_)
            all_goals (try simp only [go_sem, c12, c13, c14, c26, c36, c46, c54, c55])
            all_goals (try (first | rfl | exact ⟨rfl, rfl⟩ | (simp; done)))
          simp only [c55, cond_true] at hr
          cases c56 : decide (v20 = ((x8.robots.length : Nat) : Int))
          · simp only [c56, cond_false] at hr
            obtain rfl := Option.some.inj hr
            try simp only [go_sem, c12, c13, c14, c26, c36, c46, c54, c55, c56]
            all_goals (try refine end_pure ?_)
            all_goals (try simp only [go_sem, c12, c13, c14, c26, c36, c46, c54, c55, c56])
            all_goals (try (first | rfl | exact ⟨rfl, rfl⟩ | (simp; done)))
          simp only [c56, cond_true] at hr
          obtain rfl := Option.some.inj hr
          try simp only [go_sem, c12, c13, c14, c26, c36, c46, c54, c55, c56]
          all_goals (try refine end_pure ?_)
          all_goals (try simp only [go_sem, c12, c13, c14, c26, c36, c46, c54, c55, c56])
          all_goals (try (first | rfl | exact ⟨rfl, rfl⟩ | (simp; done)))
        simp only [c54, cond_true] at hh49
        rcases g63 : loopO (lawTables_L1 x8 v48) 0 with _ | e62
        · simp only [g63, Option.bind_none, reduceCtorEq] at hh49
        simp only [g63, Option.bind_some] at hh49
        try simp only [go_sem, c12, c13, c14, c26, c36, c46, c54]
        refine X_loopO g63 (fun q : Int => ⟨[(5, .ptr 5 0), (8, .p (.int .i64 v30)), (9, .p (.int .i64 v20)), (11, .p (.int .i64 v39)), (15, .p (.int .i64 v48)), (16, .p (.int .i64 q))], [(5, .box [.p (.sl (encK x8.blocks)), .p (.sl (encG x8.next)), .p (.sl (encP x8.spurs)), .p (.sl (encI x8.robots)), .p (.int .i64 x8.cq), .p (.int .i64 x8.ca), .p (.int .i64 x8.cd), .p (.int .i64 x8.cp)])], 190⟩) ((Wk.forget (by simp [Le, LeE, LeH, get, envIds, hpIds, KeepH, D.ids, idsL, AO.ids, setL, base, encI_nil, encS_nil, encT_nil, encG_nil, encC_nil, encL_nil, encK_nil, encP_nil, mpS_nil, mpB_nil, encI_consE, encS_consE, encT_consE, encG_consE, encI_one, encS_one, encT_one, encI_snoc, encS_snoc, encT_snocE, encG_snocE, encC_snoc, encL_snoc, encK_snocE, encP_snocE, encI_set, encS_set, encT_setE, encG_setE, encC_setE, encK_setE, encP_setE, encI_len, encS_len, encT_len2, encG_len2, encC_len, encL_len, encK_len2, encP_len2]))) ?_
        rintro v58 m61 hh59 ih60
        rw [lawTables_L1_eq] at hh59
        cases c64 : decide (v58 < v48)
        · simp only [c64, cond_false] at hh59
          simp only [Option.bind_some, nextO_inr] at hh59
          obtain rfl := Option.some.inj hh59
          try dsimp only at hh49
          try simp only [go_sem, c12, c13, c14, c26, c36, c46, c54, c64]
          refine X_any0 mixed (p := [(0, 0), (1, 0), (2, 0), (3, 0), (4, 0), (5, 0), (6, 0), (7, 0), (8, 0), (9, 0), (10, 0), (11, 0), (12, 0), (13, 0), (14, 0), (15, 0), (16, 0), (17, 0)]) (by kernel_rfl) (by simp [LeH, get]) ?_
          rcases g66 : idxO x8.robots v48 with _ | x65
          · simp only [g66, Option.bind_none, reduceCtorEq] at hh49
          simp only [g66, Option.bind_some] at hh49
          have f67 := idxO_rng g66
          have f68 : (encI x8.robots).getD (Int.toNat v48) [] = [(.int .i64 x65)] := idxO_map _ g66
          cases c69 : decide (x65 < ((x8.blocks.length : Nat) : Int))
          · simp only [c69, cond_false] at hh49
            cases c70 : decide (v39 ≤ x65)
            · simp only [c70, cond_false] at hh49
              simp only [Option.bind_some, nextO_inl] at hh49
              try simp only [go_sem, c12, c13, c14, c26, c36, c46, c54, c64, f67, f68, c69, c70]
              exact ih50 (IntKind.i64.wrap (v48 + 1)) _ hh49 ((Wk.forget (by simp [Le, LeE, LeH, get, envIds, hpIds, KeepH, D.ids, idsL, AO.ids, setL, base, encI_nil, encS_nil, encT_nil, encG_nil, encC_nil, encL_nil, encK_nil, encP_nil, mpS_nil, mpB_nil, encI_consE, encS_consE, encT_consE, encG_consE, encI_one, encS_one, encT_one, encI_snoc, encS_snoc, encT_snocE, encG_snocE, encC_snoc, encL_snoc, encK_snocE, encP_snocE, encI_set, encS_set, encT_setE, encG_setE, encC_setE, encK_setE, encP_setE, encI_len, encS_len, encT_len2, encG_len2, encC_len, encL_len, encK_len2, encP_len2])))
            simp only [c70, cond_true] at hh49
            simp only [Option.bind_some, nextO_inr] at hh49
            obtain rfl := Option.some.inj hh49
            try dsimp only at hr
            obtain rfl := Option.some.inj hr
            try simp only [go_sem, c12, c13, c14, c26, c36, c46, c54, c64, f67, f68, c69, c70]
            all_goals (try refine end_pure ?_)
            all_goals (try simp only [go_sem, c12, c13, c14, c26, c36, c46, c54, c64, f67, f68, c69, c70])
            all_goals (try (first | rfl | exact ⟨rfl, rfl⟩ | (simp; done)))
          simp only [c69, cond_true] at hh49
          simp only [Option.bind_some, nextO_inr] at hh49
          obtain rfl := Option.some.inj hh49
          try dsimp only at hr
          obtain rfl := Option.some.inj hr
          try simp only [go_sem, c12, c13, c14, c26, c36, c46, c54, c64, f67, f68, c69]
          all_goals (try refine end_pure ?_)
          all_goals (try simp only [go_sem, c12, c13, c14, c26, c36, c46, c54, c64, f67, f68, c69])
          all_goals (try (first | rfl | exact ⟨rfl, rfl⟩ | (simp; done)))
        simp only [c64, cond_true] at hh59
        try simp only [go_sem, c12, c13, c14, c26, c36, c46, c54, c64]
        refine X_any0 mixed (p := [(0, 0), (1, 0), (2, 0), (3, 0), (4, 0), (5, 0), (6, 0), (7, 0), (8, 0), (9, 0), (10, 0)]) (by kernel_rfl) (by simp [LeH, get]) ?_
        rcases g72 : idxO x8.robots v48 with _ | x71
        · simp only [g72, Option.bind_none, reduceCtorEq] at hh59
        simp only [g72, Option.bind_some] at hh59
        have f73 := idxO_rng g72
        have f74 : (encI x8.robots).getD (Int.toNat v48) [] = [(.int .i64 x71)] := idxO_map _ g72
        rcases g76 : idxO x8.robots v58 with _ | x75
        · simp only [g76, Option.bind_none, reduceCtorEq] at hh59
        simp only [g76, Option.bind_some] at hh59
        have f77 := idxO_rng g76
        have f78 : (encI x8.robots).getD (Int.toNat v58) [] = [(.int .i64 x75)] := idxO_map _ g76
        cases c79 : decide (x71 = x75)
        · simp only [c79, cond_false] at hh59
          simp only [Option.bind_some, nextO_inl] at hh59
          try simp only [go_sem, c12, c13, c14, c26, c36, c46, c54, c64, f73, f74, f77, f78, c79]
          exact ih60 (IntKind.i64.wrap (v58 + 1)) _ hh59 ((Wk.forget (by simp [Le, LeE, LeH, get, envIds, hpIds, KeepH, D.ids, idsL, AO.ids, setL, base, encI_nil, encS_nil, encT_nil, encG_nil, encC_nil, encL_nil, encK_nil, encP_nil, mpS_nil, mpB_nil, encI_consE, encS_consE, encT_consE, encG_consE, encI_one, encS_one, encT_one, encI_snoc, encS_snoc, encT_snocE, encG_snocE, encC_snoc, encL_snoc, encK_snocE, encP_snocE, encI_set, encS_set, encT_setE, encG_setE, encC_setE, encK_setE, encP_setE, encI_len, encS_len, encT_len2, encG_len2, encC_len, encL_len, encK_len2, encP_len2])))
        simp only [c79, cond_true] at hh59
        simp only [Option.bind_some, nextO_inr] at hh59
        obtain rfl := Option.some.inj hh59
        try dsimp only at hh49
        simp only [Option.bind_some, nextO_inr] at hh49
        obtain rfl := Option.some.inj hh49
        try dsimp only at hr
        obtain rfl := Option.some.inj hr
        try simp only [go_sem, c12, c13, c14, c26, c36, c46, c54, c64, f73, f74, f77, f78, c79]
        all_goals (try refine end_pure ?_)
        all_goals (try simp only [go_sem, c12, c13, c14, c26, c36, c46, c54, c64, f73, f74, f77, f78, c79])
        all_goals (try (first | rfl | exact ⟨rfl, rfl⟩ | (simp; done)))
      simp only [c46, cond_true] at hh41
      rcases g93 : idxO x8.spurs v40 with _ | x92
      · simp only [g93, Option.bind_none, reduceCtorEq] at hh41
      simp only [g93, Option.bind_some] at hh41
      have f94 := idxO_rng g93
      have f95 : (encP x8.spurs).getD (Int.toNat v40) [] = [(.str x92.name), (.bool x92.depot), (.int .i64 x92.inn), (.int .i64 x92.out), (.int .i64 x92.slots), (.int .i64 x92.base)] := idxO_map _ g93
      cases c96 : decide (x92.base = v39)
      · simp only [c96, cond_false] at hh41
        simp only [Option.bind_some, nextO_inr] at hh41
        obtain rfl := Option.some.inj hh41
        try dsimp only at hr
        obtain rfl := Option.some.inj hr
        try simp only [go_sem, c12, c13, c14, c26, c36, c46, f94, f95, c96]
        all_goals (try refine end_pure ?_)
        all_goals (try simp only [go_sem, c12, c13, c14, c26, c36, c46, f94, f95, c96])
        all_goals (try (first | rfl | exact ⟨rfl, rfl⟩ | (simp; done)))
      simp only [c96, cond_true] at hh41
      simp only [Option.bind_some, nextO_inl] at hh41
      try simp only [go_sem, c12, c13, c14, c26, c36, c46, f94, f95, c96]
      exact ih42 ((IntKind.i64.wrap (v39 + x92.slots)), (IntKind.i64.wrap (v40 + 1))) _ hh41 ((Wk.forget (by simp [Le, LeE, LeH, get, envIds, hpIds, KeepH, D.ids, idsL, AO.ids, setL, base, encI_nil, encS_nil, encT_nil, encG_nil, encC_nil, encL_nil, encK_nil, encP_nil, mpS_nil, mpB_nil, encI_consE, encS_consE, encT_consE, encG_consE, encI_one, encS_one, encT_one, encI_snoc, encS_snoc, encT_snocE, encG_snocE, encC_snoc, encL_snoc, encK_snocE, encP_snocE, encI_set, encS_set, encT_setE, encG_setE, encC_setE, encK_setE, encP_setE, encI_len, encS_len, encT_len2, encG_len2, encC_len, encL_len, encK_len2, encP_len2])))
    simp only [c36, cond_true] at hh31
    rcases g146 : idxO x8.next v29 with _ | x145
    · simp only [g146, Option.bind_none, reduceCtorEq] at hh31
    simp only [g146, Option.bind_some] at hh31
    have f147 := idxO_rng g146
    have f148 : (encG x8.next).getD (Int.toNat v29) [] = [(.sl (encI x145))] := idxO_map _ g146
    rcases g155 : loopO (lawTables_L4 x145) 1 with _ | e154
    · simp only [g155, Option.bind_none, reduceCtorEq] at hh31
    simp only [g155, Option.bind_some] at hh31
    try simp only [go_sem, c12, c13, c14, c26, c36, f147, f148]
    refine X_loopO g155 (fun q : Int => ⟨[(5, .ptr 5 0), (8, .p (.int .i64 (IntKind.i64.wrap (v30 - ((x145.length : Nat) : Int))))), (9, .p (.int .i64 v20)), (11, .p (.int .i64 ((x8.blocks.length : Nat) : Int))), (12, .p (.int .i64 v29)), (13, .p (.int .i64 q))], [(5, .box [.p (.sl (encK x8.blocks)), .p (.sl (encG x8.next)), .p (.sl (encP x8.spurs)), .p (.sl (encI x8.robots)), .p (.int .i64 x8.cq), .p (.int .i64 x8.ca), .p (.int .i64 x8.cd), .p (.int .i64 x8.cp)])], 190⟩) ((Wk.forget (by simp [Le, LeE, LeH, get, envIds, hpIds, KeepH, D.ids, idsL, AO.ids, setL, base, encI_nil, encS_nil, encT_nil, encG_nil, encC_nil, encL_nil, encK_nil, encP_nil, mpS_nil, mpB_nil, encI_consE, encS_consE, encT_consE, encG_consE, encI_one, encS_one, encT_one, encI_snoc, encS_snoc, encT_snocE, encG_snocE, encC_snoc, encL_snoc, encK_snocE, encP_snocE, encI_set, encS_set, encT_setE, encG_setE, encC_setE, encK_setE, encP_setE, encI_len, encS_len, encT_len2, encG_len2, encC_len, encL_len, encK_len2, encP_len2]))) ?_
    rintro v150 m153 hh151 ih152
    rw [lawTables_L4_eq] at hh151
    cases c156 : decide (v150 < ((x145.length : Nat) : Int))
    · simp only [c156, cond_false] at hh151
      simp only [Option.bind_some, nextO_inr] at hh151
      obtain rfl := Option.some.inj hh151
      try dsimp only at hh31
      simp only [Option.bind_some, nextO_inl] at hh31
      try simp only [go_sem, c12, c13, c14, c26, c36, f147, f148, c156]
      exact ih32 ((IntKind.i64.wrap (v29 + 1)), (IntKind.i64.wrap (v30 - ((x145.length : Nat) : Int)))) _ hh31 ((Wk.forget (by simp [Le, LeE, LeH, get, envIds, hpIds, KeepH, D.ids, idsL, AO.ids, setL, base, encI_nil, encS_nil, encT_nil, encG_nil, encC_nil, encL_nil, encK_nil, encP_nil, mpS_nil, mpB_nil, encI_consE, encS_consE, encT_consE, encG_consE, encI_one, encS_one, encT_one, encI_snoc, encS_snoc, encT_snocE, encG_snocE, encC_snoc, encL_snoc, encK_snocE, encP_snocE, encI_set, encS_set, encT_setE, encG_setE, encC_setE, encK_setE, encP_setE, encI_len, encS_len, encT_len2, encG_len2, encC_len, encL_len, encK_len2, encP_len2])))
    simp only [c156, cond_true] at hh151
    try simp only [go_sem, c12, c13, c14, c26, c36, f147, f148, c156]
    refine X_any0 mixed (p := [(0, 0), (1, 0), (2, 0), (3, 0), (4, 0), (5, 0), (6, 0), (7, 0), (8, 0), (9, 0), (10, 0), (11, 0), (12, 0), (13, 0), (14, 0), (15, 0), (16, 0), (17, 0)]) (by kernel_rfl) (by simp [LeH, get]) ?_
    rcases g158 : idxO x145 v150 with _ | x157
    · simp only [g158, Option.bind_none, reduceCtorEq] at hh151
    simp only [g158, Option.bind_some] at hh151
    have f159 := idxO_rng g158
    have f160 : (encI x145).getD (Int.toNat v150) [] = [(.int .i64 x157)] := idxO_map _ g158
    rcases g162 : idxO x145 (IntKind.i64.wrap (v150 - 1)) with _ | x161
    · simp only [g162, Option.bind_none, reduceCtorEq] at hh151
    simp only [g162, Option.bind_some] at hh151
    have f163 := idxO_rng g162
    have f164 : (encI x145).getD (Int.toNat (IntKind.i64.wrap (v150 - 1))) [] = [(.int .i64 x161)] := idxO_map _ g162
    cases c165 : decide (x157 ≤ x161)
    · simp only [c165, cond_false] at hh151
      simp only [Option.bind_some, nextO_inl] at hh151
      try simp only [go_sem, c12, c13, c14, c26, c36, f147, f148, c156, f159, f160, f163, f164, c165]
      exact ih152 (IntKind.i64.wrap (v150 + 1)) _ hh151 ((Wk.forget (by simp [Le, LeE, LeH, get, envIds, hpIds, KeepH, D.ids, idsL, AO.ids, setL, base, encI_nil, encS_nil, encT_nil, encG_nil, encC_nil, encL_nil, encK_nil, encP_nil, mpS_nil, mpB_nil, encI_consE, encS_consE, encT_consE, encG_consE, encI_one, encS_one, encT_one, encI_snoc, encS_snoc, encT_snocE, encG_snocE, encC_snoc, encL_snoc, encK_snocE, encP_snocE, encI_set, encS_set, encT_setE, encG_setE, encC_setE, encK_setE, encP_setE, encI_len, encS_len, encT_len2, encG_len2, encC_len, encL_len, encK_len2, encP_len2])))
    simp only [c165, cond_true] at hh151
    simp only [Option.bind_some, nextO_inr] at hh151
    obtain rfl := Option.some.inj hh151
    try dsimp only at hh31
    simp only [Option.bind_some, nextO_inr] at hh31
    obtain rfl := Option.some.inj hh31
    try dsimp only at hr
    obtain rfl := Option.some.inj hr
    try simp only [go_sem, c12, c13, c14, c26, c36, f147, f148, c156, f159, f160, f163, f164, c165]
    all_goals (try refine end_pure ?_)
    all_goals (try simp only [go_sem, c12, c13, c14, c26, c36, f147, f148, c156, f159, f160, f163, f164, c165])
    all_goals (try (first | rfl | exact ⟨rfl, rfl⟩ | (simp; done)))
  simp only [c26, cond_true] at hh21
  rcases g280 : idxO x5 v18 with _ | x279
  · simp only [g280, Option.bind_none, reduceCtorEq] at hh21
  simp only [g280, Option.bind_some] at hh21
  have f281 := idxO_rng g280
  have f282 : (encC x5).getD (Int.toNat v18) [] = [(.int .i64 x279.word), (.int .i64 x279.line), (.sl (encS x279.names)), (.sl (encI x279.nums))] := idxO_map _ g280
  cases c283 : decide (x279.word = 2)
  · simp only [c283, cond_false] at hh21
    cases c284 : decide (x279.word = 5)
    · simp only [c284, cond_false] at hh21
      simp only [Option.bind_some, nextO_inl] at hh21
      try simp only [go_sem, c12, c13, c14, c26, f281, f282, c283, c284]
      exact ih22 ((IntKind.i64.wrap (v18 + 1)), v19, v20) _ hh21 ((Wk.forget (by simp [Le, LeE, LeH, get, envIds, hpIds, KeepH, D.ids, idsL, AO.ids, setL, base, encI_nil, encS_nil, encT_nil, encG_nil, encC_nil, encL_nil, encK_nil, encP_nil, mpS_nil, mpB_nil, encI_consE, encS_consE, encT_consE, encG_consE, encI_one, encS_one, encT_one, encI_snoc, encS_snoc, encT_snocE, encG_snocE, encC_snoc, encL_snoc, encK_snocE, encP_snocE, encI_set, encS_set, encT_setE, encG_setE, encC_setE, encK_setE, encP_setE, encI_len, encS_len, encT_len2, encG_len2, encC_len, encL_len, encK_len2, encP_len2])))
    simp only [c284, cond_true] at hh21
    simp only [Option.bind_some, nextO_inl] at hh21
    try simp only [go_sem, c12, c13, c14, c26, f281, f282, c283, c284]
    exact ih22 ((IntKind.i64.wrap (v18 + 1)), v19, (IntKind.i64.wrap (v20 + 1))) _ hh21 ((Wk.forget (by simp [Le, LeE, LeH, get, envIds, hpIds, KeepH, D.ids, idsL, AO.ids, setL, base, encI_nil, encS_nil, encT_nil, encG_nil, encC_nil, encL_nil, encK_nil, encP_nil, mpS_nil, mpB_nil, encI_consE, encS_consE, encT_consE, encG_consE, encI_one, encS_one, encT_one, encI_snoc, encS_snoc, encT_snocE, encG_snocE, encC_snoc, encL_snoc, encK_snocE, encP_snocE, encI_set, encS_set, encT_setE, encG_setE, encC_setE, encK_setE, encP_setE, encI_len, encS_len, encT_len2, encG_len2, encC_len, encL_len, encK_len2, encP_len2])))
  simp only [c283, cond_true] at hh21
  simp only [Option.bind_some, nextO_inl] at hh21
  try simp only [go_sem, c12, c13, c14, c26, f281, f282, c283]
  exact ih22 ((IntKind.i64.wrap (v18 + 1)), (IntKind.i64.wrap (v19 + 1)), v20) _ hh21 ((Wk.forget (by simp [Le, LeE, LeH, get, envIds, hpIds, KeepH, D.ids, idsL, AO.ids, setL, base, encI_nil, encS_nil, encT_nil, encG_nil, encC_nil, encL_nil, encK_nil, encP_nil, mpS_nil, mpB_nil, encI_consE, encS_consE, encT_consE, encG_consE, encI_one, encS_one, encT_one, encI_snoc, encS_snoc, encT_snocE, encG_snocE, encC_snoc, encL_snoc, encK_snocE, encP_snocE, encI_set, encS_set, encT_setE, encG_setE, encC_setE, encK_setE, encP_setE, encI_len, encS_len, encT_len2, encG_len2, encC_len, encL_len, encK_len2, encP_len2])))
end Go.Am
end
section
namespace Go.Am
open Go Go.Proofs
set_option maxRecDepth 100000
set_option linter.unusedVariables false
set_option linter.unusedSimpArgs false
theorem mk_cut (a : Int) (n : Nat) (h1 : 1 ≤ n) (h2 : n ≤ 10000000) : ∃ k : Nat, k < n ∧ mk_Cut_v a (n : Int) = some (k : Int) := by
  unfold mk_Cut_v
  by_cases c1 : (n : Int) ≤ 1
  · rw [decide_eq_true c1, cond_true]; exact ⟨0, by omega, rfl⟩
  · rw [decide_eq_false c1, cond_false, decide_eq_true (show ¬ (n : Int) = 0 by omega), cond_true]
    have h3 := Int.tmod_lt_of_pos a (show (0 : Int) < n by omega)
    have h4 : -(n : Int) < Int.tmod a n := by
      have := Int.lt_tmod_of_pos a (show (0 : Int) < n by omega)
      exact this
    by_cases c2 : Int.tmod a n < 0
    · rw [decide_eq_true c2, cond_true, wrap_i64_id (by omega) (by omega)]
      exact ⟨(Int.tmod a n + n).toNat, by omega, by congr 1; omega⟩
    · rw [decide_eq_false c2, cond_false]
      exact ⟨(Int.tmod a n).toNat, by omega, by congr 1; omega⟩
theorem spoil_at (n : Nt) (hv : validN n) (c : Int × Int × Int) : ∃ x, spoil_v n c = some x ∧ smallN x := by
  have hsm := validN_small hv
  obtain ⟨⟨hb1, hb2, hb3, _⟩, hs6, _, hr8, _, _, _, hd⟩ := hv
  have hs0 : 1 ≤ n.spurs.length := by
    have := List.length_filter_le Spr.depot n.spurs; omega
  obtain ⟨k, hk, he⟩ := mk_cut c.1 9 (by omega) (by omega)
  unfold spoil_v
  have he9 : mk_Cut_v c.1 9 = some (k : Int) := he
  rw [he9, Option.bind_some]
  obtain ⟨m1, m2, m3, m4⟩ := hsm
  have hR : ∀ x : Nt, x.blocks.length = n.blocks.length → x.next = n.next → x.spurs.length = n.spurs.length → x.robots.length ≤ n.robots.length + 1 → smallN x := by
    intro x h1 h2 h3 h4
    exact ⟨by omega, by rw [h2]; exact m2, by omega, by omega⟩
  by_cases c0 : (k : Int) = 0
  · rw [decide_eq_true c0, cond_true, decide_eq_true (by omega), cond_true, decide_eq_true (by omega), cond_true]
    exact ⟨_, rfl, hR _ rfl rfl rfl (by simp)⟩
  rw [decide_eq_false c0, cond_false]
  by_cases c1 : (k : Int) = 1
  · rw [decide_eq_true c1, cond_true]; exact ⟨_, rfl, hR _ rfl rfl rfl (by simp)⟩
  rw [decide_eq_false c1, cond_false]
  by_cases c2 : (k : Int) = 2
  · rw [decide_eq_true c2, cond_true]; exact ⟨_, rfl, hR _ rfl rfl rfl (by simp)⟩
  rw [decide_eq_false c2, cond_false]
  by_cases c3 : (k : Int) = 3
  · rw [decide_eq_true c3, cond_true, decide_eq_true (by omega), cond_true]
    obtain ⟨j, hj, hje⟩ := mk_cut c.2.1 n.spurs.length hs0 (by omega)
    rw [hje, Option.bind_some, idxO_at n.spurs j spr0 hj, Option.bind_some]
    exact ⟨_, rfl, hR _ rfl rfl (by simp) (by simp)⟩
  rw [decide_eq_false c3, cond_false]
  by_cases c4 : (k : Int) = 4
  · rw [decide_eq_true c4, cond_true, decide_eq_true (by omega), cond_true]
    obtain ⟨j, hj, hje⟩ := mk_cut c.2.1 n.spurs.length hs0 (by omega)
    rw [hje, Option.bind_some, idxO_at n.spurs j spr0 hj, Option.bind_some]
    exact ⟨_, rfl, hR _ rfl rfl (by simp) (by simp)⟩
  rw [decide_eq_false c4, cond_false]
  by_cases c5 : (k : Int) = 5
  · rw [decide_eq_true c5, cond_true, decide_eq_true (by omega), cond_true]
    obtain ⟨j, hj, hje⟩ := mk_cut c.2.1 n.next.length (by omega) (by omega)
    rw [hje, Option.bind_some, idxO_at n.next j [] hj, Option.bind_some]
    refine ⟨_, rfl, by simpa using m1, ⟨by simp; omega, fun r hr => ?_⟩, m3, m4⟩
    rcases List.mem_or_eq_of_mem_set hr with h | h
    · exact m2.2 r h
    · rw [h]; simp
  rw [decide_eq_false c5, cond_false]
  by_cases c6 : (k : Int) = 6
  · rw [decide_eq_true c6, cond_true, decide_eq_true (by omega), cond_true, show idxO n.blocks 0 = some (n.blocks.getD 0 blk0) from idxO_at n.blocks 0 blk0 (by omega), Option.bind_some]
    exact ⟨_, rfl, hR _ (by simp) rfl rfl (by simp)⟩
  rw [decide_eq_false c6, cond_false]
  by_cases c7 : (k : Int) = 7
  · rw [decide_eq_true c7, cond_true, decide_eq_true (by omega), cond_true]
    obtain ⟨j, hj, hje⟩ := mk_cut c.2.1 n.blocks.length (by omega) (by omega)
    rw [hje, Option.bind_some, idxO_at n.blocks j blk0 hj, Option.bind_some]
    exact ⟨_, rfl, hR _ (by simp) rfl rfl (by simp)⟩
  rw [decide_eq_false c7, cond_false]
  exact ⟨_, rfl, hR _ rfl rfl rfl (by simp)⟩
theorem descV_sml {n : Nt} (hv : validN n) : smallD (descV n) := by
  obtain ⟨h1, h2⟩ := descV_len n hv
  exact ⟨by omega, fun x hx => by have := h2 x hx; omega⟩
theorem lawValid_at (raw : Nt) (hraw : smallN raw) (l : List Int) (c : Int × Int × Int) (y1 : Nt) (y2 : List Int) (y3 : Int) (hq : LooseQ y1 y2 y3) : lawValid_v raw l c y1 y2 y3 = some true := by
  obtain ⟨hv, hb10⟩ := hq
  have hsm := validN_small hv
  obtain ⟨x, hx, hxs⟩ := spoil_at y1 hv c
  unfold lawValid_v
  have e1 : spoil_v (⟨y1.blocks, y1.next, y1.spurs, y1.robots, y1.cq, y1.ca, y1.cd, y1.cp⟩ : Nt) (c.1, c.2.1, c.2.2) = some x := hx
  rw [e1, Option.bind_some]
  have hl : loopO (lawValid_L1 raw y1 x) 0 = some (.inl 3) := by
    have key : ∀ n : Nt, smallN n → ∀ k : Nat, k < 3 → (Option.bind (ndescribe_v n) fun (x21, x22) => Option.bind (rdesc_v n) fun (x24, x25) => Option.bind (netmap_Valid_v n) fun x27 => Option.bind (rvalid_v n) fun x29 => cond (x27 == x29) (cond (decide (x22 = x25)) (Option.bind (sameDecls_v x21 x24) fun x33 => cond x33 (some (Sum.inl (IntKind.i64.wrap ((k : Int) + 1)))) (some (Sum.inr (.inr (false))))) (some (Sum.inr (.inr (false))))) (some (Sum.inr (.inr (false)))) : Option (Int ⊕ (Int ⊕ Bool))) = some (.inl ((k + 1 : Nat) : Int)) := by
      intro n hn k hk
      rw [ndescribe_at n hn, Option.bind_some, rdesc_at n hn]
      by_cases hv : validN n
      · rw [if_pos hv, nvalid_v n hn, rvalid_at n hn]
        obtain ⟨h1, h2⟩ := descV_len n hv
        simp only [Option.bind_some, beq_self_eq_true, cond_true, decide_true]
        rw [sameDecls_self _ (by omega) (fun x hx => by have := h2 x hx; omega), Option.bind_some, cond_true, wrap_sm (by omega)]
      · rw [if_neg hv, nvalid_v n hn, rvalid_at n hn]
        simp only [Option.bind_some, beq_self_eq_true, cond_true, decide_true]
        rw [sameDecls_self _ (by simp) (by simp), Option.bind_some, cond_true, wrap_sm (by omega)]
    exact loopO_thru (step := lawValid_L1 raw y1 x) 3 (fun k => (k : Int)) (.inl 3)
      (fun k hk => by
        rw [lawValid_L1_eq, decide_eq_true (by omega), cond_true]
        rcases k with _ | _ | _ | k
        · exact key raw hraw 0 hk
        · exact key y1 hsm 1 hk
        · exact key x hxs 2 hk
        · omega)
      (by rw [lawValid_L1_eq]; rfl)
  rw [hl, Option.bind_some]
  show Option.bind (netmap_Valid_v y1) _ = _
  rw [nvalid_v y1 hsm, decide_eq_true hv, Option.bind_some]
theorem lawBack_at (l : List Int) (d : List Dc) (hd : smallD d) (y1 : Nt) (y2 : List Int) (y3 : Int) (hq : LooseQ y1 y2 y3) : lawBack_v l d y1 y2 y3 = some true := by
  obtain ⟨hv, hb10⟩ := hq
  have hsm := validN_small hv
  unfold lawBack_v
  show Option.bind (ndescribe_v y1) _ = _
  rw [ndescribe_at y1 hsm, if_pos hv, Option.bind_some]
  simp only
  rw [nbuild_v_at _ (descV_sml hv), build_back hv, Option.bind_some]
  simp only
  rw [nbuild_v_at d hd, Option.bind_some]
  simp only [decide_true, cond_true]
  obtain ⟨m1, m2, m3, m4⟩ := hsm
  show Option.bind (sameNet_v y1 y1) _ = _
  rw [sameNet_self y1 m1 m2.1 m2.2 m3 m4, Option.bind_some, cond_true]
  by_cases h0 : (nbuildV d).2.2 = 0
  · rw [decide_eq_true h0, cond_true]
    have hv2 := build_valid d hd h0
    show Option.bind (netmap_Valid_v (nbuildV d).1) _ = _
    rw [nvalid_v _ (validN_small hv2), decide_eq_true hv2, Option.bind_some]
  · rw [decide_eq_false h0, cond_false]
end Go.Am
end
section
namespace Go.Am
open Go Go.Proofs
set_option maxRecDepth 100000
set_option linter.unusedVariables false
set_option linter.unusedSimpArgs false
def cntW (w : Int) (L : List Dc) : Nat := (L.filter fun d => decide (d.word = w)).length
theorem cntW_snoc (w : Int) (L : List Dc) (d : Dc) : cntW w (L ++ [d]) = cntW w L + if d.word = w then 1 else 0 := by
  unfold cntW
  rw [List.filter_append, List.length_append]
  by_cases h : d.word = w <;> simp [h]
theorem cntW_app (w : Int) (a b : List Dc) : cntW w (a ++ b) = cntW w a + cntW w b := by simp [cntW, List.filter_append]
theorem cntW_num (w : Int) : ∀ (L : List Dc) (i : Nat), cntW w (numD i L) = cntW w L
  | [], i => rfl
  | d :: r, i => by
    have := cntW_num w r (i + 1)
    unfold cntW at this ⊢
    simp only [numD, List.filter_cons]
    by_cases h : d.word = w <;> simp [h, this]
theorem cntW_all (w : Int) (L : List Dc) (h : ∀ d ∈ L, d.word = w) : cntW w L = L.length := by
  unfold cntW; rw [List.filter_eq_self.2]; intro d hd; simpa using h d hd
theorem cntW_none (w : Int) (L : List Dc) (h : ∀ d ∈ L, d.word ≠ w) : cntW w L = 0 := by
  unfold cntW; rw [List.length_eq_zero_iff, List.filter_eq_nil_iff]; intro d hd; simpa using h d hd
theorem cntW_desc {n : Nt} (hv : validN n) : cntW 2 (descV n) = (desc2 n n.blocks.length).length ∧ cntW 5 (descV n) = n.robots.length := by
  obtain ⟨hb, hs6, hnm, hr8, hcf, hsp, hrb, _⟩ := hv
  have w1 : ∀ d ∈ desc1 n, d.word = 1 := by intro d hd; obtain ⟨b, _, rfl⟩ := List.mem_map.1 hd; rfl
  have w2 : ∀ d ∈ desc2 n n.blocks.length, d.word = 2 := by
    intro d hd; obtain ⟨i, _, hd⟩ := List.mem_flatMap.1 hd; obtain ⟨b, _, rfl⟩ := List.mem_map.1 hd; rfl
  have w3 : ∀ d ∈ desc3 n, d.word = 3 ∨ d.word = 4 := by
    intro d hd; obtain ⟨b, _, rfl⟩ := List.mem_map.1 hd
    cases h : b.depot <;> simp [sprD, h]
  have w5 : ∀ d ∈ desc4 n n.robots.length, d.word = 5 := by
    intro d hd; obtain ⟨i, _, hd⟩ := List.mem_flatMap.1 hd; obtain ⟨b, _, rfl⟩ := List.mem_map.1 hd; rfl
  have h4 := desc4_len n hsp hrb _ (Nat.le_refl _)
  unfold descV
  rw [cntW_num, cntW_num, desc0]
  simp only [cntW_app]
  constructor
  · rw [cntW_none 2 (desc1 n) (fun d hd => by rw [w1 d hd]; decide), cntW_all 2 _ w2, cntW_none 2 (desc3 n) (fun d hd => by rcases w3 d hd with h | h <;> rw [h] <;> decide), cntW_none 2 _ (fun d hd => by rw [w5 d hd]; decide)]
    simp [cntW]
  · rw [cntW_none 5 (desc1 n) (fun d hd => by rw [w1 d hd]; decide), cntW_none 5 _ (fun d hd => by rw [w2 d hd]; decide), cntW_none 5 (desc3 n) (fun d hd => by rcases w3 d hd with h | h <;> rw [h] <;> decide), cntW_all 5 _ w5, h4]
    simp [cntW]
theorem cntW_le (w : Int) (L : List Dc) : cntW w L ≤ L.length := List.length_filter_le _ _
theorem t_l6 (L : List Dc) (h : L.length ≤ 1000000) : loopO (lawTables_L6 L) (0, 0, 0) = some ((L.length : Int), (cntW 2 L : Int), (cntW 5 L : Int)) := by
  have hl := loopO_thru (step := lawTables_L6 L) L.length (fun k => ((k : Int), (cntW 2 (L.take k) : Int), (cntW 5 (L.take k) : Int))) ((L.length : Int), (cntW 2 L : Int), (cntW 5 L : Int))
    (fun k hk => by
      have a := cntW_le 2 (L.take k)
      have b := cntW_le 5 (L.take k)
      simp only [List.length_take] at a b
      rw [lawTables_L6_eq, lt_c hk, cond_true, idxO_at L k dc0 hk, Option.bind_some, take_snoc L k dc0 hk, cntW_snoc, cntW_snoc]
      by_cases c2 : (L.getD k dc0).word = 2
      · rw [decide_eq_true c2, cond_true, if_pos c2, if_neg (by omega), wrap_sm (by omega), wrap_sm (by omega)]; rfl
      · rw [decide_eq_false c2, cond_false, if_neg c2]
        by_cases c5 : (L.getD k dc0).word = 5
        · rw [decide_eq_true c5, cond_true, if_pos c5, wrap_sm (by omega), wrap_sm (by omega)]; rfl
        · rw [decide_eq_false c5, cond_false, if_neg c5, wrap_sm (by omega)]; rfl)
    (by rw [lawTables_L6_eq, lt_n, cond_false, List.take_length])
  exact hl
theorem t_l4 {nb i : Nat} (row : List Int) (h4 : row.length ≤ 4) (h : rowP nb i row) : ∃ v, loopO (lawTables_L4 row) 1 = some (.inl v) := by
  have hl := loopO_thru (step := lawTables_L4 row) (row.length - 1) (fun k => ((k + 1 : Nat) : Int)) (.inl ((row.length - 1 + 1 : Nat) : Int))
    (fun k hk => by
      have hk1 : k + 1 < row.length := by omega
      have hlt := rowP_lt h (show k < k + 1 by omega) hk1
      rw [lawTables_L4_eq, lt_c hk1, cond_true, idxO_at row (k + 1) 0 hk1, Option.bind_some, wrap_i64_id (by omega) (by omega), show (((k + 1 : Nat) : Int) - 1) = ((k : Nat) : Int) by omega, idxO_at row k 0 (by omega), Option.bind_some,
        decide_eq_false (by omega), cond_false, wrap_sm (by omega)])
    (by rw [lawTables_L4_eq, decide_eq_false (by omega), cond_false])
  exact ⟨_, hl⟩
theorem t_l5 {n : Nt} (hb : blocksP n) : loopO (lawTables_L5 n) (0, ((desc2 n n.blocks.length).length : Int)) = some (.inl ((n.next.length : Int), 0)) := by
  have hnl := hb.2.2.1
  have hmono : ∀ k, k ≤ n.blocks.length → (desc2 n k).length ≤ 4 * k := fun k hk => desc2_len n hb k hk
  have hall := hmono n.blocks.length (Nat.le_refl _)
  have hb24 := hb.2.1
  have hl := loopO_thru (step := lawTables_L5 n) n.next.length (fun k => ((k : Int), ((desc2 n n.blocks.length).length : Int) - ((desc2 n k).length : Int))) (.inl ((n.next.length : Int), 0))
    (fun k hk => by
      obtain ⟨_, h4, hrow⟩ := hb.2.2.2 k (by omega)
      obtain ⟨v, hv⟩ := t_l4 _ h4 hrow
      have hm := hmono k (by omega)
      rw [lawTables_L5_eq, lt_c hk, cond_true, idxO_at n.next k [] hk, Option.bind_some, hv, Option.bind_some]
      simp only
      rw [wrap_sm (by omega), wrap_i64_id (by omega) (by omega), desc2_succ, List.length_append, lanL, List.length_map]
      congr 3
      omega)
    (by rw [lawTables_L5_eq, lt_n, cond_false, hnl, Int.sub_self])
  have h0 : (desc2 n 0).length = 0 := rfl
  simpa [h0] using hl
theorem t_l3 {n : Nt} (hb24 : n.blocks.length ≤ 24) (hs : n.spurs.length ≤ 6) (hsp : spursP n.blocks.length n.spurs) : loopO (lawTables_L3 n) ((n.blocks.length : Int), 0) = some (.inl ((n.blocks.length : Int) + sumS n.spurs, (n.spurs.length : Int))) := by
  have hl := loopO_thru (step := lawTables_L3 n) n.spurs.length (fun k => ((n.blocks.length : Int) + sumS (n.spurs.take k), (k : Int))) (.inl ((n.blocks.length : Int) + sumS n.spurs, (n.spurs.length : Int)))
    (fun k hk => by
      obtain ⟨_, _, _, _, s1, s2, s3⟩ := hsp k hk
      have hr := sumS_rng n.blocks.length n.spurs k (by omega) (fun j hj => hsp j (by omega))
      rw [lawTables_L3_eq, lt_c hk, cond_true, idxO_at n.spurs k spr0 hk, Option.bind_some, decide_eq_true s3, cond_true, wrap_i64_id (by omega) (by omega), wrap_sm (by omega), take_snoc n.spurs k spr0 hk, sumS_snoc]
      congr 3
      omega)
    (by rw [lawTables_L3_eq, lt_n, cond_false, List.take_length])
  have h0 : sumS ([] : List Spr) = 0 := rfl
  simpa [h0] using hl
theorem t_l1 (n : Nt) (hr8 : n.robots.length ≤ 8) (hrb : robotsP n.spurs n.robots) (k : Nat) (hk : k < n.robots.length) : loopO (lawTables_L1 n (k : Int)) 0 = some (.inl (k : Int)) := by
  have hl := loopO_thru (step := lawTables_L1 n (k : Int)) k (fun j => (j : Int)) (.inl (k : Int))
    (fun j hj => by
      have hne : n.robots.getD k 0 ≠ n.robots.getD j 0 := fun e => by
        apply (hrb k hk).2
        rw [e, gde (show j < n.robots.length by omega)]
        exact List.mem_iff_getElem.2 ⟨j, by simp; omega, by simp⟩
      rw [lawTables_L1_eq, decide_eq_true (by omega), cond_true, idxO_at n.robots k 0 hk, Option.bind_some, idxO_at n.robots j 0 (by omega), Option.bind_some, decide_eq_false hne, cond_false, wrap_sm (by omega)])
    (by rw [lawTables_L1_eq, decide_eq_false (by omega), cond_false])
  exact hl
theorem t_l2 {n : Nt} (hr8 : n.robots.length ≤ 8) (hrb : robotsP n.spurs n.robots) (hsp : spursP n.blocks.length n.spurs) : loopO (lawTables_L2 n ((n.blocks.length : Int) + sumS n.spurs)) 0 = some (.inl (n.robots.length : Int)) := by
  have hl := loopO_thru (step := lawTables_L2 n ((n.blocks.length : Int) + sumS n.spurs)) n.robots.length (fun j => (j : Int)) (.inl (n.robots.length : Int))
    (fun k hk => by
      obtain ⟨j, hj, i1, _, _⟩ := rob_spur hsp hrb hk
      have hr := inS_rng hsp hj i1
      have hm := sumT_mono n.blocks.length n.spurs hsp n.spurs.length (j + 1) (by omega) (Nat.le_refl _)
      have h0 := sumS_rng n.blocks.length n.spurs j (by omega) (fun t ht => hsp t (by omega))
      rw [List.take_length] at hm
      rw [lawTables_L2_eq, lt_c hk, cond_true, t_l1 n hr8 hrb k hk, Option.bind_some]
      simp only
      rw [idxO_at n.robots k 0 hk, Option.bind_some, decide_eq_false (by omega), cond_false, decide_eq_false (by omega), cond_false, wrap_sm (by omega)])
    (by rw [lawTables_L2_eq, lt_n, cond_false])
  exact hl
theorem lawTables_at (l : List Int) (y1 : Nt) (y2 : List Int) (y3 : Int) (hq : LooseQ y1 y2 y3) : lawTables_v l y1 y2 y3 = some true := by
  obtain ⟨hv, hb10⟩ := hq
  have hv0 := hv
  have hsm := validN_small hv
  obtain ⟨hc2, hc5⟩ := cntW_desc hv
  obtain ⟨hb, hs6, hnm, hr8, hcf, hsp, hrb, _⟩ := hv
  have hsum := sumS_rng y1.blocks.length y1.spurs y1.spurs.length (Nat.le_refl _) (fun j hj => hsp j hj)
  rw [List.take_length] at hsum
  unfold lawTables_v
  show Option.bind (rdesc_v y1) _ = _
  rw [rdesc_at y1 hsm, if_pos hv0, Option.bind_some]
  simp only
  rw [nbuild_v_at _ (descV_sml hv0), build_back hv0, Option.bind_some]
  simp only [decide_true, cond_true]
  rw [decide_eq_true (by rw [hb.2.2.1]), cond_true, t_l6 _ (by have := (descV_len y1 hv0).1; omega), Option.bind_some]
  simp only
  rw [hc2, hc5, t_l5 hb, Option.bind_some]
  simp only
  rw [t_l3 hb.2.1 hs6 hsp, Option.bind_some]
  simp only
  rw [t_l2 hr8 hrb hsp, Option.bind_some]
  simp only [decide_true, cond_true]
  rw [decide_eq_true (by omega)]
end Go.Am
end
