/- Texts of this proof, what it rests on, merged: part G. -/
import Derived.Test.YtocjeibecmijeaaNzF
section
namespace Go.Am
open Go Go.Proofs
set_option maxRecDepth 100000
set_option linter.unusedVariables false
set_option linter.unusedSimpArgs false
theorem slots_v (s : Spr) (m : List (Int × Bool)) (hs : 1 ≤ s.slots ∧ s.slots ≤ 4) (hb : 0 ≤ s.base ∧ s.base ≤ 100) : loopO (netmap_Valid_L3 s) (m, 0, s.base) = some (depM m s, s.slots, s.base + s.slots) := by
  have e : ∃ n : Nat, s.slots = (n : Int) := ⟨s.slots.toNat, by omega⟩
  obtain ⟨n, hn⟩ := e
  have h := loopO_thru (step := netmap_Valid_L3 s) n (fun j => (if s.depot = true then putN m s.base j else m, (j : Int), s.base + (j : Int))) (depM m s, s.slots, s.base + s.slots)
    (fun j hj => by
      rw [netmap_Valid_L3_eq, hn, lt_c hj, cond_true]
      have w1 := wrap_sm (show j < 10000000 by omega)
      have w2 : IntKind.i64.wrap (s.base + (j : Int) + 1) = s.base + ((j + 1 : Nat) : Int) := by rw [IntKind.wrap_i64]; omega
      cases s.depot
      · rw [cond_false, w1, w2]; rfl
      · rw [cond_true, w1, w2]; rfl)
    (by
      rw [netmap_Valid_L3_eq, hn, lt_n, cond_false]
      unfold depM
      rw [hn]
      rfl)
  have e0 : (m, (0 : Int), s.base) = (if s.depot = true then putN m s.base 0 else m, ((0 : Nat) : Int), s.base + ((0 : Nat) : Int)) := by
    cases s.depot <;> simp [putN]
  rw [e0, h]
end Go.Am
end
section
namespace Go.Am
open Go Go.Proofs
set_option maxRecDepth 100000
set_option linter.unusedVariables false
set_option linter.unusedSimpArgs false
theorem sumS_take (sp : List Spr) (i : Nat) (h : i < sp.length) : sumS (sp.take (i + 1)) = sumS (sp.take i) + (sp.getD i spr0).slots := by rw [take_snoc sp i spr0 h, sumS_snoc]
def goodB (n : Nt) (i : Nat) : Bool := nameB (n.blocks.getD i blk0).name && (decide (xyP (n.blocks.getD i blk0)) && decide (rowP n.blocks.length i (n.next.getD i []) ∧ (n.next.getD i []).length ≤ 4))
def goodS (n : Nt) (i : Nat) : Bool := nameB (n.spurs.getD i spr0).name && decide (spurP n.blocks.length (n.blocks.length + sumS (n.spurs.take i)) (n.spurs.getD i spr0))
theorem vblocks (n : Nt) (hl : n.blocks.length ≤ 24) (hn : n.next.length = n.blocks.length) (hr : ∀ r ∈ n.next, r.length ≤ 10000000) :
    loopO (netmap_Valid_L5 n) ([], 0) = some (if (∀ j, j < n.blocks.length → goodB n j = true) then Sum.inl (cntS [] (n.blocks.map Blk.name), (n.blocks.length : Int)) else Sum.inr false) := by
  have h := loopO_all (step := netmap_Valid_L5 n) n.blocks.length (fun i => (cntS [] ((n.blocks.take i).map Blk.name), (i : Int))) (Sum.inl (cntS [] (n.blocks.map Blk.name), (n.blocks.length : Int))) (Sum.inr false) (fun i => goodB n i)
    (fun i hi hj => by
      rw [netmap_Valid_L5_eq, lt_c hi, cond_true, idxO_at n.blocks i blk0 hi, Option.bind_some]
      have w2 := wrap_sm (show i < 10000000 by omega)
      simp only [fname_v, within_v, Option.bind_some]
      have hnx : (cntS [] ((n.blocks.take (i + 1)).map Blk.name), ((i + 1 : Nat) : Int)) =
          (putS (cntS [] ((n.blocks.take i).map Blk.name)) (n.blocks.getD i blk0).name (IntKind.i64.wrap ((getS (cntS [] ((n.blocks.take i).map Blk.name)) (n.blocks.getD i blk0).name).getD 0 + 1)), ((i + 1 : Nat) : Int)) := by
        rw [take_snoc n.blocks i blk0 hi, List.map_append, List.map_cons, List.map_nil, cntS_snoc]
      rw [hnx, idxO_at n.next i [] (by omega), Option.bind_some, validNext_v _ i n.blocks.length (by have := hr (n.next.getD i []) (getD_mem n.next i [] (by omega)); exact this), Option.bind_some]
      unfold goodB
      generalize n.blocks.getD i blk0 = b
      cases c0 : nameB b.name
      · simp
      rw [cond_true, Bool.true_and]
      by_cases c1 : (-9999) ≤ b.x ∧ b.x ≤ 9999
      rotate_left
      · have e1 : (decide ((-9999) ≤ b.x) && decide (b.x ≤ 9999)) = false := by rw [← Bool.decide_and]; exact decide_eq_false c1
        rw [e1, cond_false, if_neg (by rw [Bool.and_eq_true, decide_eq_true_eq]; intro h; exact c1 ⟨h.1.1, h.1.2.1⟩)]
      rw [show (decide ((-9999) ≤ b.x) && decide (b.x ≤ 9999)) = true by rw [← Bool.decide_and]; exact decide_eq_true c1, cond_true]
      by_cases c2 : (-9999) ≤ b.y ∧ b.y ≤ 9999
      rotate_left
      · have e1 : (decide ((-9999) ≤ b.y) && decide (b.y ≤ 9999)) = false := by rw [← Bool.decide_and]; exact decide_eq_false c2
        rw [e1, cond_false, if_neg (by rw [Bool.and_eq_true, decide_eq_true_eq]; intro h; exact c2 ⟨h.1.2.2.1, h.1.2.2.2⟩)]
      rw [show (decide ((-9999) ≤ b.y) && decide (b.y ≤ 9999)) = true by rw [← Bool.decide_and]; exact decide_eq_true c2, cond_true]
      rw [show decide (xyP b) = true from decide_eq_true ⟨c1.1, c1.2, c2.1, c2.2⟩, Bool.true_and]
      cases decide (rowP n.blocks.length i (n.next.getD i []) ∧ (n.next.getD i []).length ≤ 4)
      · simp
      · rw [cond_true, if_pos rfl, w2])
    (fun hj => by rw [netmap_Valid_L5_eq, lt_n, cond_false, List.take_length])
  exact h
theorem vspurs (n : Nt) (m : List (List UInt8 × Int)) (hb : 1 ≤ n.blocks.length ∧ n.blocks.length ≤ 24) (hl : n.spurs.length ≤ 6) :
    loopO (netmap_Valid_L4 n) (m, [], (n.blocks.length : Int), 0) = some (if (∀ j, j < n.spurs.length → goodS n j = true) then Sum.inl (cntS m (n.spurs.map Spr.name), n.spurs.foldl depM [], (n.blocks.length : Int) + sumS n.spurs, (n.spurs.length : Int)) else Sum.inr false) := by
  have hpre : ∀ i, i ≤ n.spurs.length → (∀ j, j < i → goodS n j = true) → 0 ≤ sumS (n.spurs.take i) ∧ sumS (n.spurs.take i) ≤ 4 * i := by
    intro i hi hj
    exact sumS_rng n.blocks.length n.spurs i hi (fun j h => by
      have := hj j h
      simp only [goodS, Bool.and_eq_true, decide_eq_true_eq] at this
      exact this.2)
  have h := loopO_all (step := netmap_Valid_L4 n) n.spurs.length (fun i => (cntS m ((n.spurs.take i).map Spr.name), (n.spurs.take i).foldl depM [], (n.blocks.length : Int) + sumS (n.spurs.take i), (i : Int)))
    (Sum.inl (cntS m (n.spurs.map Spr.name), n.spurs.foldl depM [], (n.blocks.length : Int) + sumS n.spurs, (n.spurs.length : Int))) (Sum.inr false) (fun i => goodS n i)
    (fun i hi hj => by
      have hs := hpre i (by omega) hj
      rw [netmap_Valid_L4_eq, lt_c hi, cond_true, idxO_at n.spurs i spr0 hi, Option.bind_some]
      have w1 : IntKind.i64.wrap ((n.blocks.length : Int) - 1) = (n.blocks.length : Int) - 1 := by rw [IntKind.wrap_i64]; omega
      have w2 := wrap_sm (show i < 10000000 by omega)
      simp only [fname_v, within_v, Option.bind_some, w1]
      have hnx : (cntS m ((n.spurs.take (i + 1)).map Spr.name), (n.spurs.take (i + 1)).foldl depM [], (n.blocks.length : Int) + sumS (n.spurs.take (i + 1)), ((i + 1 : Nat) : Int)) =
          (putS (cntS m ((n.spurs.take i).map Spr.name)) (n.spurs.getD i spr0).name (IntKind.i64.wrap ((getS (cntS m ((n.spurs.take i).map Spr.name)) (n.spurs.getD i spr0).name).getD 0 + 1)), depM ((n.spurs.take i).foldl depM []) (n.spurs.getD i spr0), (n.blocks.length : Int) + sumS (n.spurs.take i) + (n.spurs.getD i spr0).slots, ((i + 1 : Nat) : Int)) := by
        rw [sumS_take _ _ hi, take_snoc n.spurs i spr0 hi, List.map_append, List.foldl_append, List.map_cons, List.map_nil, cntS_snoc, Int.add_assoc]
        rfl
      rw [hnx]
      unfold goodS
      generalize hse : n.spurs.getD i spr0 = s
      cases c0 : nameB s.name
      · simp
      rw [cond_true, Bool.true_and]
      by_cases c1 : 0 ≤ s.inn ∧ s.inn ≤ (n.blocks.length : Int) - 1
      rotate_left
      · have e1 : (decide (0 ≤ s.inn) && decide (s.inn ≤ (n.blocks.length : Int) - 1)) = false := by rw [← Bool.decide_and]; exact decide_eq_false c1
        rw [e1, cond_false, if_neg (by rw [decide_eq_true_eq]; intro h; exact c1 ⟨h.1, by have := h.2.1; omega⟩)]
      rw [show (decide (0 ≤ s.inn) && decide (s.inn ≤ (n.blocks.length : Int) - 1)) = true by rw [← Bool.decide_and]; exact decide_eq_true c1, cond_true]
      by_cases c2 : 0 ≤ s.out ∧ s.out ≤ (n.blocks.length : Int) - 1
      rotate_left
      · have e1 : (decide (0 ≤ s.out) && decide (s.out ≤ (n.blocks.length : Int) - 1)) = false := by rw [← Bool.decide_and]; exact decide_eq_false c2
        rw [e1, cond_false, if_neg (by rw [decide_eq_true_eq]; intro h; exact c2 ⟨h.2.2.1, by have := h.2.2.2.1; omega⟩)]
      rw [show (decide (0 ≤ s.out) && decide (s.out ≤ (n.blocks.length : Int) - 1)) = true by rw [← Bool.decide_and]; exact decide_eq_true c2, cond_true]
      by_cases c3 : 1 ≤ s.slots ∧ s.slots ≤ 4
      rotate_left
      · have e1 : (decide (1 ≤ s.slots) && decide (s.slots ≤ 4)) = false := by rw [← Bool.decide_and]; exact decide_eq_false c3
        rw [e1, cond_false, if_neg (by rw [decide_eq_true_eq]; intro h; exact c3 ⟨h.2.2.2.2.1, h.2.2.2.2.2.1⟩)]
      rw [show (decide (1 ≤ s.slots) && decide (s.slots ≤ 4)) = true by rw [← Bool.decide_and]; exact decide_eq_true c3, cond_true]
      by_cases c4 : s.base = (n.blocks.length : Int) + sumS (n.spurs.take i)
      rotate_left
      · rw [decide_eq_false c4, cond_false, if_neg (by rw [decide_eq_true_eq]; intro h; exact c4 h.2.2.2.2.2.2)]
      rw [decide_eq_true c4, cond_true, if_pos (decide_eq_true ⟨c1.1, by omega, c2.1, by omega, c3.1, c3.2, c4⟩), ← c4, slots_v s _ c3 (by omega), Option.bind_some, w2])
    (fun hj => by rw [netmap_Valid_L4_eq, lt_n, cond_false, List.take_length])
  have e0 : (m, ([] : List (Int × Bool)), (n.blocks.length : Int), (0 : Int)) = (cntS m ((n.spurs.take 0).map Spr.name), (n.spurs.take 0).foldl depM [], (n.blocks.length : Int) + sumS (n.spurs.take 0), ((0 : Nat) : Int)) := by
    simp [cntS, sumS]
  rw [e0]
  exact h
theorem vrobots (n : Nt) (m : List (Int × Bool)) (f : Int → Bool) (hm : MB m f) (ok : Bool) (hl : n.robots.length ≤ 8) :
    ∃ m', loopO (netmap_Valid_L2 n) (m, ok, 0) = some (m', ok && decide (∀ i, i < n.robots.length → f (n.robots.getD i 0) = true ∧ n.robots.getD i 0 ∉ n.robots.take i), (n.robots.length : Int)) := by
  have key : ∀ k, k ≤ n.robots.length → ∃ m', MB m' (fun x => f x && decide (x ∉ n.robots.take k)) ∧
      ∀ r, loopO (netmap_Valid_L2 n) (m', ok && decide (∀ i, i < k → f (n.robots.getD i 0) = true ∧ n.robots.getD i 0 ∉ n.robots.take i), (k : Int)) = some r → loopO (netmap_Valid_L2 n) (m, ok, 0) = some r := by
    intro k
    induction k with
    | zero =>
      intro _
      refine ⟨m, hm.congr fun x => by simp, fun r hr => ?_⟩
      simp only [Nat.not_lt_zero, false_implies, implies_true, decide_true, Bool.and_true] at hr
      exact hr
    | succ k ih =>
      intro hk
      obtain ⟨m', h1, h2⟩ := ih (by omega)
      refine ⟨delB m' (n.robots.getD k 0), (h1.del _).congr fun x => ?_, fun r hr => h2 r ?_⟩
      · rw [take_snoc n.robots k 0 (by omega), Bool.and_assoc]
        congr 1
        rw [Bool.eq_iff_iff]
        simp [not_or]
      · have w2 := wrap_sm (show k < 10000000 by omega)
        rw [loopO_step, netmap_Valid_L2_eq, lt_c (by omega), cond_true, idxO_at n.robots k 0 (by omega), Option.bind_some, w2]
        have hg : (getB m' (n.robots.getD k 0)).getD false = (f (n.robots.getD k 0) && decide (n.robots.getD k 0 ∉ n.robots.take k)) := by
          rw [h1.2]
          split
          · rename_i e; simpa using e.symm
          · rename_i e; simpa using e
        have hst : decide (∀ i, i < k + 1 → f (n.robots.getD i 0) = true ∧ n.robots.getD i 0 ∉ n.robots.take i) = (decide (∀ i, i < k → f (n.robots.getD i 0) = true ∧ n.robots.getD i 0 ∉ n.robots.take i) && (f (n.robots.getD k 0) && decide (n.robots.getD k 0 ∉ n.robots.take k))) := by
          rw [Bool.eq_iff_iff]
          simp only [Bool.and_eq_true, decide_eq_true_eq]
          constructor
          · intro h
            exact ⟨fun i hi => h i (by omega), h k (by omega)⟩
          · rintro ⟨h3, h4⟩ i hi
            by_cases e : i = k
            · subst e; exact h4
            · exact h3 i (by omega)
        rw [hst] at hr
        cases c : (ok && decide (∀ i, i < k → f (n.robots.getD i 0) = true ∧ n.robots.getD i 0 ∉ n.robots.take i))
        · rw [cond_false, Option.bind_some, nextO_inl]
          rw [← Bool.and_assoc, c, Bool.false_and] at hr
          exact hr
        · rw [cond_true, Option.bind_some, nextO_inl, hg]
          rw [← Bool.and_assoc, c, Bool.true_and] at hr
          exact hr
  obtain ⟨m', h1, h2⟩ := key n.robots.length (Nat.le_refl _)
  exact ⟨m', h2 _ (by rw [loopO_step, netmap_Valid_L2_eq, lt_n, cond_false, Option.bind_some, nextO_inr])⟩
theorem vrobots0 (n : Nt) (m : List (Int × Bool)) (hl : n.robots.length ≤ 8) : ∃ r, loopO (netmap_Valid_L1 n) (m, 0) = some r := by
  have key : ∀ k (m : List (Int × Bool)) i, i + k = n.robots.length → ∃ r, loopO (netmap_Valid_L1 n) (m, (i : Int)) = some r := by
    intro k
    induction k with
    | zero =>
      intro m i hi
      obtain rfl : i = n.robots.length := by omega
      exact ⟨_, by rw [loopO_step, netmap_Valid_L1_eq, lt_n, cond_false, Option.bind_some, nextO_inr]⟩
    | succ k ih =>
      intro m i hi
      have w2 := wrap_sm (show i < 10000000 by omega)
      obtain ⟨r, hr⟩ := ih (delB m (n.robots.getD i 0)) (i + 1) (by omega)
      exact ⟨r, by rw [loopO_step, netmap_Valid_L1_eq, lt_c (by omega), cond_true, idxO_at n.robots i 0 (by omega), Option.bind_some, w2, Option.bind_some, nextO_inl]; exact hr⟩
  exact key n.robots.length m 0 (by omega)
theorem nodup_getD (l : List (List UInt8)) : l.Nodup ↔ ∀ i, i < l.length → ∀ k, k < i → l.getD i [] ≠ l.getD k [] := by
  unfold List.Nodup
  rw [List.pairwise_iff_getElem]
  constructor
  · intro h i hi k hk
    have := h k i (by omega) hi hk
    rw [getD_eq hi, getD_eq (show k < l.length by omega)]
    exact Ne.symm this
  · intro h i j hi hj hij
    have := h j hj i hij
    rw [getD_eq hi, getD_eq hj] at this
    exact Ne.symm this
theorem nvalid_v (n : Nt) (hs : smallN n) : netmap_Valid_v n = some (decide (validN n)) := by
  obtain ⟨s1, ⟨s2, s2'⟩, s3, s4⟩ := hs
  have no : ∀ {r : Option Bool}, ¬ validN n → r = some false → r = some (decide (validN n)) := fun h hr => by rw [hr, decide_eq_false h]
  unfold netmap_Valid_v
  rw [within_v, Option.bind_some]
  by_cases b1 : 1 ≤ n.blocks.length ∧ n.blocks.length ≤ 24
  rotate_left
  · refine no (fun h => b1 ⟨h.1.1, h.1.2.1⟩) ?_
    rw [show (decide ((1 : Int) ≤ ((n.blocks.length : Nat) : Int)) && decide (((n.blocks.length : Nat) : Int) ≤ 24)) = false by rw [← Bool.decide_and]; exact decide_eq_false (by omega)]
    rfl
  rw [show (decide ((1 : Int) ≤ ((n.blocks.length : Nat) : Int)) && decide (((n.blocks.length : Nat) : Int) ≤ 24)) = true by rw [← Bool.decide_and]; exact decide_eq_true (by omega), cond_true]
  by_cases b2 : n.next.length = n.blocks.length
  rotate_left
  · refine no (fun h => b2 h.1.2.2.1) ?_
    rw [decide_eq_false (by omega), cond_false]
  rw [decide_eq_true (by omega), cond_true]
  by_cases b3 : n.spurs.length ≤ 6
  rotate_left
  · refine no (fun h => b3 h.2.1) ?_
    rw [decide_eq_true (by omega), cond_true]
  rw [decide_eq_false (by omega : ¬ (6 : Int) < ((n.spurs.length : Nat) : Int)), cond_false]
  by_cases b4 : n.robots.length ≤ 8
  rotate_left
  · refine no (fun h => b4 h.2.2.2.1) ?_
    rw [decide_eq_true (by omega), cond_true]
  rw [decide_eq_false (by omega : ¬ (8 : Int) < ((n.robots.length : Nat) : Int)), cond_false, validConfig_v, Option.bind_some]
  by_cases b5 : cfgP n.cq n.ca n.cd n.cp
  rotate_left
  · refine no (fun h => b5 h.2.2.2.2.1) ?_
    rw [decide_eq_false b5, cond_false]
  rw [decide_eq_true b5, cond_true, vblocks n b1.2 b2 s2', Option.bind_some]
  by_cases b6 : ∀ j, j < n.blocks.length → goodB n j = true
  rotate_left
  · refine no (fun h => b6 fun j hj => ?_) ?_
    · have h1 := h.1.2.2.2 j hj
      have h2 := (h.2.2.1 j (by simp [namesN]; omega)).1
      have h3 : (namesN n).getD j [] = (n.blocks.getD j blk0).name := by
        unfold namesN
        simp [List.getD, List.getElem?_append, hj]
      rw [h3] at h2
      simp only [goodB, Bool.and_eq_true, decide_eq_true_eq]
      exact ⟨h2, h1.1, h1.2.2, h1.2.1⟩
    · rw [if_neg b6]
  rw [if_pos b6]
  simp only
  rw [vspurs n _ b1 b3, Option.bind_some]
  by_cases b7 : ∀ j, j < n.spurs.length → goodS n j = true
  rotate_left
  · refine no (fun h => b7 fun j hj => ?_) ?_
    · have h1 := h.2.2.2.2.2.1 j hj
      have h2 := (h.2.2.1 (n.blocks.length + j) (by simp [namesN]; omega)).1
      have h3 : (namesN n).getD (n.blocks.length + j) [] = (n.spurs.getD j spr0).name := by
        unfold namesN
        simp [List.getD, List.getElem?_append, hj]
      rw [h3] at h2
      simp only [goodS, Bool.and_eq_true, decide_eq_true_eq]
      exact ⟨h2, h1⟩
    · rw [if_neg b7]
  rw [if_pos b7]
  simp only
  have g6 : ∀ j, j < n.blocks.length → nameB (n.blocks.getD j blk0).name = true ∧ xyP (n.blocks.getD j blk0) ∧ (n.next.getD j []).length ≤ 4 ∧ rowP n.blocks.length j (n.next.getD j []) := fun j hj => by
    have := b6 j hj
    simp only [goodB, Bool.and_eq_true, decide_eq_true_eq] at this
    exact ⟨this.1, this.2.1, this.2.2.2, this.2.2.1⟩
  have g7 : ∀ j, j < n.spurs.length → nameB (n.spurs.getD j spr0).name = true ∧ spurP n.blocks.length (n.blocks.length + sumS (n.spurs.take j)) (n.spurs.getD j spr0) := fun j hj => by
    have := b7 j hj
    simp only [goodS, Bool.and_eq_true, decide_eq_true_eq] at this
    exact this
  have hslots : ∀ s ∈ n.spurs, 1 ≤ s.slots := by
    intro s hs
    obtain ⟨i, hi, rfl⟩ := List.getElem_of_mem hs
    have := (g7 i hi).2.2.2.2.2.1
    rwa [getD_eq hi] at this
  have hM := (MB.deps n.spurs MB.nil (fun s hs => by have := hslots s hs; omega)).congr (g := fun x => n.spurs.any (inD x)) (fun x => by simp)
  have hdep : (0 < (n.spurs.foldl depM []).length) ↔ 0 < (n.spurs.filter Spr.depot).length := by
    rw [hM.pos, List.length_pos_iff_exists_mem]
    constructor
    · rintro ⟨x, hx⟩
      obtain ⟨s, hs, h⟩ := List.any_eq_true.1 hx
      refine ⟨s, List.mem_filter.2 ⟨hs, ?_⟩⟩
      unfold inD at h
      simp only [Bool.and_eq_true] at h
      exact h.1
    · rintro ⟨s, hs⟩
      obtain ⟨hs, hd⟩ := List.mem_filter.1 hs
      refine ⟨s.base, List.any_eq_true.2 ⟨s, hs, ?_⟩⟩
      have := hslots s hs
      simp [inD, hd]
      omega
  have hkeys := cntS_keys (namesN n) [] (by simp)
  have hcnt : cntS (cntS [] (n.blocks.map Blk.name)) (n.spurs.map Spr.name) = cntS [] (namesN n) := by rw [← cntS_app]; rfl
  have hnl : (namesN n).length = n.blocks.length + n.spurs.length := by simp [namesN]
  rw [hcnt]
  have w1 : IntKind.i64.wrap (((n.blocks.length : Nat) : Int) + ((n.spurs.length : Nat) : Int)) = ((n.blocks.length + n.spurs.length : Nat) : Int) := by rw [IntKind.wrap_i64]; omega
  have hnn : namesP n ↔ (namesN n).Nodup := by
    rw [nodup_getD]
    constructor
    · intro h i hi k hk
      exact (h i hi).2 k hk
    · intro h i hi
      refine ⟨?_, fun k hk => h i hi k hk⟩
      by_cases hb : i < n.blocks.length
      · have h3 : (namesN n).getD i [] = (n.blocks.getD i blk0).name := by
          unfold namesN
          simp [List.getD, List.getElem?_append, hb]
        rw [h3]; exact (g6 i hb).1
      · have h3 : (namesN n).getD i [] = (n.spurs.getD (i - n.blocks.length) spr0).name := by
          unfold namesN
          simp [List.getD, List.getElem?_append, hb, show i - n.blocks.length < n.spurs.length by omega]
        rw [h3]; exact (g7 _ (by omega)).1
  have hok : decide ((((cntS [] (namesN n)).length : Nat) : Int) = ((n.blocks.length + n.spurs.length : Nat) : Int)) = decide (namesP n) := by
    rw [Bool.eq_iff_iff, decide_eq_true_eq, decide_eq_true_eq, hnn]
    have := hkeys.2.2
    simp only [List.length_nil, Nat.zero_add, List.map_nil, List.nil_append] at this
    rw [← this, hnl]
    omega
  by_cases b8 : 0 < (n.spurs.foldl depM []).length
  · rw [decide_eq_true (by omega : (0 : Int) < (((n.spurs.foldl depM []).length : Nat) : Int)), cond_true, w1, hok]
    obtain ⟨m', hm'⟩ := vrobots n (n.spurs.foldl depM []) _ hM (decide (namesP n)) b4
    rw [hm', Option.bind_some]
    simp only
    congr 1
    rw [Bool.eq_iff_iff, Bool.and_eq_true, decide_eq_true_eq, decide_eq_true_eq, decide_eq_true_eq]
    constructor
    · rintro ⟨h1, h2⟩
      exact ⟨⟨b1.1, b1.2, b2, fun i hi => (g6 i hi).2⟩, b3, h1, b4, b5, fun i hi => (g7 i hi).2, h2, hdep.1 b8⟩
    · intro h
      exact ⟨h.2.2.1, h.2.2.2.2.2.2.1⟩
  · rw [decide_eq_false (by omega : ¬ (0 : Int) < (((n.spurs.foldl depM []).length : Nat) : Int)), cond_false]
    obtain ⟨r, hr⟩ := vrobots0 n (n.spurs.foldl depM []) b4
    rw [hr, Option.bind_some]
    exact no (fun h => b8 (hdep.2 h.2.2.2.2.2.2.2)) rfl
end Go.Am
end
section
namespace Go.Am
open Go Go.Proofs
set_option maxRecDepth 100000
set_option linter.unusedVariables false
set_option linter.unusedSimpArgs false
def ixN (l : List (List UInt8)) (x : List UInt8) : Option Nat := l.findIdx? (fun y => decide (y = x))
def ixI (o : Option Nat) : Int := match o with | some i => (i : Int) | none => -1
theorem ixI_nonneg (o : Option Nat) : decide (0 ≤ ixI o) = o.isSome := by cases o <;> simp [ixI]
theorem ixI_neg (o : Option Nat) : decide (ixI o < 0) = o.isNone := by
  cases o with
  | none => rfl
  | some i => exact decide_eq_false (by simp only [ixI]; omega)
theorem ixN_some {l : List (List UInt8)} {x : List UInt8} {i : Nat} (h : ixN l x = some i) : i < l.length ∧ l.getD i [] = x := by
  unfold ixN at h
  obtain ⟨h1, h2, _⟩ := List.findIdx?_eq_some_iff_getElem.1 h
  exact ⟨h1, by rw [getD_eq h1]; simpa using h2⟩
theorem ixN_none {l : List (List UInt8)} {x : List UInt8} : ixN l x = none ↔ x ∉ l := by
  unfold ixN
  rw [List.findIdx?_eq_none_iff]
  constructor
  · intro h hx; have := h x hx; simp at this
  · intro h y hy; simp; rintro rfl; exact h hy
theorem ixN_snoc (l : List (List UInt8)) (y x : List UInt8) (hy : y ∉ l) : ixN (l ++ [y]) x = if x = y then some l.length else ixN l x := by
  unfold ixN
  rw [List.findIdx?_append]
  by_cases h : x = y
  · subst h
    have : l.findIdx? (fun z => decide (z = x)) = none := ixN_none.2 hy
    rw [this, if_pos rfl]
    simp
  · rw [if_neg h]
    cases hf : l.findIdx? (fun z => decide (z = x)) with
    | some i => rfl
    | none => simp [Ne.symm h]
theorem loop_ix {ns : List (List UInt8)} {x : List UInt8} (step : Int → Option (Int ⊕ (Int ⊕ Int))) (hl : ns.length ≤ 10000000)
    (h1 : ∀ i, i < ns.length → step (i : Int) = some (if ns.getD i [] = x then .inr (.inr (i : Int)) else .inl ((i + 1 : Nat) : Int))) (h2 : step (ns.length : Int) = some (.inr (.inl (ns.length : Int)))) :
    loopO step 0 = some (match ixN ns x with | some i => .inr (i : Int) | none => .inl (ns.length : Int)) := by
  have h := loopO_for (step := step) ns.length (fun i => (i : Int)) (Sum.inl (ns.length : Int)) (fun i => if ns.getD i [] = x then some (Sum.inr (i : Int)) else none)
    (fun i hi _ => by rw [h1 i hi]; split <;> simp_all) (fun _ => h2)
  rw [show ((0 : Nat) : Int) = 0 from rfl] at h
  rw [h]
  congr 1
  cases hx : ixN ns x with
  | none =>
    have hn := ixN_none.1 hx
    have : (List.range ns.length).findSome? (fun i => if ns.getD i [] = x then some (Sum.inr (i : Int) : Int ⊕ Int) else none) = none := by
      rw [List.findSome?_eq_none_iff]
      intro i hi
      rw [if_neg]
      intro e
      exact hn (by rw [← e]; exact getD_mem ns i [] (by simpa using hi))
    rw [this]; rfl
  | some i =>
    obtain ⟨g1, g2⟩ := ixN_some hx
    have hfst : ∀ j, j < i → ns.getD j [] ≠ x := by
      intro j hj
      have := (List.findIdx?_eq_some_iff_getElem.1 hx).2.2 j hj
      rw [getD_eq (by omega)]
      simpa using this
    have hr : List.range ns.length = List.range i ++ i :: (List.range (ns.length - i - 1)).map (· + (i + 1)) := by
      have : ns.length = i + 1 + (ns.length - i - 1) := by omega
      conv => lhs; rw [this, List.range_add, List.range_succ]
      simp [Nat.add_comm]
    rw [hr, List.findSome?_append]
    have : (List.range i).findSome? (fun i => if ns.getD i [] = x then some (Sum.inr (i : Int) : Int ⊕ Int) else none) = none := by
      rw [List.findSome?_eq_none_iff]
      intro j hj
      rw [if_neg (hfst j (by simpa using hj))]
    rw [this, Option.none_or, List.findSome?_cons, if_pos g2]
    rfl
theorem rblock_at (n : Nt) (x : List UInt8) (hl : n.blocks.length ≤ 10000000) : rblock_v n x = some (ixI (ixN (n.blocks.map Blk.name) x)) := by
  have h := loop_ix (ns := n.blocks.map Blk.name) (x := x) (rblock_L1 n x) (by simpa using hl)
    (fun i hi => by
      have hi2 : i < n.blocks.length := by simpa using hi
      rw [rblock_L1_eq, lt_c hi2, cond_true, idxO_at n.blocks i blk0 hi2, Option.bind_some, wrap_sm (by omega)]
      have e : (n.blocks.map Blk.name).getD i [] = (n.blocks.getD i blk0).name := by simp [List.getD, hi2]
      rw [e]
      by_cases c : (n.blocks.getD i blk0).name = x
      · rw [if_pos c, decide_eq_true c]; rfl
      · rw [if_neg c, decide_eq_false c]; rfl)
    (by rw [List.length_map, rblock_L1_eq, lt_n, cond_false])
  unfold rblock_v
  rw [h]
  cases ixN (n.blocks.map Blk.name) x <;> rfl
theorem rspur_at (n : Nt) (x : List UInt8) (hl : n.spurs.length ≤ 10000000) : rspur_v n x = some (ixI (ixN (n.spurs.map Spr.name) x)) := by
  have h := loop_ix (ns := n.spurs.map Spr.name) (x := x) (rspur_L1 n x) (by simpa using hl)
    (fun i hi => by
      have hi2 : i < n.spurs.length := by simpa using hi
      rw [rspur_L1_eq, lt_c hi2, cond_true, idxO_at n.spurs i spr0 hi2, Option.bind_some, wrap_sm (by omega)]
      have e : (n.spurs.map Spr.name).getD i [] = (n.spurs.getD i spr0).name := by simp [List.getD, hi2]
      rw [e]
      by_cases c : (n.spurs.getD i spr0).name = x
      · rw [if_pos c, decide_eq_true c]; rfl
      · rw [if_neg c, decide_eq_false c]; rfl)
    (by rw [List.length_map, rspur_L1_eq, lt_n, cond_false])
  unfold rspur_v
  rw [h]
  cases ixN (n.spurs.map Spr.name) x <;> rfl
end Go.Am
end
section
namespace Go.Am
open Go Go.Proofs
set_option maxRecDepth 100000
set_option linter.unusedVariables false
set_option linter.unusedSimpArgs false
set_option maxHeartbeats 1000000
theorem sortV_mem (l p : List Int) (x : Int) : x ∈ l.foldl insS p ↔ x ∈ p ∨ x ∈ l := by
  induction l generalizing p with
  | nil => simp
  | cons y r ih =>
    rw [List.foldl_cons, ih, insS_mem]
    simp only [List.mem_cons]
    constructor
    · rintro ((h | h) | h) <;> simp [h]
    · rintro (h | h | h) <;> simp [h]
theorem has_at (l : List Int) (x : Int) (hl : l.length ≤ 10000000) : has_v l x = some (decide (x ∈ l)) := by
  have h := loopO_for (step := has_L1 l x) l.length (fun i => (i : Int)) (Sum.inl (l.length : Int)) (fun i => if l.getD i 0 = x then some (Sum.inr true) else none)
    (fun i hi _ => by
      rw [has_L1_eq, lt_c hi, cond_true, idxO_at l i 0 hi, Option.bind_some, wrap_sm (by omega)]
      by_cases c : l.getD i 0 = x
      · rw [if_pos c, decide_eq_true c]; rfl
      · rw [if_neg c, decide_eq_false c]; rfl)
    (fun _ => by rw [has_L1_eq, lt_n, cond_false])
  unfold has_v
  rw [show ((0 : Nat) : Int) = 0 from rfl] at h
  rw [h]
  by_cases c : x ∈ l
  · rw [decide_eq_true c]
    cases hf : (List.range l.length).findSome? (fun i => if l.getD i 0 = x then some (Sum.inr true : Int ⊕ Bool) else none) with
    | none =>
      exfalso
      rw [List.findSome?_eq_none_iff] at hf
      obtain ⟨i, hi, e⟩ := List.getElem_of_mem c
      have := hf i (by simpa using hi)
      rw [getD_eq hi, if_pos e] at this
      cases this
    | some e =>
      obtain ⟨i, hi, he⟩ := List.exists_of_findSome?_eq_some hf
      split at he
      · cases he; rfl
      · cases he
  · rw [decide_eq_false c]
    have : (List.range l.length).findSome? (fun i => if l.getD i 0 = x then some (Sum.inr true : Int ⊕ Bool) else none) = none := by
      rw [List.findSome?_eq_none_iff]
      intro i hi
      rw [if_neg]
      intro e
      exact c (by rw [← e]; exact getD_mem l i 0 (by simpa using hi))
    rw [this]; rfl
theorem insert_at (l : List Int) (x : Int) (hl : l.length ≤ 1000000) : insert_v l x = some (insS l x) := by
  have key : ∀ (r p : List Int) (dn : Bool), p.length + 2 * r.length ≤ 3000000 → (∃ q : List Int, q.length + r.length = l.length ∧ l = q ++ r) →
      ∃ dn' i', loopO (insert_L1 l x) (p, dn, ((l.length - r.length : Nat) : Int)) = some (if dn = true then p ++ r else (if dn' = true then p ++ insS r x else p ++ r), dn', i') ∧ (dn = true → dn' = true) ∧ (dn = false → dn' = false → insS r x = r ++ [x]) := by
    intro r
    induction r with
    | nil =>
      intro p dn hp hq
      refine ⟨dn, ((l.length - 0 : Nat) : Int), ?_, id, fun h _ => by simp [insS]⟩
      rw [loopO_step, insert_L1_eq, List.length_nil, Nat.sub_zero, lt_n, cond_false, Option.bind_some, nextO_inr]
      cases dn <;> simp [insS]
    | cons y r ih =>
      intro p dn hp ⟨q, hq1, hq2⟩
      have hql : q.length < l.length := by simp at hq1; omega
      have hpos : l.length - (y :: r).length = q.length := by simp at hq1 ⊢; omega
      have hat : idxO l (q.length : Int) = some y := by rw [idxO_nat, hq2]; simp
      have hnx : ((l.length - r.length : Nat) : Int) = ((q.length + 1 : Nat) : Int) := by simp at hq1; omega
      rw [hpos, loopO_step, insert_L1_eq, lt_c hql, cond_true]
      simp only [hat, Option.bind_some, wrap_sm (show q.length < 10000000 by omega)]
      have hlp : p.length + 2 < 10000000 := by simp only [List.length_cons] at hp; omega
      cases dn with
      | true =>
        rw [cond_true, decide_eq_true (by (try simp only [List.length_cons, List.length_nil]); omega), cond_true, Option.bind_some, nextO_inl, ← hnx]
        obtain ⟨dn', i', h1, h2, h3⟩ := ih (p ++ [y]) true (by simp only [List.length_append, List.length_cons, List.length_nil] at hp ⊢; omega) ⟨q ++ [y], (by simp only [List.length_append, List.length_cons, List.length_nil] at hq1 ⊢; omega), (by simp [hq2])⟩
        exact ⟨dn', i', by rw [h1]; simp, h2, fun h => (by cases h)⟩
      | false =>
        rw [cond_false]
        by_cases c : x < y
        · rw [decide_eq_true c, cond_true, decide_eq_true (by (try simp only [List.length_cons, List.length_nil]); omega), cond_true, decide_eq_true (by (try simp only [List.length_append, List.length_cons, List.length_nil]); omega), cond_true, Option.bind_some, nextO_inl, ← hnx]
          obtain ⟨dn', i', h1, h2, h3⟩ := ih ((p ++ [x]) ++ [y]) true (by simp only [List.length_append, List.length_cons, List.length_nil] at hp ⊢; omega) ⟨q ++ [y], (by simp only [List.length_append, List.length_cons, List.length_nil] at hq1 ⊢; omega), (by simp [hq2])⟩
          refine ⟨true, i', ?_, fun h => (by cases h), fun _ h => (by cases h)⟩
          rw [h1, h2 rfl]
          simp [insS, c]
        · rw [decide_eq_false c, cond_false, decide_eq_true (by (try simp only [List.length_cons, List.length_nil]); omega), cond_true, Option.bind_some, nextO_inl, ← hnx]
          obtain ⟨dn', i', h1, h2, h3⟩ := ih (p ++ [y]) false (by simp only [List.length_append, List.length_cons, List.length_nil] at hp ⊢; omega) ⟨q ++ [y], (by simp only [List.length_append, List.length_cons, List.length_nil] at hq1 ⊢; omega), (by simp [hq2])⟩
          refine ⟨dn', i', ?_, fun h => (by cases h), fun _ h => (by simp [insS, c, h3 rfl h])⟩
          rw [h1]
          simp [insS, c]
  obtain ⟨dn', i', h1, _, h3⟩ := key l [] false (by simp only [List.length_nil]; omega) ⟨[], by simp, rfl⟩
  rw [Nat.sub_self] at h1
  unfold insert_v
  rw [show ((0 : Nat) : Int) = 0 from rfl] at h1
  rw [h1, Option.bind_some]
  simp only [Bool.false_eq_true, if_false, List.nil_append]
  cases dn'
  · simp only [Bool.false_eq_true, if_false, cond_false]
    rw [decide_eq_true (by (try simp only [List.length_cons, List.length_nil]); omega), cond_true, h3 rfl rfl]
  · simp
def enc8 (p : Int × Int) : Int := p.1 * 8 + p.2
def ixO (o : Option Nat) : Option Int := match o with | some i => some (i : Int) | none => none
structure NI (b : Bdr) : Prop where
  mb : ∀ x, getS b.mb x = ixO (ixN (b.bl.map Blk.name) x)
  ms : ∀ x, getS b.ms x = ixO (ixN (b.sp.map Spr.name) x)
  ba : ∀ i, i < b.sp.length → b.ba.getD i 0 = sumS (b.sp.take i)
  sl : b.sl = sumS b.sp
def rS (b : Bdr) : (List Blk) × (List (List Int)) × (List Spr) × (List Int) × Int × Int × Int × Int × Bool := (b.bl, b.nx.map sortV, b.sp, b.pl.map enc8, b.cq, b.ca, b.cd, b.cp, b.cf)
theorem named_at {b : Bdr} (n : NI b) (x : List UInt8) : b.namedV x = ((ixN (b.bl.map Blk.name) x).isSome || (ixN (b.sp.map Spr.name) x).isSome) := by
  unfold Bdr.namedV
  rw [n.mb, n.ms]
  cases ixN (b.bl.map Blk.name) x <;> cases ixN (b.sp.map Spr.name) x <;> rfl
theorem rb_block {b : Bdr} (h : BI b) (n : NI b) (d : Dc) (h1 : 1 ≤ d.names.length) (h2 : 2 ≤ d.nums.length) :
    ∃ s', rbBlock_v b.bl (b.nx.map sortV) b.sp (b.pl.map enc8) b.cq b.ca b.cd b.cp b.cf d = some ((b.blockV d).1, s') ∧ ((b.blockV d).1 = 0 → s' = rS (b.blockV d).2 ∧ NI (b.blockV d).2) := by
  have hnb := h.nb
  have hns := h.ns
  unfold rbBlock_v
  rw [show idxO d.names 0 = some (d.names.getD 0 []) from idxO_at d.names 0 [] (by omega), Option.bind_some, rblock_at _ _ (by simp; omega), Option.bind_some, ixI_nonneg]
  unfold Bdr.blockV
  rw [named_at n]
  cases c1 : ixN (b.bl.map Blk.name) (d.names.getD 0 []) with
  | some i => exact ⟨rS b, by simp [rS], by simp⟩
  | none =>
    rw [Option.isSome_none, cond_false, rspur_at _ _ (by simp; omega), Option.bind_some, ixI_nonneg]
    cases c2 : ixN (b.sp.map Spr.name) (d.names.getD 0 []) with
    | some i => exact ⟨rS b, by simp [rS], by simp⟩
    | none =>
      rw [Option.isSome_none, cond_false, Bool.or_self, if_neg Bool.false_ne_true]
      by_cases c3 : b.bl.length = 24
      · rw [decide_eq_true (by omega), cond_true, if_pos c3]
        exact ⟨rS b, rfl, by simp⟩
      · rw [decide_eq_false (by omega), cond_false, if_neg c3, show idxO d.nums 0 = some (d.nums.getD 0 0) from idxO_at d.nums 0 0 (by omega), Option.bind_some,
          show idxO d.nums 1 = some (d.nums.getD 1 0) from idxO_at d.nums 1 0 (by omega), Option.bind_some, decide_eq_true (by omega), cond_true, decide_eq_true (by rw [List.length_map, h.nn]; omega), cond_true]
        refine ⟨_, rfl, fun _ => ⟨by simp [rS, sortV], ⟨fun x => ?_, n.ms, n.ba, n.sl⟩⟩⟩
        simp only [getS_putS, List.map_append, List.map_cons, List.map_nil]
        rw [ixN_snoc _ _ _ (ixN_none.1 c1)]
        split
        · simp [ixO]
        · exact n.mb x
end Go.Am
end
section
namespace Go.Am
open Go Go.Proofs
set_option maxRecDepth 100000
set_option linter.unusedVariables false
set_option linter.unusedSimpArgs false
set_option maxHeartbeats 1000000
theorem rb_spur {b : Bdr} (h : BI b) (n : NI b) (d : Dc) (h1 : 3 ≤ d.names.length) (h2 : 1 ≤ d.nums.length) :
    ∃ s', rbSpur_v b.bl (b.nx.map sortV) b.sp (b.pl.map enc8) b.cq b.ca b.cd b.cp b.cf d = some ((b.spurV d).1, s') ∧ ((b.spurV d).1 = 0 → s' = rS (b.spurV d).2 ∧ NI (b.spurV d).2) := by
  have hnb := h.nb
  have hns := h.ns
  unfold rbSpur_v
  rw [show idxO d.names 1 = some (d.names.getD 1 []) from idxO_at d.names 1 [] (by omega), Option.bind_some, show idxO d.names 2 = some (d.names.getD 2 []) from idxO_at d.names 2 [] (by omega), Option.bind_some,
    rblock_at _ _ (by simp; omega), Option.bind_some, rblock_at _ _ (by simp; omega), Option.bind_some, show idxO d.names 0 = some (d.names.getD 0 []) from idxO_at d.names 0 [] (by omega), Option.bind_some,
    rblock_at _ _ (by simp; omega), Option.bind_some, ixI_nonneg]
  unfold Bdr.spurV
  rw [named_at n, n.mb, n.mb]
  cases c1 : ixN (b.bl.map Blk.name) (d.names.getD 0 []) with
  | some i => exact ⟨rS b, by simp [rS, ixO], by simp [ixO]⟩
  | none =>
    rw [Option.isSome_none, cond_false, rspur_at _ _ (by simp; omega), Option.bind_some, ixI_nonneg]
    cases c2 : ixN (b.sp.map Spr.name) (d.names.getD 0 []) with
    | some i => exact ⟨rS b, by simp [rS, ixO], by simp [ixO]⟩
    | none =>
      rw [Option.isSome_none, cond_false, Bool.or_self, if_neg Bool.false_ne_true, ixI_neg, ixI_neg]
      cases c3 : ixN (b.bl.map Blk.name) (d.names.getD 1 []) with
      | none => exact ⟨rS b, by simp [rS, ixO], by simp [ixO]⟩
      | some i =>
        rw [Option.isNone_some, cond_false]
        cases c4 : ixN (b.bl.map Blk.name) (d.names.getD 2 []) with
        | none => exact ⟨rS b, by simp [rS, ixO], by simp [ixO]⟩
        | some j =>
          rw [Option.isNone_some, cond_false, show idxO d.nums 0 = some (d.nums.getD 0 0) from idxO_at d.nums 0 0 (by omega), Option.bind_some]
          simp only [ixO]
          cases c5 : decide (d.nums.getD 0 0 < 1)
          rotate_left
          · exact ⟨rS b, by simp [rS, ixO], by simp [ixO]⟩
          rw [cond_false, if_neg Bool.false_ne_true]
          cases c6 : decide (4 < d.nums.getD 0 0)
          rotate_left
          · exact ⟨rS b, by simp [rS, ixO], by simp [ixO]⟩
          rw [cond_false, if_neg Bool.false_ne_true]
          by_cases c7 : b.sp.length = 6
          · rw [decide_eq_true (by omega), cond_true, if_pos c7]
            exact ⟨rS b, rfl, by simp⟩
          · rw [decide_eq_false (by omega), cond_false, if_neg c7, decide_eq_true (by omega), cond_true]
            refine ⟨_, rfl, fun _ => ⟨rfl, ⟨n.mb, fun x => ?_, fun i hi => ?_, ?_⟩⟩⟩
            · simp only [getS_putS, List.map_append, List.map_cons, List.map_nil]
              rw [ixN_snoc _ _ _ (ixN_none.1 c2)]
              split
              · simp [ixO]
              · exact n.ms x
            · have hba := h.nba
              simp only [List.length_append, List.length_cons, List.length_nil] at hi
              by_cases e : i < b.sp.length
              · rw [List.take_append_of_le_length (by omega)]
                have := n.ba i e
                rw [← this]
                simp [List.getD, List.getElem?_append, show i < b.ba.length by omega]
              · have e2 : i = b.sp.length := by omega
                subst e2
                rw [List.take_left' rfl, ← n.sl]
                simp [List.getD, List.getElem?_append, hba]
            · simp only [sumS_snoc, n.sl]
theorem enc8_inj {p q : Int × Int} (hp : 1 ≤ p.2 ∧ p.2 ≤ 4) (hq : 1 ≤ q.2 ∧ q.2 ≤ 4) (h : enc8 p = enc8 q) : p = q := by
  unfold enc8 at h
  have h1 : p.1 = q.1 := by omega
  have h2 : p.2 = q.2 := by omega
  exact Prod.ext h1 h2
theorem rb_robot {b : Bdr} (h : BI b) (n : NI b) (d : Dc) (h1 : 1 ≤ d.names.length) (h2 : 1 ≤ d.nums.length) :
    ∃ s', rbRobot_v b.bl (b.nx.map sortV) b.sp (b.pl.map enc8) b.cq b.ca b.cd b.cp b.cf d = some ((b.robotV d).1, s') ∧ ((b.robotV d).1 = 0 → s' = rS (b.robotV d).2 ∧ NI (b.robotV d).2) := by
  have hnb := h.nb
  have hns := h.ns
  have hnp := h.np
  unfold rbRobot_v
  rw [show idxO d.names 0 = some (d.names.getD 0 []) from idxO_at d.names 0 [] (by omega), Option.bind_some, rspur_at _ _ (by simp; omega), Option.bind_some, ixI_neg]
  unfold Bdr.robotV
  rw [n.ms]
  cases c1 : ixN (b.sp.map Spr.name) (d.names.getD 0 []) with
  | none => exact ⟨rS b, by simp [rS, ixO], by simp [ixO]⟩
  | some i =>
    have hi : i < b.sp.length := by simpa using (ixN_some c1).1
    rw [Option.isNone_some, cond_false, show idxO b.sp (ixI (some i)) = some (b.sp.getD i spr0) from idxO_at b.sp i spr0 hi, Option.bind_some]
    simp only [ixO, Int.toNat_natCast]
    have hs := h.sps (b.sp.getD i spr0) (getD_mem b.sp i spr0 hi)
    cases c2 : (b.sp.getD i spr0).depot
    · exact ⟨rS b, by simp [rS, ixO], by simp [ixO]⟩
    rw [cond_true, if_neg (by simp), show idxO d.nums 0 = some (d.nums.getD 0 0) from idxO_at d.nums 0 0 (by omega), Option.bind_some]
    cases c3 : decide (d.nums.getD 0 0 < 1)
    rotate_left
    · exact ⟨rS b, by simp [rS, ixO], by simp [ixO]⟩
    rw [cond_false, if_neg Bool.false_ne_true]
    have c3' := of_decide_eq_false c3
    by_cases c4' : (b.sp.getD i spr0).slots < d.nums.getD 0 0
    · have c4 := decide_eq_true c4'
      simp only [c4, cond_true, if_true]
      exact ⟨rS b, rfl, by simp⟩
    have c4 := decide_eq_false c4'
    have hw : IntKind.i64.wrap (IntKind.i64.wrap (ixI (some i) * 8) + d.nums.getD 0 0) = enc8 ((i : Int), d.nums.getD 0 0) := by
      unfold enc8 ixI
      rw [IntKind.wrap_i64, IntKind.wrap_i64]; simp only; omega
    simp only [c4, cond_false, Bool.false_eq_true, if_false]
    rw [hw, has_at _ _ (by simp; omega), Option.bind_some]
    have hm : decide (enc8 ((i : Int), d.nums.getD 0 0) ∈ b.pl.map enc8) = decide (((i : Int), d.nums.getD 0 0) ∈ b.pl) := by
      rw [Bool.eq_iff_iff, decide_eq_true_eq, decide_eq_true_eq, List.mem_map]
      constructor
      · rintro ⟨q, hq, e⟩
        rw [← enc8_inj (h.pls q hq).2 (by simp only; omega) e]; exact hq
      · intro hq; exact ⟨_, hq, rfl⟩
    rw [hm]
    by_cases c5 : ((i : Int), d.nums.getD 0 0) ∈ b.pl
    · rw [decide_eq_true c5, cond_true, if_pos c5]
      exact ⟨rS b, rfl, by simp⟩
    rw [decide_eq_false c5, cond_false, if_neg c5]
    by_cases c6 : b.pl.length = 8
    · rw [decide_eq_true (by rw [List.length_map]; omega), cond_true, if_pos c6]
      exact ⟨rS b, rfl, by simp⟩
    · rw [decide_eq_false (by rw [List.length_map]; omega), cond_false, if_neg c6, decide_eq_true (by rw [List.length_map]; omega), cond_true]
      exact ⟨_, rfl, fun _ => ⟨by simp [rS], ⟨n.mb, n.ms, n.ba, n.sl⟩⟩⟩
theorem rconf_at (q a d p : Int) : rconfigured_v ⟨q, a, d, p⟩ = some (decide (cfgP q a d p)) := by
  unfold rconfigured_v
  have hc : ∀ b1 b2 b3 b4 b5 b6 b7 b8 : Bool, cond b1 (cond b2 (cond b3 (cond b4 (cond b5 (cond b6 (cond b7 (some b8) (some false)) (some false)) (some false)) (some false)) (some false)) (some false)) (some false) = some (b1 && (b2 && (b3 && (b4 && (b5 && (b6 && (b7 && b8))))))) := by decide
  rw [hc]
  congr 1
  rw [Bool.eq_iff_iff]
  simp only [Bool.and_eq_true, decide_eq_true_eq]
  exact Iff.rfl
theorem cfgV_P (q a d p : Int) : cfgV q a d p = decide (cfgP q a d p) := by
  unfold cfgV inV
  rw [Bool.eq_iff_iff]
  simp only [Bool.and_eq_true, decide_eq_true_eq]
  exact ⟨fun ⟨⟨a1, a2⟩, ⟨b1, b2⟩, ⟨c1, c2⟩, d1, d2⟩ => ⟨a1, a2, b1, b2, c1, c2, d1, d2⟩, fun ⟨a1, a2, b1, b2, c1, c2, d1, d2⟩ => ⟨⟨a1, a2⟩, ⟨b1, b2⟩, ⟨c1, c2⟩, d1, d2⟩⟩
theorem rb_config {b : Bdr} (n : NI b) (d : Dc) (h2 : 4 ≤ d.nums.length) :
    ∃ s', rbConfig_v b.bl (b.nx.map sortV) b.sp (b.pl.map enc8) b.cq b.ca b.cd b.cp b.cf d = some ((b.configV d).1, s') ∧ ((b.configV d).1 = 0 → s' = rS (b.configV d).2 ∧ NI (b.configV d).2) := by
  unfold rbConfig_v Bdr.configV
  cases c1 : b.cf
  rotate_left
  · exact ⟨_, rfl, by simp⟩
  rw [cond_false, if_neg Bool.false_ne_true, show idxO d.nums 0 = some (d.nums.getD 0 0) from idxO_at d.nums 0 0 (by omega), Option.bind_some, show idxO d.nums 1 = some (d.nums.getD 1 0) from idxO_at d.nums 1 0 (by omega), Option.bind_some,
    show idxO d.nums 2 = some (d.nums.getD 2 0) from idxO_at d.nums 2 0 (by omega), Option.bind_some, show idxO d.nums 3 = some (d.nums.getD 3 0) from idxO_at d.nums 3 0 (by omega), Option.bind_some, rconf_at, Option.bind_some, cfgV_P]
  cases decide (cfgP (d.nums.getD 0 0) (d.nums.getD 1 0) (d.nums.getD 2 0) (d.nums.getD 3 0))
  · exact ⟨_, rfl, by simp⟩
  · exact ⟨_, rfl, fun _ => ⟨rfl, ⟨n.mb, n.ms, n.ba, n.sl⟩⟩⟩
end Go.Am
end
section
namespace Go.Am
open Go Go.Proofs
set_option maxRecDepth 100000
set_option linter.unusedVariables false
set_option linter.unusedSimpArgs false
set_option maxHeartbeats 1000000
theorem rb_lanes (d : Dc) (hd : d.names.length ≤ 10000000) : ∀ (r : List (List UInt8)) (i : Nat) (b : Bdr), BI b → NI b → d.names.drop i = r → i ≤ d.names.length →
    ∃ e s', loopO (rbLane_L1 b.bl b.sp (b.pl.map enc8) b.cq b.ca b.cd b.cp b.cf d) (b.nx.map sortV, (i : Int)) = some e ∧
      (match e with | .inl x => (0, b.bl, x.1, b.sp, b.pl.map enc8, b.cq, b.ca, b.cd, b.cp, b.cf) | .inr y => y) = ((b.lanesV r).1, s') ∧ ((b.lanesV r).1 = 0 → s' = rS (b.lanesV r).2 ∧ NI (b.lanesV r).2)
  | [], i, b, h, n, hr, hi => by
    have hil : i = d.names.length := by have := congrArg List.length hr; simp at this; omega
    refine ⟨_, rS b, by rw [loopO_step, rbLane_L1_eq, decide_eq_false (by rw [IntKind.wrap_i64]; omega), cond_false, Option.bind_some, nextO_inr], rfl, fun _ => ⟨rfl, n⟩⟩
  | [x], i, b, h, n, hr, hi => by
    have hil : i + 1 = d.names.length := by have := congrArg List.length hr; simp at this; omega
    refine ⟨_, rS b, by rw [loopO_step, rbLane_L1_eq, decide_eq_false (by rw [IntKind.wrap_i64]; omega), cond_false, Option.bind_some, nextO_inr], rfl, fun _ => ⟨rfl, n⟩⟩
  | x :: y :: r, i, b, h, n, hr, hi => by
    have hnb := h.nb
    have hnn := h.nn
    have hil : i + 1 < d.names.length := by have := congrArg List.length hr; simp at this; omega
    have hx : idxO d.names (i : Int) = some x := by
      rw [idxO_nat]
      have := congrArg (·[0]?) hr
      simpa [List.getElem?_drop] using this
    have hy : idxO d.names ((i + 1 : Nat) : Int) = some y := by
      rw [idxO_nat]
      have := congrArg (·[1]?) hr
      simpa [List.getElem?_drop] using this
    have hdr : d.names.drop (i + 1) = y :: r := by
      rw [← List.drop_drop, hr]; rfl
    have hw : IntKind.i64.wrap ((i : Int) + 1) = ((i + 1 : Nat) : Int) := by rw [IntKind.wrap_i64]; omega
    rw [loopO_step, rbLane_L1_eq, hw, decide_eq_true (by omega), cond_true, hx, Option.bind_some, hy, Option.bind_some, rblock_at _ _ (by simp; omega), Option.bind_some, rblock_at _ _ (by simp; omega), Option.bind_some, ixI_neg, ixI_neg]
    have hno : ∀ c : Int, c ≠ 0 → b.laneV x y = (c, b) → b.lanesV (x :: y :: r) = (c, b) := fun c hc h => by simp [Bdr.lanesV, h, hc]
    have hL : b.laneV x y = (match ixO (ixN (b.bl.map Blk.name) x), ixO (ixN (b.bl.map Blk.name) y) with
      | some i, some j => if i = j then (10, b) else if j ∈ b.nx.getD i.toNat [] then (11, b) else if (b.nx.getD i.toNat []).length = 4 then (14, b) else (0, { b with nx := b.nx.set i.toNat (b.nx.getD i.toNat [] ++ [j]) })
      | _, _ => (9, b)) := by
      unfold Bdr.laneV
      rw [n.mb, n.mb]
      cases ixN (b.bl.map Blk.name) x <;> cases ixN (b.bl.map Blk.name) y <;> rfl
    cases c1 : ixN (b.bl.map Blk.name) x with
    | none =>
      rw [hno 9 (by decide) (by rw [hL, c1]; rfl)]
      exact ⟨_, rS b, rfl, rfl, by simp⟩
    | some u =>
      rw [Option.isNone_some, cond_false]
      cases c2 : ixN (b.bl.map Blk.name) y with
      | none =>
        rw [hno 9 (by decide) (by rw [hL, c1, c2]; rfl)]
        exact ⟨_, rS b, rfl, rfl, by simp⟩
      | some v =>
        have hu : u < b.nx.length := by have := (ixN_some c1).1; simp at this; omega
        rw [Option.isNone_some, cond_false, show (decide (ixI (some u) = ixI (some v))) = decide ((u : Int) = (v : Int)) from rfl]
        rw [show ixI (some u) = (u : Int) from rfl, show ixI (some v) = (v : Int) from rfl]
        have hL2 : b.laneV x y = (if (u : Int) = (v : Int) then (10, b) else if (v : Int) ∈ b.nx.getD u [] then (11, b) else if (b.nx.getD u []).length = 4 then (14, b) else (0, { b with nx := b.nx.set u (b.nx.getD u [] ++ [(v : Int)]) })) := by rw [hL, c1, c2]; rfl
        by_cases c3 : (u : Int) = (v : Int)
        · rw [decide_eq_true c3, cond_true, hno 10 (by decide) (by rw [hL2, if_pos c3])]
          exact ⟨_, rS b, rfl, rfl, by simp⟩
        rw [decide_eq_false c3, cond_false]
        rw [if_neg c3] at hL2
        have hrow : idxO (b.nx.map sortV) (u : Int) = some (sortV (b.nx.getD u [])) := by rw [idxO_nat]; simp [List.getD, hu]
        have h4 := h.row u
        rw [hrow, Option.bind_some, has_at _ _ (by rw [sortV_len]; omega), Option.bind_some]
        have hm : decide ((v : Int) ∈ sortV (b.nx.getD u [])) = decide ((v : Int) ∈ b.nx.getD u []) := by
          rw [Bool.eq_iff_iff, decide_eq_true_eq, decide_eq_true_eq]
          unfold sortV
          rw [sortV_mem]; simp
        rw [hm]
        by_cases c4 : (v : Int) ∈ b.nx.getD u []
        · rw [decide_eq_true c4, cond_true, hno 11 (by decide) (by rw [hL2, if_pos c4])]
          exact ⟨_, rS b, rfl, rfl, by simp⟩
        rw [if_neg c4] at hL2
        rw [decide_eq_false c4, cond_false, sortV_len]
        by_cases c5 : (b.nx.getD u []).length = 4
        · rw [decide_eq_true (by omega), cond_true, hno 14 (by decide) (by rw [hL2, if_pos c5])]
          exact ⟨_, rS b, rfl, rfl, by simp⟩
        rw [if_neg c5] at hL2
        rw [decide_eq_false (by omega), cond_false, insert_at _ _ (by rw [sortV_len]; omega), Option.bind_some, Option.bind_some, nextO_inl]
        have hB2 : BI { b with nx := b.nx.set u (b.nx.getD u [] ++ [(v : Int)]) } := by
          have := h.lane x y
          rw [hL2] at this
          exact this
        have hset : (b.nx.map sortV).set u (insS (sortV (b.nx.getD u [])) (v : Int)) = (b.nx.set u (b.nx.getD u [] ++ [(v : Int)])).map sortV := by
          rw [List.map_set]
          congr 1
          unfold sortV
          rw [List.foldl_append]; rfl
        rw [Int.toNat_natCast, hset]
        have hlv : b.lanesV (x :: y :: r) = Bdr.lanesV { b with nx := b.nx.set u (b.nx.getD u [] ++ [(v : Int)]) } (y :: r) := by
          simp [Bdr.lanesV, hL2]
        rw [hlv]
        exact rb_lanes d hd (y :: r) (i + 1) { b with nx := b.nx.set u (b.nx.getD u [] ++ [(v : Int)]) } hB2 ⟨n.mb, n.ms, n.ba, n.sl⟩ hdr (by omega)
theorem rb_lane {b : Bdr} (h : BI b) (n : NI b) (d : Dc) (hd : d.names.length ≤ 10000000) :
    ∃ s', rbLane_v b.bl (b.nx.map sortV) b.sp (b.pl.map enc8) b.cq b.ca b.cd b.cp b.cf d = some ((b.lanesV d.names).1, s') ∧ ((b.lanesV d.names).1 = 0 → s' = rS (b.lanesV d.names).2 ∧ NI (b.lanesV d.names).2) := by
  obtain ⟨e, s', g1, g2, g3⟩ := rb_lanes d hd d.names 0 b h n (by simp) (Nat.zero_le _)
  refine ⟨s', ?_, g3⟩
  unfold rbLane_v
  rw [show ((0 : Nat) : Int) = 0 from rfl] at g1
  rw [g1, Option.bind_some, ← g2]
  cases e <;> rfl
theorem rnm_all (l : List (List UInt8)) (hl : l.length ≤ 10000000) (d : Dc) (hd : d.names = l) : loopO (r02_Valid_L2 d) 0 = some (if (∀ j, j < l.length → nameB (l.getD j []) = true) then .inl (l.length : Int) else .inr false) := by
  subst hd
  have h := loopO_all (step := r02_Valid_L2 d) d.names.length (fun i => (i : Int)) (Sum.inl (d.names.length : Int)) (Sum.inr false) (fun i => nameB (d.names.getD i []))
    (fun i hi _ => by
      rw [r02_Valid_L2_eq, lt_c hi, cond_true, idxO_at d.names i [] hi, Option.bind_some, wrap_sm (by omega)]
      simp only [rname_v, Option.bind_some]
      cases nameB (d.names.getD i []) <;> rfl)
    (fun _ => by rw [r02_Valid_L2_eq, lt_n, cond_false])
  exact h
theorem rnum_all (d : Dc) (hl : d.nums.length ≤ 10000000) : loopO (r02_Valid_L1 d) 0 = some (if (∀ j, j < d.nums.length → (!(decide (d.nums.getD j 0 < -9999) || decide (9999 < d.nums.getD j 0))) = true) then .inl (d.nums.length : Int) else .inr false) := by
  have h := loopO_all (step := r02_Valid_L1 d) d.nums.length (fun i => (i : Int)) (Sum.inl (d.nums.length : Int)) (Sum.inr false) (fun i => !(decide (d.nums.getD i 0 < -9999) || decide (9999 < d.nums.getD i 0)))
    (fun i hi _ => by
      rw [r02_Valid_L1_eq, lt_c hi, cond_true, idxO_at d.nums i 0 hi, Option.bind_some, wrap_sm (by omega)]
      cases decide (d.nums.getD i 0 < -9999) <;> cases decide (9999 < d.nums.getD i 0) <;> rfl)
    (fun _ => by rw [r02_Valid_L1_eq, lt_n, cond_false])
  exact h
theorem all_getD {α : Type} (l : List α) (p : α → Bool) (x : α) : l.all p = true ↔ ∀ j, j < l.length → p (l.getD j x) = true := by
  rw [List.all_eq_true]
  constructor
  · intro h j hj; exact h _ (getD_mem l j x hj)
  · intro h y hy
    obtain ⟨i, hi, rfl⟩ := List.getElem_of_mem hy
    have := h i hi
    rwa [getD_eq hi] at this
theorem shape_at (w : Int) : r02_shape_v w = some (shapeV w) := by
  unfold r02_shape_v shapeV
  by_cases h1 : w = 1
  · simp [h1]
  by_cases h2 : w = 2
  · simp [h2]
  by_cases h3 : w = 3
  · simp [h3]
  by_cases h4 : w = 4
  · simp [h4]
  by_cases h5 : w = 5
  · simp [h5]
  · simp [h1, h2, h3, h4, h5]
theorem r02_end (w : Int) (nl ml : Nat) (x3 x4 : Int) (t : Bool) :
    cond (decide (w < 1)) (some false) (cond (decide (6 < w)) (some false) (cond (decide ((ml : Int) = x4)) (cond (decide ((nl : Int) < x3)) (some false) (cond (decide (x3 < (nl : Int))) (cond (decide (w = 2)) (some t) (some false)) (some t))) (some false))) =
      some (decide (1 ≤ w ∧ w ≤ 6) && (decide ((ml : Int) = x4) && ((decide ((nl : Int) = x3) || (decide (x3 < (nl : Int)) && decide (w = 2))) && t))) := by
  by_cases h1 : w < 1
  · rw [decide_eq_true h1, cond_true, decide_eq_false (by omega : ¬ (1 ≤ w ∧ w ≤ 6)), Bool.false_and]
  rw [decide_eq_false h1, cond_false]
  by_cases h2 : 6 < w
  · rw [decide_eq_true h2, cond_true, decide_eq_false (by omega : ¬ (1 ≤ w ∧ w ≤ 6)), Bool.false_and]
  rw [decide_eq_false h2, cond_false, decide_eq_true (by omega : 1 ≤ w ∧ w ≤ 6), Bool.true_and]
  by_cases h3 : (ml : Int) = x4
  rotate_left
  · rw [decide_eq_false h3, cond_false, Bool.false_and]
  rw [decide_eq_true h3, cond_true, Bool.true_and]
  by_cases h4 : (nl : Int) < x3
  · rw [decide_eq_true h4, cond_true, decide_eq_false (by omega : ¬ (nl : Int) = x3), decide_eq_false (by omega : ¬ x3 < (nl : Int))]
    rfl
  rw [decide_eq_false h4, cond_false]
  by_cases h5 : x3 < (nl : Int)
  · rw [decide_eq_true h5, cond_true, decide_eq_false (by omega : ¬ (nl : Int) = x3), Bool.true_and, Bool.false_or]
    cases decide (w = 2) <;> rfl
  · rw [decide_eq_false h5, cond_false, decide_eq_true (by omega : (nl : Int) = x3), Bool.true_or, Bool.true_and]
theorem r02valid_at (d : Dc) (hd : d.names.length ≤ 10000000 ∧ d.nums.length ≤ 10000000) : r02_Valid_v d = some (validV d) := by
  have hA := rnm_all d.names hd.1 d rfl
  have hB := rnum_all d hd.2
  unfold r02_Valid_v validV
  rw [shape_at, Option.bind_some]
  generalize shapeV d.word = sh
  obtain ⟨x3, x4⟩ := sh
  dsimp only
  by_cases g1 : ∀ j, j < d.names.length → nameB (d.names.getD j []) = true
  · rw [(all_getD d.names nameB []).2 g1, Bool.true_and]
    by_cases g2 : ∀ j, j < d.nums.length → (!(decide (d.nums.getD j 0 < -9999) || decide (9999 < d.nums.getD j 0))) = true
    · rw [(all_getD d.nums (fun n => !(decide (n < -9999) || decide (9999 < n))) 0).2 g2]
      simp only [hA, hB, if_pos g1, if_pos g2, Option.bind_some]
      exact r02_end _ _ _ _ _ _
    · have e2 : (d.nums.all fun n => !(decide (n < -9999) || decide (9999 < n))) = false := by
        rw [Bool.eq_false_iff]; intro h; exact g2 ((all_getD d.nums (fun n => !(decide (n < -9999) || decide (9999 < n))) 0).1 h)
      rw [e2]
      simp only [hA, hB, if_pos g1, if_neg g2, Option.bind_some]
      exact r02_end _ _ _ _ _ _
  · have e1 : d.names.all nameB = false := by
      rw [Bool.eq_false_iff]; intro h; exact g1 ((all_getD d.names nameB []).1 h)
    rw [e1, Bool.false_and]
    simp only [hA, if_neg g1, Option.bind_some]
    exact r02_end _ _ _ _ _ _
end Go.Am
end
section
namespace Go.Am
open Go Go.Proofs
set_option maxRecDepth 100000
set_option linter.unusedVariables false
set_option linter.unusedSimpArgs false
set_option maxHeartbeats 1000000
theorem one_at {b : Bdr} (h : BI b) (n : NI b) (d : Dc) (hd : d.names.length ≤ 10000000 ∧ d.nums.length ≤ 10000000) :
    ∃ s', r03_builder_one_v b.bl (b.nx.map sortV) b.sp (b.pl.map enc8) b.cq b.ca b.cd b.cp b.cf d = some ((b.addV d).1, s') ∧ ((b.addV d).1 = 0 → s' = rS (b.addV d).2 ∧ NI (b.addV d).2) := by
  unfold r03_builder_one_v
  have he : (⟨d.word, d.line, d.names, d.nums⟩ : Dc) = d := rfl
  rw [he, r02valid_at d hd, Option.bind_some]
  cases c0 : validV d
  · have hv : b.addV d = (20, b) := by unfold Bdr.addV; rw [if_pos c0]
    rw [hv]
    exact ⟨rS b, rfl, by simp⟩
  rw [cond_true]
  have hs := valid_shape c0
  by_cases c1 : d.word = 1
  · rw [c1] at hs
    simp [shapeV] at hs
    have hv : b.addV d = b.blockV d := by unfold Bdr.addV; rw [if_neg (by rw [c0]; simp), if_pos (decide_eq_true c1)]
    rw [hv, decide_eq_true c1, cond_true]
    obtain ⟨s', g1, g2⟩ := rb_block h n d (by omega) (by omega)
    rw [g1]
    exact ⟨s', rfl, g2⟩
  rw [decide_eq_false c1, cond_false]
  by_cases c2 : d.word = 2
  · have hv : b.addV d = b.lanesV d.names := by unfold Bdr.addV; rw [if_neg (by rw [c0]; simp), if_neg (by rw [decide_eq_false c1]; simp), if_pos (decide_eq_true c2)]
    rw [hv, decide_eq_true c2, cond_true]
    obtain ⟨s', g1, g2⟩ := rb_lane h n d hd.1
    rw [g1]
    exact ⟨s', rfl, g2⟩
  rw [decide_eq_false c2, cond_false]
  by_cases c3 : d.word = 3 ∨ d.word = 4
  · simp only [shapeV, c1, c2, c3, if_false, if_true] at hs
    have hv : b.addV d = b.spurV d := by
      unfold Bdr.addV
      rw [if_neg (by rw [c0]; simp), if_neg (by rw [decide_eq_false c1]; simp), if_neg (by rw [decide_eq_false c2]; simp), if_neg (by rw [decide_eq_false (by omega)]; simp), if_neg (by rw [decide_eq_false (by omega)]; simp)]
    rw [hv]
    obtain ⟨s', g1, g2⟩ := rb_spur h n d (by omega) (by omega)
    rw [g1]
    rcases c3 with c3 | c3
    · rw [decide_eq_true c3, cond_true]
      exact ⟨s', rfl, g2⟩
    · rw [decide_eq_false (by omega : ¬ d.word = 3), cond_false, decide_eq_true c3, cond_true]
      exact ⟨s', rfl, g2⟩
  rw [decide_eq_false (by omega : ¬ d.word = 3), cond_false, decide_eq_false (by omega : ¬ d.word = 4), cond_false]
  by_cases c5 : d.word = 5
  · rw [c5] at hs
    simp [shapeV] at hs
    have hv : b.addV d = b.robotV d := by
      unfold Bdr.addV
      rw [if_neg (by rw [c0]; simp), if_neg (by rw [decide_eq_false c1]; simp), if_neg (by rw [decide_eq_false c2]; simp), if_pos (decide_eq_true c5)]
    rw [hv, decide_eq_true c5, cond_true]
    obtain ⟨s', g1, g2⟩ := rb_robot h n d (by omega) (by omega)
    rw [g1]
    exact ⟨s', rfl, g2⟩
  rw [decide_eq_false c5, cond_false]
  have c6 : d.word = 6 := by omega
  rw [c6] at hs
  simp [shapeV] at hs
  have hv : b.addV d = b.configV d := by
    unfold Bdr.addV
    rw [if_neg (by rw [c0]; simp), if_neg (by rw [decide_eq_false c1]; simp), if_neg (by rw [decide_eq_false c2]; simp), if_neg (by rw [decide_eq_false c5]; simp), if_pos (decide_eq_true c6)]
  rw [hv]
  obtain ⟨s', g1, g2⟩ := rb_config n d (by omega)
  rw [g1]
  exact ⟨s', rfl, g2⟩
theorem NI.init : NI Bdr.init := ⟨fun x => rfl, fun x => rfl, fun i hi => by simp [Bdr.init] at hi, rfl⟩
theorem adds_at (l : List Dc) (hl : smallD l) : ∀ (r : List Dc) (i : Nat) (b : Bdr), BI b → NI b → l.drop i = r → i ≤ l.length →
    loopO (rBuild_L3 l) (b.bl, b.nx.map sortV, b.sp, b.pl.map enc8, b.cq, b.ca, b.cd, b.cp, b.cf, (i : Int)) = some (match addsV b r with
      | (some (x, e), _) => .inr (nt0, x, e)
      | (none, b') => .inl (b'.bl, b'.nx.map sortV, b'.sp, b'.pl.map enc8, b'.cq, b'.ca, b'.cd, b'.cp, b'.cf, (l.length : Int))) ∧ ((addsV b r).1 = none → NI (addsV b r).2)
  | [], i, b, h, n, hr, hi => by
    have hil : i = l.length := by have := congrArg List.length hr; simp at this; omega
    subst hil
    exact ⟨by rw [loopO_step, rBuild_L3_eq, lt_n, cond_false, Option.bind_some, nextO_inr]; rfl, fun _ => n⟩
  | x :: r, i, b, h, n, hr, hi => by
    have hil : i < l.length := by have := congrArg List.length hr; simp at this; omega
    have hx : idxO l (i : Int) = some x := by
      rw [idxO_nat]
      have := congrArg (·[0]?) hr
      simpa [List.getElem?_drop] using this
    have hdr : l.drop (i + 1) = r := by rw [← List.drop_drop, hr]; rfl
    have hxm : x ∈ l := by
      have : x ∈ l.drop i := by rw [hr]; simp
      exact List.mem_of_mem_drop this
    obtain ⟨s', g1, g2⟩ := one_at h n x (hl.2 x hxm)
    obtain ⟨t1, t2, t3, t4, t5, t6, t7, t8, t9⟩ := s'
    have he : (⟨x.word, x.line, x.names, x.nums⟩ : Dc) = x := rfl
    rw [loopO_step, rBuild_L3_eq, lt_c hil, cond_true, hx, Option.bind_some, he, g1, Option.bind_some]
    simp only [addsV]
    by_cases c : (b.addV x).1 = 0
    · obtain ⟨g3, g4⟩ := g2 c
      unfold rS at g3
      simp only [Prod.mk.injEq] at g3
      obtain ⟨rfl, rfl, rfl, rfl, rfl, rfl, rfl, rfl, rfl⟩ := g3
      rw [if_pos c]
      simp only [c, decide_true, cond_true, Option.bind_some, nextO_inl, wrap_sm (show i < 10000000 by have := hl.1; omega)]
      exact adds_at l hl r (i + 1) (b.addV x).2 (h.add x) g4 hdr (by omega)
    · rw [if_neg c]
      simp only [c, decide_false, cond_false, Option.bind_some, nextO_inr]
      exact ⟨rfl, fun h => by cases h⟩
def depN (l : List Spr) : Nat := (l.filter Spr.depot).length
theorem bases_at {b : Bdr} (h : BI b) (n : NI b) : loopO rBuild_L2 (b.sp, 0, 0, (b.bl.length : Int)) = some (spB b.bl.length b.sp b.ba, (b.sp.length : Int), (depN b.sp : Int), (b.bl.length : Int) + sumS b.sp) := by
  have hns := h.ns
  have hnb := h.nb
  have hba := h.nba
  have hsm : ∀ i, i ≤ b.sp.length → 0 ≤ sumS (b.sp.take i) ∧ sumS (b.sp.take i) ≤ 4 * i := by
    intro i
    induction i with
    | zero => intro _; simp [sumS]
    | succ i ih =>
      intro hi
      have h1 := ih (by omega)
      have h2 := h.sps (b.sp.getD i spr0) (getD_mem b.sp i spr0 (by omega))
      rw [sumS_take b.sp i (by omega)]
      omega
  have e := loopO_thru (step := rBuild_L2) b.sp.length (fun i => (sB b.bl.length b.sp b.ba i, (i : Int), (depN (b.sp.take i) : Int), (b.bl.length : Int) + sumS (b.sp.take i)))
    (spB b.bl.length b.sp b.ba, (b.sp.length : Int), (depN b.sp : Int), (b.bl.length : Int) + sumS b.sp)
    (fun i hi => by
      have hl := sB_len b.bl.length b.sp b.ba i hba (by omega)
      have hs := hsm i (by omega)
      have h2 := h.sps (b.sp.getD i spr0) (getD_mem b.sp i spr0 (by omega))
      have hd : depN (b.sp.take i) ≤ i := by
        unfold depN
        have := List.length_filter_le Spr.depot (b.sp.take i)
        simp at this; omega
      rw [rBuild_L2_eq, hl, lt_c hi, cond_true, idxO_at (sB b.bl.length b.sp b.ba i) i spr0 (by omega), Option.bind_some, sB_at _ _ _ _ hba hi]
      have hset : (sB b.bl.length b.sp b.ba i).set (Int.toNat (i : Int)) (⟨(b.sp.getD i spr0).name, (b.sp.getD i spr0).depot, (b.sp.getD i spr0).inn, (b.sp.getD i spr0).out, (b.sp.getD i spr0).slots, (b.bl.length : Int) + sumS (b.sp.take i)⟩ : Spr) = sB b.bl.length b.sp b.ba (i + 1) := by
        rw [Int.toNat_natCast, ← sB_set b.bl.length b.sp b.ba i hba hi, n.ba i hi]
      rw [hset]
      have hl1 := sB_len b.bl.length b.sp b.ba (i + 1) hba (by omega)
      have hg : (sB b.bl.length b.sp b.ba (i + 1)).getD i spr0 = { b.sp.getD i spr0 with base := (b.bl.length : Int) + sumS (b.sp.take i) } := by
        rw [← hset]; simp [List.getD, hl, hi]
      rw [idxO_at (sB b.bl.length b.sp b.ba (i + 1)) i spr0 (by omega), Option.bind_some, hg, wrap_sm (show i < 10000000 by omega)]
      have w2 : IntKind.i64.wrap ((b.bl.length : Int) + sumS (b.sp.take i) + (b.sp.getD i spr0).slots) = (b.bl.length : Int) + sumS (b.sp.take (i + 1)) := by rw [sumS_take b.sp i hi, IntKind.wrap_i64]; omega
      have hdp : depN (b.sp.take (i + 1)) = depN (b.sp.take i) + (if (b.sp.getD i spr0).depot = true then 1 else 0) := by
        unfold depN
        rw [take_snoc b.sp i spr0 hi, List.filter_append]
        generalize b.sp.getD i spr0 = s
        cases c : s.depot <;> simp [c]
      dsimp only
      rw [w2, hdp]
      cases c : (b.sp.getD i spr0).depot
      · rw [cond_false]; simp
      · rw [cond_true, wrap_sm (show depN (b.sp.take i) < 10000000 by omega)]; simp)
    (by
      have hl := sB_len b.bl.length b.sp b.ba b.sp.length hba (Nat.le_refl _)
      have hsB : sB b.bl.length b.sp b.ba b.sp.length = spB b.bl.length b.sp b.ba := by
        unfold sB
        rw [List.drop_length, List.append_nil, List.take_length, ← hba, List.take_length]
      rw [rBuild_L2_eq, hl, lt_n, cond_false, hsB, List.take_length])
  have e0 : (b.sp, (0 : Int), (0 : Int), (b.bl.length : Int)) = (sB b.bl.length b.sp b.ba 0, ((0 : Nat) : Int), (depN (b.sp.take 0) : Int), (b.bl.length : Int) + sumS (b.sp.take 0)) := by
    simp [sB, spB, depN, sumS]
  rw [e0]
  exact e
theorem robots_at {b : Bdr} (h : BI b) (sp : List Spr) (hsp : sp.length = b.sp.length) (hb : ∀ i, i < sp.length → 0 ≤ (sp.getD i spr0).base ∧ (sp.getD i spr0).base ≤ 100) :
    loopO (rBuild_L1 sp) (b.pl.map enc8, 0) = some (b.pl.map (plB sp), (b.pl.length : Int)) := by
  have hnp := h.np
  have hns := h.ns
  have e := loopO_thru (step := rBuild_L1 sp) b.pl.length (fun i => ((b.pl.take i).map (plB sp) ++ (b.pl.drop i).map enc8, (i : Int))) (b.pl.map (plB sp), (b.pl.length : Int))
    (fun i hi => by
      have hl : ((b.pl.take i).map (plB sp) ++ (b.pl.drop i).map enc8).length = b.pl.length := by simp; omega
      obtain ⟨⟨j, hj, hjl⟩, hp⟩ := h.pls (b.pl.getD i (0, 0)) (getD_mem b.pl i (0, 0) hi)
      have hdr : b.pl.drop i = b.pl.getD i (0, 0) :: b.pl.drop (i + 1) := drop_getD b.pl i (0, 0) hi
      have htl : ((b.pl.take i).map (plB sp)).length = i := by simp; omega
      have hg : ((b.pl.take i).map (plB sp) ++ (b.pl.drop i).map enc8).getD i 0 = enc8 (b.pl.getD i (0, 0)) := by
        rw [hdr]
        simp only [List.getD]
        rw [List.getElem?_append_right (by omega), htl]
        simp
      have hbj := hb j (by omega)
      have hq : Int.tdiv (enc8 (b.pl.getD i (0, 0))) 8 = (j : Int) := by
        unfold enc8; rw [hj]; rw [Int.tdiv_eq_ediv_of_nonneg (by omega)]; omega
      have hm : Int.tmod (enc8 (b.pl.getD i (0, 0))) 8 = (b.pl.getD i (0, 0)).2 := by
        unfold enc8; rw [hj]; rw [Int.tmod_eq_emod_of_nonneg (by omega)]; omega
      rw [rBuild_L1_eq, hl, lt_c hi, cond_true, idxO_at _ i 0 (by omega), Option.bind_some, hg, hq, hm, show IntKind.i64.wrap (j : Int) = (j : Int) by rw [IntKind.wrap_i64]; omega, idxO_at sp j spr0 (by omega), Option.bind_some, wrap_sm (by omega)]
      have w : IntKind.i64.wrap (IntKind.i64.wrap ((sp.getD j spr0).base + (b.pl.getD i (0, 0)).2) - 1) = plB sp (b.pl.getD i (0, 0)) := by
        unfold plB
        rw [hj, Int.toNat_natCast, IntKind.wrap_i64, IntKind.wrap_i64]; omega
      rw [w, Int.toNat_natCast]
      congr 3
      rw [List.set_append_right _ _ (by omega), htl, Nat.sub_self, hdr, take_snoc b.pl i (0, 0) hi]
      simp)
    (by rw [rBuild_L1_eq]; simp [List.drop_of_length_le, List.take_of_length_le])
  have e0 : (b.pl.map enc8, (0 : Int)) = ((b.pl.take 0).map (plB sp) ++ (b.pl.drop 0).map enc8, ((0 : Nat) : Int)) := by simp
  rw [e0]
  exact e
theorem rbuild_at (d : List Dc) (hd : smallD d) : rBuild_v d = some (nbuildV d) := by
  obtain ⟨h1, h2⟩ := adds_at d hd d 0 Bdr.init BI.init NI.init (by simp) (Nat.zero_le _)
  have hB := BI.adds d BI.init
  unfold rBuild_v nbuildV
  have e0 : (([] : List Blk), ([] : List (List Int)), ([] : List Spr), ([] : List Int), (4 : Int), (2 : Int), (1 : Int), (8 : Int), false, (0 : Int)) = (Bdr.init.bl, Bdr.init.nx.map sortV, Bdr.init.sp, Bdr.init.pl.map enc8, Bdr.init.cq, Bdr.init.ca, Bdr.init.cd, Bdr.init.cp, Bdr.init.cf, ((0 : Nat) : Int)) := rfl
  rw [e0, h1, Option.bind_some]
  generalize addsV Bdr.init d = p at *
  obtain ⟨o, b⟩ := p
  cases o with
  | some q => obtain ⟨x, e⟩ := q; rfl
  | none =>
    have hN := h2 rfl
    dsimp only at hB hN ⊢
    by_cases c1 : b.bl.length = 0
    · rw [decide_eq_true (by omega), cond_true, if_pos (decide_eq_true c1)]; rfl
    rw [decide_eq_false (by omega), cond_false, if_neg (by rw [decide_eq_false c1]; simp), bases_at hB hN, Option.bind_some]
    dsimp only
    have hdep : depN b.sp = 0 ↔ b.sp.any (·.depot) = false := by
      unfold depN
      rw [List.length_eq_zero_iff, List.filter_eq_nil_iff, List.any_eq_false]
    by_cases c2 : depN b.sp = 0
    · rw [decide_eq_true (by omega), cond_true, if_pos (hdep.1 c2)]; rfl
    rw [decide_eq_false (by omega), cond_false, if_neg (fun h => c2 (hdep.2 h))]
    have hl := spB_len b.bl.length b.sp b.ba hB.nba
    rw [robots_at hB (spB b.bl.length b.sp b.ba) hl (fun i hi => by
      have hnba := hB.nba
      have hnb := hB.nb
      have := hB.bas (b.ba.getD i 0) (getD_mem b.ba i 0 (by omega))
      have e : ((spB b.bl.length b.sp b.ba).getD i spr0).base = b.bl.length + b.ba.getD i 0 := by
        simp [spB, List.getD, List.getElem?_zipWith, show i < b.sp.length by omega, show i < b.ba.length by omega]
      omega), Option.bind_some]
    rfl
end Go.Am
end
section
namespace Go.Am
open Go Go.Proofs
set_option maxRecDepth 100000
set_option linter.unusedVariables false
set_option linter.unusedSimpArgs false
def Nt.pd (n : Nt) : List Pd := [.sl (encK n.blocks), .sl (encG n.next), .sl (encP n.spurs), .sl (encI n.robots), .int .i64 n.cq, .int .i64 n.ca, .int .i64 n.cd, .int .i64 n.cp]
open Classical in
noncomputable def nbuild_v (d : List Dc) : Option (Nt × Int × Int) := if smallD d then some (nbuildV d) else none
theorem nbuild_vok (d : List Dc) (r : Nt × Int × Int) (h : nbuild_v d = some r) : ACalls Try.prog 8 [.p (.sl (encC d))] [] fun h d => h = [] ∧ d = .tup [.agg [.p (.sl (encK r.1.blocks)), .p (.sl (encG r.1.next)), .p (.sl (encP r.1.spurs)), .p (.sl (encI r.1.robots)), .p (.int .i64 r.1.cq), .p (.int .i64 r.1.ca), .p (.int .i64 r.1.cd), .p (.int .i64 r.1.cp)], .p (.int .i64 r.2.1), .p (.int .i64 r.2.2)] := by
  unfold nbuild_v at h
  split at h
  · rename_i hd
    cases h
    exact nbuild_ok d hd
  · cases h
theorem nbuild_v_at (d : List Dc) (h : smallD d) : nbuild_v d = some (nbuildV d) := by unfold nbuild_v; rw [if_pos h]
def LooseQ (n : Nt) (l : List Int) (a : Int) : Prop := validN n ∧ n.blocks.length ≤ 10
theorem loose6 (l : List Int) : ACalls Try.prog 6 [.ptr 1000000 0, .p (.int .i64 6)] [(1000000, .box [.p (.sl (encI l)), .p (.int .i64 0)])]
    fun h r => ∃ (n : Nt) (l' : List Int) (a : Int), LooseQ n l' a ∧ h = [(1000000, .box [.p (.sl (encI l')), .p (.int .i64 a)])] ∧ r = .agg [.p (.sl (encK n.blocks)), .p (.sl (encG n.next)), .p (.sl (encP n.spurs)), .p (.sl (encI n.robots)), .p (.int .i64 n.cq), .p (.int .i64 n.ca), .p (.int .i64 n.cd), .p (.int .i64 n.cp)] :=
  (loose_ok l 0 6 (by omega) (by omega) (by omega)).mono fun h r ⟨a, n, _, hq, h1, h2⟩ => ⟨n, l, (a : Int), hq, h1, h2⟩
end Go.Am
end
section
namespace Go.Am
open Go Go.Proofs
set_option maxRecDepth 100000
set_option linter.unusedVariables false
set_option linter.unusedSimpArgs false
theorem dt {a : Prop} [Decidable a] (h : a) : decide a = true := decide_eq_true h
theorem sameInts_self (l : List Int) (h : l.length ≤ 10000000) : mk_SameInts_v l l = some true := by
  have hl := loopO_thru (step := mk_SameInts_L1 l l) l.length (fun k => (k : Int)) (Sum.inl ((l.length : Nat) : Int))
    (fun k hk => by
      rw [mk_SameInts_L1_eq, lt_c hk, cond_true, idxO_at l k 0 hk]
      simp only [Option.bind_some]
      simp only [decide_true, cond_true, Option.bind_some, Bool.and_self, beq_self_eq_true, eq_self_iff_true, Bool.true_and]
      rw [wrap_sm (by omega)])
    (by rw [mk_SameInts_L1_eq, lt_n, cond_false])
  unfold mk_SameInts_v
  rw [dt rfl, cond_true, show (0 : Int) = ((0 : Nat) : Int) from rfl, hl, Option.bind_some]
theorem sameLists_self (l : List (List Int)) (h : l.length ≤ 10000000) (h2 : ∀ r ∈ l, r.length ≤ 10000000) : mk_SameLists_v l l = some true := by
  have hl := loopO_thru (step := mk_SameLists_L1 l l) l.length (fun k => (k : Int)) (Sum.inl ((l.length : Nat) : Int))
    (fun k hk => by
      rw [mk_SameLists_L1_eq, lt_c hk, cond_true, idxO_at l k [] hk]
      simp only [Option.bind_some]
      rw [sameInts_self _ (h2 _ (by rw [gde hk]; exact List.getElem_mem hk))]
      simp only [Option.bind_some]
      rw [cond_true, wrap_sm (by omega)])
    (by rw [mk_SameLists_L1_eq, lt_n, cond_false])
  unfold mk_SameLists_v
  rw [dt rfl, cond_true, show (0 : Int) = ((0 : Nat) : Int) from rfl, hl, Option.bind_some]
theorem sameNet_self (n : Nt) (h1 : n.blocks.length ≤ 10000000) (h2 : n.next.length ≤ 10000000) (h3 : ∀ r ∈ n.next, r.length ≤ 10000000) (h4 : n.spurs.length ≤ 10000000) (h5 : n.robots.length ≤ 10000000) : sameNet_v n n = some true := by
  have hl2 := loopO_thru (step := sameNet_L2 n n) n.blocks.length (fun k => (k : Int)) (Sum.inl ((n.blocks.length : Nat) : Int))
    (fun k hk => by
      rw [sameNet_L2_eq, lt_c hk, cond_true, idxO_at n.blocks k (n.blocks[k]'hk) hk]
      simp only [Option.bind_some]
      simp only [decide_true, cond_true, Option.bind_some, Bool.and_self, beq_self_eq_true, eq_self_iff_true, Bool.true_and]
      rw [wrap_sm (by omega)])
    (by rw [sameNet_L2_eq, lt_n, cond_false])
  have hl1 := loopO_thru (step := sameNet_L1 n n) n.spurs.length (fun k => (k : Int)) (Sum.inl ((n.spurs.length : Nat) : Int))
    (fun k hk => by
      rw [sameNet_L1_eq, lt_c hk, cond_true, idxO_at n.spurs k (n.spurs[k]'hk) hk]
      simp only [Option.bind_some]
      simp only [decide_true, cond_true, Option.bind_some, Bool.and_self, beq_self_eq_true, eq_self_iff_true, Bool.true_and]
      rw [wrap_sm (by omega)])
    (by rw [sameNet_L1_eq, lt_n, cond_false])
  unfold sameNet_v
  rw [dt rfl, cond_true, sameLists_self _ h2 h3]
  simp only [Option.bind_some]
  simp only [decide_true, cond_true, Option.bind_some, Bool.and_self, beq_self_eq_true, eq_self_iff_true, Bool.true_and]
  rw [sameInts_self _ h5]
  simp only [decide_true, cond_true, Option.bind_some, Bool.and_self, beq_self_eq_true, eq_self_iff_true, Bool.true_and]
  rw [show (0 : Int) = ((0 : Nat) : Int) from rfl, hl2]
  simp only [Option.bind_some]
  rw [hl1]
  rfl
end Go.Am
end
section
namespace Go.Am
open Go Go.Proofs
set_option maxRecDepth 100000
set_option linter.unusedVariables false
set_option linter.unusedSimpArgs false
theorem filter_one {α : Type} (p : α → Bool) (x0 : α) : ∀ (l : List α) (j : Nat), j < l.length → p (l.getD j x0) = true → (∀ k, k < l.length → k ≠ j → p (l.getD k x0) = false) → l.filter p = [l.getD j x0]
  | [], j, h, _, _ => by simp at h
  | x :: r, 0, _, h, hu => by
    have hx : p x = true := h
    rw [List.filter_cons_of_pos hx]
    have : r.filter p = [] := by
      rw [List.filter_eq_nil_iff]
      intro y hy
      obtain ⟨k, hk, rfl⟩ := List.mem_iff_getElem.1 hy
      have := hu (k + 1) (by simp; omega) (by omega)
      rw [List.getD_cons_succ, gde hk] at this
      simp [this]
    rw [this]; rfl
  | x :: r, j + 1, hj, h, hu => by
    have hx : p x = false := hu 0 (by simp) (by omega)
    rw [List.filter_cons_of_neg (by simp [hx])]
    exact filter_one p x0 r j (by simpa using hj) (by simpa using h) (fun k hk hne => by have := hu (k + 1) (by simpa using hk) (by omega); simpa using this)
theorem sumT_mono (nb : Nat) (l : List Spr) (h : spursP nb l) : ∀ (b a : Nat), a ≤ b → b ≤ l.length → sumS (l.take a) ≤ sumS (l.take b)
  | 0, a, ha, _ => by
    have : a = 0 := by omega
    subst this; exact Int.le_refl _
  | b + 1, a, ha, hb => by
    rcases Nat.lt_or_ge b a with h1 | h1
    · have : a = b + 1 := by omega
      subst this; exact Int.le_refl _
    · have h2 := sumT_mono nb l h b a h1 (by omega)
      have h3 := (h b (by omega)).2.2.2.2.1
      rw [take_snoc l b spr0 (by omega), sumS_snoc]
      omega
theorem inS_rng {nb : Nat} {l : List Spr} (h : spursP nb l) {i : Nat} (hi : i < l.length) {r : Int} (h1 : inS r (l.getD i spr0) = true) : (nb : Int) + sumS (l.take i) ≤ r ∧ r < (nb : Int) + sumS (l.take (i + 1)) := by
  have h2 := (h i hi).2.2.2.2.2.2
  rw [take_snoc l i spr0 hi, sumS_snoc]
  simp only [inS, Bool.and_eq_true, decide_eq_true_eq] at h1
  rw [h2] at h1
  omega
theorem inS_one {nb : Nat} {l : List Spr} (h : spursP nb l) {i j : Nat} (hi : i < l.length) (hj : j < l.length) {r : Int} (h1 : inS r (l.getD i spr0) = true) (h2 : inS r (l.getD j spr0) = true) : i = j := by
  have a := inS_rng h hi h1
  have b := inS_rng h hj h2
  rcases Nat.lt_trichotomy i j with c | c | c
  · have := sumT_mono nb l h j (i + 1) (by omega) (by omega); omega
  · exact c
  · have := sumT_mono nb l h i (j + 1) (by omega) (by omega); omega
theorem rob_spur {nb : Nat} {sp : List Spr} (h : spursP nb sp) {rb : List Int} (hr : robotsP sp rb) {k : Nat} (hk : k < rb.length) :
    ∃ j, j < sp.length ∧ inS (rb.getD k 0) (sp.getD j spr0) = true ∧ (sp.getD j spr0).depot = true ∧ sp.filter (inS (rb.getD k 0)) = [sp.getD j spr0] := by
  have h1 := (hr k hk).1
  rw [List.any_eq_true] at h1
  obtain ⟨s, hs, h2⟩ := h1
  obtain ⟨j, hj, rfl⟩ := List.mem_iff_getElem.1 hs
  have e : sp.getD j spr0 = sp[j] := gde hj
  simp only [inD, Bool.and_eq_true] at h2
  have h3 : inS (rb.getD k 0) (sp.getD j spr0) = true := by rw [e]; simp only [inS, Bool.and_eq_true]; exact h2.2
  refine ⟨j, hj, h3, by rw [e]; exact h2.1, filter_one _ _ _ j hj h3 fun i hi hne => ?_⟩
  cases c : inS (rb.getD k 0) (sp.getD i spr0)
  · rfl
  · exact (hne (inS_one h hi hj c h3)).elim
theorem desc2_len (n : Nt) (hb : blocksP n) (i : Nat) (hi : i ≤ n.blocks.length) : (desc2 n i).length ≤ 4 * i := by
  induction i with
  | zero => simp [desc2]
  | succ i ih =>
    rw [desc2_succ, List.length_append]
    have h1 := ih (by omega)
    have h2 := (hb.2.2.2 i (by omega)).2.1
    simp only [lanL, List.length_map]
    omega
theorem desc4_len (n : Nt) (hsp : spursP n.blocks.length n.spurs) (hr : robotsP n.spurs n.robots) : ∀ k, k ≤ n.robots.length → (desc4 n k).length = k := by
  intro k
  induction k with
  | zero => intro _; rfl
  | succ k ih =>
    intro hk
    obtain ⟨j, _, _, _, hf⟩ := rob_spur hsp hr (show k < n.robots.length by omega)
    rw [desc4_succ n k (by omega), List.length_append, ih (by omega), robL, List.take_length, hf]; rfl
theorem validN_small {n : Nt} (h : validN n) : smallN n := small_of_valid h
theorem descV_len (n : Nt) (hv : validN n) : (descV n).length ≤ 200 ∧ ∀ x ∈ descV n, x.names.length ≤ 10 ∧ x.nums.length ≤ 10 := by
  obtain ⟨hb, hs6, _, hr8, _, hsp, hrb, _⟩ := hv
  have hd2 := desc2_len n hb n.blocks.length (Nat.le_refl _)
  have h4 := desc4_len n hsp hrb _ (Nat.le_refl _)
  have hb24 := hb.2.1
  have e1 : (desc1 n).length = n.blocks.length := by simp [desc1]
  have e3 : (desc3 n).length = n.spurs.length := by simp [desc3]
  refine ⟨by rw [descV, numD_len, desc0]; simp; omega, ?_⟩
  have key : ∀ (L : List Dc) (i : Nat), (∀ x ∈ L, x.names.length ≤ 10 ∧ x.nums.length ≤ 10) → ∀ x ∈ numD i L, x.names.length ≤ 10 ∧ x.nums.length ≤ 10 := by
    intro L
    induction L with
    | nil => intro i _ x hx; simp [numD] at hx
    | cons y r ih =>
      intro i h x hx
      simp only [numD, List.mem_cons] at hx
      rcases hx with rfl | hx
      · exact h y (by simp)
      · exact ih _ (fun z hz => h z (by simp [hz])) x hx
  refine key _ _ fun x hx => ?_
  simp only [desc0, List.mem_append, List.mem_singleton] at hx
  rcases hx with (((hx | hx) | hx) | hx) | rfl
  · obtain ⟨b, _, rfl⟩ := List.mem_map.1 hx; simp [blkD]
  · obtain ⟨i, _, hx⟩ := List.mem_flatMap.1 hx
    obtain ⟨b, _, rfl⟩ := List.mem_map.1 hx; simp [lanD]
  · obtain ⟨b, _, rfl⟩ := List.mem_map.1 hx; simp [sprD]
  · obtain ⟨i, _, hx⟩ := List.mem_flatMap.1 hx
    obtain ⟨b, _, rfl⟩ := List.mem_map.1 hx; simp [robD]
  · simp
end Go.Am
end
section
namespace Go.Am
open Go Go.Proofs
set_option maxRecDepth 100000
set_option linter.unusedVariables false
set_option linter.unusedSimpArgs false
def Bdr.nms (b : Bdr) : List (List UInt8) := b.bl.map Blk.name ++ b.sp.map Spr.name
structure VI (b : Bdr) : Prop where
  xy : ∀ x ∈ b.bl, xyP x
  nm : ∀ x ∈ b.nms, nameB x = true
  nod : b.nms.Nodup
  row : ∀ i, i < b.bl.length → (b.nx.getD i []).Nodup ∧ ∀ j ∈ b.nx.getD i [], 0 ≤ j ∧ j < (b.bl.length : Int) ∧ j ≠ (i : Int)
  io : ∀ s ∈ b.sp, 0 ≤ s.inn ∧ s.inn < (b.bl.length : Int) ∧ 0 ≤ s.out ∧ s.out < (b.bl.length : Int)
  pn : b.pl.Nodup
  pd : ∀ p ∈ b.pl, (b.sp.getD p.1.toNat spr0).depot = true ∧ p.2 ≤ (b.sp.getD p.1.toNat spr0).slots
  cf : cfgP b.cq b.ca b.cd b.cp
theorem not_named {b : Bdr} (n : NI b) {x : List UInt8} (h : ¬ b.namedV x = true) : x ∉ b.nms := by
  rw [named_at n] at h
  simp only [Bdr.nms, List.mem_append]
  cases c1 : ixN (b.bl.map Blk.name) x with
  | some i => rw [c1] at h; exact absurd rfl h
  | none =>
    cases c2 : ixN (b.sp.map Spr.name) x with
    | some i => rw [c1, c2] at h; exact absurd rfl h
    | none => exact fun h1 => h1.elim (ixN_none.1 c1) (ixN_none.1 c2)
theorem VI.block {b : Bdr} (h : BI b) (n : NI b) (v : VI b) (d : Dc) (hn : nameB (d.names.getD 0 []) = true) (hx : xyP ⟨d.names.getD 0 [], d.nums.getD 0 0, d.nums.getD 1 0⟩) : VI (b.blockV d).2 := by
  unfold Bdr.blockV
  split
  · exact v
  · split
    · exact v
    · rename_i h1 h2
      have hni := not_named n h1
      have hP : ∀ (y : List UInt8), y ∈ (b.bl ++ [(⟨d.names.getD 0 [], d.nums.getD 0 0, d.nums.getD 1 0⟩ : Blk)]).map Blk.name ++ b.sp.map Spr.name ↔ y = d.names.getD 0 [] ∨ y ∈ b.nms := by
        intro y; simp only [Bdr.nms, List.map_append, List.map_cons, List.map_nil, List.mem_append, List.mem_singleton]
        constructor
        · rintro ((h | h) | h) <;> simp [h]
        · rintro (h | h | h) <;> simp [h]
      refine ⟨fun x hx2 => ?_, fun x hx2 => ?_, ?_, fun i hi => ?_, fun s hs => ?_, v.pn, v.pd, v.cf⟩
      · rcases List.mem_append.1 hx2 with hx2 | hx2
        · exact v.xy x hx2
        · rw [List.mem_singleton.1 hx2]; exact hx
      · rcases (hP x).1 hx2 with rfl | hx2
        · exact hn
        · exact v.nm x hx2
      · have hv := v.nod
        simp only [Bdr.nms] at hv hni ⊢
        simp only [List.map_append, List.map_cons, List.map_nil, List.append_assoc, List.singleton_append]
        rw [List.nodup_append] at hv ⊢
        obtain ⟨a1, a2, a3⟩ := hv
        simp only [List.mem_append, not_or] at hni
        refine ⟨a1, List.nodup_cons.2 ⟨hni.2, a2⟩, fun a ha c hc => ?_⟩
        rcases List.mem_cons.1 hc with rfl | hc
        · rintro rfl; exact hni.1 ha
        · exact a3 a ha c hc
      · simp only [List.length_append, List.length_cons, List.length_nil] at hi
        by_cases hl : i < b.bl.length
        · have : (b.nx ++ [[]]).getD i [] = b.nx.getD i [] := by simp only [List.getD]; rw [List.getElem?_append_left (by rw [h.nn]; exact hl)]
          rw [this]
          obtain ⟨r1, r2⟩ := v.row i hl
          refine ⟨r1, fun j hj => ?_⟩
          have := r2 j hj
          simp only [List.length_append, List.length_cons, List.length_nil]; omega
        · have : (b.nx ++ [[]]).getD i [] = [] := by
            obtain rfl : i = b.nx.length := by rw [h.nn]; omega
            simp [List.getD]
          rw [this]
          exact ⟨List.nodup_nil, fun j hj => by simp at hj⟩
      · have := v.io s hs
        simp only [List.length_append, List.length_cons, List.length_nil]; omega
theorem VI.lane {b : Bdr} (h : BI b) (v : VI b) (x y : List UInt8) : VI (b.laneV x y).2 := by
  unfold Bdr.laneV
  split
  · rename_i i j h1 h2
    split
    · exact v
    · split
      · exact v
      · split
        · exact v
        · rename_i h3 h4 h5
          obtain ⟨p, rfl, hp⟩ := h.mb x i h1
          obtain ⟨q, rfl, hq⟩ := h.mb y j h2
          refine ⟨v.xy, v.nm, v.nod, fun k hk => ?_, v.io, v.pn, v.pd, v.cf⟩
          simp only [Int.toNat_natCast] at h4 ⊢
          obtain ⟨r1, r2⟩ := v.row k hk
          have hnn := h.nn
          by_cases e : p = k
          · subst e
            have : (b.nx.set p (b.nx.getD p [] ++ [(q : Int)])).getD p [] = b.nx.getD p [] ++ [(q : Int)] := by
              simp [List.getD, show p < b.nx.length by omega]
            rw [this]
            refine ⟨?_, fun j hj => ?_⟩
            · rw [List.nodup_append]
              refine ⟨r1, by simp, fun a ha c hc => ?_⟩
              rw [List.mem_singleton.1 hc]; rintro rfl; exact h4 ha
            · rcases List.mem_append.1 hj with hj | hj
              · exact r2 j hj
              · rw [List.mem_singleton.1 hj]; omega
          · have : (b.nx.set p (b.nx.getD p [] ++ [(q : Int)])).getD k [] = b.nx.getD k [] := by
              simp [List.getD, List.getElem?_set, e]
            rw [this]
            exact ⟨r1, r2⟩
  · exact v
theorem VI.lanes : ∀ {l : List (List UInt8)} {b : Bdr}, BI b → VI b → VI (b.lanesV l).2
  | [], b, h, v => v
  | [x], b, h, v => v
  | x :: y :: r, b, h, v => by
    simp only [Bdr.lanesV]
    split
    · exact VI.lanes (h.lane x y) (v.lane h x y)
    · exact v.lane h x y
theorem VI.spur {b : Bdr} (h : BI b) (n : NI b) (v : VI b) (d : Dc) (hn : nameB (d.names.getD 0 []) = true) : VI (b.spurV d).2 := by
  unfold Bdr.spurV
  split
  · exact v
  · rename_i h0
    have hni := not_named n h0
    split
    · rename_i i j g1 g2
      split
      · exact v
      · split
        · exact v
        · split
          · exact v
          · rename_i h1 h2 h3
            obtain ⟨p, rfl, hp⟩ := h.mb _ i g1
            obtain ⟨q, rfl, hq⟩ := h.mb _ j g2
            refine ⟨v.xy, fun x hx2 => ?_, ?_, v.row, fun s hs => ?_, v.pn, fun p hp => ?_, v.cf⟩
            · simp only [Bdr.nms, List.map_append, List.map_cons, List.map_nil, List.mem_append, List.mem_singleton] at hx2
              rcases hx2 with hx2 | hx2 | rfl
              · exact v.nm x (by simp only [Bdr.nms, List.mem_append]; exact .inl hx2)
              · exact v.nm x (by simp only [Bdr.nms, List.mem_append]; exact .inr hx2)
              · exact hn
            · have hv := v.nod
              simp only [Bdr.nms] at hv hni ⊢
              simp only [List.map_append, List.map_cons, List.map_nil, ← List.append_assoc]
              rw [List.nodup_append]
              refine ⟨hv, by simp, fun a ha c hc => ?_⟩
              rw [List.mem_singleton.1 hc]; rintro rfl; exact hni ha
            · rcases List.mem_append.1 hs with hs | hs
              · exact v.io s hs
              · rw [List.mem_singleton.1 hs]; simp only; omega
            · obtain ⟨⟨m, hm, hml⟩, _⟩ := h.pls p hp
              have := v.pd p hp
              rw [hm] at this ⊢
              simp only [Int.toNat_natCast] at this ⊢
              simp only [List.getD] at this ⊢
              rw [List.getElem?_append_left hml]
              exact this
    · exact v
theorem VI.robot {b : Bdr} (v : VI b) (d : Dc) : VI (b.robotV d).2 := by
  unfold Bdr.robotV
  split
  · exact v
  · rename_i i hi
    split
    · exact v
    split
    · exact v
    split
    · exact v
    split
    · exact v
    split
    · exact v
    rename_i h1 h2 h3 h4 h5
    refine ⟨v.xy, v.nm, v.nod, v.row, v.io, ?_, fun p hp => ?_, v.cf⟩
    · simp only
      rw [List.nodup_append]
      refine ⟨v.pn, by simp, fun a ha c hc => ?_⟩
      rw [List.mem_singleton.1 hc]; rintro rfl; exact h4 ha
    · rcases List.mem_append.1 hp with hp | hp
      · exact v.pd p hp
      · rw [List.mem_singleton.1 hp]
        simp only [decide_eq_true_eq] at h3 ⊢
        exact ⟨by simpa using h1, by omega⟩
theorem VI.config {b : Bdr} (v : VI b) (d : Dc) : VI (b.configV d).2 := by
  unfold Bdr.configV
  split
  · exact v
  · split
    · exact v
    · rename_i h1 h2
      refine ⟨v.xy, v.nm, v.nod, v.row, v.io, v.pn, v.pd, ?_⟩
      rw [cfgV_P] at h2
      simpa using h2
theorem valid_names {d : Dc} (h : validV d = true) : (∀ x ∈ d.names, nameB x = true) ∧ ∀ x ∈ d.nums, -9999 ≤ x ∧ x ≤ 9999 := by
  simp only [validV, Bool.and_eq_true, List.all_eq_true] at h
  obtain ⟨_, _, _, h4, h5⟩ := h
  refine ⟨h4, fun x hx => ?_⟩
  have := h5 x hx
  simp only [Bool.not_eq_true', Bool.or_eq_false_iff, decide_eq_false_iff_not] at this
  omega
theorem VI.add {b : Bdr} (h : BI b) (n : NI b) (v : VI b) (d : Dc) : VI (b.addV d).2 := by
  unfold Bdr.addV
  split
  · exact v
  rename_i hv
  have hv : validV d = true := by simpa using hv
  obtain ⟨⟨hw1, hw2⟩, hnu, hna⟩ := valid_shape hv
  obtain ⟨hnm, hnum⟩ := valid_names hv
  have nm0 : 1 ≤ d.names.length → nameB (d.names.getD 0 []) = true := fun h => hnm _ (getD_mem d.names 0 [] (by omega))
  have nu0 : ∀ i, i < d.nums.length → -9999 ≤ d.nums.getD i 0 ∧ d.nums.getD i 0 ≤ 9999 := fun i h => hnum _ (getD_mem d.nums i 0 h)
  split
  · rename_i c
    simp only [decide_eq_true_eq] at c
    simp only [shapeV, c, if_true] at hnu hna
    have a := nu0 0 (by omega)
    have c := nu0 1 (by omega)
    exact v.block h n d (nm0 (by omega)) ⟨a.1, a.2, c.1, c.2⟩
  split
  · exact v.lanes h
  split
  · exact v.robot d
  split
  · exact v.config d
  rename_i c1 c2 c3 c4
  simp only [decide_eq_true_eq] at c1 c2 c3 c4
  have : d.word = 3 ∨ d.word = 4 := by omega
  simp only [shapeV, c1, c2, this, if_true, if_false] at hnu hna
  exact v.spur h n d (nm0 (by omega))
theorem NI.add {b : Bdr} (h : BI b) (n : NI b) (d : Dc) (hd : d.names.length ≤ 10000000 ∧ d.nums.length ≤ 10000000) (h0 : (b.addV d).1 = 0) : NI (b.addV d).2 := by
  obtain ⟨_, _, h2⟩ := one_at h n d hd
  exact (h2 h0).2
theorem VI.adds : ∀ (l : List Dc) {b : Bdr}, smallD l → BI b → NI b → VI b → VI (addsV b l).2
  | [], b, _, h, n, v => v
  | d :: r, b, hs, h, n, v => by
    simp only [addsV]
    split
    · rename_i h0
      exact VI.adds r ⟨by have := hs.1; simp only [List.length_cons] at this; omega, fun x hx => hs.2 x (List.mem_cons_of_mem _ hx)⟩ (h.add d) (n.add h d (hs.2 d (by simp)) h0) (v.add h n d)
    · exact v
theorem VI.init : VI Bdr.init := by
  refine ⟨by simp [Bdr.init], by simp [Bdr.init, Bdr.nms], by simp [Bdr.init, Bdr.nms], by simp [Bdr.init], by simp [Bdr.init], by simp [Bdr.init], by simp [Bdr.init], ?_⟩
  show cfgP 4 2 1 8
  unfold cfgP; omega
theorem NI.adds {l : List Dc} (hl : smallD l) (h : (addsV Bdr.init l).1 = none) : NI (addsV Bdr.init l).2 := (adds_at l hl l 0 Bdr.init BI.init NI.init rfl (Nat.zero_le _)).2 h
theorem insS_nodup (l : List Int) (x : Int) (h : l.Nodup) (hx : x ∉ l) : (insS l x).Nodup := by
  induction l with
  | nil => simp [insS]
  | cons y r ih =>
    simp only [insS]
    obtain ⟨h1, h2⟩ := List.nodup_cons.1 h
    split
    · exact List.nodup_cons.2 ⟨hx, h⟩
    · refine List.nodup_cons.2 ⟨?_, ih h2 (fun h => hx (by simp [h]))⟩
      rw [insS_mem]
      rintro (rfl | h3)
      · exact hx (by simp)
      · exact h1 h3
theorem foldl_insS_ok : ∀ (l p : List Int), p.Pairwise (· ≤ ·) → p.Nodup → l.Nodup → (∀ x ∈ l, x ∉ p) → (l.foldl insS p).Pairwise (· ≤ ·) ∧ (l.foldl insS p).Nodup
  | [], p, h1, h2, _, _ => ⟨h1, h2⟩
  | x :: r, p, h1, h2, h3, h4 => by
    obtain ⟨h5, h6⟩ := List.nodup_cons.1 h3
    refine foldl_insS_ok r (insS p x) (insS_sorted p x h1) (insS_nodup p x h2 (h4 x (by simp))) h6 fun y hy => ?_
    rw [insS_mem]
    rintro (rfl | h7)
    · exact h5 hy
    · exact h4 y (by simp [hy]) h7
theorem sortV_ok (l : List Int) (h : l.Nodup) : (sortV l).Pairwise (· ≤ ·) ∧ (sortV l).Nodup := foldl_insS_ok l [] List.Pairwise.nil List.nodup_nil h (by simp)
theorem sortV_in (l : List Int) (x : Int) : x ∈ sortV l ↔ x ∈ l := by rw [sortV, sortV_mem]; simp
theorem row_sorted (nb i : Nat) (l : List Int) (h : l.Nodup) (h2 : ∀ j ∈ l, 0 ≤ j ∧ j < (nb : Int) ∧ j ≠ (i : Int)) : rowP nb i (sortV l) := by
  obtain ⟨h3, h4⟩ := sortV_ok l h
  intro k hk
  have hm : (sortV l).getD k 0 ∈ l := (sortV_in l _).1 (getD_mem _ k 0 hk)
  obtain ⟨a, b, c⟩ := h2 _ hm
  refine ⟨a, b, c, fun hk0 => ?_⟩
  have e1 : (sortV l).getD k 0 = (sortV l)[k] := gde hk
  have hk1 : k - 1 < (sortV l).length := by omega
  have e2 : (sortV l).getD (k - 1) 0 = (sortV l)[k - 1] := gde hk1
  rw [e1, e2]
  have h5 := List.pairwise_iff_getElem.1 h3 (k - 1) k hk1 hk (by omega)
  have h6 : (sortV l)[k - 1] ≠ (sortV l)[k] := fun e => by
    have := (List.nodup_iff_pairwise_ne.1 h4)
    exact List.pairwise_iff_getElem.1 this (k - 1) k hk1 hk (by omega) e
  omega
theorem sortV_rows {b : Bdr} (h : BI b) (v : VI b) (i : Nat) (hi : i < b.bl.length) : rowP b.bl.length i ((b.nx.map sortV).getD i []) ∧ ((b.nx.map sortV).getD i []).length ≤ 4 := by
  have hn := h.nn
  rw [getD_map' sortV b.nx i [] [] (by omega)]
  obtain ⟨r1, r2⟩ := v.row i hi
  exact ⟨row_sorted _ _ _ r1 r2, by rw [sortV_len]; exact h.row i⟩
theorem spB_get (n : Int) (sp : List Spr) (ba : List Int) (h : ba.length = sp.length) (i : Nat) (hi : i < sp.length) : (spB n sp ba).getD i spr0 = { sp.getD i spr0 with base := n + ba.getD i 0 } := by
  have h1 : i < (spB n sp ba).length := by rw [spB_len _ _ _ h]; exact hi
  have h2 : i < ba.length := by omega
  rw [gde h1, gde hi, gde h2]
  simp [spB]
theorem spB_sum (n : Int) : ∀ (sp : List Spr) (ba : List Int) (i : Nat), ba.length = sp.length → sumS ((spB n sp ba).take i) = sumS (sp.take i)
  | [], ba, i, h => by simp [spB]
  | s :: r, [], i, h => by simp at h
  | s :: r, x :: t, 0, h => by simp
  | s :: r, x :: t, i + 1, h => by
    have := spB_sum n r t i (by simpa using h)
    simp only [spB, List.zipWith_cons_cons, List.take_succ_cons, sumS] at this ⊢
    rw [this]
theorem mem_any_inD {sp : List Spr} {i : Nat} (hi : i < sp.length) {x : Int} (h1 : (sp.getD i spr0).depot = true) (h2 : (sp.getD i spr0).base ≤ x) (h3 : x < (sp.getD i spr0).base + (sp.getD i spr0).slots) : sp.any (inD x) = true := by
  rw [List.any_eq_true]
  exact ⟨sp.getD i spr0, getD_mem sp i spr0 hi, by simp only [inD, h1, Bool.true_and, Bool.and_eq_true, decide_eq_true_eq]; exact ⟨h2, h3⟩⟩
theorem net_valid {b : Bdr} (h : BI b) (n : NI b) (v : VI b) (h1 : b.bl.length ≠ 0) (h2 : b.sp.any (·.depot) = true) : validN b.net := by
  have hnn := h.nn
  have hba := h.nba
  have hlen : (spB b.bl.length b.sp b.ba).length = b.sp.length := spB_len _ _ _ hba
  have hsp : spursP b.bl.length (spB b.bl.length b.sp b.ba) := by
    intro i hi
    rw [hlen] at hi
    have hm := getD_mem b.sp i spr0 hi
    rw [spB_get _ _ _ hba i hi, spB_sum _ _ _ _ hba]
    obtain ⟨a1, a2, a3, a4⟩ := v.io _ hm
    obtain ⟨a5, a6⟩ := h.sps _ hm
    exact ⟨a1, a2, a3, a4, a5, a6, by simp only; rw [n.ba i hi]⟩
  have hpl : ∀ p ∈ b.pl, ∃ m : Nat, p.1 = (m : Int) ∧ m < b.sp.length ∧ plB (spB b.bl.length b.sp b.ba) p = ((spB b.bl.length b.sp b.ba).getD m spr0).base + p.2 - 1 ∧ 1 ≤ p.2 ∧ p.2 ≤ ((spB b.bl.length b.sp b.ba).getD m spr0).slots ∧ ((spB b.bl.length b.sp b.ba).getD m spr0).depot = true := by
    intro p hp
    obtain ⟨⟨m, hm, hml⟩, hp1, hp2⟩ := h.pls p hp
    obtain ⟨hd1, hd2⟩ := v.pd p hp
    rw [hm, Int.toNat_natCast] at hd1 hd2
    refine ⟨m, hm, hml, by rw [plB, hm, Int.toNat_natCast], hp1, ?_, ?_⟩ <;> rw [spB_get _ _ _ hba m hml]
    · exact hd2
    · exact hd1
  refine ⟨⟨by show 1 ≤ b.bl.length; omega, h.nb, by show (b.nx.map sortV).length = b.bl.length; simp [hnn], fun i hi => ⟨v.xy _ (getD_mem b.bl i blk0 hi), (sortV_rows h v i hi).2, (sortV_rows h v i hi).1⟩⟩, ?_, ?_, ?_, v.cf, hsp, ?_, ?_⟩
  · show (spB b.bl.length b.sp b.ba).length ≤ 6
    rw [hlen]; exact h.ns
  · have e : namesN b.net = b.nms := by
      have : (spB b.bl.length b.sp b.ba).map Spr.name = b.sp.map Spr.name := by
        apply List.ext_getElem (by simp [hlen])
        intro i h1 h2
        simp [spB]
      simp only [namesN, Bdr.net, Bdr.nms, this]
    unfold namesP
    rw [e]
    intro i hi
    exact ⟨v.nm _ (getD_mem _ i [] hi), fun k hk => (nodup_getD _).1 v.nod i hi k hk⟩
  · show (b.pl.map _).length ≤ 8
    simp only [List.length_map]; exact h.np
  · have hnod : (b.pl.map (plB (spB b.bl.length b.sp b.ba))).Nodup := by
      have hinj : ∀ p ∈ b.pl, ∀ q ∈ b.pl, plB (spB b.bl.length b.sp b.ba) p = plB (spB b.bl.length b.sp b.ba) q → p = q := by
        intro p hp q hq he
        obtain ⟨m, hm, hml, e1, a1, a2, _⟩ := hpl p hp
        obtain ⟨k, hk, hkl, e2, c1, c2, _⟩ := hpl q hq
        have i1 : inS (plB (spB b.bl.length b.sp b.ba) p) ((spB b.bl.length b.sp b.ba).getD m spr0) = true := by
          simp only [inS, Bool.and_eq_true, decide_eq_true_eq]; omega
        have i2 : inS (plB (spB b.bl.length b.sp b.ba) p) ((spB b.bl.length b.sp b.ba).getD k spr0) = true := by
          simp only [inS, Bool.and_eq_true, decide_eq_true_eq]; omega
        have := inS_one hsp (by omega) (by omega) i1 i2
        subst this
        obtain ⟨p1, p2⟩ := p
        obtain ⟨q1, q2⟩ := q
        simp only at hm hk e1 e2
        rw [Prod.mk.injEq]
        exact ⟨by omega, by omega⟩
      refine List.pairwise_map.2 ?_
      refine List.Pairwise.imp_of_mem ?_ (List.nodup_iff_pairwise_ne.1 v.pn)
      intro p q hp hq hne he
      exact hne (hinj p hp q hq he)
    intro i hi
    have hi2 : i < b.pl.length := by simpa [Bdr.net] using hi
    obtain ⟨m, hm, hml, e1, a1, a2, a3⟩ := hpl _ (getD_mem b.pl i (0, 0) hi2)
    show (spB b.bl.length b.sp b.ba).any (inD ((b.pl.map (plB (spB b.bl.length b.sp b.ba))).getD i 0)) = true ∧ (b.pl.map (plB (spB b.bl.length b.sp b.ba))).getD i 0 ∉ (b.pl.map (plB (spB b.bl.length b.sp b.ba))).take i
    refine ⟨?_, fun hmem => ?_⟩
    · rw [getD_map' _ b.pl i (0, 0) 0 hi2]
      exact mem_any_inD (by rw [hlen]; exact hml) a3 (by omega) (by omega)
    · obtain ⟨k, hk, he⟩ := List.mem_iff_getElem.1 hmem
      have hi3 : i < (b.pl.map (plB (spB b.bl.length b.sp b.ba))).length := by simpa using hi2
      rw [List.getElem_take, gde hi3] at he
      have hk2 : k < i := by simp at hk; omega
      exact List.pairwise_iff_getElem.1 (List.nodup_iff_pairwise_ne.1 hnod) k i (by omega) hi3 hk2 he
  · show 0 < ((spB b.bl.length b.sp b.ba).filter Spr.depot).length
    rw [List.any_eq_true] at h2
    obtain ⟨s, hs, hd⟩ := h2
    obtain ⟨i, hi, rfl⟩ := List.mem_iff_getElem.1 hs
    have hm : (spB b.bl.length b.sp b.ba).getD i spr0 ∈ (spB b.bl.length b.sp b.ba).filter Spr.depot := by
      rw [List.mem_filter]
      refine ⟨getD_mem _ i spr0 (by rw [hlen]; exact hi), ?_⟩
      rw [spB_get _ _ _ hba i hi, gde hi]; exact hd
    exact List.length_pos_of_mem hm
theorem adds_err : ∀ (l : List Dc) (b : Bdr) (x e : Int), (addsV b l).1 = some (x, e) → e ≠ 0
  | [], b, x, e, h => by simp [addsV] at h
  | d :: r, b, x, e, h => by
    simp only [addsV] at h
    split at h
    · exact adds_err r _ x e h
    · rename_i h0
      simp only [Option.some.injEq, Prod.mk.injEq] at h
      rw [← h.2]; exact h0
theorem build_valid (d : List Dc) (hd : smallD d) (h : (nbuildV d).2.2 = 0) : validN (nbuildV d).1 := by
  have h1 : BI (addsV Bdr.init d).2 := BI.init.adds d
  have h3 : VI (addsV Bdr.init d).2 := VI.adds d hd BI.init NI.init VI.init
  have h2 := NI.adds hd
  unfold nbuildV at h ⊢
  rcases hb : addsV Bdr.init d with ⟨o, b⟩
  rw [hb] at h h1 h2 h3
  cases o with
  | some p =>
    obtain ⟨x, e⟩ := p
    exact absurd h (adds_err d Bdr.init x e (by rw [hb]))
  | none =>
    simp only at h ⊢
    by_cases c1 : b.bl.length = 0
    · rw [decide_eq_true c1, if_pos rfl] at h; simp at h
    · by_cases c2 : b.sp.any (·.depot) = false
      · rw [if_neg (by simpa using c1), if_pos c2] at h; simp at h
      · rw [if_neg (by simpa using c1), if_neg c2]
        exact net_valid h1 (h2 rfl) h3 c1 (by simpa using c2)
end Go.Am
end
section
namespace Go.Am
open Go Go.Proofs
set_option maxRecDepth 100000
set_option maxHeartbeats 2000000
set_option linter.unusedSimpArgs false
set_option linter.unusedVariables false
noncomputable def known03_v  : Option (Bool) :=
  Option.bind example03_v fun x1 => Option.bind (nbuild_v x1) fun (x3, x4, x5) => cond (decide (x5 = 0)) (cond (decide (x4 = 0)) (cond (decide (((x3.blocks.length : Nat) : Int) = 2)) (Option.bind (mk_SameLists_v x3.next [[1], [0]]) fun x10 => cond x10 (cond (decide (((x3.spurs.length : Nat) : Int) = 1)) (Option.bind (idxO x3.spurs 0) fun x14 => cond (decide (x14.base = 2)) (Option.bind (mk_SameInts_v x3.robots [3]) fun x19 => cond x19 (cond (decide (x3.cq = 4) && (decide (x3.ca = 2) && (decide (x3.cd = 1) && decide (x3.cp = 8)))) (Option.bind (netmap_Valid_v (⟨x3.blocks, x3.next, x3.spurs, x3.robots, x3.cq, x3.ca, x3.cd, x3.cp⟩ : Nt)) fun x23 => some x23) (some false)) (some false)) (some false)) (some false)) (some false)) (some false)) (some false)) (some false)
theorem known03_vok  (r : Bool) (hr : known03_v  = some r) :
    ACalls Try.prog 4 [] [] fun h d => h = [] ∧ d = .p (.bool r) := by
  refine ACalls_X Try.func4 rfl enters4 (by simp [Try.f4]) ?_
  unfold known03_v at hr
  obtain ⟨x1, g2, hr⟩ := bE hr
  try simp only [go_sem]
  refine Cc_of (example03_vok  _ g2) ?_
  rintro h' r ⟨rfl, rfl⟩
  obtain ⟨⟨x3, x4, x5⟩, g6, hr⟩ := bE hr
  try simp only [go_sem]
  refine Cc_of (nbuild_vok x1 _ g6) ?_
  rintro h' r ⟨rfl, rfl⟩
  cases c7 : decide (x5 = 0)
  · simp only [c7, cond_false] at hr
    obtain rfl := Option.some.inj hr
    try simp only [go_sem, c7]
    all_goals (try refine end_pure ?_)
    all_goals (try simp only [go_sem, c7])
    all_goals (try (first | rfl | exact ⟨rfl, rfl⟩ | (simp; done)))
  simp only [c7, cond_true] at hr
  cases c8 : decide (x4 = 0)
  · simp only [c8, cond_false] at hr
    obtain rfl := Option.some.inj hr
    try simp only [go_sem, c7, c8]
    all_goals (try refine end_pure ?_)
    all_goals (try simp only [go_sem, c7, c8])
    all_goals (try (first | rfl | exact ⟨rfl, rfl⟩ | (simp; done)))
  simp only [c8, cond_true] at hr
  cases c9 : decide (((x3.blocks.length : Nat) : Int) = 2)
  · simp only [c9, cond_false] at hr
    obtain rfl := Option.some.inj hr
    try simp only [go_sem, c7, c8, c9]
    all_goals (try refine end_pure ?_)
    all_goals (try simp only [go_sem, c7, c8, c9])
    all_goals (try (first | rfl | exact ⟨rfl, rfl⟩ | (simp; done)))
  simp only [c9, cond_true] at hr
  obtain ⟨x10, g11, hr⟩ := bE hr
  try simp only [go_sem, c7, c8, c9]
  refine Cc_bor rfl rfl (mk_SameLists_vok x3.next [[1], [0]] _ g11) (by simp [BorL, Bor, ev, get, List.take_of_length_le, ZB] <;> rfl) ?_
  rintro h' r ⟨rfl, rfl⟩
  refine ⟨rfl, rfl, ?_⟩
  cases c12 : x10
  · simp only [c12, cond_false] at hr
    obtain rfl := Option.some.inj hr
    try simp only [go_sem, c9, c12]
    all_goals (try refine end_pure ?_)
    all_goals (try simp only [go_sem, c9, c12])
    all_goals (try (first | rfl | exact ⟨rfl, rfl⟩ | (simp; done)))
  simp only [c12, cond_true] at hr
  cases c13 : decide (((x3.spurs.length : Nat) : Int) = 1)
  · simp only [c13, cond_false] at hr
    obtain rfl := Option.some.inj hr
    try simp only [go_sem, c9, c12, c13]
    all_goals (try refine end_pure ?_)
    all_goals (try simp only [go_sem, c9, c12, c13])
    all_goals (try (first | rfl | exact ⟨rfl, rfl⟩ | (simp; done)))
  simp only [c13, cond_true] at hr
  obtain ⟨x14, g15, hr⟩ := bE hr
  have f16 := idxO_rng g15
  have f17 : (encP x3.spurs).getD 0 [] = [(.str x14.name), (.bool x14.depot), (.int .i64 x14.inn), (.int .i64 x14.out), (.int .i64 x14.slots), (.int .i64 x14.base)] := idxO_map _ g15
  cases c18 : decide (x14.base = 2)
  · simp only [c18, cond_false] at hr
    obtain rfl := Option.some.inj hr
    try simp only [go_sem, c9, c12, c13, f16, f17, c18]
    all_goals (try refine end_pure ?_)
    all_goals (try simp only [go_sem, c9, c12, c13, f16, f17, c18])
    all_goals (try (first | rfl | exact ⟨rfl, rfl⟩ | (simp; done)))
  simp only [c18, cond_true] at hr
  obtain ⟨x19, g20, hr⟩ := bE hr
  try simp only [go_sem, c9, c12, c13, f16, f17, c18]
  refine Cc_bor rfl rfl (mk_SameInts_vok x3.robots [3] _ g20) (by simp [BorL, Bor, ev, get, List.take_of_length_le, ZB] <;> rfl) ?_
  rintro h' r ⟨rfl, rfl⟩
  refine ⟨rfl, rfl, ?_⟩
  cases c21 : x19
  · simp only [c21, cond_false] at hr
    obtain rfl := Option.some.inj hr
    try simp only [go_sem, c18, c21, c12]
    all_goals (try refine end_pure ?_)
    all_goals (try simp only [go_sem, c18, c21, c12])
    all_goals (try (first | rfl | exact ⟨rfl, rfl⟩ | (simp; done)))
  simp only [c21, cond_true] at hr
  cases c22 : decide (x3.cq = 4) && (decide (x3.ca = 2) && (decide (x3.cd = 1) && decide (x3.cp = 8)))
  · simp only [c22, cond_false] at hr
    obtain rfl := Option.some.inj hr
    try simp only [go_sem, c18, c21, c22, c12]
    all_goals (try refine end_pure ?_)
    all_goals (try simp only [go_sem, c18, c21, c22, c12])
    all_goals (try (first | rfl | exact ⟨rfl, rfl⟩ | (simp; done)))
  simp only [c22, cond_true] at hr
  obtain ⟨x23, g24, hr⟩ := bE hr
  try simp only [go_sem, c18, c21, c22, c12]
  refine Cc_of (netmap_Valid_vok (⟨x3.blocks, x3.next, x3.spurs, x3.robots, x3.cq, x3.ca, x3.cd, x3.cp⟩ : Nt) _ g24) ?_
  rintro h' r ⟨rfl, rfl⟩
  obtain rfl := Option.some.inj hr
  try simp only [go_sem, c22, c12, c21]
  all_goals (try refine end_pure ?_)
  all_goals (try simp only [go_sem, c22, c12, c21])
  all_goals (try (first | rfl | exact ⟨rfl, rfl⟩ | (simp; done)))
end Go.Am
end
section
namespace Go.Am
open Go Go.Proofs
set_option maxRecDepth 100000
set_option linter.unusedVariables false
set_option linter.unusedSimpArgs false
def exD : List Dc := [⟨1, 1, [[97]], [0, 0]⟩, ⟨1, 2, [[98]], [1, 0]⟩, ⟨2, 3, [[97], [98], [97]], []⟩, ⟨4, 4, [[100], [97], [98]], [2]⟩, ⟨5, 5, [[100]], [2]⟩]
def exN : Nt := ⟨[⟨[97], 0, 0⟩, ⟨[98], 1, 0⟩], [[1], [0]], [⟨[100], true, 0, 1, 2, 2⟩], [3], 4, 2, 1, 8⟩
theorem exD_small : smallD exD := by
  refine ⟨by decide, fun x hx => ?_⟩
  simp only [exD, List.mem_cons, List.not_mem_nil, or_false] at hx
  rcases hx with rfl | rfl | rfl | rfl | rfl <;> decide
theorem ex_build : nbuildV exD = (exN, 0, 0) := by kernel_rfl
theorem exN_valid : validN exN := by
  have := build_valid exD exD_small (by rw [ex_build])
  rwa [ex_build] at this
theorem example_v : example03_v = some exD := rfl
theorem known03_true : known03_v = some true := by
  unfold known03_v
  rw [example_v, Option.bind_some, nbuild_v_at _ exD_small, ex_build, Option.bind_some]
  simp only [decide_true, cond_true]
  rw [show (decide (((exN.blocks.length : Nat) : Int) = 2)) = true from rfl, cond_true, show exN.next = [[1], [0]] from rfl, sameLists_self _ (by decide) (by simp), Option.bind_some, cond_true,
    show (decide (((exN.spurs.length : Nat) : Int) = 1)) = true from rfl, cond_true, show idxO exN.spurs 0 = some ⟨[100], true, 0, 1, 2, 2⟩ from rfl, Option.bind_some]
  simp only [decide_true, cond_true]
  rw [show exN.robots = [3] from rfl, sameInts_self _ (by decide), Option.bind_some, cond_true]
  have e : netmap_Valid_v exN = some true := by rw [nvalid_v exN (validN_small exN_valid), decide_eq_true exN_valid]
  rw [show (decide (exN.cq = 4) && (decide (exN.ca = 2) && (decide (exN.cd = 1) && decide (exN.cp = 8)))) = true from rfl, cond_true]
  show Option.bind (netmap_Valid_v exN) _ = _
  rw [e, Option.bind_some]
theorem known03_ok : ACalls Try.prog 4 [] [] fun h d => h = [] ∧ d = .p (.bool true) := known03_vok true known03_true
end Go.Am
end
section
namespace Go.Am
open Go Go.Proofs
set_option maxRecDepth 100000
set_option maxHeartbeats 2000000
set_option linter.unusedSimpArgs false
set_option linter.unusedVariables false
noncomputable def mk_Cut_v (a0 : Int) (a1 : Int) : Option (Int) :=
  cond (decide (a1 ≤ 1)) (some 0) (cond (decide (¬ a1 = 0)) (cond (decide ((Int.tmod a0 a1) < 0)) (some (IntKind.i64.wrap ((Int.tmod a0 a1) + a1))) (some (Int.tmod a0 a1))) none)
theorem mk_Cut_vok (a0 : Int) (a1 : Int) (r : Int) (hr : mk_Cut_v a0 a1 = some r) :
    ACalls Try.prog 7 [.p (.int .i64 a0), .p (.int .i64 a1)] [] fun h d => h = [] ∧ d = .p (.int .i64 r) := by
  refine ACalls_X Try.func7 rfl enters7 (by simp [Try.f7]) ?_
  unfold mk_Cut_v at hr
  cases c1 : decide (a1 ≤ 1)
  · simp only [c1, cond_false] at hr
    obtain ⟨c2, hr⟩ := gE hr
    have f3 := of_decide_eq_true c2
    cases c4 : decide ((Int.tmod a0 a1) < 0)
    · simp only [c4, cond_false] at hr
      obtain rfl := Option.some.inj hr
      try simp only [go_sem, c1, f3, c4]
      all_goals (try refine end_pure ?_)
      all_goals (try simp only [go_sem, c1, f3, c4])
      all_goals (try (first | rfl | exact ⟨rfl, rfl⟩ | (simp; done)))
    simp only [c4, cond_true] at hr
    obtain rfl := Option.some.inj hr
    try simp only [go_sem, c1, f3, c4]
    all_goals (try refine end_pure ?_)
    all_goals (try simp only [go_sem, c1, f3, c4])
    all_goals (try (first | rfl | exact ⟨rfl, rfl⟩ | (simp; done)))
  simp only [c1, cond_true] at hr
  obtain rfl := Option.some.inj hr
  try simp only [go_sem, c1]
  all_goals (try refine end_pure ?_)
  all_goals (try simp only [go_sem, c1])
  all_goals (try (first | rfl | exact ⟨rfl, rfl⟩ | (simp; done)))
end Go.Am
end
section
namespace Go.Am
open Go Go.Proofs
set_option maxRecDepth 100000
set_option linter.unusedVariables false
set_option maxHeartbeats 1000000
set_option linter.unusedSimpArgs false
theorem mk_cut (a : Int) (n : Nat) (h1 : 1 ≤ n) (h2 : n ≤ 10000000) : ∃ k : Nat, k < n ∧ mk_Cut_v a (n : Int) = some (k : Int) := by
  unfold mk_Cut_v
  by_cases c1 : (n : Int) ≤ 1
  · rw [decide_eq_true c1, cond_true]; exact ⟨0, by omega, rfl⟩
  · rw [decide_eq_false c1, cond_false, decide_eq_true (show ¬ (n : Int) = 0 by omega), cond_true]
    have h3 := Int.tmod_lt_of_pos a (show (0 : Int) < n by omega)
    have h4 : -(n : Int) < Int.tmod a n := by
      have := Int.lt_tmod_of_pos a (show (0 : Int) < n by omega)
      exact this
    by_cases c2 : Int.tmod a n < 0
    · rw [decide_eq_true c2, cond_true, wrap_i64_id (by omega) (by omega)]
      exact ⟨(Int.tmod a n + n).toNat, by omega, by congr 1; omega⟩
    · rw [decide_eq_false c2, cond_false]
      exact ⟨(Int.tmod a n).toNat, by omega, by congr 1; omega⟩
end Go.Am
end
section
namespace Go.Am
open Go Go.Proofs
set_option maxRecDepth 100000
set_option linter.unusedVariables false
set_option maxHeartbeats 4000000
set_option linter.unusedSimpArgs false
theorem Gs_true {P : Program} {l : List Oper} {hR : Hp} (r : List (Nat × Nat)) (k : Kt) (kd : Nat) (o : Oper) (st : St) (x y : Rs (D × Hp)) : Gs P l hR r k kd o st (.split true x y) = Gs P l hR r k kd o st x := by simp [Gs, Rs.all]
theorem Gs_false {P : Program} {l : List Oper} {hR : Hp} (r : List (Nat × Nat)) (k : Kt) (kd : Nat) (o : Oper) (st : St) (x y : Rs (D × Hp)) : Gs P l hR r k kd o st (.split false x y) = Gs P l hR r k kd o st y := by simp [Gs, Rs.all]
attribute [go_sem] Gs_true Gs_false
theorem nb_small (d : List Dc) (hd : smallD d) : smallN (nbuildV d).1 := by
  by_cases h : (nbuildV d).2.2 = 0
  · exact validN_small (build_valid d hd h)
  · have h0 : (nbuildV d).1 = nt0 := by
      unfold nbuildV at h ⊢
      split at h
      · rfl
      · split
        · rfl
        · split
          · rfl
          · rename_i h1 h2; rw [if_neg h1, if_neg h2] at h; exact (h rfl).elim
    rw [h0]
    exact ⟨by decide, ⟨by decide, by simp [nt0]⟩, by decide, by decide⟩
theorem descV_pos (n : Nt) : 1 ≤ (descV n).length := by rw [descV, numD_len, desc0]; simp; omega
theorem setL_smallD {D : List Dc} (hL : D.length ≤ 200) (hN : ∀ x ∈ D, x.names.length ≤ 10 ∧ x.nums.length ≤ 10) : smallD D := ⟨by omega, fun x hx => by have := hN x hx; omega⟩
theorem wid0 : Wid 1 [] := by simp [Wid]
theorem encC_widA (l : List Dc) : Wid 4 (encC l) := by intro e he; simp only [encC, List.mem_map] at he; obtain ⟨x, _, rfl⟩ := he; rfl
theorem smallD_set {D : List Dc} {i : Nat} {x : Dc} (h : smallD D) (hx : x.names.length ≤ 10 ∧ x.nums.length ≤ 10) : smallD (D.set i x) := by
  refine ⟨by simpa using h.1, fun y hy => ?_⟩
  rcases List.mem_or_eq_of_mem_set hy with h1 | h1
  · exact h.2 y h1
  · subst h1; omega
theorem smallD_snoc {D : List Dc} {x : Dc} (hL : D.length ≤ 200) (hN : ∀ x ∈ D, x.names.length ≤ 10 ∧ x.nums.length ≤ 10) (hx : x ∈ D) : smallD (D ++ [x]) := by
  refine ⟨by simp; omega, fun y hy => ?_⟩
  rcases List.mem_append.1 hy with h1 | h1
  · have := hN y h1; omega
  · rw [List.mem_singleton.1 h1]; have := hN x hx; omega
theorem smallD_del {D : List Dc} {k : Nat} (hL : D.length ≤ 200) (hN : ∀ x ∈ D, x.names.length ≤ 10 ∧ x.nums.length ≤ 10) : smallD (D.take k ++ D.drop (k + 1)) := by
  refine ⟨by simp; omega, fun y hy => ?_⟩
  rcases List.mem_append.1 hy with h1 | h1
  · have := hN y (List.mem_of_mem_take h1); omega
  · have := hN y (List.mem_of_mem_drop h1); omega
theorem netmapBuilds_ok (raw : List Dc) (l : List Int) (c0 c1' c2' c3' : Int) (hr : smallD raw) :
    ACalls Try.prog 3 [.p (.sl (encC raw)), .p (.sl (encI l)), .agg [.p (.int .i64 c0), .p (.int .i64 c1'), .p (.int .i64 c2'), .p (.int .i64 c3')]] [] fun h r => h = [] ∧ r = .p (.bool true) := by
  refine ACalls_X Try.func3 rfl enters3 (by simp [Try.f3]) ?_
  simp only [go_sem]
  refine Cc_of ((known03_ok)) ?_
  rintro h' r ⟨rfl, rfl⟩
  simp only [go_sem]
  refine Cc_of (loose6 l) ?_
  rintro h' r ⟨n, l', a, ⟨hv, hb⟩, rfl, rfl⟩
  simp only [go_sem]
  refine Cc_of (describe_own n hv) ?_
  rintro h' r ⟨rfl, rfl⟩
  have hL1 := descV_pos n
  obtain ⟨hL2, hN⟩ := descV_len n hv
  generalize descV n = dd at *
  have e0 : decide (((dd.length : Nat) : Int) = 0) = false := decide_eq_false (by omega)
  simp only [go_sem, encC_len, e0]
  obtain ⟨k, hk, hkv⟩ := mk_cut c1' dd.length hL1 (by omega)
  obtain ⟨j, hj, hjv⟩ := mk_cut c2' dd.length hL1 (by omega)
  refine Cc_of ((mk_Cut_vok _ _ _ hkv)) ?_
  rintro h' r ⟨rfl, rfl⟩
  simp only [go_sem, encC_len]
  refine Cc_of ((mk_Cut_vok _ _ _ hjv)) ?_
  rintro h' r ⟨rfl, rfl⟩
  simp only [go_sem]
  obtain ⟨z, hz, hzv⟩ := mk_cut c0 7 (by omega) (by omega)
  have hzv' : mk_Cut_v c0 7 = some (z : Int) := hzv
  have hk0 : (0 : Int) ≤ (k : Int) ∧ (k : Int) < (dd.length : Int) := by omega
  have hj0 : (0 : Int) ≤ (j : Int) ∧ (j : Int) < (dd.length : Int) := by omega
  have hgk := encC_get dd k hk
  have hgj := encC_get dd j hj
  have hDs := setL_smallD hL2 hN
  have mk := hN (dd.getD k dc0) (by rw [List.getD_eq_getElem?_getD, List.getElem?_eq_getElem hk]; exact List.getElem_mem hk)
  have mj := hN (dd.getD j dc0) (by rw [List.getD_eq_getElem?_getD, List.getElem?_eq_getElem hj]; exact List.getElem_mem hj)
  have hDk : dd.getD k dc0 ∈ dd := by rw [List.getD_eq_getElem?_getD, List.getElem?_eq_getElem hk]; exact List.getElem_mem hk
  have hDj : dd.getD j dc0 ∈ dd := by rw [List.getD_eq_getElem?_getD, List.getElem?_eq_getElem hj]; exact List.getElem_mem hj
  obtain rfl | rfl | rfl | rfl | rfl | rfl | rfl : z = 0 ∨ z = 1 ∨ z = 2 ∨ z = 3 ∨ z = 4 ∨ z = 5 ∨ z = 6 := by omega
  · refine Cc_of ((mk_Cut_vok _ _ _ hzv')) ?_
    rintro h' r ⟨rfl, rfl⟩
    simp only [go_sem]
    refine X_any0 mixed (p := [(0, 0), (1, 0), (2, 0), (3, 0), (4, 0), (5, 0), (6, 0), (7, 0), (8, 0), (9, 0), (10, 0), (11, 0), (12, 0), (13, 4), (14, 4), (15, 4)]) (by kernel_rfl) (by simp [LeH, get]) ?_
    have hgj2 := encC_get (dd.set k ⟨(dd.getD j dc0).word, (dd.getD j dc0).line, (dd.getD j dc0).names, (dd.getD j dc0).nums⟩) j (by simpa using hj)
    have ht : List.take dd.length (encC ((dd.set k ⟨(dd.getD j dc0).word, (dd.getD j dc0).line, (dd.getD j dc0).names, (dd.getD j dc0).nums⟩).set j ⟨(dd.getD k dc0).word, (dd.getD k dc0).line, (dd.getD k dc0).names, (dd.getD k dc0).nums⟩)) = encC ((dd.set k (dd.getD j dc0)).set j (dd.getD k dc0)) := by
      rw [List.take_of_length_le (by simp [encC_len])]
    simp only [go_sem, Int.toNat_natCast, encC_len, hgk, hgj, hk0, hj0, List.length_set, hgj2, ht]
    refine X_loop_inv (fun i => ⟨[(11, .ref 178 0 2 2), (12, .p (.int .i64 (i : Nat)))], [(178, .arr 22 1 [[.sl (encC raw)], [.sl (encC ((dd.set k (dd.getD j dc0)).set j (dd.getD k dc0)))]])], 215⟩) (fun i => i ≤ 2) (fun i => 2 - i) 0 (by omega) (Wk.forget (by simp [Le, LeE, LeH, get, envIds, hpIds, KeepH, D.ids, idsL, AO.ids, setL, base])) ?_
    rintro i m hi ih
    simp only [go_sem]
    cases c1 : decide ((i : Int) < 2)
    · simp only [go_sem, c1]
    obtain ⟨x, hx, hg⟩ : ∃ x, smallD x ∧ ([[.sl (encC raw)], [.sl (encC ((dd.set k (dd.getD j dc0)).set j (dd.getD k dc0)))]] : List (List Pd)).getD i [] = [.sl (encC x)] := by
      have : i = 0 ∨ i = 1 := by have := of_decide_eq_true c1; omega
      rcases this with rfl | rfl
      · exact ⟨raw, hr, rfl⟩
      · exact ⟨_, (smallD_set (smallD_set hDs mj) mk), rfl⟩
    have hi2 : (i : Int) < 2 := of_decide_eq_true c1
    have hi0 : (0 : Int) ≤ (i : Int) := by omega
    have hw := wrap_succ i (by omega)
    have hB := nbuild_vok x _ (nbuild_v_at x hx)
    have hC := rBuild_vok x _ (rbuild_at x hx)
    have hS := nb_small x hx
    generalize nbuildV x = R at hB hC hS
    have hE := sameNet_vok R.1 R.1 true (sameNet_self R.1 hS.1 hS.2.1.1 hS.2.1.2 hS.2.2.1 hS.2.2.2)
    simp only [go_sem, c1, Int.toNat_natCast, hg, hi2, hi0]
    refine Cc_of ((hB)) ?_
    rintro h' r ⟨rfl, rfl⟩
    simp only [go_sem, Int.toNat_natCast, hg, hi2, hi0]
    refine Cc_of ((hC)) ?_
    rintro h' r ⟨rfl, rfl⟩
    simp only [go_sem, beq_self_eq_true, decide_true]
    refine Cc_of ((hE)) ?_
    rintro h' r ⟨rfl, rfl⟩
    simp only [go_sem, hw]
    refine ih (i + 1) _ (by omega) (by omega) (Wk.forget (by simp [Le, LeE, LeH, get, envIds, hpIds, KeepH, D.ids, idsL, AO.ids, setL, base]))
  · refine Cc_wk (Wk.pure (t := 7) (id := 10026) (sz := 4) (e := 43) (es := encC dd) (by rw [encC_len]; rfl) rfl) ?_
    simp only [go_sem]
    refine Cc_of ((mk_Cut_vok _ _ _ hzv')) ?_
    rintro h' r ⟨rfl, rfl⟩
    simp only [go_sem]
    refine X_any0 mixed (p := [(0, 0), (1, 0), (2, 0), (3, 0), (4, 0), (5, 0), (6, 0), (7, 0), (8, 2), (9, 0)]) (by kernel_rfl) (by simp [LeH, get]) ?_
    have hw1 : IntKind.i64.wrap ((k : Int) + 1) = ((k + 1 : Nat) : Int) := wrap_succ k (by omega)
    have hb1 : (0 : Int) ≤ ((k + 1 : Nat) : Int) ∧ ((k + 1 : Nat) : Int) ≤ (dd.length : Int) := by omega
    have w1 : Wid 4 (encC dd) := encC_widA dd
    have w2 : Wid 4 (List.take k (encC dd)) := fun e he => w1 e (List.mem_of_mem_take he)
    have w3 : Wid 4 (List.drop (k + 1) (encC dd)) := fun e he => w1 e (List.mem_of_mem_drop he)
    have hdel := smallD_del (k := k) hL2 hN
    have ed : encC (dd.take k ++ dd.drop (k + 1)) = List.take k (encC dd) ++ List.drop (k + 1) (encC dd) := by simp [encC, List.map_take, List.map_drop]
    cases hb : (List.drop (k + 1) (encC dd)).isEmpty
    · simp only [go_sem, Int.toNat_natCast, encC_len, hk0, hw1, hb1, hb]
      refine ⟨⟨by omega, w1⟩, ⟨by omega, w1⟩, ⟨w3, w2, by simp [encC_len]; omega, by simp [encC_len]; omega⟩, ?_⟩
      try simp only [go_sem]
      have e8 : List.take (min k (encC dd).length + ((encC dd).length - (k + 1))) (List.take k (encC dd) ++ List.drop (k + 1) (encC dd)) = List.take k (encC dd) ++ List.drop (k + 1) (encC dd) := List.take_of_length_le (by simp)
      refine X_loop_inv (fun i => ⟨[(11, .ref 178 0 2 2), (12, .p (.int .i64 (i : Nat)))], [(178, .arr 22 1 [[.sl (encC raw)], [.sl (encC (dd.take k ++ dd.drop (k + 1)))]])], 215⟩) (fun i => i ≤ 2) (fun i => 2 - i) 0 (by omega) (Wk.forget (by simp [Le, LeE, LeH, get, envIds, hpIds, KeepH, D.ids, idsL, AO.ids, setL, base, ed, e8])) ?_
      rintro i m hi ih
      simp only [go_sem]
      cases c1 : decide ((i : Int) < 2)
      · simp only [go_sem, c1]
      obtain ⟨x, hx, hg⟩ : ∃ x, smallD x ∧ ([[.sl (encC raw)], [.sl (encC (dd.take k ++ dd.drop (k + 1)))]] : List (List Pd)).getD i [] = [.sl (encC x)] := by
        have : i = 0 ∨ i = 1 := by have := of_decide_eq_true c1; omega
        rcases this with rfl | rfl
        · exact ⟨raw, hr, rfl⟩
        · exact ⟨_, hdel, rfl⟩
      have hi2 : (i : Int) < 2 := of_decide_eq_true c1
      have hi0 : (0 : Int) ≤ (i : Int) := by omega
      have hw := wrap_succ i (by omega)
      have hB := nbuild_vok x _ (nbuild_v_at x hx)
      have hC := rBuild_vok x _ (rbuild_at x hx)
      have hS := nb_small x hx
      generalize nbuildV x = R at hB hC hS
      have hE := sameNet_vok R.1 R.1 true (sameNet_self R.1 hS.1 hS.2.1.1 hS.2.1.2 hS.2.2.1 hS.2.2.2)
      simp only [go_sem, c1, Int.toNat_natCast, hg, hi2, hi0]
      refine Cc_of ((hB)) ?_
      rintro h' r ⟨rfl, rfl⟩
      simp only [go_sem, Int.toNat_natCast, hg, hi2, hi0]
      refine Cc_of ((hC)) ?_
      rintro h' r ⟨rfl, rfl⟩
      simp only [go_sem, beq_self_eq_true, decide_true]
      refine Cc_of ((hE)) ?_
      rintro h' r ⟨rfl, rfl⟩
      simp only [go_sem, hw]
      refine ih (i + 1) _ (by omega) (by omega) (Wk.forget (by simp [Le, LeE, LeH, get, envIds, hpIds, KeepH, D.ids, idsL, AO.ids, setL, base]))
    · simp only [go_sem, Int.toNat_natCast, encC_len, hk0, hw1, hb1, hb]
      refine ⟨⟨by omega, w1⟩, ⟨by omega, w1⟩, ⟨w3, w2⟩, ?_⟩
      try simp only [go_sem]
      have e9 : List.drop (k + 1) (encC dd) = [] := by simpa using hb
      rw [e9, List.append_nil] at ed
      refine X_loop_inv (fun i => ⟨[(11, .ref 178 0 2 2), (12, .p (.int .i64 (i : Nat)))], [(178, .arr 22 1 [[.sl (encC raw)], [.sl (encC (dd.take k ++ dd.drop (k + 1)))]])], 215⟩) (fun i => i ≤ 2) (fun i => 2 - i) 0 (by omega) (Wk.forget (by simp [Le, LeE, LeH, get, envIds, hpIds, KeepH, D.ids, idsL, AO.ids, setL, base, ed])) ?_
      rintro i m hi ih
      simp only [go_sem]
      cases c1 : decide ((i : Int) < 2)
      · simp only [go_sem, c1]
      obtain ⟨x, hx, hg⟩ : ∃ x, smallD x ∧ ([[.sl (encC raw)], [.sl (encC (dd.take k ++ dd.drop (k + 1)))]] : List (List Pd)).getD i [] = [.sl (encC x)] := by
        have : i = 0 ∨ i = 1 := by have := of_decide_eq_true c1; omega
        rcases this with rfl | rfl
        · exact ⟨raw, hr, rfl⟩
        · exact ⟨_, hdel, rfl⟩
      have hi2 : (i : Int) < 2 := of_decide_eq_true c1
      have hi0 : (0 : Int) ≤ (i : Int) := by omega
      have hw := wrap_succ i (by omega)
      have hB := nbuild_vok x _ (nbuild_v_at x hx)
      have hC := rBuild_vok x _ (rbuild_at x hx)
      have hS := nb_small x hx
      generalize nbuildV x = R at hB hC hS
      have hE := sameNet_vok R.1 R.1 true (sameNet_self R.1 hS.1 hS.2.1.1 hS.2.1.2 hS.2.2.1 hS.2.2.2)
      simp only [go_sem, c1, Int.toNat_natCast, hg, hi2, hi0]
      refine Cc_of ((hB)) ?_
      rintro h' r ⟨rfl, rfl⟩
      simp only [go_sem, Int.toNat_natCast, hg, hi2, hi0]
      refine Cc_of ((hC)) ?_
      rintro h' r ⟨rfl, rfl⟩
      simp only [go_sem, beq_self_eq_true, decide_true]
      refine Cc_of ((hE)) ?_
      rintro h' r ⟨rfl, rfl⟩
      simp only [go_sem, hw]
      refine ih (i + 1) _ (by omega) (by omega) (Wk.forget (by simp [Le, LeE, LeH, get, envIds, hpIds, KeepH, D.ids, idsL, AO.ids, setL, base]))
  · refine Cc_of ((mk_Cut_vok _ _ _ hzv')) ?_
    rintro h' r ⟨rfl, rfl⟩
    simp only [go_sem, Int.toNat_natCast, encC_len, hgk, hgj, hk0, hj0, List.length_set]
    refine ⟨⟨wid1 _ _ rfl, by omega, by omega⟩, ?_⟩
    refine X_loop_inv (fun i => ⟨[(11, .ref 178 0 2 2), (12, .p (.int .i64 (i : Nat)))], [(178, .arr 22 1 [[.sl (encC raw)], [.sl (encC (dd ++ [dd.getD k dc0]))]])], 215⟩) (fun i => i ≤ 2) (fun i => 2 - i) 0 (by omega) (Wk.forget (by simp [Le, LeE, LeH, get, envIds, hpIds, KeepH, D.ids, idsL, AO.ids, setL, base, encC_snoc])) ?_
    rintro i m hi ih
    simp only [go_sem]
    cases c1 : decide ((i : Int) < 2)
    · simp only [go_sem, c1]
    obtain ⟨x, hx, hg⟩ : ∃ x, smallD x ∧ ([[.sl (encC raw)], [.sl (encC (dd ++ [dd.getD k dc0]))]] : List (List Pd)).getD i [] = [.sl (encC x)] := by
      have : i = 0 ∨ i = 1 := by have := of_decide_eq_true c1; omega
      rcases this with rfl | rfl
      · exact ⟨raw, hr, rfl⟩
      · exact ⟨_, (smallD_snoc hL2 hN hDk), rfl⟩
    have hi2 : (i : Int) < 2 := of_decide_eq_true c1
    have hi0 : (0 : Int) ≤ (i : Int) := by omega
    have hw := wrap_succ i (by omega)
    have hB := nbuild_vok x _ (nbuild_v_at x hx)
    have hC := rBuild_vok x _ (rbuild_at x hx)
    have hS := nb_small x hx
    generalize nbuildV x = R at hB hC hS
    have hE := sameNet_vok R.1 R.1 true (sameNet_self R.1 hS.1 hS.2.1.1 hS.2.1.2 hS.2.2.1 hS.2.2.2)
    simp only [go_sem, c1, Int.toNat_natCast, hg, hi2, hi0]
    refine Cc_of ((hB)) ?_
    rintro h' r ⟨rfl, rfl⟩
    simp only [go_sem, Int.toNat_natCast, hg, hi2, hi0]
    refine Cc_of ((hC)) ?_
    rintro h' r ⟨rfl, rfl⟩
    simp only [go_sem, beq_self_eq_true, decide_true]
    refine Cc_of ((hE)) ?_
    rintro h' r ⟨rfl, rfl⟩
    simp only [go_sem, hw]
    refine ih (i + 1) _ (by omega) (by omega) (Wk.forget (by simp [Le, LeE, LeH, get, envIds, hpIds, KeepH, D.ids, idsL, AO.ids, setL, base]))
  ·
    generalize hX : dd.getD k dc0 = X at *
    have hx3 : ((encC dd).getD k [])[3]? = some (.sl (encI X.nums)) := by rw [hgk]; rfl
    cases hq : decide (0 < (X.nums.length : Int))
    · refine Cc_of ((mk_Cut_vok _ _ _ hzv')) ?_
      rintro h' r ⟨rfl, rfl⟩
      simp only [go_sem, Int.toNat_natCast, encC_len, encI_len, hgk, hk0, hq]
      refine X_loop_inv (fun i => ⟨[(11, .ref 178 0 2 2), (12, .p (.int .i64 (i : Nat)))], [(178, .arr 22 1 [[.sl (encC raw)], [.sl (encC dd)]])], 215⟩) (fun i => i ≤ 2) (fun i => 2 - i) 0 (by omega) (Wk.forget (by simp [Le, LeE, LeH, get, envIds, hpIds, KeepH, D.ids, idsL, AO.ids, setL, base])) ?_
      rintro i m hi ih
      simp only [go_sem]
      cases c1 : decide ((i : Int) < 2)
      · simp only [go_sem, c1]
      obtain ⟨x, hx, hg⟩ : ∃ x, smallD x ∧ ([[.sl (encC raw)], [.sl (encC dd)]] : List (List Pd)).getD i [] = [.sl (encC x)] := by
        have : i = 0 ∨ i = 1 := by have := of_decide_eq_true c1; omega
        rcases this with rfl | rfl
        · exact ⟨raw, hr, rfl⟩
        · exact ⟨_, hDs, rfl⟩
      have hi2 : (i : Int) < 2 := of_decide_eq_true c1
      have hi0 : (0 : Int) ≤ (i : Int) := by omega
      have hw := wrap_succ i (by omega)
      have hB := nbuild_vok x _ (nbuild_v_at x hx)
      have hC := rBuild_vok x _ (rbuild_at x hx)
      have hS := nb_small x hx
      generalize nbuildV x = R at hB hC hS
      have hE := sameNet_vok R.1 R.1 true (sameNet_self R.1 hS.1 hS.2.1.1 hS.2.1.2 hS.2.2.1 hS.2.2.2)
      simp only [go_sem, c1, Int.toNat_natCast, hg, hi2, hi0]
      refine Cc_of ((hB)) ?_
      rintro h' r ⟨rfl, rfl⟩
      simp only [go_sem, Int.toNat_natCast, hg, hi2, hi0]
      refine Cc_of ((hC)) ?_
      rintro h' r ⟨rfl, rfl⟩
      simp only [go_sem, beq_self_eq_true, decide_true]
      refine Cc_of ((hE)) ?_
      rintro h' r ⟨rfl, rfl⟩
      simp only [go_sem, hw]
      refine ih (i + 1) _ (by omega) (by omega) (Wk.forget (by simp [Le, LeE, LeH, get, envIds, hpIds, KeepH, D.ids, idsL, AO.ids, setL, base]))
    refine Cc_wk (Wk.openX (id := 10026) (i := k) (c := 3) rfl (by rw [encC_len]; exact hk) hx3) ?_
    simp only [go_sem]
    refine Cc_of ((mk_Cut_vok _ _ _ hzv')) ?_
    rintro h' r ⟨rfl, rfl⟩
    have hq' := of_decide_eq_true hq
    simp only [go_sem, Int.toNat_natCast, encC_len, encI_len, hgk, hk0, hq]
    refine ⟨⟨encI_wid _, wid0, by omega, by omega⟩, ?_⟩
    refine Af_storeX rfl ti23 rfl rfl rfl (encC_len dd).symm rfl rfl ?_
    simp only [go_sem]
    obtain ⟨u, hu, huv⟩ := mk_cut c2' X.nums.length (by omega) (by omega)
    have hu0 : (0 : Int) ≤ (u : Int) ∧ (u : Int) < (X.nums.length : Int) := by omega
    refine X_any [(97, .arr 3 1 (encI X.nums)), (10026, .arx 43 4 (encC dd) k 3 (.ref 97 0 X.nums.length X.nums.length)), (5, .box [.p (.int .i64 c0), .p (.int .i64 c1'), .p (.int .i64 c2'), .p (.int .i64 c3')])] mixed (p := [(0, 0), (1, 0), (2, 0), (3, 0), (4, 0), (5, 0), (6, 0), (7, 0), (8, 0), (9, 0), (10, 0), (11, 0), (12, 0), (14, 0), (15, 0), (13, 2), (16, 0), (17, 3)]) (by kernel_rfl) (by simp [LeH, get]) ?_
    simp only [go_sem, Int.toNat_natCast, encC_len, encI_len, hgk, hk0]
    refine Gh_of ((mk_Cut_vok _ _ _ huv)) ?_
    rintro h' r ⟨rfl, rfl⟩
    have hgu : ((encI X.nums).getD u []).drop 1 = [] := by rw [encI_get X.nums u hu]; rfl
    have hsu : (encI X.nums).set u [.int .i64 c3'] = encI (X.nums.set u c3') := by simp [encI, List.map_set]
    simp only [go_sem, Int.toNat_natCast, encC_len, encI_len, hgk, hk0, hu0, hgu, hsu]
    refine Af_wk (Wk.closeX (id := 10026) (q := 97) (e := 43) (e2 := 3) (sz := 4) (sz2 := 1) (i := k) (c := 3) (es := encC dd) (qs := encI (X.nums.set u c3')) (by rw [encI_len, List.length_set]; rfl) rfl) ?_
    simp only [go_sem, hgk]
    have e8 : List.take dd.length ((encC dd).set k [.int .i64 X.word, .int .i64 X.line, .sl (encS X.names), .sl (encI (X.nums.set u c3'))]) = (encC dd).set k [.int .i64 X.word, .int .i64 X.line, .sl (encS X.names), .sl (encI (X.nums.set u c3'))] := List.take_of_length_le (by simp [encC_len])
    refine X_loop_inv (fun i => ⟨[(11, .ref 178 0 2 2), (12, .p (.int .i64 (i : Nat)))], [(178, .arr 22 1 [[.sl (encC raw)], [.sl (encC (dd.set k ⟨X.word, X.line, X.names, X.nums.set u c3'⟩))]])], 215⟩) (fun i => i ≤ 2) (fun i => 2 - i) 0 (by omega) (Wk.forget (by simp [Le, LeE, LeH, get, envIds, hpIds, KeepH, D.ids, idsL, AO.ids, setL, base, encC_setx, e8])) ?_
    rintro i m hi ih
    simp only [go_sem]
    cases c1 : decide ((i : Int) < 2)
    · simp only [go_sem, c1]
    obtain ⟨x, hx, hg⟩ : ∃ x, smallD x ∧ ([[.sl (encC raw)], [.sl (encC (dd.set k ⟨X.word, X.line, X.names, X.nums.set u c3'⟩))]] : List (List Pd)).getD i [] = [.sl (encC x)] := by
      have : i = 0 ∨ i = 1 := by have := of_decide_eq_true c1; omega
      rcases this with rfl | rfl
      · exact ⟨raw, hr, rfl⟩
      · exact ⟨_, (smallD_set hDs (by simpa using mk)), rfl⟩
    have hi2 : (i : Int) < 2 := of_decide_eq_true c1
    have hi0 : (0 : Int) ≤ (i : Int) := by omega
    have hw := wrap_succ i (by omega)
    have hB := nbuild_vok x _ (nbuild_v_at x hx)
    have hC := rBuild_vok x _ (rbuild_at x hx)
    have hS := nb_small x hx
    generalize nbuildV x = R at hB hC hS
    have hE := sameNet_vok R.1 R.1 true (sameNet_self R.1 hS.1 hS.2.1.1 hS.2.1.2 hS.2.2.1 hS.2.2.2)
    simp only [go_sem, c1, Int.toNat_natCast, hg, hi2, hi0]
    refine Cc_of ((hB)) ?_
    rintro h' r ⟨rfl, rfl⟩
    simp only [go_sem, Int.toNat_natCast, hg, hi2, hi0]
    refine Cc_of ((hC)) ?_
    rintro h' r ⟨rfl, rfl⟩
    simp only [go_sem, beq_self_eq_true, decide_true]
    refine Cc_of ((hE)) ?_
    rintro h' r ⟨rfl, rfl⟩
    simp only [go_sem, hw]
    refine ih (i + 1) _ (by omega) (by omega) (Wk.forget (by simp [Le, LeE, LeH, get, envIds, hpIds, KeepH, D.ids, idsL, AO.ids, setL, base]))
  ·
    generalize hX : dd.getD k dc0 = X at *
    have hx2 : ((encC dd).getD k [])[2]? = some (.sl (encS X.names)) := by rw [hgk]; rfl
    cases hq : decide (0 < (X.names.length : Int))
    · refine Cc_of ((mk_Cut_vok _ _ _ hzv')) ?_
      rintro h' r ⟨rfl, rfl⟩
      simp only [go_sem, Int.toNat_natCast, encC_len, encS_len, hgk, hk0, hq]
      refine X_loop_inv (fun i => ⟨[(11, .ref 178 0 2 2), (12, .p (.int .i64 (i : Nat)))], [(178, .arr 22 1 [[.sl (encC raw)], [.sl (encC dd)]])], 215⟩) (fun i => i ≤ 2) (fun i => 2 - i) 0 (by omega) (Wk.forget (by simp [Le, LeE, LeH, get, envIds, hpIds, KeepH, D.ids, idsL, AO.ids, setL, base])) ?_
      rintro i m hi ih
      simp only [go_sem]
      cases c1 : decide ((i : Int) < 2)
      · simp only [go_sem, c1]
      obtain ⟨x, hx, hg⟩ : ∃ x, smallD x ∧ ([[.sl (encC raw)], [.sl (encC dd)]] : List (List Pd)).getD i [] = [.sl (encC x)] := by
        have : i = 0 ∨ i = 1 := by have := of_decide_eq_true c1; omega
        rcases this with rfl | rfl
        · exact ⟨raw, hr, rfl⟩
        · exact ⟨_, hDs, rfl⟩
      have hi2 : (i : Int) < 2 := of_decide_eq_true c1
      have hi0 : (0 : Int) ≤ (i : Int) := by omega
      have hw := wrap_succ i (by omega)
      have hB := nbuild_vok x _ (nbuild_v_at x hx)
      have hC := rBuild_vok x _ (rbuild_at x hx)
      have hS := nb_small x hx
      generalize nbuildV x = R at hB hC hS
      have hE := sameNet_vok R.1 R.1 true (sameNet_self R.1 hS.1 hS.2.1.1 hS.2.1.2 hS.2.2.1 hS.2.2.2)
      simp only [go_sem, c1, Int.toNat_natCast, hg, hi2, hi0]
      refine Cc_of ((hB)) ?_
      rintro h' r ⟨rfl, rfl⟩
      simp only [go_sem, Int.toNat_natCast, hg, hi2, hi0]
      refine Cc_of ((hC)) ?_
      rintro h' r ⟨rfl, rfl⟩
      simp only [go_sem, beq_self_eq_true, decide_true]
      refine Cc_of ((hE)) ?_
      rintro h' r ⟨rfl, rfl⟩
      simp only [go_sem, hw]
      refine ih (i + 1) _ (by omega) (by omega) (Wk.forget (by simp [Le, LeE, LeH, get, envIds, hpIds, KeepH, D.ids, idsL, AO.ids, setL, base]))
    cases hq2 : decide (0 < ((dd.getD j dc0).names.length : Int))
    · refine Cc_of ((mk_Cut_vok _ _ _ hzv')) ?_
      rintro h' r ⟨rfl, rfl⟩
      simp only [go_sem, Int.toNat_natCast, encC_len, encS_len, hgk, hgj, hk0, hj0, hq, hq2]
      refine X_loop_inv (fun i => ⟨[(11, .ref 178 0 2 2), (12, .p (.int .i64 (i : Nat)))], [(178, .arr 22 1 [[.sl (encC raw)], [.sl (encC dd)]])], 215⟩) (fun i => i ≤ 2) (fun i => 2 - i) 0 (by omega) (Wk.forget (by simp [Le, LeE, LeH, get, envIds, hpIds, KeepH, D.ids, idsL, AO.ids, setL, base])) ?_
      rintro i m hi ih
      simp only [go_sem]
      cases c1 : decide ((i : Int) < 2)
      · simp only [go_sem, c1]
      obtain ⟨x, hx, hg⟩ : ∃ x, smallD x ∧ ([[.sl (encC raw)], [.sl (encC dd)]] : List (List Pd)).getD i [] = [.sl (encC x)] := by
        have : i = 0 ∨ i = 1 := by have := of_decide_eq_true c1; omega
        rcases this with rfl | rfl
        · exact ⟨raw, hr, rfl⟩
        · exact ⟨_, hDs, rfl⟩
      have hi2 : (i : Int) < 2 := of_decide_eq_true c1
      have hi0 : (0 : Int) ≤ (i : Int) := by omega
      have hw := wrap_succ i (by omega)
      have hB := nbuild_vok x _ (nbuild_v_at x hx)
      have hC := rBuild_vok x _ (rbuild_at x hx)
      have hS := nb_small x hx
      generalize nbuildV x = R at hB hC hS
      have hE := sameNet_vok R.1 R.1 true (sameNet_self R.1 hS.1 hS.2.1.1 hS.2.1.2 hS.2.2.1 hS.2.2.2)
      simp only [go_sem, c1, Int.toNat_natCast, hg, hi2, hi0]
      refine Cc_of ((hB)) ?_
      rintro h' r ⟨rfl, rfl⟩
      simp only [go_sem, Int.toNat_natCast, hg, hi2, hi0]
      refine Cc_of ((hC)) ?_
      rintro h' r ⟨rfl, rfl⟩
      simp only [go_sem, beq_self_eq_true, decide_true]
      refine Cc_of ((hE)) ?_
      rintro h' r ⟨rfl, rfl⟩
      simp only [go_sem, hw]
      refine ih (i + 1) _ (by omega) (by omega) (Wk.forget (by simp [Le, LeE, LeH, get, envIds, hpIds, KeepH, D.ids, idsL, AO.ids, setL, base]))
    refine Cc_wk (Wk.openX (id := 10026) (i := k) (c := 2) rfl (by rw [encC_len]; exact hk) hx2) ?_
    simp only [go_sem]
    refine Cc_of ((mk_Cut_vok _ _ _ hzv')) ?_
    rintro h' r ⟨rfl, rfl⟩
    have hq' := of_decide_eq_true hq
    have hq2' := of_decide_eq_true hq2
    obtain ⟨u, hu, huv⟩ := mk_cut c3' X.names.length (by omega) (by omega)
    have hu0 : (0 : Int) ≤ (u : Int) ∧ (u : Int) < (X.names.length : Int) := by omega
    cases hjk : decide (j = k)
    · have h00 : ((0 : Int) ≤ 0 ∧ (0 : Int) < ((dd.getD j dc0).names.length : Int)) := by omega
      simp only [go_sem, Int.toNat_natCast, encC_len, encS_len, hgk, hgj, hk0, hj0, hq, hq2, hjk]
      refine ⟨⟨encS_wid _, wid0, by omega, by omega⟩, ?_⟩
      refine Af_storeX rfl ti41 rfl rfl rfl (encC_len dd).symm rfl rfl ?_
      simp only [go_sem]
      refine X_any [(142, .arr 9 1 (encS X.names)), (10026, .arx 43 4 (encC dd) k 2 (.ref 142 0 X.names.length X.names.length)), (5, .box [.p (.int .i64 c0), .p (.int .i64 c1'), .p (.int .i64 c2'), .p (.int .i64 c3')])] mixed (p := [(0, 0), (1, 0), (2, 0), (3, 0), (4, 0), (5, 0), (6, 0), (7, 0), (8, 0), (9, 0), (10, 0), (11, 0), (12, 0), (14, 0), (15, 0), (16, 0), (17, 0), (18, 0), (19, 0), (20, 0), (13, 2), (21, 0), (22, 3)]) (by kernel_rfl) (by simp [LeH, get]) ?_
      have hg0 := encS_get (dd.getD j dc0).names 0 (by omega)
      generalize (dd.getD j dc0).names.getD 0 [] = nm at hg0
      simp only [go_sem, Int.toNat_natCast, encC_len, encS_len, hgk, hgj, hk0, hj0, hjk, hq2', h00, hg0]
      refine Gh_of ((mk_Cut_vok _ _ _ huv)) ?_
      rintro h' r ⟨rfl, rfl⟩
      have hgu : ((encS X.names).getD u []).drop 1 = [] := by rw [encS_get X.names u hu]; rfl
      have hsu : (encS X.names).set u [.str nm] = encS (X.names.set u nm) := by simp [encS, List.map_set]
      simp only [go_sem, Int.toNat_natCast, encC_len, encS_len, hgk, hk0, hu0, hgu, hsu]
      refine Af_wk (Wk.closeX (id := 10026) (q := 142) (e := 43) (e2 := 9) (sz := 4) (sz2 := 1) (i := k) (c := 2) (es := encC dd) (qs := encS (X.names.set u nm)) (by rw [encS_len, List.length_set]; rfl) rfl) ?_
      simp only [go_sem, hgk]
      have e8 : List.take dd.length ((encC dd).set k [.int .i64 X.word, .int .i64 X.line, .sl (encS (X.names.set u nm)), .sl (encI X.nums)]) = (encC dd).set k [.int .i64 X.word, .int .i64 X.line, .sl (encS (X.names.set u nm)), .sl (encI X.nums)] := List.take_of_length_le (by simp [encC_len])
      refine X_loop_inv (fun i => ⟨[(11, .ref 178 0 2 2), (12, .p (.int .i64 (i : Nat)))], [(178, .arr 22 1 [[.sl (encC raw)], [.sl (encC (dd.set k ⟨X.word, X.line, X.names.set u nm, X.nums⟩))]])], 215⟩) (fun i => i ≤ 2) (fun i => 2 - i) 0 (by omega) (Wk.forget (by simp [Le, LeE, LeH, get, envIds, hpIds, KeepH, D.ids, idsL, AO.ids, setL, base, encC_setx, e8])) ?_
      rintro i m hi ih
      simp only [go_sem]
      cases c1 : decide ((i : Int) < 2)
      · simp only [go_sem, c1]
      obtain ⟨x, hx, hg⟩ : ∃ x, smallD x ∧ ([[.sl (encC raw)], [.sl (encC (dd.set k ⟨X.word, X.line, X.names.set u nm, X.nums⟩))]] : List (List Pd)).getD i [] = [.sl (encC x)] := by
        have : i = 0 ∨ i = 1 := by have := of_decide_eq_true c1; omega
        rcases this with rfl | rfl
        · exact ⟨raw, hr, rfl⟩
        · exact ⟨_, (smallD_set hDs (by simpa using mk)), rfl⟩
      have hi2 : (i : Int) < 2 := of_decide_eq_true c1
      have hi0 : (0 : Int) ≤ (i : Int) := by omega
      have hw := wrap_succ i (by omega)
      have hB := nbuild_vok x _ (nbuild_v_at x hx)
      have hC := rBuild_vok x _ (rbuild_at x hx)
      have hS := nb_small x hx
      generalize nbuildV x = R at hB hC hS
      have hE := sameNet_vok R.1 R.1 true (sameNet_self R.1 hS.1 hS.2.1.1 hS.2.1.2 hS.2.2.1 hS.2.2.2)
      simp only [go_sem, c1, Int.toNat_natCast, hg, hi2, hi0]
      refine Cc_of ((hB)) ?_
      rintro h' r ⟨rfl, rfl⟩
      simp only [go_sem, Int.toNat_natCast, hg, hi2, hi0]
      refine Cc_of ((hC)) ?_
      rintro h' r ⟨rfl, rfl⟩
      simp only [go_sem, beq_self_eq_true, decide_true]
      refine Cc_of ((hE)) ?_
      rintro h' r ⟨rfl, rfl⟩
      simp only [go_sem, hw]
      refine ih (i + 1) _ (by omega) (by omega) (Wk.forget (by simp [Le, LeE, LeH, get, envIds, hpIds, KeepH, D.ids, idsL, AO.ids, setL, base]))
    · obtain rfl : j = k := of_decide_eq_true hjk
      simp only [go_sem, Int.toNat_natCast, encC_len, encS_len, hgk, hk0, hq]
      refine ⟨⟨encS_wid _, wid0, by omega, by omega⟩, ?_⟩
      refine Af_storeX rfl ti41 rfl rfl rfl (encC_len dd).symm rfl rfl ?_
      simp only [go_sem]
      refine X_any [(142, .arr 9 1 (encS X.names)), (10026, .arx 43 4 (encC dd) j 2 (.ref 142 0 X.names.length X.names.length)), (5, .box [.p (.int .i64 c0), .p (.int .i64 c1'), .p (.int .i64 c2'), .p (.int .i64 c3')])] mixed (p := [(0, 0), (1, 0), (2, 0), (3, 0), (4, 0), (5, 0), (6, 0), (7, 0), (8, 0), (9, 0), (10, 0), (11, 0), (12, 0), (14, 0), (15, 0), (16, 0), (17, 0), (18, 0), (19, 0), (20, 0), (13, 2), (21, 0), (22, 3)]) (by kernel_rfl) (by simp [LeH, get]) ?_
      have hg0 := encS_get X.names 0 (by omega)
      generalize X.names.getD 0 [] = nm at hg0
      simp only [go_sem, Int.toNat_natCast, encC_len, encS_len, hgk, hk0, hq', hg0]
      refine Gh_of ((mk_Cut_vok _ _ _ huv)) ?_
      rintro h' r ⟨rfl, rfl⟩
      have hgu : ((encS X.names).getD u []).drop 1 = [] := by rw [encS_get X.names u hu]; rfl
      have hsu : (encS X.names).set u [.str nm] = encS (X.names.set u nm) := by simp [encS, List.map_set]
      simp only [go_sem, Int.toNat_natCast, encC_len, encS_len, hgk, hk0, hu0, hgu, hsu]
      refine Af_wk (Wk.closeX (id := 10026) (q := 142) (e := 43) (e2 := 9) (sz := 4) (sz2 := 1) (i := j) (c := 2) (es := encC dd) (qs := encS (X.names.set u nm)) (by rw [encS_len, List.length_set]; rfl) rfl) ?_
      simp only [go_sem, hgk]
      have e8 : List.take dd.length ((encC dd).set j [.int .i64 X.word, .int .i64 X.line, .sl (encS (X.names.set u nm)), .sl (encI X.nums)]) = (encC dd).set j [.int .i64 X.word, .int .i64 X.line, .sl (encS (X.names.set u nm)), .sl (encI X.nums)] := List.take_of_length_le (by simp [encC_len])
      refine X_loop_inv (fun i => ⟨[(11, .ref 178 0 2 2), (12, .p (.int .i64 (i : Nat)))], [(178, .arr 22 1 [[.sl (encC raw)], [.sl (encC (dd.set j ⟨X.word, X.line, X.names.set u nm, X.nums⟩))]])], 215⟩) (fun i => i ≤ 2) (fun i => 2 - i) 0 (by omega) (Wk.forget (by simp [Le, LeE, LeH, get, envIds, hpIds, KeepH, D.ids, idsL, AO.ids, setL, base, encC_setx, e8])) ?_
      rintro i m hi ih
      simp only [go_sem]
      cases c1 : decide ((i : Int) < 2)
      · simp only [go_sem, c1]
      obtain ⟨x, hx, hg⟩ : ∃ x, smallD x ∧ ([[.sl (encC raw)], [.sl (encC (dd.set j ⟨X.word, X.line, X.names.set u nm, X.nums⟩))]] : List (List Pd)).getD i [] = [.sl (encC x)] := by
        have : i = 0 ∨ i = 1 := by have := of_decide_eq_true c1; omega
        rcases this with rfl | rfl
        · exact ⟨raw, hr, rfl⟩
        · exact ⟨_, (smallD_set hDs (by simpa using mk)), rfl⟩
      have hi2 : (i : Int) < 2 := of_decide_eq_true c1
      have hi0 : (0 : Int) ≤ (i : Int) := by omega
      have hw := wrap_succ i (by omega)
      have hB := nbuild_vok x _ (nbuild_v_at x hx)
      have hC := rBuild_vok x _ (rbuild_at x hx)
      have hS := nb_small x hx
      generalize nbuildV x = R at hB hC hS
      have hE := sameNet_vok R.1 R.1 true (sameNet_self R.1 hS.1 hS.2.1.1 hS.2.1.2 hS.2.2.1 hS.2.2.2)
      simp only [go_sem, c1, Int.toNat_natCast, hg, hi2, hi0]
      refine Cc_of ((hB)) ?_
      rintro h' r ⟨rfl, rfl⟩
      simp only [go_sem, Int.toNat_natCast, hg, hi2, hi0]
      refine Cc_of ((hC)) ?_
      rintro h' r ⟨rfl, rfl⟩
      simp only [go_sem, beq_self_eq_true, decide_true]
      refine Cc_of ((hE)) ?_
      rintro h' r ⟨rfl, rfl⟩
      simp only [go_sem, hw]
      refine ih (i + 1) _ (by omega) (by omega) (Wk.forget (by simp [Le, LeE, LeH, get, envIds, hpIds, KeepH, D.ids, idsL, AO.ids, setL, base]))
  · refine Cc_of ((mk_Cut_vok _ _ _ hzv')) ?_
    rintro h' r ⟨rfl, rfl⟩
    simp only [go_sem, Int.toNat_natCast, encC_len, hgk, hgj, hk0, hj0, List.length_set]
    obtain ⟨q, hq, hqv⟩ := mk_cut c3' 8 (by omega) (by omega)
    have hqv' : mk_Cut_v c3' 8 = some (q : Int) := hqv
    refine Cc_of ((mk_Cut_vok _ _ _ hqv')) ?_
    rintro h' r ⟨rfl, rfl⟩
    simp only [go_sem, Int.toNat_natCast, encC_len, hgk, hgj, hk0, hj0, List.length_set]
    refine X_loop_inv (fun i => ⟨[(11, .ref 178 0 2 2), (12, .p (.int .i64 (i : Nat)))], [(178, .arr 22 1 [[.sl (encC raw)], [.sl (encC (dd.set k ⟨(q : Int), (dd.getD k dc0).line, (dd.getD k dc0).names, (dd.getD k dc0).nums⟩))]])], 215⟩) (fun i => i ≤ 2) (fun i => 2 - i) 0 (by omega) (Wk.forget (by simp [Le, LeE, LeH, get, envIds, hpIds, KeepH, D.ids, idsL, AO.ids, setL, base, encC_setx])) ?_
    rintro i m hi ih
    simp only [go_sem]
    cases c1 : decide ((i : Int) < 2)
    · simp only [go_sem, c1]
    obtain ⟨x, hx, hg⟩ : ∃ x, smallD x ∧ ([[.sl (encC raw)], [.sl (encC (dd.set k ⟨(q : Int), (dd.getD k dc0).line, (dd.getD k dc0).names, (dd.getD k dc0).nums⟩))]] : List (List Pd)).getD i [] = [.sl (encC x)] := by
      have : i = 0 ∨ i = 1 := by have := of_decide_eq_true c1; omega
      rcases this with rfl | rfl
      · exact ⟨raw, hr, rfl⟩
      · exact ⟨_, (smallD_set hDs (by exact mk)), rfl⟩
    have hi2 : (i : Int) < 2 := of_decide_eq_true c1
    have hi0 : (0 : Int) ≤ (i : Int) := by omega
    have hw := wrap_succ i (by omega)
    have hB := nbuild_vok x _ (nbuild_v_at x hx)
    have hC := rBuild_vok x _ (rbuild_at x hx)
    have hS := nb_small x hx
    generalize nbuildV x = R at hB hC hS
    have hE := sameNet_vok R.1 R.1 true (sameNet_self R.1 hS.1 hS.2.1.1 hS.2.1.2 hS.2.2.1 hS.2.2.2)
    simp only [go_sem, c1, Int.toNat_natCast, hg, hi2, hi0]
    refine Cc_of ((hB)) ?_
    rintro h' r ⟨rfl, rfl⟩
    simp only [go_sem, Int.toNat_natCast, hg, hi2, hi0]
    refine Cc_of ((hC)) ?_
    rintro h' r ⟨rfl, rfl⟩
    simp only [go_sem, beq_self_eq_true, decide_true]
    refine Cc_of ((hE)) ?_
    rintro h' r ⟨rfl, rfl⟩
    simp only [go_sem, hw]
    refine ih (i + 1) _ (by omega) (by omega) (Wk.forget (by simp [Le, LeE, LeH, get, envIds, hpIds, KeepH, D.ids, idsL, AO.ids, setL, base]))
  · refine Cc_of ((mk_Cut_vok _ _ _ hzv')) ?_
    rintro h' r ⟨rfl, rfl⟩
    simp only [go_sem, Int.toNat_natCast, encC_len, hgk, hgj, hk0, hj0, List.length_set]
    refine X_loop_inv (fun i => ⟨[(11, .ref 178 0 2 2), (12, .p (.int .i64 (i : Nat)))], [(178, .arr 22 1 [[.sl (encC raw)], [.sl (encC dd)]])], 215⟩) (fun i => i ≤ 2) (fun i => 2 - i) 0 (by omega) (Wk.forget (by simp [Le, LeE, LeH, get, envIds, hpIds, KeepH, D.ids, idsL, AO.ids, setL, base])) ?_
    rintro i m hi ih
    simp only [go_sem]
    cases c1 : decide ((i : Int) < 2)
    · simp only [go_sem, c1]
    obtain ⟨x, hx, hg⟩ : ∃ x, smallD x ∧ ([[.sl (encC raw)], [.sl (encC dd)]] : List (List Pd)).getD i [] = [.sl (encC x)] := by
      have : i = 0 ∨ i = 1 := by have := of_decide_eq_true c1; omega
      rcases this with rfl | rfl
      · exact ⟨raw, hr, rfl⟩
      · exact ⟨_, hDs, rfl⟩
    have hi2 : (i : Int) < 2 := of_decide_eq_true c1
    have hi0 : (0 : Int) ≤ (i : Int) := by omega
    have hw := wrap_succ i (by omega)
    have hB := nbuild_vok x _ (nbuild_v_at x hx)
    have hC := rBuild_vok x _ (rbuild_at x hx)
    have hS := nb_small x hx
    generalize nbuildV x = R at hB hC hS
    have hE := sameNet_vok R.1 R.1 true (sameNet_self R.1 hS.1 hS.2.1.1 hS.2.1.2 hS.2.2.1 hS.2.2.2)
    simp only [go_sem, c1, Int.toNat_natCast, hg, hi2, hi0]
    refine Cc_of ((hB)) ?_
    rintro h' r ⟨rfl, rfl⟩
    simp only [go_sem, Int.toNat_natCast, hg, hi2, hi0]
    refine Cc_of ((hC)) ?_
    rintro h' r ⟨rfl, rfl⟩
    simp only [go_sem, beq_self_eq_true, decide_true]
    refine Cc_of ((hE)) ?_
    rintro h' r ⟨rfl, rfl⟩
    simp only [go_sem, hw]
    refine ih (i + 1) _ (by omega) (by omega) (Wk.forget (by simp [Le, LeE, LeH, get, envIds, hpIds, KeepH, D.ids, idsL, AO.ids, setL, base]))
end Go.Am
end
