/- Texts of this proof, what it rests on, merged: part G. -/
import Derived.Test.YtacfhnpmlpaojaaSeF
section
namespace Go.Am
open Go Go.Proofs
set_option maxRecDepth 100000
set_option linter.unusedVariables false
set_option linter.unusedSimpArgs false
theorem add_blks {n : Nt} (hv : validN n) : ∀ k, k ≤ n.blocks.length → ∃ b, addsV Bdr.init ((n.blocks.take k).map blkD) = (none, b) ∧ BI b ∧ NI b ∧ b.bl = n.blocks.take k ∧ b.nx = List.replicate k [] ∧ b.sp = [] ∧ b.ba = [] ∧ b.pl = [] ∧ b.cf = false := by
  obtain ⟨hb, hs6, hnm, hr8, hcf, hsp, hrb, _⟩ := hv
  intro k
  induction k with
  | zero => intro _; exact ⟨Bdr.init, rfl, BI.init, NI.init, rfl, rfl, rfl, rfl, rfl, rfl⟩
  | succ k ih =>
    intro hk
    obtain ⟨b, h1, h2, h3, h4, h5, h6, h7, h8, h9⟩ := ih (by omega)
    have hx := (hb.2.2.2 k (by omega)).1
    have hlen : b.bl.length = k := by rw [h4]; simp; omega
    have hst := add_blk (x := n.blocks.getD k blk0) h3 (nms_blk hnm k (by omega)) hx
      (by
        rw [h4, List.map_take]
        have := nod_take (nod_blk hnm) k (by simp; omega)
        rwa [getD_map' Blk.name n.blocks k blk0 [] (by omega)] at this)
      (by rw [h6]; simp) (by have := hb.2.1; omega)
    have h10 := (addsV_app _ _ _ _ h1).trans (addsV_one hst)
    have e : (n.blocks.take (k + 1)).map blkD = (n.blocks.take k).map blkD ++ [blkD (n.blocks.getD k blk0)] := by rw [take_snoc n.blocks k blk0 (by omega), List.map_append]; rfl
    rw [← e] at h10
    have hBN := adds_BN _ _ _ (fun x hx => by obtain ⟨y, _, rfl⟩ := List.mem_map.1 hx; simp [blkD]) BI.init NI.init h10
    refine ⟨_, h10, hBN.1, hBN.2, ?_, ?_, h6, h7, h8, h9⟩
    · simp only; rw [h4, take_snoc n.blocks k blk0 (by omega)]
    · simp only; rw [h5, List.replicate_succ']
theorem nx_at (p : List (List Int)) (x : List Int) (q : List (List Int)) (i : Nat) (h : i = p.length) : (p ++ x :: q).getD i [] = x := by subst h; simp [List.getD]
theorem get_mb {n : Nt} (hnm : namesP n) {b : Bdr} (h3 : NI b) (hbl : b.bl = n.blocks) (i : Nat) (hi : i < n.blocks.length) : getS b.mb (n.blocks.getD i blk0).name = some (i : Int) := by
  rw [h3.mb, hbl]
  have := ixN_nodup (nod_blk hnm) i (by simpa using hi)
  rw [getD_map' Blk.name n.blocks i blk0 [] hi] at this
  rw [this]; rfl
theorem rowP_lt {nb i : Nat} {l : List Int} (h : rowP nb i l) : ∀ {k t : Nat}, t < k → k < l.length → l.getD t 0 < l.getD k 0 := by
  intro k
  induction k with
  | zero => intro t h; omega
  | succ k ih =>
    intro t ht hk
    have h1 := (h (k + 1) hk).2.2.2 (by omega)
    rw [show k + 1 - 1 = k by omega] at h1
    by_cases e : t = k
    · rw [e]; exact h1
    · have := ih (t := t) (by omega) (by omega); omega
theorem add_row {n : Nt} (hv : validN n) (i : Nat) (hi : i < n.blocks.length) (q : List (List Int)) : ∀ (k : Nat) (b : Bdr), BI b → NI b → b.bl = n.blocks → k ≤ (n.next.getD i []).length → b.nx = n.next.take i ++ (n.next.getD i []).take k :: q →
    addsV b (((n.next.getD i []).drop k).map (lanD n i)) = (none, { b with nx := n.next.take i ++ n.next.getD i [] :: q }) := by
  obtain ⟨hb, hs6, hnm, hr8, hcf, hsp, hrb, _⟩ := hv
  have hnl := hb.2.2.1
  obtain ⟨_, hl4, hrow⟩ := hb.2.2.2 i hi
  have hrs := hrow
  generalize hR : n.next.getD i [] = R at *
  have hti : (n.next.take i).length = i := by simp; omega
  intro k
  generalize hm : R.length - k = m
  induction m generalizing k with
  | zero =>
    intro b h2 h3 hbl hk hnx
    have : k = R.length := by omega
    subst this
    rw [List.drop_length, List.map_nil, List.take_length] at *
    simp only [addsV]
    rw [← hnx]
  | succ m ih =>
    intro b h2 h3 hbl hk hnx
    have hkl : k < R.length := by omega
    obtain ⟨a1, a2, a3, a4⟩ := hrow k hkl
    rw [List.drop_eq_getElem_cons hkl, List.map_cons]
    obtain ⟨j, hj⟩ : ∃ j : Nat, R.getD k 0 = (j : Int) := ⟨(R.getD k 0).toNat, by omega⟩
    have hj2 : R[k] = (j : Int) := by rw [← gde hkl]; exact hj
    have hjb : j < n.blocks.length := by omega
    have hx : b.nx.getD i [] = R.take k := by rw [hnx]; exact nx_at _ _ _ i hti.symm
    have hst := add_lan (b := b) (n := n) (i := i) (j := j) (nms_blk hnm i hi) (by unfold bnm; rw [Int.toNat_natCast]; exact nms_blk hnm j hjb) (get_mb hnm h3 hbl i hi) (by unfold bnm; rw [Int.toNat_natCast]; exact get_mb hnm h3 hbl j hjb)
      (by omega) (by
        rw [hx]; intro hmem
        obtain ⟨t, ht, he⟩ := List.mem_iff_getElem.1 hmem
        rw [List.getElem_take] at he
        have htk : t < k := by simp at ht; omega
        have := rowP_lt hrow htk hkl
        rw [gde (show t < R.length by omega), gde hkl] at this
        omega)
      (by rw [hx, List.length_take]; omega)
    rw [hj2]
    simp only [addsV, hst, if_true]
    have hset : b.nx.set i (b.nx.getD i [] ++ [(j : Int)]) = n.next.take i ++ R.take (k + 1) :: q := by
      rw [hx, hnx]
      have := set_mid (n.next.take i) q (R.take k) (R.take k ++ [(j : Int)])
      rw [hti] at this
      rw [this, take_snoc R k 0 hkl, hj]
    rw [hset]
    have hBN := adds_BN [lanD n i j] b _ (fun x hx => by rw [List.mem_singleton.1 hx]; simp [lanD]) h2 h3 (addsV_one hst)
    rw [hset] at hBN
    exact ih (k + 1) (by omega) { b with nx := n.next.take i ++ R.take (k + 1) :: q } hBN.1 hBN.2 hbl (by omega) rfl
theorem lanL_sml (n : Nt) (i : Nat) : ∀ x ∈ lanL n i, x.names.length ≤ 10 ∧ x.nums.length ≤ 10 := by
  intro x hx
  obtain ⟨y, _, rfl⟩ := List.mem_map.1 hx; simp [lanD]
theorem add_lans {n : Nt} (hv : validN n) {b : Bdr} (h2 : BI b) (h3 : NI b) (hbl : b.bl = n.blocks) (hnx : b.nx = List.replicate n.blocks.length []) : ∀ i, i ≤ n.blocks.length →
    addsV b (desc2 n i) = (none, { b with nx := n.next.take i ++ List.replicate (n.blocks.length - i) [] }) := by
  have hnl := hv.1.2.2.1
  intro i
  induction i with
  | zero => intro _; simp only [desc2, List.range_zero, List.flatMap_nil, addsV, List.take_zero, List.nil_append, Nat.sub_zero, ← hnx]
  | succ i ih =>
    intro hi
    have h1 := ih (by omega)
    have hsm : ∀ x ∈ desc2 n i, x.names.length ≤ 10 ∧ x.nums.length ≤ 10 := by
      intro x hx
      obtain ⟨y, _, hy⟩ := List.mem_flatMap.1 hx
      exact lanL_sml n y x hy
    obtain ⟨hB, hN⟩ := adds_BN _ _ _ hsm h2 h3 h1
    rw [desc2_succ, addsV_app _ _ _ _ h1]
    have hrep : List.replicate (n.blocks.length - i) ([] : List Int) = [] :: List.replicate (n.blocks.length - (i + 1)) [] := by
      rw [show n.blocks.length - i = (n.blocks.length - (i + 1)) + 1 by omega, List.replicate_succ]
    rw [hrep] at hB hN ⊢
    have := add_row hv i (by omega) (List.replicate (n.blocks.length - (i + 1)) []) 0 _ hB hN hbl (Nat.zero_le _) (by simp)
    rw [List.drop_zero] at this
    rw [lanL, this, take_snoc n.next i [] (by omega), List.append_assoc]; rfl
theorem add_spurs {n : Nt} (hv : validN n) {b0 : Bdr} (hB0 : BI b0) (hN0 : NI b0) (hbl : b0.bl = n.blocks) (hsp0 : b0.sp = []) : ∀ k, k ≤ n.spurs.length →
    ∃ b, addsV b0 ((n.spurs.take k).map (sprD n)) = (none, b) ∧ BI b ∧ NI b ∧ b.bl = b0.bl ∧ b.nx = b0.nx ∧ b.sp = (n.spurs.take k).map base0 ∧ b.pl = b0.pl ∧ b.cf = b0.cf := by
  obtain ⟨hb, hs6, hnm, hr8, hcf, hsp, hrb, _⟩ := hv
  intro k
  induction k with
  | zero => intro _; exact ⟨b0, rfl, hB0, hN0, rfl, rfl, by simpa using hsp0, rfl, rfl⟩
  | succ k ih =>
    intro hk
    obtain ⟨b, h1, h2, h3, h4, h5, h6, h7, h8⟩ := ih (by omega)
    obtain ⟨x, y, hx, hxb, hy, hyb⟩ := spur_blk hsp (show k < n.spurs.length by omega)
    obtain ⟨_, _, _, _, s1, s2, _⟩ := hsp k (by omega)
    have hbn : ∀ z : Nat, bnm n (z : Int) = (n.blocks.getD z blk0).name := fun z => by unfold bnm; rw [Int.toNat_natCast]
    have hnsp : (n.spurs.getD k spr0).name ∉ b.sp.map Spr.name := by
      have e : b.sp.map Spr.name = (n.spurs.map Spr.name).take k := by
        rw [h6, List.map_map, List.map_take]; rfl
      rw [e]
      have := nod_take (nod_spr hnm) k (by simp; omega)
      rwa [getD_map' Spr.name n.spurs k spr0 [] (by omega)] at this
    have hnbl : (n.spurs.getD k spr0).name ∉ b.bl.map Blk.name := fun hm => by
      rw [h4, hbl] at hm
      exact nod_x hnm hm (List.mem_map.2 ⟨_, getD_mem n.spurs k spr0 (by omega), rfl⟩)
    have hst := add_spr (b := b) h3 (n := n) (s := n.spurs.getD k spr0) (i := x) (j := y) (nms_spr hnm k (by omega)) (by rw [hx, hbn]; exact nms_blk hnm x hxb) (by rw [hy, hbn]; exact nms_blk hnm y hyb) hx hy
      (by rw [hx, hbn]; exact get_mb hnm h3 (h4.trans hbl) x hxb) (by rw [hy, hbn]; exact get_mb hnm h3 (h4.trans hbl) y hyb) hnbl hnsp ⟨s1, s2⟩ (by rw [h6]; simp; omega)
    have h10 := (addsV_app _ _ _ _ h1).trans (addsV_one hst)
    have e : (n.spurs.take (k + 1)).map (sprD n) = (n.spurs.take k).map (sprD n) ++ [sprD n (n.spurs.getD k spr0)] := by rw [take_snoc n.spurs k spr0 (by omega), List.map_append]; rfl
    rw [← e] at h10
    have hBN := adds_BN _ _ _ (fun x hx => by obtain ⟨y, _, rfl⟩ := List.mem_map.1 hx; simp [sprD]) hB0 hN0 h10
    refine ⟨_, h10, hBN.1, hBN.2, h4, h5, ?_, h7, h8⟩
    simp only; rw [h6, take_snoc n.spurs k spr0 (by omega), List.map_append]; rfl
def plOf (sp : List Spr) (r : Int) : Int × Int := match sp.findIdx? (inS r) with
  | some j => ((j : Int), r - (sp.getD j spr0).base + 1)
  | none => (0, 0)
theorem plOf_at {nb : Nat} {sp : List Spr} (hsp : spursP nb sp) {rb : List Int} (hr : robotsP sp rb) {k : Nat} (hk : k < rb.length) :
    ∃ j, j < sp.length ∧ inS (rb.getD k 0) (sp.getD j spr0) = true ∧ (sp.getD j spr0).depot = true ∧ sp.filter (inS (rb.getD k 0)) = [sp.getD j spr0] ∧ plOf sp (rb.getD k 0) = ((j : Int), rb.getD k 0 - (sp.getD j spr0).base + 1) := by
  obtain ⟨j, hj, h1, h2, h3⟩ := rob_spur hsp hr hk
  refine ⟨j, hj, h1, h2, h3, ?_⟩
  unfold plOf
  cases c : sp.findIdx? (inS (rb.getD k 0)) with
  | none =>
    rw [List.findIdx?_eq_none_iff] at c
    have := c _ (getD_mem sp j spr0 hj)
    rw [h1] at this; cases this
  | some i =>
    obtain ⟨hi, hi2, _⟩ := List.findIdx?_eq_some_iff_getElem.1 c
    have := inS_one hsp hi hj (by rw [gde hi]; exact hi2) h1
    rw [this]
theorem get_ms {n : Nt} (hnm : namesP n) {b : Bdr} (h3 : NI b) (hsp : b.sp = n.spurs.map base0) (i : Nat) (hi : i < n.spurs.length) : getS b.ms (n.spurs.getD i spr0).name = some (i : Int) := by
  have e : b.sp.map Spr.name = n.spurs.map Spr.name := by rw [hsp, List.map_map]; rfl
  rw [h3.ms, e]
  have := ixN_nodup (nod_spr hnm) i (by simpa using hi)
  rw [getD_map' Spr.name n.spurs i spr0 [] hi] at this
  rw [this]; rfl
theorem add_robs {n : Nt} (hv : validN n) {b : Bdr} (hB0 : BI b) (hN0 : NI b) (hsp0 : b.sp = n.spurs.map base0) (hpl : b.pl = []) : ∀ k, k ≤ n.robots.length →
    addsV b (desc4 n k) = (none, { b with pl := (n.robots.take k).map (plOf n.spurs) }) := by
  obtain ⟨hb, hs6, hnm, hr8, hcf, hsp, hrb, _⟩ := hv
  intro k
  induction k with
  | zero => intro _; simp only [desc4, List.take_zero, List.flatMap_nil, addsV, List.map_nil, ← hpl]
  | succ k ih =>
    intro hk
    have h1 := ih (by omega)
    obtain ⟨j, hj, i1, i2, i3, i4⟩ := plOf_at hsp hrb (show k < n.robots.length by omega)
    obtain ⟨_, _, _, _, s1, s2, _⟩ := hsp j hj
    have hg : b.sp.getD j spr0 = base0 (n.spurs.getD j spr0) := by rw [hsp0]; exact getD_map' base0 n.spurs j spr0 spr0 hj
    have hst := add_rob (b := { b with pl := (n.robots.take k).map (plOf n.spurs) }) (r := n.robots.getD k 0) (s := n.spurs.getD j spr0) (j := j) (nms_spr hnm j hj) (get_ms hnm hN0 hsp0 j hj) (by simp only; rw [hg]; exact i2) (by simp only; rw [hg]; rfl) i1 s2
      (by
        simp only
        intro hmem
        obtain ⟨r, hr, he⟩ := List.mem_map.1 hmem
        obtain ⟨t, ht, rfl⟩ := List.mem_iff_getElem.1 hr
        rw [List.getElem_take] at he hr
        have htk : t < k := by simp at ht; omega
        obtain ⟨j2, hj2, l1, l2, l3, l4⟩ := plOf_at hsp hrb (show t < n.robots.length by omega)
        rw [gde (show t < n.robots.length by omega)] at l4 l1
        rw [l4, Prod.mk.injEq] at he
        have : j2 = j := by omega
        subst this
        have hnot := (hrb k (by omega)).2
        apply hnot
        have : n.robots.getD k 0 = n.robots[t] := by omega
        rw [this]
        exact hr)
      (by simp only [List.length_map, List.length_take]; omega)
    rw [desc4_succ n k (by omega), addsV_app _ _ _ _ h1, robL, List.take_length, i3]
    show addsV _ [robD _ _] = _
    rw [addsV_one hst]
    simp only
    rw [take_snoc n.robots k 0 (by omega), List.map_append]
    simp only [List.map_cons, List.map_nil, i4]
theorem sortV_id : ∀ (l p : List Int), (p ++ l).Pairwise (· ≤ ·) → l.foldl insS p = p ++ l
  | [], p, _ => by simp
  | x :: r, p, h => by
    have hx : insS p x = p ++ [x] := by
      rcases List.eq_nil_or_concat p with rfl | ⟨q, y, rfl⟩
      · rfl
      · rw [List.concat_eq_append] at h ⊢
        have h2 : (q ++ [y]).Pairwise (· ≤ ·) := (List.pairwise_append.1 h).1
        have h3 : y ≤ x := (List.pairwise_append.1 h).2.2 y (by simp) x (by simp)
        rw [insS_snoc_ge q y x h2 (by omega)]; simp
    simp only [List.foldl_cons]
    rw [hx, sortV_id r (p ++ [x]) (by rw [List.append_assoc]; exact h), List.append_assoc]; rfl
theorem row_id {nb i : Nat} {l : List Int} (h : rowP nb i l) : sortV l = l := by
  have : l.Pairwise (· ≤ ·) := by
    rw [List.pairwise_iff_getElem]
    intro t k ht hk htk
    have := rowP_lt h htk hk
    rw [gde ht, gde hk] at this
    omega
  simpa [sortV] using sortV_id l [] (by simpa using this)
theorem sumS_base0 (l : List Spr) (k : Nat) : sumS ((l.map base0).take k) = sumS (l.take k) := by
  induction l generalizing k with
  | nil => simp
  | cons s r ih => cases k with
    | zero => simp
    | succ k => simp only [List.map_cons, List.take_succ_cons, sumS, ih]; rfl
theorem back_adds {n : Nt} (hv : validN n) : ∃ b, addsV Bdr.init (descV n) = (none, b) ∧ BI b ∧ NI b ∧ b.net = n ∧ b.bl = n.blocks ∧ b.sp = n.spurs.map base0 ∧ b.cf = true := by
  have hv0 := hv
  obtain ⟨hb, hs6, hnm, hr8, hcf, hsp, hrb, _⟩ := hv
  have hnl := hb.2.2.1
  obtain ⟨b1, a1, a2, a3, a4, a5, a6, a7, a8, a9⟩ := add_blks hv0 n.blocks.length (Nat.le_refl _)
  rw [List.take_length] at a1 a4
  have c1 := add_lans hv0 a2 a3 a4 a5 n.blocks.length (Nat.le_refl _)
  have hsm2 : ∀ x ∈ desc2 n n.blocks.length, x.names.length ≤ 10 ∧ x.nums.length ≤ 10 := by
    intro x hx
    obtain ⟨y, _, hy⟩ := List.mem_flatMap.1 hx
    exact lanL_sml n y x hy
  obtain ⟨c2, c3⟩ := adds_BN _ _ _ hsm2 a2 a3 c1
  have ht : n.next.take n.blocks.length = n.next := by rw [← hnl, List.take_length]
  rw [Nat.sub_self, List.replicate_zero, List.append_nil, ht] at c1 c2 c3
  obtain ⟨b3, d1, d2, d3, d4, d5, d6, d7, d8⟩ := add_spurs hv0 c2 c3 a4 a6 n.spurs.length (Nat.le_refl _)
  rw [List.take_length] at d1 d6
  have e1 := add_robs hv0 d2 d3 d6 (d7.trans a8) n.robots.length (Nat.le_refl _)
  rw [List.take_length] at e1
  have hsm4 : ∀ x ∈ desc4 n n.robots.length, x.names.length ≤ 10 ∧ x.nums.length ≤ 10 := by
    intro x hx
    obtain ⟨i, _, hx⟩ := List.mem_flatMap.1 hx
    obtain ⟨b, _, rfl⟩ := List.mem_map.1 hx; simp [robD]
  obtain ⟨e2, e3⟩ := adds_BN _ _ _ hsm4 d2 d3 e1
  have f1 := addsV_one (add_cfg (b := { b3 with pl := n.robots.map (plOf n.spurs) }) hcf (d8.trans a9))
  have e0 := (addsV_app _ _ _ _ a1).trans ((addsV_app _ _ _ _ c1).trans ((addsV_app _ _ _ _ d1).trans ((addsV_app _ _ _ _ e1).trans f1)))
  have ee : desc0 n = n.blocks.map blkD ++ (desc2 n n.blocks.length ++ (n.spurs.map (sprD n) ++ (desc4 n n.robots.length ++ [⟨6, 0, [], [n.cq, n.ca, n.cd, n.cp]⟩]))) := by simp only [desc0, desc1, desc3, List.append_assoc]
  rw [← ee] at e0
  obtain ⟨f2, f3⟩ := adds_BN _ _ _ (fun x hx => by rw [List.mem_singleton.1 hx]; simp) e2 e3 f1
  refine ⟨_, addsV_num _ 0 _ _ e0, f2, f3, ?_, d4.trans a4, d6, rfl⟩
  have g1 : (spB b3.bl.length b3.sp b3.ba) = n.spurs := by
    apply List.ext_getElem (by rw [spB_len _ _ _ d2.nba, d6]; simp)
    intro i h1 h2
    rw [← gde (x := spr0) h1, ← gde (x := spr0) h2]
    have hi : i < b3.sp.length := by rw [d6]; simpa using h2
    rw [spB_get _ _ _ d2.nba i hi, d3.ba i hi, d6, sumS_base0, getD_map' base0 n.spurs i spr0 spr0 h2]
    have := (hsp i h2).2.2.2.2.2.2
    rw [d4, a4, ← this]
    rfl
  have g2 : (n.robots.map (plOf n.spurs)).map (plB n.spurs) = n.robots := by
    rw [List.map_map]
    apply List.ext_getElem (by simp)
    intro i h1 h2
    obtain ⟨j, hj, i1, i2, i3, i4⟩ := plOf_at hsp hrb h2
    rw [gde h2] at i4
    rw [List.getElem_map]
    show plB n.spurs (plOf n.spurs n.robots[i]) = _
    rw [i4, plB]
    simp only [Int.toNat_natCast]
    omega
  have g3 : n.next.map sortV = n.next := by
    apply List.ext_getElem (by simp)
    intro i h1 h2
    rw [List.getElem_map]
    have := (hb.2.2.2 i (by omega)).2.2
    rw [gde h2] at this
    exact row_id this
  unfold Bdr.net
  simp only
  rw [g1, g2, d5]
  simp only
  rw [g3, d4, a4]
end Go.Am
end
section
namespace Go.Am
open Go Go.Proofs
set_option maxRecDepth 100000
set_option maxHeartbeats 2000000
set_option linter.unusedSimpArgs false
set_option linter.unusedVariables false
noncomputable def known03_v  : Option (Bool) :=
  Option.bind example03_v fun x1 => Option.bind (nbuild_v x1) fun (x3, x4, x5) => cond (decide (x5 = 0)) (cond (decide (x4 = 0)) (cond (decide (((x3.blocks.length : Nat) : Int) = 2)) (Option.bind (mk_SameLists_v x3.next [[1], [0]]) fun x10 => cond x10 (cond (decide (((x3.spurs.length : Nat) : Int) = 1)) (Option.bind (idxO x3.spurs 0) fun x14 => cond (decide (x14.base = 2)) (Option.bind (mk_SameInts_v x3.robots [3]) fun x19 => cond x19 (cond (decide (x3.cq = 4) && (decide (x3.ca = 2) && (decide (x3.cd = 1) && decide (x3.cp = 8)))) (Option.bind (netmap_Valid_v (⟨x3.blocks, x3.next, x3.spurs, x3.robots, x3.cq, x3.ca, x3.cd, x3.cp⟩ : Nt)) fun x23 => some x23) (some false)) (some false)) (some false)) (some false)) (some false)) (some false)) (some false)) (some false)
theorem known03_vok  (r : Bool) (hr : known03_v  = some r) :
    ACalls Try.prog 23 [] [] fun h d => h = [] ∧ d = .p (.bool r) := by
  refine ACalls_X Try.func23 rfl enters23 (by simp [Try.f23]) ?_
  unfold known03_v at hr
  rcases g2 : example03_v with _ | x1
  · simp only [g2, Option.bind_none, reduceCtorEq] at hr
  simp only [g2, Option.bind_some] at hr
  try simp only [go_sem]
  refine Cc_of (example03_vok  _ g2) ?_
  rintro h' r ⟨rfl, rfl⟩
  rcases g6 : nbuild_v x1 with _ | ⟨x3, x4, x5⟩
  · simp only [g6, Option.bind_none, reduceCtorEq] at hr
  simp only [g6, Option.bind_some] at hr
  try simp only [go_sem]
  refine Cc_of (nbuild_vok x1 _ g6) ?_
  rintro h' r ⟨rfl, rfl⟩
  cases c7 : decide (x5 = 0)
  · simp only [c7, cond_false] at hr
    obtain rfl := Option.some.inj hr
    try simp only [go_sem, c7]
    all_goals (try refine end_pure ?_)
    all_goals (try simp only [go_sem, c7])
    all_goals (try (first | rfl | exact ⟨rfl, rfl⟩ | (simp; done)))
  simp only [c7, cond_true] at hr
  cases c8 : decide (x4 = 0)
  · simp only [c8, cond_false] at hr
    obtain rfl := Option.some.inj hr
    try simp only [go_sem, c7, c8]
    all_goals (try refine end_pure ?_)
    all_goals (try simp only [go_sem, c7, c8])
    all_goals (try (first | rfl | exact ⟨rfl, rfl⟩ | (simp; done)))
  simp only [c8, cond_true] at hr
  cases c9 : decide (((x3.blocks.length : Nat) : Int) = 2)
  · simp only [c9, cond_false] at hr
    obtain rfl := Option.some.inj hr
    try simp only [go_sem, c7, c8, c9]
    all_goals (try refine end_pure ?_)
    all_goals (try simp only [go_sem, c7, c8, c9])
    all_goals (try (first | rfl | exact ⟨rfl, rfl⟩ | (simp; done)))
  simp only [c9, cond_true] at hr
  rcases g11 : mk_SameLists_v x3.next [[1], [0]] with _ | x10
  · simp only [g11, Option.bind_none, reduceCtorEq] at hr
  simp only [g11, Option.bind_some] at hr
  try simp only [go_sem, c7, c8, c9]
  refine Cc_bor rfl rfl (mk_SameLists_vok x3.next [[1], [0]] _ g11) (by simp [BorL, Bor, ev, get, List.take_of_length_le, encI_takeF, encS_takeF, encT_takeF, encG_takeF, encC_takeF, encL_takeF, encK_takeF, encP_takeF, encI_len, encS_len, encT_len2, encG_len2, encC_len, encL_len, encK_len2, encP_len2, encI_nil, encS_nil, encT_nil, encG_nil, encC_nil, encL_nil, encK_nil, encP_nil] <;> rfl) ?_
  rintro h' r ⟨rfl, rfl⟩
  refine ⟨rfl, rfl, ?_⟩
  cases c12 : x10
  · simp only [c12, cond_false] at hr
    obtain rfl := Option.some.inj hr
    try simp only [go_sem, c7, c8, c9, c12]
    all_goals (try refine end_pure ?_)
    all_goals (try simp only [go_sem, c7, c8, c9, c12])
    all_goals (try (first | rfl | exact ⟨rfl, rfl⟩ | (simp; done)))
  simp only [c12, cond_true] at hr
  cases c13 : decide (((x3.spurs.length : Nat) : Int) = 1)
  · simp only [c13, cond_false] at hr
    obtain rfl := Option.some.inj hr
    try simp only [go_sem, c7, c8, c9, c12, c13]
    all_goals (try refine end_pure ?_)
    all_goals (try simp only [go_sem, c7, c8, c9, c12, c13])
    all_goals (try (first | rfl | exact ⟨rfl, rfl⟩ | (simp; done)))
  simp only [c13, cond_true] at hr
  rcases g15 : idxO x3.spurs 0 with _ | x14
  · simp only [g15, Option.bind_none, reduceCtorEq] at hr
  simp only [g15, Option.bind_some] at hr
  have f16 := idxO_rng g15
  have f17 : (encP x3.spurs).getD 0 [] = [(.str x14.name), (.bool x14.depot), (.int .i64 x14.inn), (.int .i64 x14.out), (.int .i64 x14.slots), (.int .i64 x14.base)] := idxO_map _ g15
  cases c18 : decide (x14.base = 2)
  · simp only [c18, cond_false] at hr
    obtain rfl := Option.some.inj hr
    try simp only [go_sem, c7, c8, c9, c12, c13, f16, f17, c18]
    all_goals (try refine end_pure ?_)
    all_goals (try simp only [go_sem, c7, c8, c9, c12, c13, f16, f17, c18])
    all_goals (try (first | rfl | exact ⟨rfl, rfl⟩ | (simp; done)))
  simp only [c18, cond_true] at hr
  rcases g20 : mk_SameInts_v x3.robots [3] with _ | x19
  · simp only [g20, Option.bind_none, reduceCtorEq] at hr
  simp only [g20, Option.bind_some] at hr
  try simp only [go_sem, c7, c8, c9, c12, c13, f16, f17, c18]
  refine Cc_bor rfl rfl (mk_SameInts_vok x3.robots [3] _ g20) (by simp [BorL, Bor, ev, get, List.take_of_length_le, encI_takeF, encS_takeF, encT_takeF, encG_takeF, encC_takeF, encL_takeF, encK_takeF, encP_takeF, encI_len, encS_len, encT_len2, encG_len2, encC_len, encL_len, encK_len2, encP_len2, encI_nil, encS_nil, encT_nil, encG_nil, encC_nil, encL_nil, encK_nil, encP_nil] <;> rfl) ?_
  rintro h' r ⟨rfl, rfl⟩
  refine ⟨rfl, rfl, ?_⟩
  cases c21 : x19
  · simp only [c21, cond_false] at hr
    obtain rfl := Option.some.inj hr
    try simp only [go_sem, c7, c8, c9, c12, c13, f16, f17, c18, c21]
    all_goals (try refine end_pure ?_)
    all_goals (try simp only [go_sem, c7, c8, c9, c12, c13, f16, f17, c18, c21])
    all_goals (try (first | rfl | exact ⟨rfl, rfl⟩ | (simp; done)))
  simp only [c21, cond_true] at hr
  cases c22 : decide (x3.cq = 4) && (decide (x3.ca = 2) && (decide (x3.cd = 1) && decide (x3.cp = 8)))
  · simp only [c22, cond_false] at hr
    obtain rfl := Option.some.inj hr
    try simp only [go_sem, c7, c8, c9, c12, c13, f16, f17, c18, c21, c22]
    all_goals (try refine end_pure ?_)
    all_goals (try simp only [go_sem, c7, c8, c9, c12, c13, f16, f17, c18, c21, c22])
    all_goals (try (first | rfl | exact ⟨rfl, rfl⟩ | (simp; done)))
  simp only [c22, cond_true] at hr
  rcases g24 : netmap_Valid_v (⟨x3.blocks, x3.next, x3.spurs, x3.robots, x3.cq, x3.ca, x3.cd, x3.cp⟩ : Nt) with _ | x23
  · simp only [g24, Option.bind_none, reduceCtorEq] at hr
  simp only [g24, Option.bind_some] at hr
  try simp only [go_sem, c7, c8, c9, c12, c13, f16, f17, c18, c21, c22]
  refine Cc_of (netmap_Valid_vok (⟨x3.blocks, x3.next, x3.spurs, x3.robots, x3.cq, x3.ca, x3.cd, x3.cp⟩ : Nt) _ g24) ?_
  rintro h' r ⟨rfl, rfl⟩
  obtain rfl := Option.some.inj hr
  try simp only [go_sem, c7, c8, c9, c12, c13, f16, f17, c18, c21, c22]
  all_goals (try refine end_pure ?_)
  all_goals (try simp only [go_sem, c7, c8, c9, c12, c13, f16, f17, c18, c21, c22])
  all_goals (try (first | rfl | exact ⟨rfl, rfl⟩ | (simp; done)))
end Go.Am
end
section
namespace Go.Am
open Go Go.Proofs
set_option maxRecDepth 100000
set_option linter.unusedVariables false
set_option linter.unusedSimpArgs false
def exD : List Dc := [⟨1, 1, [[97]], [0, 0]⟩, ⟨1, 2, [[98]], [1, 0]⟩, ⟨2, 3, [[97], [98], [97]], []⟩, ⟨4, 4, [[100], [97], [98]], [2]⟩, ⟨5, 5, [[100]], [2]⟩]
def exN : Nt := ⟨[⟨[97], 0, 0⟩, ⟨[98], 1, 0⟩], [[1], [0]], [⟨[100], true, 0, 1, 2, 2⟩], [3], 4, 2, 1, 8⟩
theorem exD_small : smallD exD := by
  refine ⟨by decide, fun x hx => ?_⟩
  simp only [exD, List.mem_cons, List.not_mem_nil, or_false] at hx
  rcases hx with rfl | rfl | rfl | rfl | rfl <;> decide
theorem ex_build : nbuildV exD = (exN, 0, 0) := by kernel_rfl
theorem exN_valid : validN exN := by
  have := build_valid exD exD_small (by rw [ex_build])
  rwa [ex_build] at this
theorem example_v : example03_v = some exD := rfl
theorem known03_true : known03_v = some true := by
  unfold known03_v
  rw [example_v, Option.bind_some, nbuild_v_at _ exD_small, ex_build, Option.bind_some]
  simp only [decide_true, cond_true]
  rw [show (decide (((exN.blocks.length : Nat) : Int) = 2)) = true from rfl, cond_true, show exN.next = [[1], [0]] from rfl, sameLists_self _ (by decide) (by simp), Option.bind_some, cond_true,
    show (decide (((exN.spurs.length : Nat) : Int) = 1)) = true from rfl, cond_true, show idxO exN.spurs 0 = some ⟨[100], true, 0, 1, 2, 2⟩ from rfl, Option.bind_some]
  simp only [decide_true, cond_true]
  rw [show exN.robots = [3] from rfl, sameInts_self _ (by decide), Option.bind_some, cond_true]
  have e : netmap_Valid_v exN = some true := by rw [nvalid_v exN (validN_small exN_valid), decide_eq_true exN_valid]
  rw [show (decide (exN.cq = 4) && (decide (exN.ca = 2) && (decide (exN.cd = 1) && decide (exN.cp = 8)))) = true from rfl, cond_true]
  show Option.bind (netmap_Valid_v exN) _ = _
  rw [e, Option.bind_some]
theorem known03_ok : ACalls Try.prog 23 [] [] fun h d => h = [] ∧ d = .p (.bool true) := known03_vok true known03_true
end Go.Am
end
section
namespace Go.Am
open Go Go.Proofs
set_option maxRecDepth 100000
set_option maxHeartbeats 2000000
set_option linter.unusedSimpArgs false
set_option linter.unusedVariables false
end Go.Am
end
section
namespace Go.Am
open Go Go.Proofs
set_option maxRecDepth 100000
set_option maxHeartbeats 2000000
set_option linter.unusedSimpArgs false
set_option linter.unusedVariables false
end Go.Am
end
section
namespace Go.Am
open Go Go.Proofs
set_option maxRecDepth 100000
set_option linter.unusedVariables false
set_option linter.unusedSimpArgs false
theorem mk_cut (a : Int) (n : Nat) (h1 : 1 ≤ n) (h2 : n ≤ 10000000) : ∃ k : Nat, k < n ∧ mk_Cut_v a (n : Int) = some (k : Int) := by
  unfold mk_Cut_v
  by_cases c1 : (n : Int) ≤ 1
  · rw [decide_eq_true c1, cond_true]; exact ⟨0, by omega, rfl⟩
  · rw [decide_eq_false c1, cond_false, decide_eq_true (show ¬ (n : Int) = 0 by omega), cond_true]
    have h3 := Int.tmod_lt_of_pos a (show (0 : Int) < n by omega)
    have h4 : -(n : Int) < Int.tmod a n := by
      have := Int.lt_tmod_of_pos a (show (0 : Int) < n by omega)
      exact this
    by_cases c2 : Int.tmod a n < 0
    · rw [decide_eq_true c2, cond_true, wrap_i64_id (by omega) (by omega)]
      exact ⟨(Int.tmod a n + n).toNat, by omega, by congr 1; omega⟩
    · rw [decide_eq_false c2, cond_false]
      exact ⟨(Int.tmod a n).toNat, by omega, by congr 1; omega⟩
theorem descV_sml {n : Nt} (hv : validN n) : smallD (descV n) := by
  obtain ⟨h1, h2⟩ := descV_len n hv
  exact ⟨by omega, fun x hx => by have := h2 x hx; omega⟩
end Go.Am
end
section
namespace Go.Am
open Go Go.Proofs
set_option maxRecDepth 100000
set_option linter.unusedVariables false
set_option linter.unusedSimpArgs false
theorem encC_consE (x : Dc) (l : List Dc) : encC (x :: l) = [.int .i64 x.word, .int .i64 x.line, .sl (encS x.names), .sl (encI x.nums)] :: encC l := rfl
def NetQ (n : Nt) (l : List Int) (a : Int) : Prop := NetP n
theorem net6 (l : List Int) : ACalls Try.prog 37 [.ptr 1000000 0, .p (.int .i64 6)] [(1000000, .box [.p (.sl (encI l)), .p (.int .i64 0)])]
    fun h r => ∃ (n : Nt) (l' : List Int) (a : Int), NetQ n l' a ∧ h = [(1000000, .box [.p (.sl (encI l')), .p (.int .i64 a)])] ∧ r = .agg [.p (.sl (encK n.blocks)), .p (.sl (encG n.next)), .p (.sl (encP n.spurs)), .p (.sl (encI n.robots)), .p (.int .i64 n.cq), .p (.int .i64 n.ca), .p (.int .i64 n.cd), .p (.int .i64 n.cp)] :=
  (net_ok l 0 6 (by omega) (by omega) (by omega)).mono fun h r ⟨a, n, _, hq, h1, h2⟩ => ⟨n, l, (a : Int), hq, h1, h2⟩
end Go.Am
end
section
namespace Go.Am
open Go Go.Proofs
set_option maxRecDepth 100000
set_option maxHeartbeats 2000000
set_option linter.unusedSimpArgs false
set_option linter.unusedVariables false
theorem ndescribe_vown (a0 : Nt) (r : (List Dc) × Int) (hr : ndescribe_v a0 = some r) (he : r.2 = 0) :
    ACalls Try.prog 33 [.agg [.p (.sl (encK a0.blocks)), .p (.sl (encG a0.next)), .p (.sl (encP a0.spurs)), .p (.sl (encI a0.robots)), .p (.int .i64 a0.cq), .p (.int .i64 a0.ca), .p (.int .i64 a0.cd), .p (.int .i64 a0.cp)]] [] fun h d => h = [(0, .arr 54 4 (encC r.1))] ∧ d = .tup [.ref 0 0 r.1.length r.1.length, .p (.int .i64 r.2)] := by
  refine ACalls_X Try.func33 rfl enters33 (by simp [Try.f33]) ?_
  unfold ndescribe_v at hr
  rcases g2 : netmap_Valid_v (⟨a0.blocks, a0.next, a0.spurs, a0.robots, a0.cq, a0.ca, a0.cd, a0.cp⟩ : Nt) with _ | x1
  · simp only [g2, Option.bind_none, reduceCtorEq] at hr
  simp only [g2, Option.bind_some] at hr
  try simp only [go_sem]
  refine Cc_of (netmap_Valid_vok (⟨a0.blocks, a0.next, a0.spurs, a0.robots, a0.cq, a0.ca, a0.cd, a0.cp⟩ : Nt) _ g2) ?_
  rintro h' r ⟨rfl, rfl⟩
  cases c3 : x1
  · simp only [c3, cond_false] at hr
    obtain rfl := Option.some.inj hr
    exact absurd he (by decide)
  simp only [c3, cond_true] at hr
  rcases g12 : loopO (ndescribe_L5 a0) ([], 0) with _ | e11
  · simp only [g12, Option.bind_none, reduceCtorEq] at hr
  simp only [g12, Option.bind_some] at hr
  try simp only [go_sem, c3]
  refine X_loopO g12 (fun q : (List Dc) × Int => ⟨[(1, .ptr 1 0), (4, .ptr 4 0), (5, .fn 58 [.ptr 4 0]), (24, .p (.sl (encK a0.blocks))), (25, .p (.int .i64 ((a0.blocks.length : Nat) : Int))), (26, .p (.int .i64 q.2))], [(1, .box [.p (.sl (encK a0.blocks)), .p (.sl (encG a0.next)), .p (.sl (encP a0.spurs)), .p (.sl (encI a0.robots)), .p (.int .i64 a0.cq), .p (.int .i64 a0.ca), .p (.int .i64 a0.cd), .p (.int .i64 a0.cp)]), (4, .box [.ref 504000 0 q.1.length q.1.length]), (504000, .arr 54 4 (encC q.1))], 150⟩) ((Wk.nilBox (id := 4) (j := 0) (q := 504000) (sz := 4) 54 rfl rfl rfl (by decide)).trans ((Wk.forget (by simp [Le, LeE, LeH, get, envIds, hpIds, KeepH, D.ids, idsL, AO.ids, setL, base, encI_nil, encS_nil, encT_nil, encG_nil, encC_nil, encL_nil, encK_nil, encP_nil, mpS_nil, mpB_nil, encI_consE, encS_consE, encT_consE, encG_consE, encI_one, encS_one, encT_one, encI_snoc, encS_snoc, encT_snocE, encG_snocE, encC_snoc, encL_snoc, encK_snocE, encP_snocE, encI_set, encS_set, encT_setE, encG_setE, encC_setE, encK_setE, encP_setE, encI_len, encS_len, encT_len2, encG_len2, encC_len, encL_len, encK_len2, encP_len2, encC_nil, encC_consE, c3])))) ?_
  rintro ⟨v6, v7⟩ m10 hh8 ih9
  rw [ndescribe_L5_eq] at hh8
  cases c13 : decide (v7 < ((a0.blocks.length : Nat) : Int))
  · simp only [c13, cond_false] at hh8
    simp only [Option.bind_some, nextO_inr] at hh8
    obtain rfl := Option.some.inj hh8
    try dsimp only at hr
    rcases g22 : loopO (ndescribe_L4 a0) (v6, 0) with _ | e21
    · simp only [g22, Option.bind_none, reduceCtorEq] at hr
    simp only [g22, Option.bind_some] at hr
    try simp only [go_sem, c3, c13]
    refine X_loopO g22 (fun q : (List Dc) × Int => ⟨[(1, .ptr 1 0), (4, .ptr 4 0), (5, .fn 58 [.ptr 4 0]), (42, .p (.sl (encG a0.next))), (43, .p (.int .i64 ((a0.next.length : Nat) : Int))), (44, .p (.int .i64 q.2))], [(1, .box [.p (.sl (encK a0.blocks)), .p (.sl (encG a0.next)), .p (.sl (encP a0.spurs)), .p (.sl (encI a0.robots)), .p (.int .i64 a0.cq), .p (.int .i64 a0.ca), .p (.int .i64 a0.cd), .p (.int .i64 a0.cp)]), (4, .box [.ref 504000 0 q.1.length q.1.length]), (504000, .arr 54 4 (encC q.1))], 150⟩) ((Wk.forget (by simp [Le, LeE, LeH, get, envIds, hpIds, KeepH, D.ids, idsL, AO.ids, setL, base, encI_nil, encS_nil, encT_nil, encG_nil, encC_nil, encL_nil, encK_nil, encP_nil, mpS_nil, mpB_nil, encI_consE, encS_consE, encT_consE, encG_consE, encI_one, encS_one, encT_one, encI_snoc, encS_snoc, encT_snocE, encG_snocE, encC_snoc, encL_snoc, encK_snocE, encP_snocE, encI_set, encS_set, encT_setE, encG_setE, encC_setE, encK_setE, encP_setE, encI_len, encS_len, encT_len2, encG_len2, encC_len, encL_len, encK_len2, encP_len2, encC_nil, encC_consE, c3]))) ?_
    rintro ⟨v16, v17⟩ m20 hh18 ih19
    rw [ndescribe_L4_eq] at hh18
    cases c23 : decide (v17 < ((a0.next.length : Nat) : Int))
    · simp only [c23, cond_false] at hh18
      simp only [Option.bind_some, nextO_inr] at hh18
      obtain rfl := Option.some.inj hh18
      try dsimp only at hr
      rcases g32 : loopO (ndescribe_L2 a0) (v16, 0) with _ | e31
      · simp only [g32, Option.bind_none, reduceCtorEq] at hr
      simp only [g32, Option.bind_some] at hr
      try simp only [go_sem, c3, c13, c23]
      refine X_loopO g32 (fun q : (List Dc) × Int => ⟨[(1, .ptr 1 0), (4, .ptr 4 0), (5, .fn 58 [.ptr 4 0]), (73, .p (.sl (encP a0.spurs))), (74, .p (.int .i64 ((a0.spurs.length : Nat) : Int))), (75, .p (.int .i64 q.2))], [(1, .box [.p (.sl (encK a0.blocks)), .p (.sl (encG a0.next)), .p (.sl (encP a0.spurs)), .p (.sl (encI a0.robots)), .p (.int .i64 a0.cq), .p (.int .i64 a0.ca), .p (.int .i64 a0.cd), .p (.int .i64 a0.cp)]), (4, .box [.ref 504000 0 q.1.length q.1.length]), (504000, .arr 54 4 (encC q.1))], 150⟩) ((Wk.forget (by simp [Le, LeE, LeH, get, envIds, hpIds, KeepH, D.ids, idsL, AO.ids, setL, base, encI_nil, encS_nil, encT_nil, encG_nil, encC_nil, encL_nil, encK_nil, encP_nil, mpS_nil, mpB_nil, encI_consE, encS_consE, encT_consE, encG_consE, encI_one, encS_one, encT_one, encI_snoc, encS_snoc, encT_snocE, encG_snocE, encC_snoc, encL_snoc, encK_snocE, encP_snocE, encI_set, encS_set, encT_setE, encG_setE, encC_setE, encK_setE, encP_setE, encI_len, encS_len, encT_len2, encG_len2, encC_len, encL_len, encK_len2, encP_len2, encC_nil, encC_consE, c3]))) ?_
      rintro ⟨v26, v27⟩ m30 hh28 ih29
      rw [ndescribe_L2_eq] at hh28
      cases c33 : decide (v27 < ((a0.spurs.length : Nat) : Int))
      · simp only [c33, cond_false] at hh28
        simp only [Option.bind_some, nextO_inr] at hh28
        obtain rfl := Option.some.inj hh28
        try dsimp only at hr
        rcases g42 : loopO (ndescribe_L1 a0) (v26, 0) with _ | e41
        · simp only [g42, Option.bind_none, reduceCtorEq] at hr
        simp only [g42, Option.bind_some] at hr
        try simp only [go_sem, c3, c13, c23, c33]
        refine X_loopO g42 (fun q : (List Dc) × Int => ⟨[(1, .ptr 1 0), (4, .ptr 4 0), (5, .fn 58 [.ptr 4 0]), (106, .p (.sl (encI a0.robots))), (107, .p (.int .i64 ((a0.robots.length : Nat) : Int))), (108, .p (.int .i64 q.2))], [(1, .box [.p (.sl (encK a0.blocks)), .p (.sl (encG a0.next)), .p (.sl (encP a0.spurs)), .p (.sl (encI a0.robots)), .p (.int .i64 a0.cq), .p (.int .i64 a0.ca), .p (.int .i64 a0.cd), .p (.int .i64 a0.cp)]), (4, .box [.ref 504000 0 q.1.length q.1.length]), (504000, .arr 54 4 (encC q.1))], 150⟩) ((Wk.forget (by simp [Le, LeE, LeH, get, envIds, hpIds, KeepH, D.ids, idsL, AO.ids, setL, base, encI_nil, encS_nil, encT_nil, encG_nil, encC_nil, encL_nil, encK_nil, encP_nil, mpS_nil, mpB_nil, encI_consE, encS_consE, encT_consE, encG_consE, encI_one, encS_one, encT_one, encI_snoc, encS_snoc, encT_snocE, encG_snocE, encC_snoc, encL_snoc, encK_snocE, encP_snocE, encI_set, encS_set, encT_setE, encG_setE, encC_setE, encK_setE, encP_setE, encI_len, encS_len, encT_len2, encG_len2, encC_len, encL_len, encK_len2, encP_len2, encC_nil, encC_consE, c3]))) ?_
        rintro ⟨v36, v37⟩ m40 hh38 ih39
        rw [ndescribe_L1_eq] at hh38
        cases c43 : decide (v37 < ((a0.robots.length : Nat) : Int))
        · simp only [c43, cond_false] at hh38
          simp only [Option.bind_some, nextO_inr] at hh38
          obtain rfl := Option.some.inj hh38
          try dsimp only at hr
          rcases g45 : netmap_Describe_1_v 6 [] [a0.cq, a0.ca, a0.cd, a0.cp] v36 with _ | x44
          · simp only [g45, Option.bind_none, reduceCtorEq] at hr
          simp only [g45, Option.bind_some] at hr
          try simp only [go_sem, c3, c13, c23, c33, c43]
          refine Cc_of (netmap_Describe_1_vok 6 [] [a0.cq, a0.ca, a0.cd, a0.cp] v36 _ g45) ?_
          rintro h' r ⟨rfl, rfl⟩
          obtain rfl := Option.some.inj hr
          try simp only [go_sem, c3, c13, c23, c33, c43]
          all_goals (try refine end_own ?_)
          all_goals (try simp only [go_sem, c3, c13, c23, c33, c43])
          all_goals (try (first | rfl | exact ⟨rfl, rfl⟩ | (simp; done)))
        simp only [c43, cond_true] at hh38
        rcases g47 : idxO a0.robots v37 with _ | x46
        · simp only [g47, Option.bind_none, reduceCtorEq] at hh38
        simp only [g47, Option.bind_some] at hh38
        have f48 := idxO_rng g47
        have f49 : (encI a0.robots).getD (Int.toNat v37) [] = [(.int .i64 x46)] := idxO_map _ g47
        rcases g52 : slices_IndexFunc_v a0.spurs x46 with _ | ⟨x50, x51⟩
        · simp only [g52, Option.bind_none, reduceCtorEq] at hh38
        simp only [g52, Option.bind_some] at hh38
        try simp only [go_sem, c3, c13, c23, c33, c43, f48, f49]
        refine Cc_of (slices_IndexFunc_vok a0.spurs x46 _ g52) ?_
        rintro h' r ⟨rfl, rfl⟩
        try simp only [go_sem, c3, c13, c23, c33, c43, f48, f49]
        refine X_any0 mixed (p := [(0, 0), (1, 0), (2, 0), (3, 0), (4, 0), (5, 0), (6, 0), (8, 0), (9, 0), (10, 0), (11, 0), (12, 0), (13, 0), (14, 0), (15, 0), (16, 0), (7, 1), (17, 1), (18, 3)]) (by kernel_rfl) (by simp [LeH, get]) ?_
        rcases g54 : idxO a0.spurs x50 with _ | x53
        · simp only [g54, Option.bind_none, reduceCtorEq] at hh38
        simp only [g54, Option.bind_some] at hh38
        have f55 := idxO_rng g54
        have f56 : (encP a0.spurs).getD (Int.toNat x50) [] = [(.str x53.name), (.bool x53.depot), (.int .i64 x53.inn), (.int .i64 x53.out), (.int .i64 x53.slots), (.int .i64 x53.base)] := idxO_map _ g54
        rcases g58 : netmap_Describe_1_v 5 [x53.name] [(IntKind.i64.wrap ((IntKind.i64.wrap (x51 - x53.base)) + 1))] v36 with _ | x57
        · simp only [g58, Option.bind_none, reduceCtorEq] at hh38
        simp only [g58, Option.bind_some] at hh38
        try simp only [go_sem, c3, c13, c23, c33, c43, f48, f49, f55, f56]
        refine Gh_of (netmap_Describe_1_vok 5 [x53.name] [(IntKind.i64.wrap ((IntKind.i64.wrap (x51 - x53.base)) + 1))] v36 _ g58) ?_
        rintro h' r ⟨rfl, rfl⟩
        simp only [Option.bind_some, nextO_inl] at hh38
        try simp only [go_sem, c3, c13, c23, c33, c43, f48, f49, f55, f56]
        exact ih39 (x57, (IntKind.i64.wrap (v37 + 1))) _ hh38 ((Wk.forget (by simp [Le, LeE, LeH, get, envIds, hpIds, KeepH, D.ids, idsL, AO.ids, setL, base, encI_nil, encS_nil, encT_nil, encG_nil, encC_nil, encL_nil, encK_nil, encP_nil, mpS_nil, mpB_nil, encI_consE, encS_consE, encT_consE, encG_consE, encI_one, encS_one, encT_one, encI_snoc, encS_snoc, encT_snocE, encG_snocE, encC_snoc, encL_snoc, encK_snocE, encP_snocE, encI_set, encS_set, encT_setE, encG_setE, encC_setE, encK_setE, encP_setE, encI_len, encS_len, encT_len2, encG_len2, encC_len, encL_len, encK_len2, encP_len2, encC_nil, encC_consE, c3])))
      simp only [c33, cond_true] at hh28
      rcases g64 : idxO a0.spurs v27 with _ | x63
      · simp only [g64, Option.bind_none, reduceCtorEq] at hh28
      simp only [g64, Option.bind_some] at hh28
      have f65 := idxO_rng g64
      have f66 : (encP a0.spurs).getD (Int.toNat v27) [] = [(.str x63.name), (.bool x63.depot), (.int .i64 x63.inn), (.int .i64 x63.out), (.int .i64 x63.slots), (.int .i64 x63.base)] := idxO_map _ g64
      cases c67 : x63.depot
      · simp only [c67, cond_false] at hh28
        try simp only [go_sem, c3, c13, c23, c33, f65, f66, c67]
        refine X_any0 mixed (p := [(0, 0), (1, 0), (2, 0), (3, 0), (4, 0), (5, 0), (6, 0), (7, 0), (8, 0), (9, 0), (10, 0), (11, 0), (12, 0), (13, 0), (14, 0), (15, 0), (16, 0), (17, 0), (19, 0), (20, 0), (18, 1), (21, 1), (22, 3)]) (by kernel_rfl) (by simp [LeH, get]) ?_
        rcases g69 : idxO a0.blocks x63.inn with _ | x68
        · simp only [g69, Option.bind_none, reduceCtorEq] at hh28
        simp only [g69, Option.bind_some] at hh28
        have f70 := idxO_rng g69
        have f71 : (encK a0.blocks).getD (Int.toNat x63.inn) [] = [(.str x68.name), (.int .i64 x68.x), (.int .i64 x68.y)] := idxO_map _ g69
        rcases g73 : idxO a0.blocks x63.out with _ | x72
        · simp only [g73, Option.bind_none, reduceCtorEq] at hh28
        simp only [g73, Option.bind_some] at hh28
        have f74 := idxO_rng g73
        have f75 : (encK a0.blocks).getD (Int.toNat x63.out) [] = [(.str x72.name), (.int .i64 x72.x), (.int .i64 x72.y)] := idxO_map _ g73
        rcases g77 : netmap_Describe_1_v 3 [x63.name, x68.name, x72.name] [x63.slots] v26 with _ | x76
        · simp only [g77, Option.bind_none, reduceCtorEq] at hh28
        simp only [g77, Option.bind_some] at hh28
        try simp only [go_sem, c3, c13, c23, c33, f65, f66, c67, f70, f71, f74, f75]
        refine Gh_of (netmap_Describe_1_vok 3 [x63.name, x68.name, x72.name] [x63.slots] v26 _ g77) ?_
        rintro h' r ⟨rfl, rfl⟩
        simp only [Option.bind_some, nextO_inl] at hh28
        try simp only [go_sem, c3, c13, c23, c33, f65, f66, c67, f70, f71, f74, f75]
        exact ih29 (x76, (IntKind.i64.wrap (v27 + 1))) _ hh28 ((Wk.forget (by simp [Le, LeE, LeH, get, envIds, hpIds, KeepH, D.ids, idsL, AO.ids, setL, base, encI_nil, encS_nil, encT_nil, encG_nil, encC_nil, encL_nil, encK_nil, encP_nil, mpS_nil, mpB_nil, encI_consE, encS_consE, encT_consE, encG_consE, encI_one, encS_one, encT_one, encI_snoc, encS_snoc, encT_snocE, encG_snocE, encC_snoc, encL_snoc, encK_snocE, encP_snocE, encI_set, encS_set, encT_setE, encG_setE, encC_setE, encK_setE, encP_setE, encI_len, encS_len, encT_len2, encG_len2, encC_len, encL_len, encK_len2, encP_len2, encC_nil, encC_consE, c3, c67])))
      simp only [c67, cond_true] at hh28
      try simp only [go_sem, c3, c13, c23, c33, f65, f66, c67]
      refine X_any0 mixed (p := [(0, 0), (1, 0), (2, 0), (3, 0), (4, 0), (5, 0), (6, 0), (7, 0), (8, 0), (9, 0), (10, 0), (11, 0), (12, 0), (13, 0), (14, 0), (15, 0), (16, 0), (17, 0), (19, 0), (20, 0), (18, 1), (21, 1), (22, 3)]) (by kernel_rfl) (by simp [LeH, get]) ?_
      rcases g79 : idxO a0.blocks x63.inn with _ | x78
      · simp only [g79, Option.bind_none, reduceCtorEq] at hh28
      simp only [g79, Option.bind_some] at hh28
      have f80 := idxO_rng g79
      have f81 : (encK a0.blocks).getD (Int.toNat x63.inn) [] = [(.str x78.name), (.int .i64 x78.x), (.int .i64 x78.y)] := idxO_map _ g79
      rcases g83 : idxO a0.blocks x63.out with _ | x82
      · simp only [g83, Option.bind_none, reduceCtorEq] at hh28
      simp only [g83, Option.bind_some] at hh28
      have f84 := idxO_rng g83
      have f85 : (encK a0.blocks).getD (Int.toNat x63.out) [] = [(.str x82.name), (.int .i64 x82.x), (.int .i64 x82.y)] := idxO_map _ g83
      rcases g87 : netmap_Describe_1_v 4 [x63.name, x78.name, x82.name] [x63.slots] v26 with _ | x86
      · simp only [g87, Option.bind_none, reduceCtorEq] at hh28
      simp only [g87, Option.bind_some] at hh28
      try simp only [go_sem, c3, c13, c23, c33, f65, f66, c67, f80, f81, f84, f85]
      refine Gh_of (netmap_Describe_1_vok 4 [x63.name, x78.name, x82.name] [x63.slots] v26 _ g87) ?_
      rintro h' r ⟨rfl, rfl⟩
      simp only [Option.bind_some, nextO_inl] at hh28
      try simp only [go_sem, c3, c13, c23, c33, f65, f66, c67, f80, f81, f84, f85]
      exact ih29 (x86, (IntKind.i64.wrap (v27 + 1))) _ hh28 ((Wk.forget (by simp [Le, LeE, LeH, get, envIds, hpIds, KeepH, D.ids, idsL, AO.ids, setL, base, encI_nil, encS_nil, encT_nil, encG_nil, encC_nil, encL_nil, encK_nil, encP_nil, mpS_nil, mpB_nil, encI_consE, encS_consE, encT_consE, encG_consE, encI_one, encS_one, encT_one, encI_snoc, encS_snoc, encT_snocE, encG_snocE, encC_snoc, encL_snoc, encK_snocE, encP_snocE, encI_set, encS_set, encT_setE, encG_setE, encC_setE, encK_setE, encP_setE, encI_len, encS_len, encT_len2, encG_len2, encC_len, encL_len, encK_len2, encP_len2, encC_nil, encC_consE, c3, c67])))
    simp only [c23, cond_true] at hh18
    rcases g120 : idxO a0.next v17 with _ | x119
    · simp only [g120, Option.bind_none, reduceCtorEq] at hh18
    simp only [g120, Option.bind_some] at hh18
    have f121 := idxO_rng g120
    have f122 : (encG a0.next).getD (Int.toNat v17) [] = [(.sl (encI x119))] := idxO_map _ g120
    rcases g131 : loopO (ndescribe_L3 a0 v17 x119) (v16, 0) with _ | e130
    · simp only [g131, Option.bind_none, reduceCtorEq] at hh18
    simp only [g131, Option.bind_some] at hh18
    try simp only [go_sem, c3, c13, c23, f121, f122]
    refine X_loopO g131 (fun q : (List Dc) × Int => ⟨[(1, .ptr 1 0), (4, .ptr 4 0), (5, .fn 58 [.ptr 4 0]), (8, .p (.int .i64 v17)), (42, .p (.sl (encG a0.next))), (43, .p (.int .i64 ((a0.next.length : Nat) : Int))), (44, .p (.int .i64 v17)), (49, .p (.sl (encI x119))), (50, .p (.int .i64 ((x119.length : Nat) : Int))), (51, .p (.int .i64 q.2))], [(1, .box [.p (.sl (encK a0.blocks)), .p (.sl (encG a0.next)), .p (.sl (encP a0.spurs)), .p (.sl (encI a0.robots)), .p (.int .i64 a0.cq), .p (.int .i64 a0.ca), .p (.int .i64 a0.cd), .p (.int .i64 a0.cp)]), (4, .box [.ref 504000 0 q.1.length q.1.length]), (504000, .arr 54 4 (encC q.1))], 150⟩) ((Wk.forget (by simp [Le, LeE, LeH, get, envIds, hpIds, KeepH, D.ids, idsL, AO.ids, setL, base, encI_nil, encS_nil, encT_nil, encG_nil, encC_nil, encL_nil, encK_nil, encP_nil, mpS_nil, mpB_nil, encI_consE, encS_consE, encT_consE, encG_consE, encI_one, encS_one, encT_one, encI_snoc, encS_snoc, encT_snocE, encG_snocE, encC_snoc, encL_snoc, encK_snocE, encP_snocE, encI_set, encS_set, encT_setE, encG_setE, encC_setE, encK_setE, encP_setE, encI_len, encS_len, encT_len2, encG_len2, encC_len, encL_len, encK_len2, encP_len2, encC_nil, encC_consE, c3]))) ?_
    rintro ⟨v125, v126⟩ m129 hh127 ih128
    rw [ndescribe_L3_eq] at hh127
    cases c132 : decide (v126 < ((x119.length : Nat) : Int))
    · simp only [c132, cond_false] at hh127
      simp only [Option.bind_some, nextO_inr] at hh127
      obtain rfl := Option.some.inj hh127
      try dsimp only at hh18
      simp only [Option.bind_some, nextO_inl] at hh18
      try simp only [go_sem, c3, c13, c23, f121, f122, c132]
      exact ih19 (v125, (IntKind.i64.wrap (v17 + 1))) _ hh18 ((Wk.forget (by simp [Le, LeE, LeH, get, envIds, hpIds, KeepH, D.ids, idsL, AO.ids, setL, base, encI_nil, encS_nil, encT_nil, encG_nil, encC_nil, encL_nil, encK_nil, encP_nil, mpS_nil, mpB_nil, encI_consE, encS_consE, encT_consE, encG_consE, encI_one, encS_one, encT_one, encI_snoc, encS_snoc, encT_snocE, encG_snocE, encC_snoc, encL_snoc, encK_snocE, encP_snocE, encI_set, encS_set, encT_setE, encG_setE, encC_setE, encK_setE, encP_setE, encI_len, encS_len, encT_len2, encG_len2, encC_len, encL_len, encK_len2, encP_len2, encC_nil, encC_consE, c3])))
    simp only [c132, cond_true] at hh127
    rcases g134 : idxO x119 v126 with _ | x133
    · simp only [g134, Option.bind_none, reduceCtorEq] at hh127
    simp only [g134, Option.bind_some] at hh127
    have f135 := idxO_rng g134
    have f136 : (encI x119).getD (Int.toNat v126) [] = [(.int .i64 x133)] := idxO_map _ g134
    try simp only [go_sem, c3, c13, c23, f121, f122, c132, f135, f136]
    refine X_any0 mixed (p := [(0, 0), (1, 0), (2, 0), (3, 0), (4, 0), (5, 0), (6, 0), (7, 0), (8, 0), (9, 0), (10, 0), (11, 0), (12, 0), (13, 1), (14, 3)]) (by kernel_rfl) (by simp [LeH, get]) ?_
    rcases g138 : idxO a0.blocks v17 with _ | x137
    · simp only [g138, Option.bind_none, reduceCtorEq] at hh127
    simp only [g138, Option.bind_some] at hh127
    have f139 := idxO_rng g138
    have f140 : (encK a0.blocks).getD (Int.toNat v17) [] = [(.str x137.name), (.int .i64 x137.x), (.int .i64 x137.y)] := idxO_map _ g138
    rcases g142 : idxO a0.blocks x133 with _ | x141
    · simp only [g142, Option.bind_none, reduceCtorEq] at hh127
    simp only [g142, Option.bind_some] at hh127
    have f143 := idxO_rng g142
    have f144 : (encK a0.blocks).getD (Int.toNat x133) [] = [(.str x141.name), (.int .i64 x141.x), (.int .i64 x141.y)] := idxO_map _ g142
    rcases g146 : netmap_Describe_1_v 2 [x137.name, x141.name] [] v125 with _ | x145
    · simp only [g146, Option.bind_none, reduceCtorEq] at hh127
    simp only [g146, Option.bind_some] at hh127
    try simp only [go_sem, c3, c13, c23, f121, f122, c132, f135, f136, f139, f140, f143, f144]
    refine Gh_of (netmap_Describe_1_vok 2 [x137.name, x141.name] [] v125 _ g146) ?_
    rintro h' r ⟨rfl, rfl⟩
    simp only [Option.bind_some, nextO_inl] at hh127
    try simp only [go_sem, c3, c13, c23, f121, f122, c132, f135, f136, f139, f140, f143, f144]
    exact ih128 (x145, (IntKind.i64.wrap (v126 + 1))) _ hh127 ((Wk.forget (by simp [Le, LeE, LeH, get, envIds, hpIds, KeepH, D.ids, idsL, AO.ids, setL, base, encI_nil, encS_nil, encT_nil, encG_nil, encC_nil, encL_nil, encK_nil, encP_nil, mpS_nil, mpB_nil, encI_consE, encS_consE, encT_consE, encG_consE, encI_one, encS_one, encT_one, encI_snoc, encS_snoc, encT_snocE, encG_snocE, encC_snoc, encL_snoc, encK_snocE, encP_snocE, encI_set, encS_set, encT_setE, encG_setE, encC_setE, encK_setE, encP_setE, encI_len, encS_len, encT_len2, encG_len2, encC_len, encL_len, encK_len2, encP_len2, encC_nil, encC_consE, c3])))
  simp only [c13, cond_true] at hh8
  rcases g247 : idxO a0.blocks v7 with _ | x246
  · simp only [g247, Option.bind_none, reduceCtorEq] at hh8
  simp only [g247, Option.bind_some] at hh8
  have f248 := idxO_rng g247
  have f249 : (encK a0.blocks).getD (Int.toNat v7) [] = [(.str x246.name), (.int .i64 x246.x), (.int .i64 x246.y)] := idxO_map _ g247
  rcases g251 : netmap_Describe_1_v 1 [x246.name] [x246.x, x246.y] v6 with _ | x250
  · simp only [g251, Option.bind_none, reduceCtorEq] at hh8
  simp only [g251, Option.bind_some] at hh8
  try simp only [go_sem, c3, c13, f248, f249]
  refine Cc_of (netmap_Describe_1_vok 1 [x246.name] [x246.x, x246.y] v6 _ g251) ?_
  rintro h' r ⟨rfl, rfl⟩
  simp only [Option.bind_some, nextO_inl] at hh8
  try simp only [go_sem, c3, c13, f248, f249]
  exact ih9 (x250, (IntKind.i64.wrap (v7 + 1))) _ hh8 ((Wk.forget (by simp [Le, LeE, LeH, get, envIds, hpIds, KeepH, D.ids, idsL, AO.ids, setL, base, encI_nil, encS_nil, encT_nil, encG_nil, encC_nil, encL_nil, encK_nil, encP_nil, mpS_nil, mpB_nil, encI_consE, encS_consE, encT_consE, encG_consE, encI_one, encS_one, encT_one, encI_snoc, encS_snoc, encT_snocE, encG_snocE, encC_snoc, encL_snoc, encK_snocE, encP_snocE, encI_set, encS_set, encT_setE, encG_setE, encC_setE, encK_setE, encP_setE, encI_len, encS_len, encT_len2, encG_len2, encC_len, encL_len, encK_len2, encP_len2, encC_nil, encC_consE, c3])))
noncomputable def lawErrors_v (a0 : List Int) (a1 : Int) (y1 : Nt) (y2 : List Int) (y3 : Int) : Option (Bool) :=
  Option.bind (ndescribe_v (⟨y1.blocks, y1.next, y1.spurs, y1.robots, y1.cq, y1.ca, y1.cd, y1.cp⟩ : Nt)) fun (x5, x6) => cond (decide (x6 = 0)) (cond (decide (((y1.blocks.length : Nat) : Int) = 0)) (some false) (cond (decide (((y1.spurs.length : Nat) : Int) = 0)) (some false) (Option.bind (idxO y1.blocks 0) fun x11 => Option.bind (idxO y1.spurs 0) fun x15 => Option.bind (mk_Cut_v a1 ((12 : Nat) : Int)) fun x19 => Option.bind (idxO [(⟨1, 0, [x11.name], [0, 0]⟩ : Dc), (⟨1, 0, [x15.name], [0, 0]⟩ : Dc), (⟨4, 0, [x11.name, x11.name, x11.name], [1]⟩ : Dc), (⟨2, 0, [x11.name, x11.name], []⟩ : Dc), (⟨2, 0, [x11.name, [122, 122]], []⟩ : Dc), (⟨3, 0, [[122, 122], x11.name, x15.name], [1]⟩ : Dc), (⟨3, 0, [[122, 122], x11.name, x11.name], [0]⟩ : Dc), (⟨3, 0, [[122, 122], x11.name, x11.name], [5]⟩ : Dc), (⟨5, 0, [[115, 49]], [1]⟩ : Dc), (⟨5, 0, [x15.name], [0]⟩ : Dc), (⟨6, 0, [], [1, 1, 1, 1]⟩ : Dc), (⟨6, 0, [], [1, 1, 1]⟩ : Dc)] x19) fun x21 => cond (decide (x5.length + 1 < 10000000)) (Option.bind (nbuild_v (x5 ++ [(⟨x21.word, 77, x21.names, x21.nums⟩ : Dc)])) fun (x27, x28, x29) => Option.bind (idxO ([8, 8, 8, 10, 9, 9, 12, 12, 9, 12, 11, 20] : List Int) x19) fun x31 => cond (decide (x29 = x31)) (cond (decide (x28 = 77)) (some (decide (((x27.blocks.length : Nat) : Int) = 0))) (some false)) (some false)) none))) none
theorem lawErrors_vok (a0 : List Int) (a1 : Int) (r : Bool) (hr : ∀ (y1 : Nt) (y2 : List Int) (y3 : Int), NetQ y1 y2 y3 → lawErrors_v a0 a1 y1 y2 y3 = some r) :
    ACalls Try.prog 11 [.p (.sl (encI a0)), .p (.int .i64 a1)] [] fun h d => h = [] ∧ d = .p (.bool r) := by
  refine ACalls_X Try.func11 rfl enters11 (by simp [Try.f11]) ?_
  unfold lawErrors_v at hr
  try simp only [go_sem]
  refine Cc_of known03_ok ?_
  rintro h' r ⟨rfl, rfl⟩
  try simp only [go_sem]
  refine Cc_of (net6 a0) ?_
  rintro h' r ⟨y1, y2, y3, q4, rfl, rfl⟩
  replace hr := hr y1 y2 y3 q4
  rcases g7 : ndescribe_v (⟨y1.blocks, y1.next, y1.spurs, y1.robots, y1.cq, y1.ca, y1.cd, y1.cp⟩ : Nt) with _ | ⟨x5, x6⟩
  · simp only [g7, Option.bind_none, reduceCtorEq] at hr
  simp only [g7, Option.bind_some] at hr
  cases c8 : decide (x6 = 0)
  · simp only [c8, cond_false, Option.bind_none, reduceCtorEq] at hr
  simp only [c8, cond_true] at hr
  try simp only [go_sem, c8]
  refine Cc_of (ndescribe_vown (⟨y1.blocks, y1.next, y1.spurs, y1.robots, y1.cq, y1.ca, y1.cd, y1.cp⟩ : Nt) _ g7 (of_decide_eq_true c8)) ?_
  rintro h' r ⟨rfl, rfl⟩
  cases c9 : decide (((y1.blocks.length : Nat) : Int) = 0)
  · simp only [c9, cond_false] at hr
    cases c10 : decide (((y1.spurs.length : Nat) : Int) = 0)
    · simp only [c10, cond_false] at hr
      try simp only [go_sem, c8, c9, c10]
      refine X_any0 mixed (p := [(0, 0), (1, 0), (2, 0), (3, 0), (4, 0), (5, 0), (6, 0), (7, 0), (8, 0), (9, 0), (10, 0), (11, 0)]) (by kernel_rfl) (by simp [LeH, get]) ?_
      rcases g12 : idxO y1.blocks 0 with _ | x11
      · simp only [g12, Option.bind_none, reduceCtorEq] at hr
      simp only [g12, Option.bind_some] at hr
      have f13 := idxO_rng g12
      have f14 : (encK y1.blocks).getD 0 [] = [(.str x11.name), (.int .i64 x11.x), (.int .i64 x11.y)] := idxO_map _ g12
      rcases g16 : idxO y1.spurs 0 with _ | x15
      · simp only [g16, Option.bind_none, reduceCtorEq] at hr
      simp only [g16, Option.bind_some] at hr
      have f17 := idxO_rng g16
      have f18 : (encP y1.spurs).getD 0 [] = [(.str x15.name), (.bool x15.depot), (.int .i64 x15.inn), (.int .i64 x15.out), (.int .i64 x15.slots), (.int .i64 x15.base)] := idxO_map _ g16
      rcases g20 : mk_Cut_v a1 ((12 : Nat) : Int) with _ | x19
      · simp only [g20, Option.bind_none, reduceCtorEq] at hr
      simp only [g20, Option.bind_some] at hr
      try simp only [go_sem, c8, c9, c10, f13, f14, f17, f18]
      refine Cc_of (mk_Cut_vok a1 ((12 : Nat) : Int) _ g20) ?_
      rintro h' r ⟨rfl, rfl⟩
      rcases g22 : idxO [(⟨1, 0, [x11.name], [0, 0]⟩ : Dc), (⟨1, 0, [x15.name], [0, 0]⟩ : Dc), (⟨4, 0, [x11.name, x11.name, x11.name], [1]⟩ : Dc), (⟨2, 0, [x11.name, x11.name], []⟩ : Dc), (⟨2, 0, [x11.name, [122, 122]], []⟩ : Dc), (⟨3, 0, [[122, 122], x11.name, x15.name], [1]⟩ : Dc), (⟨3, 0, [[122, 122], x11.name, x11.name], [0]⟩ : Dc), (⟨3, 0, [[122, 122], x11.name, x11.name], [5]⟩ : Dc), (⟨5, 0, [[115, 49]], [1]⟩ : Dc), (⟨5, 0, [x15.name], [0]⟩ : Dc), (⟨6, 0, [], [1, 1, 1, 1]⟩ : Dc), (⟨6, 0, [], [1, 1, 1]⟩ : Dc)] x19 with _ | x21
      · simp only [g22, Option.bind_none, reduceCtorEq] at hr
      simp only [g22, Option.bind_some] at hr
      have f23 : 0 ≤ x19 ∧ x19 < 12 := by have := idxO_rng g22; simp only [List.length_cons, List.length_nil] at this; omega
      have f24 : (encC [(⟨1, 0, [x11.name], [0, 0]⟩ : Dc), (⟨1, 0, [x15.name], [0, 0]⟩ : Dc), (⟨4, 0, [x11.name, x11.name, x11.name], [1]⟩ : Dc), (⟨2, 0, [x11.name, x11.name], []⟩ : Dc), (⟨2, 0, [x11.name, [122, 122]], []⟩ : Dc), (⟨3, 0, [[122, 122], x11.name, x15.name], [1]⟩ : Dc), (⟨3, 0, [[122, 122], x11.name, x11.name], [0]⟩ : Dc), (⟨3, 0, [[122, 122], x11.name, x11.name], [5]⟩ : Dc), (⟨5, 0, [[115, 49]], [1]⟩ : Dc), (⟨5, 0, [x15.name], [0]⟩ : Dc), (⟨6, 0, [], [1, 1, 1, 1]⟩ : Dc), (⟨6, 0, [], [1, 1, 1]⟩ : Dc)]).getD (Int.toNat x19) [] = [(.int .i64 x21.word), (.int .i64 x21.line), (.sl (encS x21.names)), (.sl (encI x21.nums))] := idxO_map _ g22
      have f25 := f24
      try simp only [encI_consE, encI_nil, encS_consE, encS_nil, encT_consE, encT_nil, encG_consE, encG_nil, encC_nil, encC_consE] at f25
      cases c26 : decide (x5.length + 1 < 10000000)
      · simp only [c26, cond_false, Option.bind_none, reduceCtorEq] at hr
      simp only [c26, cond_true] at hr
      try simp only [go_sem, c8, c9, c10, f13, f14, f17, f18, f23, f24, f25]
      refine ⟨by have := of_decide_eq_true c26; (try simp only [List.length_cons, List.length_nil, List.length_append] at *); (repeat' refine And.intro ?_ ?_) <;> first | exact wid1 _ _ rfl | exact encC_wid _ | omega | (simp [Wid]; done), ?_⟩
      rcases g30 : nbuild_v (x5 ++ [(⟨x21.word, 77, x21.names, x21.nums⟩ : Dc)]) with _ | ⟨x27, x28, x29⟩
      · simp only [g30, Option.bind_none, reduceCtorEq] at hr
      simp only [g30, Option.bind_some] at hr
      try simp only [go_sem, c8, c9, c10, f13, f14, f17, f18, f23, f24, f25]
      refine Cc_of (nbuild_vok (x5 ++ [(⟨x21.word, 77, x21.names, x21.nums⟩ : Dc)]) _ g30) ?_
      rintro h' r ⟨rfl, rfl⟩
      rcases g32 : idxO ([8, 8, 8, 10, 9, 9, 12, 12, 9, 12, 11, 20] : List Int) x19 with _ | x31
      · simp only [g32, Option.bind_none, reduceCtorEq] at hr
      simp only [g32, Option.bind_some] at hr
      have f33 : 0 ≤ x19 ∧ x19 < 12 := by have := idxO_rng g32; simp only [List.length_cons, List.length_nil] at this; omega
      have f34 : (encI [8, 8, 8, 10, 9, 9, 12, 12, 9, 12, 11, 20]).getD (Int.toNat x19) [] = [(.int .i64 x31)] := idxO_map _ g32
      have f35 := f34
      try simp only [encI_consE, encI_nil, encS_consE, encS_nil, encT_consE, encT_nil, encG_consE, encG_nil, encC_nil, encC_consE] at f35
      cases c36 : decide (x29 = x31)
      · simp only [c36, cond_false] at hr
        obtain rfl := Option.some.inj hr
        try simp only [go_sem, c8, c9, c10, f13, f14, f17, f18, f23, f24, f25, f33, f34, f35, c36]
        all_goals (try refine end_pure ?_)
        all_goals (try simp only [go_sem, c8, c9, c10, f13, f14, f17, f18, f23, f24, f25, f33, f34, f35, c36])
        all_goals (try (first | rfl | exact ⟨rfl, rfl⟩ | (simp; done)))
      simp only [c36, cond_true] at hr
      cases c37 : decide (x28 = 77)
      · simp only [c37, cond_false] at hr
        obtain rfl := Option.some.inj hr
        try simp only [go_sem, c8, c9, c10, f13, f14, f17, f18, f23, f24, f25, f33, f34, f35, c36, c37]
        all_goals (try refine end_pure ?_)
        all_goals (try simp only [go_sem, c8, c9, c10, f13, f14, f17, f18, f23, f24, f25, f33, f34, f35, c36, c37])
        all_goals (try (first | rfl | exact ⟨rfl, rfl⟩ | (simp; done)))
      simp only [c37, cond_true] at hr
      obtain rfl := Option.some.inj hr
      try simp only [go_sem, c8, c9, c10, f13, f14, f17, f18, f23, f24, f25, f33, f34, f35, c36, c37]
      all_goals (try refine end_pure ?_)
      all_goals (try simp only [go_sem, c8, c9, c10, f13, f14, f17, f18, f23, f24, f25, f33, f34, f35, c36, c37])
      all_goals (try (first | rfl | exact ⟨rfl, rfl⟩ | (simp; done)))
    simp only [c10, cond_true] at hr
    obtain rfl := Option.some.inj hr
    try simp only [go_sem, c8, c9, c10]
    all_goals (try refine end_pure ?_)
    all_goals (try simp only [go_sem, c8, c9, c10])
    all_goals (try (first | rfl | exact ⟨rfl, rfl⟩ | (simp; done)))
  simp only [c9, cond_true] at hr
  obtain rfl := Option.some.inj hr
  try simp only [go_sem, c8, c9]
  all_goals (try refine end_pure ?_)
  all_goals (try simp only [go_sem, c8, c9])
  all_goals (try (first | rfl | exact ⟨rfl, rfl⟩ | (simp; done)))
end Go.Am
end
section
namespace Go.Am
open Go Go.Proofs
set_option maxRecDepth 100000
set_option linter.unusedVariables false
set_option linter.unusedSimpArgs false
theorem adds_bad {l : List Dc} {b : Bdr} {x : Dc} {e : Int} (h : addsV Bdr.init l = (none, b)) (h1 : (b.addV x).1 = e) (h0 : e ≠ 0) : nbuildV (l ++ [x]) = (nt0, x.line, e) := by
  unfold nbuildV
  rw [addsV_app _ _ _ _ h]
  simp only [addsV]
  rw [if_neg (by rw [h1]; exact h0), h1]
structure EB (b : Bdr) : Prop where
  a : getS b.mb [98, 48] = some 0
  s : getS b.ms [115, 48] = some 0
  s1 : getS b.ms [115, 49] = some 1
  z : getS b.mb [122, 122] = none
  zs : getS b.ms [122, 122] = none
  sb : getS b.mb [115, 48] = none
  d0 : (b.sp.getD 0 spr0).depot = true
  d1 : (b.sp.getD 1 spr0).depot = false
  cf : b.cf = true
theorem EB.named {b : Bdr} (h : EB b) : b.namedV [98, 48] = true ∧ b.namedV [115, 48] = true ∧ b.namedV [122, 122] = false := by
  unfold Bdr.namedV
  rw [h.a, h.s, h.z, h.zs]
  simp
theorem bads {b : Bdr} (h : EB b) :
    (b.addV ⟨1, 77, [[98, 48]], [0, 0]⟩).1 = 8 ∧ (b.addV ⟨1, 77, [[115, 48]], [0, 0]⟩).1 = 8 ∧ (b.addV ⟨4, 77, [[98, 48], [98, 48], [98, 48]], [1]⟩).1 = 8 ∧ (b.addV ⟨2, 77, [[98, 48], [98, 48]], []⟩).1 = 10 ∧
    (b.addV ⟨2, 77, [[98, 48], [122, 122]], []⟩).1 = 9 ∧ (b.addV ⟨3, 77, [[122, 122], [98, 48], [115, 48]], [1]⟩).1 = 9 ∧ (b.addV ⟨3, 77, [[122, 122], [98, 48], [98, 48]], [0]⟩).1 = 12 ∧ (b.addV ⟨3, 77, [[122, 122], [98, 48], [98, 48]], [5]⟩).1 = 12 ∧
    (b.addV ⟨5, 77, [[115, 49]], [1]⟩).1 = 9 ∧ (b.addV ⟨5, 77, [[115, 48]], [0]⟩).1 = 12 ∧ (b.addV ⟨6, 77, [], [1, 1, 1, 1]⟩).1 = 11 ∧ (b.addV ⟨6, 77, [], [1, 1, 1]⟩).1 = 20 := by
  obtain ⟨n1, n2, n3⟩ := h.named
  have v : ∀ d : Dc, validV d = true → b.addV d = if decide (d.word = 1) = true then b.blockV d else if decide (d.word = 2) = true then b.lanesV d.names else
    if decide (d.word = 5) = true then b.robotV d else if decide (d.word = 6) = true then b.configV d else b.spurV d := fun d hd => by unfold Bdr.addV; rw [hd, if_neg (by decide)]
  refine ⟨?_, ?_, ?_, ?_, ?_, ?_, ?_, ?_, ?_, ?_, ?_, ?_⟩
  · rw [v _ (by decide)]
    show (b.blockV _).1 = _
    unfold Bdr.blockV
    simp only [List.getD_cons_zero, n1, if_true]
  · rw [v _ (by decide)]
    show (b.blockV _).1 = _
    unfold Bdr.blockV
    simp only [List.getD_cons_zero, n2, if_true]
  · rw [v _ (by decide)]
    show (b.spurV _).1 = _
    unfold Bdr.spurV
    simp only [List.getD_cons_zero, n1, if_true]
  · rw [v _ (by decide)]
    show (b.lanesV [[98, 48], [98, 48]]).1 = _
    have e : b.laneV [98, 48] [98, 48] = (10, b) := by unfold Bdr.laneV; rw [h.a]; simp
    simp only [Bdr.lanesV, e]
    rfl
  · rw [v _ (by decide)]
    show (b.lanesV [[98, 48], [122, 122]]).1 = _
    have e : b.laneV [98, 48] [122, 122] = (9, b) := by unfold Bdr.laneV; rw [h.a, h.z]
    simp only [Bdr.lanesV, e]
    rfl
  · rw [v _ (by decide)]
    show (b.spurV _).1 = _
    unfold Bdr.spurV
    simp only [List.getD_cons_zero, List.getD_cons_succ, n3, Bool.false_eq_true, if_false, h.a, h.sb]
  · rw [v _ (by decide)]
    show (b.spurV _).1 = _
    unfold Bdr.spurV
    simp only [List.getD_cons_zero, List.getD_cons_succ, n3, Bool.false_eq_true, if_false, h.a]
    rfl
  · rw [v _ (by decide)]
    show (b.spurV _).1 = _
    unfold Bdr.spurV
    simp only [List.getD_cons_zero, List.getD_cons_succ, n3, Bool.false_eq_true, if_false, h.a]
    rfl
  · rw [v _ (by decide)]
    show (b.robotV _).1 = _
    unfold Bdr.robotV
    simp only [List.getD_cons_zero, h.s1]
    rw [if_pos (show (b.sp.getD (Int.toNat 1) spr0).depot = false from h.d1)]
  · rw [v _ (by decide)]
    show (b.robotV _).1 = _
    unfold Bdr.robotV
    simp only [List.getD_cons_zero, h.s]
    rw [if_neg (by show ¬ (b.sp.getD 0 spr0).depot = false; rw [h.d0]; decide)]
    rfl
  · rw [v _ (by decide)]
    show (b.configV _).1 = _
    unfold Bdr.configV
    rw [if_pos h.cf]
  · unfold Bdr.addV
    rw [if_pos (by decide)]
theorem NetP.eb {n : Nt} (h : NetP n) {b : Bdr} (hN : NI b) (hb : b.bl = n.blocks) (hs : b.sp = n.spurs.map base0) (hc : b.cf = true) : (n.blocks.getD 0 blk0).name = [98, 48] ∧ (n.spurs.getD 0 spr0).name = [115, 48] ∧ EB b := by
  have hv := h.valid
  obtain ⟨_, _, hnm, _⟩ := hv
  obtain ⟨nb, bl, nl, nx, ns, sp, ss, rl, rb, cf⟩ := h
  have d0 : digN 0 = [48] := by rw [digN_T 0 (by omega)]; rfl
  have d1 : digN 1 = [49] := by rw [digN_T 1 (by omega)]; rfl
  have e0 := (bl 0 (by omega)).1
  have f0 := sp 0 (by omega)
  have f1 := sp 1 (by omega)
  rw [d0] at e0 f0
  rw [d1] at f1
  have nob : ∀ (c : UInt8) (r : List UInt8), c ≠ 98 → getS b.mb (c :: r) = none := by
    intro c r hc
    have : ixN (b.bl.map Blk.name) (c :: r) = none := by
      rw [ixN_none, hb]
      intro hm
      obtain ⟨x, hx, he⟩ := List.mem_map.1 hm
      obtain ⟨i, hi, rfl⟩ := List.mem_iff_getElem.1 hx
      have := (bl i hi).1
      rw [gde hi, he] at this
      simp only [List.cons.injEq] at this
      exact hc this.1
    rw [hN.mb, this]; rfl
  have nos : ∀ (c : UInt8) (r : List UInt8), c ≠ 115 → getS b.ms (c :: r) = none := by
    intro c r hc
    have : ixN (b.sp.map Spr.name) (c :: r) = none := by
      rw [ixN_none, hs, List.map_map]
      intro hm
      obtain ⟨x, hx, he⟩ := List.mem_map.1 hm
      obtain ⟨i, hi, rfl⟩ := List.mem_iff_getElem.1 hx
      have := (sp i hi).1
      rw [gde hi] at this
      have he : n.spurs[i].name = c :: r := he
      rw [he] at this
      simp only [List.cons.injEq] at this
      exact hc this.1
    rw [hN.ms, this]; rfl
  refine ⟨e0, f0.1, ?_, ?_, ?_, nob _ _ (by decide), nos _ _ (by decide), nob _ _ (by decide), ?_, ?_, hc⟩
  · have := get_mb hnm hN hb 0 (by omega); rw [e0] at this; exact this
  · have := get_ms hnm hN hs 0 (by omega); rw [f0.1] at this; exact this
  · have := get_ms hnm hN hs 1 (by omega); rw [f1.1] at this; exact this
  · rw [hs, getD_map' base0 n.spurs 0 spr0 spr0 (by omega)]; exact f0.2.1 rfl
  · rw [hs, getD_map' base0 n.spurs 1 spr0 spr0 (by omega)]; exact f1.2.2 (.inl rfl)
theorem lawErrors_at (l : List Int) (kind : Int) (y1 : Nt) (y2 : List Int) (y3 : Int) (hq : NetQ y1 y2 y3) : lawErrors_v l kind y1 y2 y3 = some true := by
  have hP : NetP y1 := hq
  have hv := hP.valid
  have hsm := validN_small hv
  have hdl := descV_sml hv
  obtain ⟨b, hb0, hb1, hb2, hb3, hb4, hb5, hb6⟩ := back_adds hv
  obtain ⟨na, ns, hE⟩ := hP.eb hb2 hb4 hb5 hb6
  obtain ⟨p0, p1, p2, p3, p4, p5, p6, p7, p8, p9, p10, p11⟩ := bads hE
  have hnb := hP.nb
  have hns := hP.ns
  unfold lawErrors_v
  show Option.bind (ndescribe_v y1) _ = _
  rw [ndescribe_at y1 hsm, if_pos hv, Option.bind_some]
  simp only [decide_true, cond_true]
  rw [decide_eq_false (by omega), cond_false, decide_eq_false (by omega), cond_false, show idxO y1.blocks 0 = some (y1.blocks.getD 0 blk0) from idxO_at y1.blocks 0 blk0 (by omega), Option.bind_some,
    show idxO y1.spurs 0 = some (y1.spurs.getD 0 spr0) from idxO_at y1.spurs 0 spr0 (by omega), Option.bind_some, na, ns]
  obtain ⟨k, hk, hke⟩ := mk_cut kind 12 (by omega) (by omega)
  rw [hke, Option.bind_some]
  have fin : ∀ (x : Dc) (e : Int), e ≠ 0 → (b.addV ⟨x.word, 77, x.names, x.nums⟩).1 = e → x.names.length ≤ 10 → x.nums.length ≤ 10 →
      (cond (decide ((descV y1).length + 1 < 10000000)) (Option.bind (nbuild_v (descV y1 ++ [(⟨x.word, 77, x.names, x.nums⟩ : Dc)])) fun (x27, x28, x29) => Option.bind (some e) fun x31 => cond (decide (x29 = x31)) (cond (decide (x28 = 77)) (some (decide (((x27.blocks.length : Nat) : Int) = 0))) (some false)) (some false)) none : Option Bool) = some true := by
    intro x e he h1 h2 h3
    have hl := (descV_len y1 hv).1
    rw [decide_eq_true (by omega), cond_true, nbuild_v_at _ ⟨by simp; omega, fun z hz => by
      rcases List.mem_append.1 hz with hz | hz
      · exact hdl.2 z hz
      · rw [List.mem_singleton.1 hz]; simp only; omega⟩, adds_bad hb0 h1 he, Option.bind_some]
    simp only [Option.bind_some, decide_true, cond_true]
    rfl
  rcases k with _ | _ | _ | _ | _ | _ | _ | _ | _ | _ | _ | _ | k
  · exact fin ⟨1, 0, [[98, 48]], [0, 0]⟩ 8 (by decide) p0 (by decide) (by decide)
  · exact fin ⟨1, 0, [[115, 48]], [0, 0]⟩ 8 (by decide) p1 (by decide) (by decide)
  · exact fin ⟨4, 0, [[98, 48], [98, 48], [98, 48]], [1]⟩ 8 (by decide) p2 (by decide) (by decide)
  · exact fin ⟨2, 0, [[98, 48], [98, 48]], []⟩ 10 (by decide) p3 (by decide) (by decide)
  · exact fin ⟨2, 0, [[98, 48], [122, 122]], []⟩ 9 (by decide) p4 (by decide) (by decide)
  · exact fin ⟨3, 0, [[122, 122], [98, 48], [115, 48]], [1]⟩ 9 (by decide) p5 (by decide) (by decide)
  · exact fin ⟨3, 0, [[122, 122], [98, 48], [98, 48]], [0]⟩ 12 (by decide) p6 (by decide) (by decide)
  · exact fin ⟨3, 0, [[122, 122], [98, 48], [98, 48]], [5]⟩ 12 (by decide) p7 (by decide) (by decide)
  · exact fin ⟨5, 0, [[115, 49]], [1]⟩ 9 (by decide) p8 (by decide) (by decide)
  · exact fin ⟨5, 0, [[115, 48]], [0]⟩ 12 (by decide) p9 (by decide) (by decide)
  · exact fin ⟨6, 0, [], [1, 1, 1, 1]⟩ 11 (by decide) p10 (by decide) (by decide)
  · exact fin ⟨6, 0, [], [1, 1, 1]⟩ 20 (by decide) p11 (by decide) (by decide)
  · omega
end Go.Am
end
section
namespace Go.Am
open Go Go.Proofs
set_option maxRecDepth 100000
set_option linter.unusedVariables false
set_option linter.unusedSimpArgs false
end Go.Am
end
