/- Texts of this proof, what it rests on, merged: part C. -/
import Derived.ChangeArms
import Derived.ChangeSame
import Derived.OpenShut
import Derived.RowKit
import Derived.Test.YtocjeibecmijeaaNzB
section
set_option linter.unusedVariables false
set_option linter.unusedSimpArgs false
namespace Go.Am
open Go Go.ChangeShapes Go.RowKit
def contig (P : Program) : Nat → List Field → Option Nat
  | o, [] => some o
  | o, f :: r => if f.offset = o then contig P (o + P.cellsOf f.type) r else none
def plainB (P : Program) : Nat → TypeId → Bool
  | 0, _ => false
  | n + 1, t => match P.underlying t with
    | some .bool | some (.int _) | some .string => true
    | some (.slice e) => decide (0 < P.cellsOf e) && plainB P n e
    | some (.struct fs) => decide (contig P 0 fs.toList = some (P.cellsOf t)) && fs.toList.all fun f => plainB P n f.type
    | some (.array m e) => decide (m * P.cellsOf e = P.cellsOf t) && plainB P n e
    | _ => false
mutual
def flatD {H : Type} : DataW H → List Pd
  | .lit (.int k n) => [.int k n]
  | .lit (.bool b) => [.bool b]
  | .lit (.string l) => [.str l]
  | .nil => [.sl []]
  | .slice elems _ => [.sl (flatE elems)]
  | .agg parts => flatA parts
  | _ => []
def flatE {H : Type} : List (DataW H) → List (List Pd)
  | [] => []
  | d :: r => flatD d :: flatE r
def flatA {H : Type} : List (DataW H) → List Pd
  | [] => []
  | d :: r => flatD d ++ flatA r
end
def argD {H : Type} (d : DataW H) : D := .p ((flatD d).getD 0 (.bool false))
def PRl (F : Nat → Prop) (w : World) (xs : List Pd) (vs : List Value) : Prop := xs.length = vs.length ∧ ∀ (i : Nat) x, xs[i]? = some x → PR F w x (vs.getD i undef)
section
variable {H : Type} {enc : TypeId × Value → H} {P : Program} {w : World} {spare : Nat → Bool} {held : Bool}
theorem PRl.append {F : Nat → Prop} {xs ys : List Pd} {vs ws : List Value} (h : PRl F w xs vs) (h' : PRl F w ys ws) : PRl F w (xs ++ ys) (vs ++ ws) := by
  refine ⟨by simp [h.1, h'.1], fun i x hx => ?_⟩
  rw [List.getElem?_append] at hx
  rw [List.getD_eq_getElem?_getD, List.getElem?_append, ← h.1]
  split at hx
  · rename_i hl; rw [if_pos hl]; simpa [List.getD] using h.2 i x hx
  · rename_i hl; rw [if_neg hl]; simpa [List.getD] using h'.2 _ x hx
theorem PRl.one {F : Nat → Prop} {x : Pd} {v : Value} (h : PR F w x v) : PRl F w [x] [v] := by
  refine ⟨rfl, fun i y hy => ?_⟩
  cases i with
  | zero => simp only [List.getElem?_cons_zero, Option.some.injEq] at hy; subst hy; exact h
  | succ i => simp at hy
theorem flatA_struct {F : Nat → Prop} {cs : List Value} {n : Nat} {m : Nat} (ih : ∀ t, plainB P m t = true → ∀ cs x, DataW.trod enc P w 0 spare held n t cs = some x → PRl F w (flatD x.1) cs) :
    ∀ (fs : List Field) (xs : List (DataW H × List MemPlace)) (o tot : Nat), xs.length = fs.length → contig P o fs = some tot → cs.length = tot → (fs.all fun f => plainB P m f.type) = true →
      (∀ (i : Nat) (f : Field), fs[i]? = some f → DataW.trod enc P w 0 spare held n f.type ((cs.drop f.offset).take (P.cellsOf f.type)) = xs[i]?) → PRl F w (flatA (xs.map (·.1))) (cs.drop o)
  | [], xs, o, tot, hl, hc, hcs, _, _ => by
    have : xs = [] := List.eq_nil_of_length_eq_zero hl
    subst this
    simp only [contig, Option.some.injEq] at hc
    subst hc
    rw [List.drop_of_length_le (by omega)]
    exact ⟨rfl, fun i x hx => by simp [flatA] at hx⟩
  | f :: r, xs, o, tot, hl, hc, hcs, hp, hx => by
    cases xs with
    | nil => simp at hl
    | cons x xs =>
      simp only [contig] at hc
      split at hc
      case isFalse => cases hc
      rename_i ho
      simp only [List.all_cons, Bool.and_eq_true] at hp
      have h0 := hx 0 f rfl
      simp only [List.getElem?_cons_zero] at h0
      have h1 := ih f.type hp.1 _ _ h0
      have h2 := flatA_struct ih r xs (o + P.cellsOf f.type) tot (by simpa using hl) hc hcs hp.2 (fun i g hg => by simpa using hx (i + 1) g (by simpa using hg))
      have e : cs.drop o = (cs.drop f.offset).take (P.cellsOf f.type) ++ cs.drop (o + P.cellsOf f.type) := by
        rw [ho, ← List.drop_drop, List.take_append_drop]
      rw [e]
      simp only [List.map_cons, flatA]
      exact h1.append h2
theorem flatA_array {F : Nat → Prop} {cs : List Value} {e : TypeId} {n k : Nat} (ih : ∀ cs x, DataW.trod enc P w 0 spare held n e cs = some x → PRl F w (flatD x.1) cs) :
    ∀ (xs : List (DataW H × List MemPlace)) (i0 : Nat), cs.length = (i0 + xs.length) * k → (∀ i, i < xs.length → DataW.trod enc P w 0 spare held n e ((cs.drop ((i0 + i) * k)).take k) = xs[i]?) →
      PRl F w (flatA (xs.map (·.1))) (cs.drop (i0 * k))
  | [], i0, hl, _ => by
    rw [List.drop_of_length_le (by simp at hl; omega)]
    exact ⟨rfl, fun i x hx => by simp [flatA] at hx⟩
  | x :: xs, i0, hl, hx => by
    have h0 := hx 0 (by simp)
    simp only [Nat.add_zero, List.getElem?_cons_zero] at h0
    have h1 := ih _ _ h0
    have h2 := flatA_array ih xs (i0 + 1) (by rw [hl]; simp only [List.length_cons]; rw [show i0 + (xs.length + 1) = i0 + 1 + xs.length by omega]) (fun i hi => by
      have := hx (i + 1) (by simp only [List.length_cons]; omega)
      rw [show i0 + (i + 1) = i0 + 1 + i by omega] at this
      simpa using this)
    have e : cs.drop (i0 * k) = (cs.drop (i0 * k)).take k ++ cs.drop ((i0 + 1) * k) := by
      rw [Nat.add_mul, Nat.one_mul, ← List.drop_drop, List.take_append_drop]
    rw [e]
    simp only [List.map_cons, flatA]
    exact h1.append h2
theorem cells_get {base n : Nat} {a : Addr} {cs : List Value} (h : w.cells? base a n = some cs) : cs.length = n ∧ ∀ j, j < n → w.cell? (a.add j) = cs[j]? := by
  unfold World.cells? at h
  split at h
  · exact ⟨by simpa using mapM_some_length h, fun j hj => mapM_some_get h j j (by simp [hj])⟩
  · cases h
theorem flatE_map (xs : List (DataW H × List MemPlace)) : flatE (xs.map (·.1)) = xs.map fun x => flatD x.1 := by
  induction xs with
  | nil => rfl
  | cons x r ih => simp [flatE, ih]
theorem cell_row {w : World} {a : Addr} {v : Value} (h : w.cell? a = some v) : ∃ c t fr, w.heap[a.block]? = some (.cells c t fr) ∧ a.spot = none ∧ c[a.off]? = some v := by
  unfold World.cell? at h
  split at h
  · rename_i c t fr hb
    split at h
    · cases h
    · rename_i hs; exact ⟨c, t, fr, hb, by simpa using hs, h⟩
  · cases h
theorem trodP {F : Nat → Prop} (hF : ∀ b, b < w.heap.size → F b) : ∀ (m : Nat) (t : TypeId), plainB P m t = true → ∀ (fuel : Nat) (cs : List Value) (x : DataW H × List MemPlace),
    DataW.trod enc P w 0 spare held fuel t cs = some x → PRl F w (flatD x.1) cs := by
  intro m
  induction m with
  | zero => intro t h; simp [plainB] at h
  | succ m ih =>
    intro t ht fuel cs x h
    simp only [plainB] at ht
    split at ht
    · rename_i hu
      obtain ⟨b, rfl, rfl⟩ := DataW.trod_bool hu h
      exact .one (.bool b)
    · rename_i k hu
      obtain ⟨n, rfl, rfl, _⟩ := DataW.trod_int hu h
      exact .one (.int k n)
    · rename_i hu
      obtain ⟨s, rfl, rfl, _⟩ := DataW.trod_string hu h
      have := PR.str (F := F) (w := w) s.data.toList
      exact .one (by simpa using this)
    · rename_i e hu
      simp only [Bool.and_eq_true, decide_eq_true_eq] at ht
      obtain ⟨hk, hpe⟩ := ht
      rcases DataW.trod_slice hu h with ⟨rfl, rfl⟩ | ⟨a, len, cap, elems, rest, n, rfl, rfl, rfl, hb, hl, hc, hel, hget, _, _⟩
      · exact .one (.sl0 none 0)
      · refine .one ?_
        simp only [flatE_map]
        have hg : ∀ (i : Nat) y, elems[i]? = some y → ∃ cs', w.cells? 0 (a.add (i * P.cellsOf e)) (P.cellsOf e) = some cs' ∧ PRl F w (flatD y.1) cs' := by
          intro i y hy
          have hi : i < len := by rw [← hel]; exact (List.getElem?_eq_some_iff.1 hy).1
          have := hget i hi
          rw [hy] at this
          obtain ⟨cs', h1, h2⟩ := Option.bind_eq_some_iff.1 this
          exact ⟨cs', h1, ih e hpe _ _ _ h2⟩
        have hsub : ∀ (i : Nat) z, (elems.map fun x => flatD x.1)[i]? = some z → ∃ y, elems[i]? = some y ∧ z = flatD y.1 := by
          intro i z hz
          rw [List.getElem?_map] at hz
          cases hy : elems[i]? with
          | none => rw [hy] at hz; cases hz
          | some y => rw [hy] at hz; cases hz; exact ⟨y, rfl, rfl⟩
        by_cases h0 : len = 0
        · have : elems = [] := List.eq_nil_of_length_eq_zero (hel.trans h0)
          subst this
          subst h0
          exact .sl0 (some a) cap
        · have h00 : ∃ y, elems[0]? = some y := ⟨_, List.getElem?_eq_getElem (by omega)⟩
          obtain ⟨y, hy⟩ := h00
          obtain ⟨cs', h1, _⟩ := hg 0 y hy
          obtain ⟨hln, hcell⟩ := cells_get h1
          have hc0 := hcell 0 hk
          rw [List.getElem?_eq_getElem (by omega)] at hc0
          obtain ⟨c, te, fr, hh, hspot, _⟩ := cell_row hc0
          obtain ⟨b, off, spot⟩ := a
          simp [Addr.add] at hh hspot
          subst hspot
          have hcells : ∀ (i : Nat) z (j : Nat) q, (elems.map fun x => flatD x.1)[i]? = some z → z[j]? = some q → ∃ v, c[off + i * P.cellsOf e + j]? = some v ∧ PR F w q v := by
            intro i z j q hz hq
            obtain ⟨y, hy, rfl⟩ := hsub i z hz
            obtain ⟨cs2, h3, h4⟩ := hg i y hy
            obtain ⟨hln2, hcell2⟩ := cells_get h3
            have hj : j < P.cellsOf e := by
              have := (List.getElem?_eq_some_iff.1 hq).1
              rw [h4.1, hln2] at this
              exact this
            have h5 := hcell2 j hj
            rw [List.getElem?_eq_getElem (by omega)] at h5
            obtain ⟨c2, te2, fr2, hh2, _, h6⟩ := cell_row h5
            simp only [Addr.add_lit] at hh2 h6
            rw [hh] at hh2
            cases hh2
            refine ⟨_, h6, ?_⟩
            have := h4.2 j q hq
            rwa [List.getD_eq_getElem?_getD, List.getElem?_eq_getElem (by omega)] at this
          have hlen : (elems.map fun x => flatD x.1).length = len := by simp [hel]
          have := PR.sl (F := F) (w := w) (elems.map fun x => flatD x.1) b off cap (P.cellsOf e) c te fr (hF b (Array.getElem?_eq_some_iff.1 hh).1) hh (by omega)
            (fun i z hz => by
              obtain ⟨y, hy, rfl⟩ := hsub i z hz
              obtain ⟨cs2, h3, h4⟩ := hg i y hy
              rw [h4.1, (cells_get h3).1])
            (fun i z j q hz hq => by obtain ⟨v, hv, _⟩ := hcells i z j q hz hq; exact (Array.getElem?_eq_some_iff.1 hv).1)
            (fun i z j q hz hq => by
              obtain ⟨v, hv, hp⟩ := hcells i z j q hz hq
              rw [Array.getD_eq_getD_getElem?, hv]; exact hp)
          rwa [hlen] at this
    · rename_i fs hu
      simp only [Bool.and_eq_true, decide_eq_true_eq] at ht
      obtain ⟨xs, n, rfl, rfl, hl, hxl, hget⟩ := DataW.trod_struct hu h
      have := flatA_struct (F := F) (cs := cs) (fun t ht cs x hx => ih t ht n cs x hx) fs.toList xs 0 _ (by simpa using hxl) ht.1 hl ht.2 (fun i f hf => hget i f (by simpa using hf))
      simpa [flatD] using this
    · rename_i k e hu
      simp only [Bool.and_eq_true, decide_eq_true_eq] at ht
      obtain ⟨xs, n, rfl, rfl, hl, hxl, hget⟩ := DataW.trod_array hu h
      have := flatA_array (F := F) (cs := cs) (fun cs x hx => ih e ht.2 n cs x hx) xs 0 (by rw [hl, hxl, Nat.zero_add, ht.1]) (fun i hi => by rw [Nat.zero_add]; exact hget i (by omega))
      simpa [flatD] using this
    · cases ht
end
end Go.Am
namespace Go.Am
open Go Go.ChangeShapes Go.RowKit
section
variable {H : Type} {enc : TypeId × Value → H} {P : Program} {w : World} {held : Bool}
theorem trodSp {sp : Nat → Bool} : ∀ (m : Nat) (t : TypeId), plainB P m t = true → ∀ (fuel : Nat) (cs : List Value) (x : DataW H × List MemPlace),
    DataW.trod enc P w 0 (fun _ => true) held fuel t cs = some x → (∀ p ∈ x.2, sp p.block = true) → DataW.trod enc P w 0 sp held fuel t cs = some x := by
  intro m
  induction m with
  | zero => intro t h; simp [plainB] at h
  | succ m ih =>
    intro t ht fuel cs x h hsp
    cases fuel with
    | zero => simp [DataW.trod] at h
    | succ n =>
    simp only [plainB] at ht
    split at ht
    · rename_i hu
      obtain ⟨b, rfl, rfl⟩ := DataW.trod_bool hu h
      simp [DataW.trod, hu]
    · rename_i k hu
      obtain ⟨j, rfl, rfl, hw⟩ := DataW.trod_int hu h
      simp [DataW.trod, hu, hw]
    · rename_i hu
      obtain ⟨s, rfl, rfl, hl⟩ := DataW.trod_string hu h
      simp [DataW.trod, hu, hl]
    · rename_i e hu
      simp only [Bool.and_eq_true, decide_eq_true_eq] at ht
      obtain ⟨hk, hpe⟩ := ht
      unfold DataW.trod at h ⊢
      rw [hu] at h ⊢
      split at h
      all_goals first | (simp_all; done) | skip
      rename_i e1 a len cap he
      simp only [Option.some.injEq, TypeDesc.slice.injEq] at he
      subst he
      simp only at h ⊢
      split at h
      case isFalse => cases h
      rename_i hb
      rw [if_pos hb]
      simp only [Option.bind_eq_some_iff, Option.map_eq_some_iff, if_true] at h ⊢
      obtain ⟨elems, hel, rest, hre, rfl⟩ := h
      have hin : ∀ y ∈ elems ++ rest, ∀ p ∈ y.2, sp p.block = true := fun y hy p hp => hsp p (by
        simp only [List.mem_append, List.mem_flatMap]
        exact .inr ⟨y, by simpa using hy, hp⟩)
      have step : ∀ (i : Nat) (y : DataW H × List MemPlace), y ∈ elems ++ rest → (w.cells? 0 (a.add (i * P.cellsOf e)) (P.cellsOf e)).bind (DataW.trod enc P w 0 (fun _ => true) held n e) = some y →
          (w.cells? 0 (a.add (i * P.cellsOf e)) (P.cellsOf e)).bind (DataW.trod enc P w 0 sp held n e) = some y := by
        intro i y hy h1
        obtain ⟨cs', h2, h3⟩ := Option.bind_eq_some_iff.1 h1
        exact Option.bind_eq_some_iff.2 ⟨cs', h2, ih e hpe _ _ _ h3 (hin y hy)⟩
      refine ⟨elems, mapM_carry hel (fun i y _ hy h1 => step i y (by simp [hy]) h1), rest, ?_, rfl⟩
      by_cases hc : cap - len = 0
      · rw [hc] at hre ⊢
        split
        · exact hre
        · simpa using hre
      · have hrl : rest.length = cap - len := by simpa using mapM_some_length hre
        have hblk : sp a.block = true := hsp (.cell a.block a.off) (by
          simp only [List.mem_append]
          refine .inl (MemPlace.mem_row.2 ⟨0, ?_, by simp⟩)
          exact Nat.mul_pos (by omega) hk)
        rw [if_pos hblk]
        exact mapM_carry hre (fun j y _ hy h1 => step (len + j) y (by simp [hy]) h1)
    · rename_i fs hu
      simp only [Bool.and_eq_true, decide_eq_true_eq] at ht
      unfold DataW.trod at h ⊢
      rw [hu] at h ⊢
      split at h
      all_goals first | (simp_all; done) | skip
      rename_i fs' he
      simp only [Option.some.injEq, TypeDesc.struct.injEq] at he
      subst he
      try simp only at h
      split at h
      case isFalse => cases h
      rename_i hl
      rw [if_pos hl]
      simp only [Option.map_eq_some_iff] at h ⊢
      obtain ⟨xs, hx, rfl⟩ := h
      refine ⟨xs, mapM_carry hx (fun f y hf hy h1 => ih f.type (List.all_eq_true.1 ht.2 f hf) _ _ _ h1 fun p hp => hsp p ?_), rfl⟩
      simp only [List.mem_flatMap]
      exact ⟨y, hy, hp⟩
    · rename_i k e hu
      simp only [Bool.and_eq_true, decide_eq_true_eq] at ht
      unfold DataW.trod at h ⊢
      rw [hu] at h ⊢
      split at h
      all_goals first | (simp_all; done) | skip
      rename_i k' e' he
      simp only [Option.some.injEq, TypeDesc.array.injEq] at he
      obtain ⟨rfl, rfl⟩ := he
      try simp only at h
      split at h
      case isFalse => cases h
      rename_i hl
      rw [if_pos hl]
      simp only [Option.map_eq_some_iff] at h ⊢
      obtain ⟨xs, hx, rfl⟩ := h
      refine ⟨xs, mapM_carry hx (fun i y _ hy h1 => ih _ ht.2 _ _ _ h1 fun p hp => hsp p ?_), rfl⟩
      simp only [List.mem_flatMap]
      exact ⟨y, hy, hp⟩
    · cases ht
end
def topB (P : Program) (t : TypeId) : Bool := plainB P 30 t && match P.underlying t with
  | some (.struct _) => false
  | some (.array _ _) => false
  | _ => true
section
variable {H : Type} {enc : TypeId × Value → H} {P : Program} {W : World}
theorem arg_sound {t : TypeId} {v : Value} {d : DataW H} {ps : List MemPlace} {sp : Nat → Bool} {M : Nat → Mb} {s : Nat → Option Sg} (ht : topB P t = true) {bs : Nat} (hok : Value.okWide P W .any bs t v)
    (h : DataW.Trod enc P W 0 sp true t v d ps) : DR (fun b => b < W.heap.size) W M s (argD d) v := by
  unfold topB at ht
  simp only [Bool.and_eq_true] at ht
  obtain ⟨hp, hs⟩ := ht
  obtain ⟨fuel, hf⟩ := h
  have h1 := trodP (F := fun b => b < W.heap.size) (fun _ h => h) 30 t hp _ _ _ hf
  have hone : v.cells = #[v] := by
    cases v with
    | agg cs =>
      exfalso
      unfold Value.okWide Cell.okWide Cell.ok at hok
      cases hu : P.underlying t with
      | none => rw [hu] at hok; simp at hok
      | some u => rw [hu] at hok hs; cases u <;> simp [plainB, hu] at hok hs hp
    | _ => rfl
  rw [hone] at h1
  have hl : (flatD d).length = 1 := h1.1
  obtain ⟨x, hx⟩ := List.length_eq_one_iff.1 hl
  unfold argD
  simp only [hx, List.getD_cons_zero]
  have := h1.2 0 x (by simp [hx])
  exact .p this
theorem keptBut_old {W W' : World} (hos : W'.os = W.os) (hout : W'.output = W.output) (h : ∀ b, b < W.heap.size → W'.heap[b]? = W.heap[b]?) (may : MemPlace → Prop) : W.keptBut W' may := by
  refine ⟨hos, hout, fun i hi => ?_⟩
  rw [h i hi]
  split
  · rename_i h1 h2
    cases h1.symm.trans h2
    exact ⟨rfl, rfl, rfl, fun _ _ => rfl⟩
  · rename_i h1 h2
    cases h1.symm.trans h2
    exact .inr ⟨rfl, rfl⟩
  · rfl
end
end Go.Am
namespace Go.Am
open Go
def HX (e h h' : Hp) : Prop := ∀ id, get h' id = match get h id with | some o => some o | none => get e id
theorem Rs.and_all {α : Type} {p : Prop} {k : α → Prop} : ∀ {r : Rs α}, p → r.all k → (r.and p).all k
  | .fail, _, h => h.elim
  | .ret q a, hp, h => ⟨⟨hp, h.1⟩, h.2⟩
  | .split b x y, hp, h => ⟨fun e => Rs.and_all hp (h.1 e), fun e => Rs.and_all hp (h.2 e)⟩
theorem Rs.bind_all {α β : Type} {f : α → Rs β} {k : β → Prop} : ∀ {r : Rs α}, r.all (fun a => (f a).all k) → (r.bind f).all k
  | .fail, h => h.elim
  | .ret p a, h => Rs.and_all h.1 h.2
  | .split b x y, h => ⟨fun e => Rs.bind_all (h.1 e), fun e => Rs.bind_all (h.2 e)⟩
section
variable {P : Program} {e h h' : Hp}
theorem HX.sm (hx : HX e h h') {id : Nat} {o : AO} (hg : get h id = some o) : get h' id = some o := by rw [hx, hg]
theorem HX.nn (hx : HX e h h') {id : Nat} (hg : get h id = none) (he : get e id = none) : get h' id = none := by rw [hx, hg]; exact he
theorem HX.sg (hx : HX e h h') {id : Nat} {s : Sg} (hg : sg h id = some s) : sg h' id = some s := by
  unfold Go.Am.sg at *
  cases ho : get h id with
  | none => rw [ho] at hg; cases hg
  | some o => rw [ho] at hg; rw [hx.sm ho]; exact hg
theorem HX.cur (hx : HX e h h') {id N : Nat} (hc : curR h id N) : curR h' id N := by
  unfold curR at *
  cases hs : Go.Am.sg h id with
  | none => rw [hs] at hc; exact hc.elim
  | some s => rw [hs] at hc; rw [hx.sg hs]; exact hc
theorem HX.setL (hx : HX e h h') (id : Nat) (o : AO) : HX e (setL h id o) (setL h' id o) := by
  intro j
  rw [get_setL, get_setL]
  by_cases ej : j = id
  · rw [if_pos ej, if_pos ej]
  · rw [if_neg ej, if_neg ej]; exact hx j
theorem HX.cons (hx : HX e h h') (id : Nat) (o : AO) : HX e ((id, o) :: h) ((id, o) :: h') := by
  intro j
  rw [get_cons, get_cons]
  by_cases ej : id = j
  · rw [if_pos ej, if_pos ej]
  · rw [if_neg ej, if_neg ej]; exact hx j
theorem HX.froze (hx : HX e h h') {id : Nat} {o : AO} (hg : get h id = some o) : HX e (froze h id) (froze h' id) := by
  unfold Go.Am.froze
  rw [hg, hx.sm hg]
  cases o <;> first | exact hx.setL _ _ | exact hx
theorem HX.refl (h : Hp) : HX [] h h := by
  intro id
  cases get h id <;> rfl
theorem HX.one {q : Nat} {o : AO} (hq : get h q = none) : HX [(q, o)] h ((q, o) :: h) := by
  intro id
  simp only [get_cons]
  by_cases ej : q = id
  · subst ej; rw [hq]; simp
  · rw [if_neg ej, if_neg ej]
    cases get h id <;> rfl
theorem loadR_hx (hx : HX e h h') {t : TypeId} {d : D} {k : D → Prop} (hh : (loadR P h t d).all k) : (loadR P h' t d).all k := by
  unfold loadR at *
  split at hh
  · split at hh
    · rename_i h2; simp only [hx.sm h2]; exact hh
    · exact hh.elim
  · exact hh
  · split at hh
    · rename_i h2; simp only [hx.sm h2]; exact hh
    · rename_i h2; simp only [hx.sm h2]; exact hh
    · rename_i h2; simp only [hx.sm h2]; exact hh
    · exact hh.elim
  · split at hh
    · rename_i h2; simp only [hx.sm h2]; exact hh
    · exact hh.elim
  · exact hh.elim
theorem fieldAddrR_hx (hx : HX e h h') {t : TypeId} {d : D} {f : Nat} {k : D → Prop} (hh : (fieldAddrR P t d f h).all k) : (fieldAddrR P t d f h').all k := by
  unfold fieldAddrR at *
  split at hh
  · split at hh
    · split at hh
      · split at hh
        · exact hh
        · exact hh
        · exact ⟨⟨hh.1.1, hx.cur hh.1.2⟩, hh.2⟩
        · exact hh.elim
      · exact hh.elim
    · exact hh.elim
  · exact hh.elim
theorem indexAddrR_hx (hx : HX e h h') {t : TypeId} {d i : D} {k : D → Prop} (hh : (indexAddrR P t d i h).all k) : (indexAddrR P t d i h').all k := by
  unfold indexAddrR at *
  split at hh
  · split at hh
    · split at hh
      · exact hh
      · exact hh
      · split at hh
        · rename_i h2; simp only [hx.sg h2]; exact hh
        · exact hh.elim
      · exact hh
      · exact hh.elim
    · exact hh.elim
  · exact hh
  · exact hh.elim
theorem lenR_hx (hx : HX e h h') {t : TypeId} {d : D} {k : D → Prop} (hh : (lenR P h t d).all k) : (lenR P h' t d).all k := by
  unfold lenR at *
  split at hh
  · split at hh
    · exact hh
    · exact hh
    · exact hh
    · exact ⟨hx.cur hh.1, hh.2⟩
    · exact hh
    · exact hh
    · exact hh
    · exact hh.elim
  · exact hh.elim
theorem sliceR_hx {env : List (Nat × D)} {n : Nat} (hx : HX e h h') {t : TypeId} {x : D} {lo hi mx : Option Operand} {k : D → Prop} (hh : (sliceR P ⟨env, h, n⟩ t x lo hi mx).all k) : (sliceR P ⟨env, h', n⟩ t x lo hi mx).all k := by
  unfold sliceR at *
  split at hh
  · exact hh
  · split at hh
    · split at hh
      · exact hh
      · split at hh
        · rename_i h2; simp only [hx.sg h2]; exact hh
        · exact hh.elim
      · exact hh.elim
    · exact hh.elim
  · exact hh.elim
theorem lookupR_hx (hx : HX e h h') {t : TypeId} {x i : D} {ok : Bool} {k : D → Prop} (hh : (lookupR P h t x i ok).all k) : (lookupR P h' t x i ok).all k := by
  unfold lookupR at *
  split at hh
  · split at hh
    · rename_i h1; simp only [hx.sm h1]; exact hh
    · exact hh.elim
  · exact hh.elim
theorem mapUpR_hx (hx : HX e h h') {t : TypeId} {m i v : D} {k : Hp → Prop} (hh : (mapUpR P h t m i v).all k) : (mapUpR P h' t m i v).all (fun y => ∃ h1, HX e h1 y ∧ k h1) := by
  unfold mapUpR at *
  split at hh
  · split at hh
    · rename_i h1; simp only [hx.sm h1]; exact ⟨hh.1, _, hx.setL _ _, hh.2⟩
    · exact hh.elim
  · exact hh.elim
theorem vOpR_hx {env : List (Nat × D)} {n : Nat} (hx : HX e h h') {op : Op} {k : D → Prop} (hh : (vOpR P ⟨env, h, n⟩ op).all k) : (vOpR P ⟨env, h', n⟩ op).all k := by
  unfold vOpR at *
  cases op <;> simp only at hh ⊢ <;> first
    | exact hh
    | exact loadR_hx hx hh
    | exact sliceR_hx hx hh
    | exact fieldAddrR_hx hx hh
    | exact indexAddrR_hx hx hh
    | exact lookupR_hx hx hh
    | skip
  · have ee : ∀ x, ev ⟨env, h', n⟩ x = ev ⟨env, h, n⟩ x := fun _ => rfl
    simp only [ee]
    split at hh
    · rename_i h1; exact hh
    · rename_i h1; exact hh
    · rename_i h1; exact ⟨hx.cur hh.1, hh.2⟩
    · exact hh.elim
  · rename_i fn _ _
    cases fn <;> first
      | exact hh
      | exact hh.elim
theorem borR_hx (hx : HX e h h') {d : D} {k : D × Hp → Prop} (hh : (borR h d).all k) : (borR h' d).all (fun y => ∃ h1, HX e h1 y.2 ∧ k (y.1, h1)) := by
  unfold borR at *
  split at hh
  · split at hh
    · rename_i h1; simp only [hx.sm h1]; exact ⟨hh.1, _, hx.froze h1, hh.2⟩
    · rename_i h1; simp only [hx.sm h1]; exact ⟨hh.1, _, hx, hh.2⟩
    · exact hh.elim
  · split at hh
    · rename_i h1; simp only [hx.sm h1]; exact ⟨hh.1, _, hx.setL _ _, hh.2⟩
    · exact hh.elim
  · exact ⟨hh.1, _, hx, hh.2⟩
  · exact ⟨hh.1, _, hx, hh.2⟩
mutual
theorem borDR_hx : ∀ {d : D} {h h' : Hp} (_ : HX e h h') {k : D × Hp → Prop} (_ : (borDR h d).all k), (borDR h' d).all (fun y => ∃ h1, HX e h1 y.2 ∧ k (y.1, h1))
  | .agg cs, h, h', hx, k, hh => by
    simp only [borDR] at *
    exact Rs.bind_all (Rs.all_mono (fun y hy => by obtain ⟨h1, hx1, h2⟩ := hy; exact ⟨h2.1, h1, hx1, h2.2⟩) (borDsR_hx hx (Rs.all_bind hh)))
  | .tup cs, h, h', hx, k, hh => by
    simp only [borDR] at *
    exact Rs.bind_all (Rs.all_mono (fun y hy => by obtain ⟨h1, hx1, h2⟩ := hy; exact ⟨h2.1, h1, hx1, h2.2⟩) (borDsR_hx hx (Rs.all_bind hh)))
  | .p _, h, h', hx, k, hh => by simp only [borDR] at *; exact borR_hx hx hh
  | .cl _, h, h', hx, k, hh => by simp only [borDR] at *; exact borR_hx hx hh
  | .cz _, h, h', hx, k, hh => by simp only [borDR] at *; exact borR_hx hx hh
  | .ref _ _ _ _, h, h', hx, k, hh => by simp only [borDR] at *; exact borR_hx hx hh
  | .ptr _ _, h, h', hx, k, hh => by simp only [borDR] at *; exact borR_hx hx hh
  | .pe _, h, h', hx, k, hh => by simp only [borDR] at *; exact borR_hx hx hh
  | .ea _ _ _ _, h, h', hx, k, hh => by simp only [borDR] at *; exact borR_hx hx hh
  | .fn _ _, h, h', hx, k, hh => by simp only [borDR] at *; exact borR_hx hx hh
  | .np, h, h', hx, k, hh => by simp only [borDR] at *; exact borR_hx hx hh
  | .mv _, h, h', hx, k, hh => by simp only [borDR] at *; exact borR_hx hx hh
  | .nref _ _, h, h', hx, k, hh => by simp only [borDR] at *; exact borR_hx hx hh
  | .nea _ _ _, h, h', hx, k, hh => by simp only [borDR] at *; exact borR_hx hx hh
  | .nr _ _ _ _, h, h', hx, k, hh => by simp only [borDR] at *; exact borR_hx hx hh
  | .unk, h, h', hx, k, hh => by simp only [borDR] at *; exact borR_hx hx hh
  | .bad, h, h', hx, k, hh => by simp only [borDR] at *; exact borR_hx hx hh
theorem borDsR_hx : ∀ {ds : List D} {h h' : Hp} (_ : HX e h h') {k : List D × Hp → Prop} (_ : (borDsR h ds).all k), (borDsR h' ds).all (fun y => ∃ h1, HX e h1 y.2 ∧ k (y.1, h1))
  | [], h, h', hx, k, hh => by simp only [borDsR] at *; exact ⟨hh.1, _, hx, hh.2⟩
  | d :: r, h, h', hx, k, hh => by
    simp only [borDsR] at *
    refine Rs.bind_all (Rs.all_mono (fun y hy => ?_) (borDR_hx hx (Rs.all_bind hh)))
    obtain ⟨h1, hx1, h2⟩ := hy
    exact Rs.bind_all (Rs.all_mono (fun z hz => by obtain ⟨h3, hx3, h4⟩ := hz; exact ⟨h4.1, h3, hx3, h4.2⟩) (borDsR_hx hx1 (Rs.all_bind h2)))
end
theorem purR_hx (hx : HX e h h') {d : D} {k : Pd × Hp → Prop} (hh : (purR h d).all k) : (purR h' d).all (fun y => ∃ h1, HX e h1 y.2 ∧ k (y.1, h1)) := by
  unfold purR at *
  split at hh
  · exact ⟨hh.1, _, hx, hh.2⟩
  · exact ⟨hh.1, _, hx, hh.2⟩
  · exact ⟨hh.1, _, hx, hh.2⟩
  · split at hh
    · rename_i h1; simp only [hx.sm h1]; exact ⟨hh.1, _, hx.froze h1, hh.2⟩
    · rename_i h1; simp only [hx.sm h1]; exact ⟨hh.1, _, hx, hh.2⟩
    · exact hh.elim
  · split at hh
    · rename_i h1; simp only [hx.sm h1]; exact ⟨hh.1, _, hx.setL _ _, hh.2⟩
    · exact hh.elim
  · exact hh.elim
theorem pursR_hx : ∀ {ds : List D} {h h' : Hp} (_ : HX e h h') {k : List Pd × Hp → Prop} (_ : (pursR h ds).all k), (pursR h' ds).all (fun y => ∃ h1, HX e h1 y.2 ∧ k (y.1, h1))
  | [], h, h', hx, k, hh => by simp only [pursR] at *; exact ⟨hh.1, _, hx, hh.2⟩
  | d :: r, h, h', hx, k, hh => by
    simp only [pursR] at *
    refine Rs.bind_all (Rs.all_mono (fun y hy => ?_) (purR_hx hx (Rs.all_bind hh)))
    obtain ⟨h1, hx1, h2⟩ := hy
    exact Rs.bind_all (Rs.all_mono (fun z hz => by obtain ⟨h3, hx3, h4⟩ := hz; exact ⟨h4.1, h3, hx3, h4.2⟩) (pursR_hx hx1 (Rs.all_bind h2)))
theorem srcR_hx (hx : HX e h h') {d : D} {k : List (List Pd) → Prop} (hh : (srcR h d).all k) : (srcR h' d).all k := by
  unfold srcR at *
  split at hh
  · exact hh
  · exact hh
  · exact hh
  · split at hh
    · rename_i h1; simp only [hx.sm h1]; exact hh
    · rename_i h1; simp only [hx.sm h1]; exact hh
    · exact hh.elim
  · exact hh.elim
theorem appR_hx (hx : HX e h h') {q : Nat} (hq : get e q = none) {t t2 : TypeId} {s x : D} {k : D × Hp → Prop} (hh : (appR P h q t t2 s x).all k) : (appR P h' q t t2 s x).all (fun y => ∃ h1, HX e h1 y.2 ∧ k (y.1, h1)) := by
  unfold appR at *
  split at hh
  case h_2 => exact hh.elim
  split at hh
  case h_2 => exact hh.elim
  refine Rs.bind_all (Rs.all_mono (fun ys hy => ?_) (srcR_hx hx (Rs.all_bind hh)))
  split at hy
  · obtain ⟨⟨a1, a2, a3, a4, a5, a6⟩, hk⟩ := hy
    exact ⟨⟨a1, a2, a3, a4, hx.nn a5 hq, a6⟩, _, hx.cons _ _, hk⟩
  · refine WIf.mono hy (fun hy => ⟨hy.1, _, hx, hy.2⟩) fun hy => ?_
    obtain ⟨⟨a1, a2, a3, a4, a5, a6⟩, hk⟩ := hy
    exact ⟨⟨a1, a2, a3, a4, hx.nn a5 hq, a6⟩, _, hx.cons _ _, hk⟩
  · obtain ⟨h0, hy⟩ := stopAt_all hy
    refine stopAt_of h0 ?_
    split at hy
    · rename_i h1; simp only [hx.sm h1]; exact ⟨hy.1, _, hx.setL _ _, hy.2⟩
    · exact hy.elim
  · split at hy
    · rename_i h1
      obtain ⟨⟨a1, a2, a3, a4, ⟨b1, b2, b3, b4, b5, b6⟩, a5⟩, hk⟩ := hy
      simp only [hx.sm h1]; exact ⟨⟨a1, a2, a3, a4, ⟨b1, b2, b3, b4, b5, hx.nn b6 hq⟩, a5⟩, _, (hx.setL _ _).cons _ _, hk⟩
    · exact hy.elim
  · exact hy.elim
theorem copyR_hx (hx : HX e h h') {t : TypeId} {s x : D} {k : D × Hp → Prop} (hh : (copyR P h t s x).all k) : (copyR P h' t s x).all (fun y => ∃ h1, HX e h1 y.2 ∧ k (y.1, h1)) := by
  unfold copyR at *
  split at hh
  case h_2 => exact hh.elim
  split at hh
  case h_2 => exact hh.elim
  refine Rs.bind_all (Rs.all_mono (fun ys hy => ?_) (srcR_hx hx (Rs.all_bind hh)))
  split at hy
  case h_2 => exact hy.elim
  split at hy
  case h_2 => exact hy.elim
  rename_i h1
  simp only [hx.sm h1]
  exact ⟨hy.1, _, hx.setL _ _, hy.2⟩
theorem nstStoreR_hx (hx : HX e h h') {id i n : Nat} {v : D} {k : Hp → Prop} (hh : (nstStoreR h id i n v).all k) : (nstStoreR h' id i n v).all (fun y => ∃ h1, HX e h1 y ∧ k h1) := by
  unfold nstStoreR at *
  split at hh
  · split at hh
    · rename_i h1 h2; simp only [hx.sm h1, hx.sm h2]; exact ⟨hh.1, _, (hx.setL _ _).setL _ _, hh.2⟩
    · exact hh.elim
  · exact hh.elim
theorem storeR_hx (hx : HX e h h') {t : TypeId} {a v : D} {k : Hp → Prop} (hh : (storeR P h t a v).all k) : (storeR P h' t a v).all (fun y => ∃ h1, HX e h1 y ∧ k h1) := by
  unfold storeR at *
  split at hh
  case h_2 => exact hh.elim
  split at hh
  case h_2 => exact hh.elim
  split at hh
  · split at hh
    · rename_i h1; simp only [hx.sm h1]; exact ⟨hh.1, _, hx.setL _ _, hh.2⟩
    · exact hh.elim
  · refine Rs.bind_all (Rs.all_mono (fun y hy => ?_) (pursR_hx hx (Rs.all_bind hh)))
    obtain ⟨h1, hx1, hy⟩ := hy
    split at hy
    · rename_i h2; simp only [hx1.sm h2]; exact ⟨hy.1, _, hx1.setL _ _, hy.2⟩
    · exact hy.elim
  · exact Rs.and_all (Rs.all_and' hh).1 (nstStoreR_hx hx (Rs.all_and' hh).2)
  · exact hh.elim
end
end Go.Am
namespace Go.Am
open Go
section
variable {P : Program} {e h h' : Hp}
theorem mOpR_hx {env : List (Nat × D)} {n : Nat} (hx : HX e h h') {q : Nat} (hq : get e q = none) {op : Op} {k : D × Hp → Prop} (hh : (mOpR P ⟨env, h, n⟩ q op).all k) :
    (mOpR P ⟨env, h', n⟩ q op).all (fun y => ∃ h1, HX e h1 y.2 ∧ k (y.1, h1)) := by
  have ee : ∀ x, ev ⟨env, h', n⟩ x = ev ⟨env, h, n⟩ x := fun _ => rfl
  have ef : ev ⟨env, h', n⟩ = ev ⟨env, h, n⟩ := funext ee
  unfold mOpR at *
  simp only [ee] at *
  split at hh
  · split at hh
    · split at hh
      · exact ⟨hx.nn hh.1 hq, _, hx.cons _ _, hh.2⟩
      · exact hh.elim
    · exact hh.elim
  · split at hh
    · exact ⟨hx.nn hh.1 hq, _, hx.cons _ _, hh.2⟩
    · exact hh.elim
  · refine Rs.bind_all (Rs.all_mono (fun y hy => ?_) (storeR_hx hx (Rs.all_bind hh)))
    obtain ⟨h1, hx1, hy⟩ := hy
    exact ⟨hy.1, h1, hx1, hy.2⟩
  · exact ⟨hx.nn hh.1 hq, _, hx.cons _ _, hh.2⟩
  · refine Rs.bind_all (Rs.all_mono (fun y hy => ?_) (mapUpR_hx hx (Rs.all_bind hh)))
    obtain ⟨h1, hx1, hy⟩ := hy
    exact ⟨hy.1, h1, hx1, hy.2⟩
  · split at hh
    · split at hh
      · split at hh
        · split at hh
          · exact hh.elim
          rename_i hn
          rw [if_neg hn]
          refine Rs.bind_all (Rs.all_mono (fun y hy => ?_) (pursR_hx hx (Rs.all_bind hh)))
          obtain ⟨h1, hx1, hy⟩ := hy
          exact ⟨⟨hy.1.1, hy.1.2.1, hx1.nn hy.1.2.2 hq⟩, _, hx1.cons _ _, hy.2⟩
        · exact hh.elim
      · exact hh.elim
    · exact hh.elim
  · split at hh
    · split at hh
      · split at hh
        · exact hh.elim
        rename_i hn
        rw [if_neg hn]
        refine Rs.bind_all (Rs.all_mono (fun y hy => ?_) (Rs.all_bind hh))
        exact ⟨⟨hy.1.1, hx.nn hy.1.2.1 hq, hy.1.2.2⟩, _, hx.cons _ _, hy.2⟩
      · exact hh.elim
    · exact hh.elim
  · exact hh.elim
theorem builtinR_hx {env : List (Nat × D)} {n : Nat} (hx : HX e h h') {q : Nat} (hq : get e q = none) {b : Builtin} {ts : Array TypeId} {args : List D} {k : D × Hp → Prop} (hh : (builtinR P ⟨env, h, n⟩ q b ts args).all k) :
    (builtinR P ⟨env, h', n⟩ q b ts args).all (fun y => ∃ h1, HX e h1 y.2 ∧ k (y.1, h1)) := by
  unfold builtinR at *
  split at hh
  · split at hh
    · refine Rs.bind_all (Rs.all_mono (fun y hy => ?_) (lenR_hx hx (Rs.all_bind hh)))
      exact ⟨hy.1, _, hx, hy.2⟩
    · exact hh.elim
  · split at hh
    · exact appR_hx hx hq hh
    · exact hh.elim
  · split at hh
    · exact copyR_hx hx hh
    · exact hh.elim
  · exact ⟨hh.1, _, hx, hh.2⟩
  · exact ⟨hh.1, _, hx, hh.2⟩
  · exact ⟨hh.1, _, hx, hh.2⟩
  · exact hh.elim
theorem doR_hx {env : List (Nat × D)} {n : Nat} (hx : HX e h h') {o : Oper} (hq : get e (o.dst.getD 0) = none) {k : D × Hp → Prop} (hh : (doR P ⟨env, h, n⟩ o).all k) :
    (doR P ⟨env, h', n⟩ o).all (fun y => ∃ h1, HX e h1 y.2 ∧ k (y.1, h1)) := by
  have val : ∀ {op : Op}, ((vOpR P ⟨env, h, n⟩ op).bind fun d => .ret True (d, h)).all k → ((vOpR P ⟨env, h', n⟩ op).bind fun d => .ret True (d, h')).all (fun y => ∃ h1, HX e h1 y.2 ∧ k (y.1, h1)) := fun hv =>
    Rs.bind_all (Rs.all_mono (fun d hd => ⟨hd.1, _, hx, hd.2⟩) (vOpR_hx hx (Rs.all_bind hv)))
  unfold doR at *
  split at hh
  · split at hh
    · exact builtinR_hx hx hq hh
    · exact hh.elim
  · rename_i h1; exact mOpR_hx hx hq hh
  · exact mOpR_hx hx hq hh
  · exact mOpR_hx hx hq hh
  · exact mOpR_hx hx hq hh
  · exact mOpR_hx hx hq hh
  · exact mOpR_hx hx hq hh
  · exact mOpR_hx hx hq hh
  · exact val hh
theorem callR_hx {env : List (Nat × D)} {n : Nat} (hx : HX e h h') {f : Operand} {args : List Operand} {k : FuncId × List D × Hp → Prop} (hh : (callR ⟨env, h, n⟩ f args).all k) :
    (callR ⟨env, h', n⟩ f args).all (fun y => ∃ h1, HX e h1 y.2.2 ∧ k (y.1, y.2.1, h1)) := by
  have ee : ∀ x, ev ⟨env, h', n⟩ x = ev ⟨env, h, n⟩ x := fun _ => rfl
  have ef : ev ⟨env, h', n⟩ = ev ⟨env, h, n⟩ := funext ee
  unfold callR at *
  rw [ef]
  split at hh
  · refine Rs.bind_all (Rs.all_mono (fun y hy => ?_) (borDsR_hx hx (Rs.all_bind hh)))
    obtain ⟨h1, hx1, hy⟩ := hy
    exact ⟨hy.1, h1, hx1, hy.2⟩
  · exact hh.elim
theorem addNew_sub : ∀ (l T : List Nat) (id : Nat), id ∈ T → id ∈ addNew T l
  | [], T, id, h => h
  | i :: r, T, id, h => by
    simp only [addNew]
    split
    · exact addNew_sub r T id h
    · exact addNew_sub r _ id (List.mem_append_left _ h)
theorem idsAt_hx (hx : HX e h h') : ∀ (l : List Nat), (∀ id ∈ l, (get h id).isSome = true) → idsAt h' l = idsAt h l
  | [], _ => rfl
  | i :: r, hp => by
    obtain ⟨o, ho⟩ := Option.isSome_iff_exists.1 (hp i (by simp))
    simp only [idsAt, ho, hx.sm ho, idsAt_hx hx r (fun id hi => hp id (by simp [hi]))]
theorem ghost_hx (hx : HX e h h') (he : ∀ id, get e id ≠ none → id < 10000) {id : Nat} (hid : base ≤ id) : ghost h' id = ghost h id := by
  have : get h' id = get h id := by
    rw [hx]
    cases hg : get h id with
    | some o => rfl
    | none =>
      cases he2 : get e id with
      | none => rfl
      | some o => have := he id (by rw [he2]; simp); unfold base at hid; omega
  simp only [ghost, this]
theorem ghosts_hx (hx : HX e h h') (he : ∀ id, get e id ≠ none → id < 10000) : ghosts h' = ghosts h := by
  simp only [ghosts, ghost_hx hx he (Nat.le_refl base), ghost_hx hx he (Nat.le_add_right base 1), ghost_hx hx he (Nat.le_add_right base 2), ghost_hx hx he (Nat.le_add_right base 3)]
theorem closeT_hx (hx : HX e h h') (he : ∀ id, get e id ≠ none → id < 10000) (ids : List Nat) (hp : ∀ id ∈ closeT h ids, (get h id).isSome = true) : closeT h' ids = closeT h ids := by
  unfold closeT at *
  simp only at hp ⊢
  have h0 : idsAt h' (addNew [] ids) = idsAt h (addNew [] ids) := idsAt_hx hx _ fun id hi => hp id (addNew_sub _ _ _ (addNew_sub _ _ _ (addNew_sub _ _ _ hi)))
  rw [h0]
  have h1 : idsAt h' (addNew (addNew [] ids) (idsAt h (addNew [] ids))) = idsAt h (addNew (addNew [] ids) (idsAt h (addNew [] ids))) := idsAt_hx hx _ fun id hi => hp id (addNew_sub _ _ _ (addNew_sub _ _ _ hi))
  rw [h1, ghosts_hx hx he]
theorem sub_hx (hx : HX e h h') (ρ : Nat → Option Nat) : ∀ (T : List Nat) (k : Nat), (∀ id ∈ T, (get h id).isSome = true) → sub h' ρ k T = sub h ρ k T
  | [], _, _ => rfl
  | i :: r, k, hp => by
    obtain ⟨o, ho⟩ := Option.isSome_iff_exists.1 (hp i (by simp))
    simp only [sub, ho, hx.sm ho, sub_hx hx ρ r (k + 1) (fun id hi => hp id (by simp [hi]))]
theorem fresh_hx (hx : HX e h h') {q : Nat} (hq : ∀ j, get e (10000 * (j + 1) + q) = none) : ∀ (l : Hp), fresh q h l → fresh q h' l
  | [], _ => trivial
  | (j, _) :: r, hf => ⟨hf.1.imp id fun h1 => hx.nn h1 (hq j), fresh_hx hx hq r hf.2⟩
theorem merge_hx (hx : HX e h h') (T : List Nat) (q : Nat) : ∀ (l : Hp), HX e (merge T q h l) (merge T q h' l)
  | [] => hx
  | (j, o) :: r => by
    simp only [merge]
    split
    · exact (merge_hx hx T q r).setL _ _
    · exact merge_hx hx T q r
theorem callD_hx (hx : HX e h h') {f : FuncId} {ds : List D} {q : Nat} (he : ∀ id, get e id ≠ none → id < 10000) (hq : ∀ j, get e (10000 * (j + 1) + q) = none) {k : D → Hp → Prop} (hh : callD P h f ds q k) :
    callD P h' f ds q (fun d y => ∃ h1, HX e h1 y ∧ k d h1) := by
  unfold callD at *
  obtain ⟨h1, h2, h3⟩ := hh
  have hp : ∀ id ∈ closeT h (idsL ds), (get h id).isSome = true := fun id hi => List.all_eq_true.1 h2 id hi
  rw [closeT_hx hx he _ hp]
  refine ⟨h1, List.all_eq_true.2 fun id hi => ?_, ?_⟩
  · obtain ⟨o, ho⟩ := Option.isSome_iff_exists.1 (hp id hi)
    rw [hx.sm ho]; rfl
  · rw [sub_hx hx _ _ _ hp]
    exact h3.mono fun h2 r ⟨hf, hk⟩ => ⟨fresh_hx hx hq h2 hf, _, merge_hx hx _ _ _, hk⟩
theorem Rs.all_allOr {α : Type} {S : Prop} {k : α → Prop} : ∀ {r : Rs α}, r.all k → r.allOr S k
  | .fail, h => h.elim
  | .ret p a, h => h
  | .split b x y, h => ⟨fun e => Rs.all_allOr (h.1 e), fun e => Rs.all_allOr (h.2 e)⟩
theorem callD_mono {f : FuncId} {ds : List D} {q : Nat} {k k' : D → Hp → Prop} (hk : ∀ d y, k d y → k' d y) (hh : callD P h f ds q k) : callD P h f ds q k' := by
  unfold callD at *
  exact ⟨hh.1, hh.2.1, hh.2.2.mono fun h2 r ⟨hf, h3⟩ => ⟨hf, hk _ _ h3⟩⟩
theorem wDo_hx {env : List (Nat × D)} {n : Nat} (hx : HX e h h') {o : Oper} (hq : ∀ id, get e id ≠ none → id < 10000) (hd : get e (o.dst.getD 0) = none) {K : St → Prop} (hh : wDo P false o K ⟨env, h, n⟩) :
    wDo P false o (fun st => ∃ h1, HX e h1 st.hp ∧ K { st with hp := h1 }) ⟨env, h', n⟩ := by
  have hnew : ∀ j, get e (10000 * (j + 1) + o.dst.getD 0) = none := fun j => by
    cases hg : get e (10000 * (j + 1) + o.dst.getD 0) with
    | none => rfl
    | some x => have := hq _ (by rw [hg]; simp); omega
  have key : ∀ (y h2 : Hp) (d : D), K ((⟨env, h2, n⟩ : St).put o.dst d) → K { (⟨env, y, n⟩ : St).put o.dst d with hp := h2 } := by
    intro y h2 d hk
    generalize o.dst = dst at hk ⊢
    cases dst with
    | none => exact hk
    | some t =>
      simp only [St.put] at hk ⊢
      split
      · rename_i ht; rw [if_pos ht] at hk; exact hk
      · rename_i ht; rw [if_neg ht] at hk; exact hk
  have hputh : ∀ (st : St) (t : Option Nat) (d : D), (st.put t d).hp = st.hp := by
    intro st t d
    cases t with
    | none => rfl
    | some t => simp only [St.put]; split <;> rfl
  unfold wDo at *
  split at hh
  · rename_i f args ho
    rcases Rs.allOr_or hh with hh | hh
    case inr => exact (Bool.false_ne_true hh.1).elim
    simp only [callDO_false] at hh ⊢
    refine Rs.all_allOr (Rs.all_mono (fun x hx2 => ?_) (callR_hx hx hh))
    obtain ⟨h1, hx1, hc⟩ := hx2
    have := callD_hx hx1 hq hnew hc
    refine callD_mono (fun d y hy => ?_) this
    obtain ⟨h2, hx2, hk⟩ := hy
    exact ⟨h2, by rw [hputh]; exact hx2, key _ _ _ hk⟩
  · rcases Rs.allOr_or hh with hh | hh
    case inr => exact (Bool.false_ne_true hh.1).elim
    refine Rs.all_allOr (Rs.all_mono (fun x hx2 => ?_) (doR_hx hx hd hh))
    obtain ⟨h1, hx1, hk⟩ := hx2
    exact ⟨h1, by rw [hputh]; exact hx1, key _ _ _ hk⟩
end
end Go.Am
namespace Go.Am
open Go
def Pres (h : Hp) (d : D) : Prop := ∀ id ∈ d.ids, get h id ≠ none
def PresL (h : Hp) (ds : List D) : Prop := ∀ id ∈ idsL ds, get h id ≠ none
def NoDh (h : Hp) : Prop := ∀ id o, get h id = some o → ∀ i ∈ o.ids, get h i ≠ none
def KeyLe (h h' : Hp) : Prop := ∀ id, get h id ≠ none → get h' id ≠ none
def NewLe (q : Option Nat) (h h' : Hp) : Prop := ∀ id, get h' id ≠ none → get h id ≠ none ∨ some id = q ∨ 10000 ≤ id
section
variable {P : Program} {e h h' : Hp} {q : Option Nat}
theorem HX.eq (hx : HX e h h') {id : Nat} (hg : get h id ≠ none) : get h' id = get h id := by
  cases ho : get h id with
  | none => exact (hg ho).elim
  | some o => exact hx.sm ho
theorem HX.nn' (hx : HX e h h') {id : Nat} (hg : get h' id = none) : get h id = none := by
  cases ho : get h id with
  | none => rfl
  | some o => rw [hx.sm ho] at hg; cases hg
theorem NewLe.refl (q : Option Nat) (h : Hp) : NewLe q h h := fun _ hi => .inl hi
theorem NewLe.trans {h'' : Hp} (h1 : NewLe q h h') (h2 : NewLe q h' h'') : NewLe q h h'' := fun id hi => by
  rcases h2 id hi with h3 | h3
  · exact h1 id h3
  · exact .inr h3
theorem KeyLe.refl (h : Hp) : KeyLe h h := fun _ hi => hi
theorem KeyLe.trans {h'' : Hp} (h1 : KeyLe h h') (h2 : KeyLe h' h'') : KeyLe h h'' := fun id hi => h2 id (h1 id hi)
theorem NewLe.setL {id : Nat} (hg : get h id ≠ none) (o : AO) : NewLe q h (setL h id o) := by
  intro j hj
  rw [get_setL] at hj
  by_cases ej : j = id
  · subst ej; exact .inl hg
  · rw [if_neg ej] at hj; exact .inl hj
theorem KeyLe.setL (h : Hp) (id : Nat) (o : AO) : KeyLe h (setL h id o) := by
  intro j hj
  rw [get_setL]
  by_cases ej : j = id
  · rw [if_pos ej]; simp
  · rw [if_neg ej]; exact hj
theorem get_froze {h : Hp} {id : Nat} (j : Nat) : get (froze h id) j = match get h j with
    | some (.arr t sz es) => if j = id then some (.fro sz es) else some (.arr t sz es)
    | o => o := by
  unfold froze
  split
  · rename_i t sz es hg
    rw [get_setL]
    by_cases ej : j = id
    · subst ej; rw [if_pos rfl, hg]; simp
    · rw [if_neg ej]; cases get h j with
      | none => rfl
      | some o => cases o <;> simp [ej]
  · rename_i hg
    cases hj : get h j with
    | none => rfl
    | some o => cases o with
      | arr t sz es =>
        by_cases ej : j = id
        · subst ej; exact (hg _ _ _ hj).elim
        · simp [ej]
      | _ => rfl
theorem froze_keys {h : Hp} {id j : Nat} : get (froze h id) j ≠ none ↔ get h j ≠ none := by
  rw [get_froze]
  cases get h j with
  | none => simp
  | some o => cases o <;> simp <;> split <;> simp
theorem NoDh.froze (hn : NoDh h) (id : Nat) : NoDh (froze h id) := by
  intro j o hj i hi
  rw [froze_keys]
  rw [get_froze] at hj
  cases hg : get h j with
  | none => rw [hg] at hj; cases hj
  | some o2 =>
    rw [hg] at hj
    cases o2 with
    | arr t sz es =>
      simp only at hj
      split at hj <;> (cases hj; simp [AO.ids] at hi)
    | fro sz es => cases hj; simp [AO.ids] at hi
    | iter l pos => cases hj; simp [AO.ids] at hi
    | glob g cs => cases hj; simp [AO.ids] at hi
    | sem s => cases hj; simp [AO.ids] at hi
    | mp l => cases hj; simp [AO.ids] at hi
    | nst t e sz k rows hole => cases hj; simp [AO.ids] at hi
    | arx t sz es i c d => cases hj; exact hn j _ hg _ hi
    | box cs ty => cases hj; exact hn j _ hg i hi
def KeyEq (h h' : Hp) : Prop := ∀ id, get h' id ≠ none ↔ get h id ≠ none
theorem KeyEq.refl (h : Hp) : KeyEq h h := fun _ => Iff.rfl
theorem KeyEq.trans {h'' : Hp} (h1 : KeyEq h h') (h2 : KeyEq h' h'') : KeyEq h h'' := fun id => (h2 id).trans (h1 id)
theorem KeyEq.pres (hk : KeyEq h h') {d : D} : Pres h' d ↔ Pres h d := ⟨fun hp id hi => (hk id).1 (hp id hi), fun hp id hi => (hk id).2 (hp id hi)⟩
theorem KeyEq.presL (hk : KeyEq h h') {d : List D} : PresL h' d ↔ PresL h d := ⟨fun hp id hi => (hk id).1 (hp id hi), fun hp id hi => (hk id).2 (hp id hi)⟩
theorem NoDh.setL (hn : NoDh h) {id : Nat} (hg : get h id ≠ none) {o : AO} (ho : o.ids = []) : NoDh (setL h id o) := by
  intro j o2 hj i hi
  rw [get_setL] at hj
  by_cases ej : j = id
  · rw [if_pos ej] at hj; cases hj; rw [ho] at hi; cases hi
  · rw [if_neg ej] at hj
    exact KeyLe.setL h id o i (hn j o2 hj i hi)
theorem KeyEq.setL {id : Nat} (hg : get h id ≠ none) (o : AO) : KeyEq h (setL h id o) := by
  intro j
  rw [get_setL]
  by_cases ej : j = id
  · subst ej; rw [if_pos rfl]; exact ⟨fun _ => hg, fun _ => by simp⟩
  · rw [if_neg ej]
theorem loadR_hy (hx : HX e h h') {t : TypeId} {d : D} (hd : Pres h d) : loadR P h' t d = loadR P h t d := by
  unfold loadR
  cases tiOf P t with
  | none => rfl
  | some ti => cases d with
    | ptr id off => simp only [hx.eq (hd id (by simp [D.ids]))]
    | ea id i c N => simp only [hx.eq (hd id (by simp [D.ids]))]
    | nea id i n => simp only [hx.eq (hd id (by simp [D.ids]))]
    | _ => rfl
theorem borR_hy (hx : HX e h h') (hn : NoDh h) {d : D} (hd : Pres h d) {k : D × Hp → Prop} (hh : (borR h' d).all k) :
    (borR h d).all (fun y => (∃ h1', HX e y.2 h1' ∧ k (y.1, h1')) ∧ Pres h y.1 ∧ NoDh y.2 ∧ KeyEq h y.2) := by
  have pl : ∀ x : Pd, Pres h (.p x) := fun x id hi => by simp [D.ids] at hi
  unfold borR at *
  split at hh
  · rename_i id off len N
    rw [hx.eq (hd id (by simp [D.ids]))] at hh
    split at hh
    · rename_i h1
      exact ⟨hh.1, ⟨_, hx.froze h1, hh.2⟩, pl _, hn.froze id, fun j => froze_keys⟩
    · exact ⟨hh.1, ⟨_, hx, hh.2⟩, pl _, hn, KeyEq.refl _⟩
    · exact hh.elim
  · rename_i id n
    have hid := hd id (by simp [D.ids])
    rw [hx.eq hid] at hh
    split at hh
    · exact ⟨hh.1, ⟨_, hx.setL _ _, hh.2⟩, pl _, hn.setL hid rfl, KeyEq.setL hid _⟩
    · exact hh.elim
  · exact ⟨hh.1, ⟨_, hx, hh.2⟩, pl _, hn, KeyEq.refl _⟩
  · exact ⟨hh.1, ⟨_, hx, hh.2⟩, hd, hn, KeyEq.refl _⟩
theorem PresL.cons {d : D} {r : List D} : PresL h (d :: r) ↔ Pres h d ∧ PresL h r := by
  unfold PresL Pres
  simp only [idsL, List.mem_append]
  exact ⟨fun hh => ⟨fun id hi => hh id (.inl hi), fun id hi => hh id (.inr hi)⟩, fun hh id hi => hi.elim (hh.1 id) (hh.2 id)⟩
theorem Pres.le {h2 : Hp} (hk : KeyLe h h2) {d : D} (hd : Pres h d) : Pres h2 d := fun id hi => hk id (hd id hi)
theorem PresL.le {h2 : Hp} (hk : KeyLe h h2) {d : List D} (hd : PresL h d) : PresL h2 d := fun id hi => hk id (hd id hi)
mutual
theorem borDR_hy : ∀ {d : D} {h h' : Hp} (_ : HX e h h') (_ : NoDh h) (_ : Pres h d) {k : D × Hp → Prop} (_ : (borDR h' d).all k),
    (borDR h d).all (fun y => (∃ h1', HX e y.2 h1' ∧ k (y.1, h1')) ∧ Pres h y.1 ∧ NoDh y.2 ∧ KeyEq h y.2)
  | .agg cs, h, h', hx, hn, hd, k, hh => by
    simp only [borDR] at *
    refine Rs.bind_all (Rs.all_mono (fun y hy => ?_) (borDsR_hy hx hn (ds := cs) hd (Rs.all_bind hh)))
    obtain ⟨⟨h1, hx1, h2⟩, h3, h4⟩ := hy
    exact ⟨h2.1, ⟨h1, hx1, h2.2⟩, h3, h4⟩
  | .tup cs, h, h', hx, hn, hd, k, hh => by
    simp only [borDR] at *
    refine Rs.bind_all (Rs.all_mono (fun y hy => ?_) (borDsR_hy hx hn (ds := cs) hd (Rs.all_bind hh)))
    obtain ⟨⟨h1, hx1, h2⟩, h3, h4⟩ := hy
    exact ⟨h2.1, ⟨h1, hx1, h2.2⟩, h3, h4⟩
  | .p _, h, h', hx, hn, hd, k, hh => by simp only [borDR] at *; exact borR_hy hx hn hd hh
  | .cl _, h, h', hx, hn, hd, k, hh => by simp only [borDR] at *; exact borR_hy hx hn hd hh
  | .cz _, h, h', hx, hn, hd, k, hh => by simp only [borDR] at *; exact borR_hy hx hn hd hh
  | .ref _ _ _ _, h, h', hx, hn, hd, k, hh => by simp only [borDR] at *; exact borR_hy hx hn hd hh
  | .ptr _ _, h, h', hx, hn, hd, k, hh => by simp only [borDR] at *; exact borR_hy hx hn hd hh
  | .pe _, h, h', hx, hn, hd, k, hh => by simp only [borDR] at *; exact borR_hy hx hn hd hh
  | .ea _ _ _ _, h, h', hx, hn, hd, k, hh => by simp only [borDR] at *; exact borR_hy hx hn hd hh
  | .fn _ _, h, h', hx, hn, hd, k, hh => by simp only [borDR] at *; exact borR_hy hx hn hd hh
  | .np, h, h', hx, hn, hd, k, hh => by simp only [borDR] at *; exact borR_hy hx hn hd hh
  | .mv _, h, h', hx, hn, hd, k, hh => by simp only [borDR] at *; exact borR_hy hx hn hd hh
  | .nref _ _, h, h', hx, hn, hd, k, hh => by simp only [borDR] at *; exact borR_hy hx hn hd hh
  | .nea _ _ _, h, h', hx, hn, hd, k, hh => by simp only [borDR] at *; exact borR_hy hx hn hd hh
  | .nr _ _ _ _, h, h', hx, hn, hd, k, hh => by simp only [borDR] at *; exact borR_hy hx hn hd hh
  | .unk, h, h', hx, hn, hd, k, hh => by simp only [borDR] at *; exact borR_hy hx hn hd hh
  | .bad, h, h', hx, hn, hd, k, hh => by simp only [borDR] at *; exact borR_hy hx hn hd hh
theorem borDsR_hy : ∀ {ds : List D} {h h' : Hp} (_ : HX e h h') (_ : NoDh h) (_ : PresL h ds) {k : List D × Hp → Prop} (_ : (borDsR h' ds).all k),
    (borDsR h ds).all (fun y => (∃ h1', HX e y.2 h1' ∧ k (y.1, h1')) ∧ PresL h y.1 ∧ NoDh y.2 ∧ KeyEq h y.2)
  | [], h, h', hx, hn, hd, k, hh => by simp only [borDsR] at *; exact ⟨hh.1, ⟨_, hx, hh.2⟩, hd, hn, KeyEq.refl _⟩
  | d :: r, h, h', hx, hn, hd, k, hh => by
    simp only [borDsR] at *
    obtain ⟨hd1, hd2⟩ := PresL.cons.1 hd
    refine Rs.bind_all (Rs.all_mono (fun y hy => ?_) (borDR_hy hx hn hd1 (Rs.all_bind hh)))
    obtain ⟨⟨h1, hx1, h2⟩, hp1, hn1, hk1⟩ := hy
    refine Rs.bind_all (Rs.all_mono (fun z hz => ?_) (borDsR_hy hx1 hn1 (hk1.presL.2 hd2) (Rs.all_bind h2)))
    obtain ⟨⟨h3, hx3, h4⟩, hp2, hn2, hk2⟩ := hz
    exact ⟨h4.1, ⟨h3, hx3, h4.2⟩, PresL.cons.2 ⟨hp1, hk1.presL.1 hp2⟩, hn2, hk1.trans hk2⟩
end
theorem purR_hy (hx : HX e h h') (hn : NoDh h) {d : D} (hd : Pres h d) {k : Pd × Hp → Prop} (hh : (purR h' d).all k) :
    (purR h d).all (fun y => (∃ h1', HX e y.2 h1' ∧ k (y.1, h1')) ∧ NoDh y.2 ∧ KeyEq h y.2) := by
  unfold purR at *
  split at hh
  · exact ⟨hh.1, ⟨_, hx, hh.2⟩, hn, KeyEq.refl _⟩
  · exact ⟨hh.1, ⟨_, hx, hh.2⟩, hn, KeyEq.refl _⟩
  · exact ⟨hh.1, ⟨_, hx, hh.2⟩, hn, KeyEq.refl _⟩
  · rename_i id off len N
    rw [hx.eq (hd id (by simp [D.ids]))] at hh
    split at hh
    · rename_i h1
      exact ⟨hh.1, ⟨_, hx.froze h1, hh.2⟩, hn.froze id, fun j => froze_keys⟩
    · exact ⟨hh.1, ⟨_, hx, hh.2⟩, hn, KeyEq.refl _⟩
    · exact hh.elim
  · rename_i id n
    have hid := hd id (by simp [D.ids])
    rw [hx.eq hid] at hh
    split at hh
    · exact ⟨hh.1, ⟨_, hx.setL _ _, hh.2⟩, hn.setL hid rfl, KeyEq.setL hid _⟩
    · exact hh.elim
  · exact hh.elim
theorem pursR_hy : ∀ {ds : List D} {h h' : Hp} (_ : HX e h h') (_ : NoDh h) (_ : PresL h ds) {k : List Pd × Hp → Prop} (_ : (pursR h' ds).all k),
    (pursR h ds).all (fun y => (∃ h1', HX e y.2 h1' ∧ k (y.1, h1')) ∧ NoDh y.2 ∧ KeyEq h y.2)
  | [], h, h', hx, hn, hd, k, hh => by simp only [pursR] at *; exact ⟨hh.1, ⟨_, hx, hh.2⟩, hn, KeyEq.refl _⟩
  | d :: r, h, h', hx, hn, hd, k, hh => by
    simp only [pursR] at *
    obtain ⟨hd1, hd2⟩ := PresL.cons.1 hd
    refine Rs.bind_all (Rs.all_mono (fun y hy => ?_) (purR_hy hx hn hd1 (Rs.all_bind hh)))
    obtain ⟨⟨h1, hx1, h2⟩, hn1, hk1⟩ := hy
    refine Rs.bind_all (Rs.all_mono (fun z hz => ?_) (pursR_hy hx1 hn1 (hk1.presL.2 hd2) (Rs.all_bind h2)))
    obtain ⟨⟨h3, hx3, h4⟩, hn2, hk2⟩ := hz
    exact ⟨h4.1, ⟨h3, hx3, h4.2⟩, hn2, hk1.trans hk2⟩
theorem srcR_hy (hx : HX e h h') {d : D} (hd : Pres h d) : srcR h' d = srcR h d := by
  unfold srcR
  split
  · rfl
  · rfl
  · rfl
  · rename_i id off len N
    rw [hx.eq (hd id (by simp [D.ids]))]
  · rfl
def Beh (e h : Hp) (q : Option Nat) (k : D × Hp → Prop) (y : D × Hp) : Prop := (∃ h1', HX e y.2 h1' ∧ k (y.1, h1')) ∧ NewLe q h y.2
theorem appR_hy (hx : HX e h h') {q : Nat} {t t2 : TypeId} {s x : D} (hs : Pres h s) (hd : Pres h x) {k : D × Hp → Prop} (hh : (appR P h' q t t2 s x).all k) : (appR P h q t t2 s x).all (Beh e h (some q) k) := by
  unfold appR at *
  split at hh
  case h_2 => exact hh.elim
  split at hh
  case h_2 => exact hh.elim
  rw [srcR_hy hx hd] at hh
  refine Rs.bind_all (Rs.all_mono (fun ys hy => ?_) (Rs.all_bind hh))
  split at hy
  · obtain ⟨⟨a1, a2, a3, a4, a5, a6⟩, hk⟩ := hy
    refine ⟨⟨a1, a2, a3, a4, hx.nn' a5, a6⟩, ⟨_, hx.cons _ _, hk⟩, fun j hj => ?_⟩
    rw [get_cons] at hj
    split at hj
    · rename_i ej; exact .inr (.inl (by rw [ej]))
    · exact .inl hj
  · refine WIf.mono hy (fun hy => ⟨hy.1, ⟨_, hx, hy.2⟩, fun j hj => .inl hj⟩) fun hy => ?_
    obtain ⟨⟨a1, a2, a3, a4, a5, a6⟩, hk⟩ := hy
    refine ⟨⟨a1, a2, a3, a4, hx.nn' a5, a6⟩, ⟨_, hx.cons _ _, hk⟩, fun j hj => ?_⟩
    rw [get_cons] at hj
    split at hj
    · rename_i ej; exact .inr (.inl (by rw [ej]))
    · exact .inl hj
  · rename_i id off len N
    have hid := hs id (by simp [D.ids])
    rw [hx.eq hid] at hy
    obtain ⟨h0, hy⟩ := stopAt_all hy
    refine stopAt_of h0 ?_
    split at hy
    · exact ⟨hy.1, ⟨_, hx.setL _ _, hy.2⟩, NewLe.setL hid _⟩
    · exact hy.elim
  · rename_i id i len kk
    have hid := hs id (by simp [D.ids])
    rw [hx.eq hid] at hy
    split at hy
    · obtain ⟨⟨a1, a2, a3, a4, ⟨b1, b2, b3, b4, b5, b6⟩, a5⟩, hk⟩ := hy
      refine ⟨⟨a1, a2, a3, a4, ⟨b1, b2, b3, b4, b5, hx.nn' b6⟩, a5⟩, ⟨_, (hx.setL _ _).cons _ _, hk⟩, fun j hj => ?_⟩
      rw [get_cons] at hj
      split at hj
      · rename_i ej; exact .inr (.inl (by rw [ej]))
      · exact NewLe.setL hid _ j hj
    · exact hy.elim
  · exact hy.elim
theorem copyR_hy (hx : HX e h h') {q : Nat} {t : TypeId} {s x : D} (hs : Pres h s) (hd : Pres h x) {k : D × Hp → Prop} (hh : (copyR P h' t s x).all k) : (copyR P h t s x).all (Beh e h (some q) k) := by
  unfold copyR at *
  split at hh
  case h_2 => exact hh.elim
  split at hh
  case h_2 => exact hh.elim
  rw [srcR_hy hx hd] at hh
  refine Rs.bind_all (Rs.all_mono (fun ys hy => ?_) (Rs.all_bind hh))
  split at hy
  case h_2 => exact hy.elim
  rename_i id off len N
  have hid := hs id (by simp [D.ids])
  rw [hx.eq hid] at hy
  split at hy
  · exact ⟨hy.1, ⟨_, hx.setL _ _, hy.2⟩, NewLe.setL hid _⟩
  · exact hy.elim
theorem idsL_append (a b : List D) : idsL (a ++ b) = idsL a ++ idsL b := by
  induction a with
  | nil => rfl
  | cons d r ih => simp [idsL, ih]
theorem stored_ids {d : D} {cs : List D} (hs : d.stored = some cs) : idsL cs = d.ids := by
  unfold D.stored at hs
  split at hs
  · cases hs
    cases d <;> simp [D.cells, D.ids, idsL]
  · cases hs
theorem mapUpR_hy (hx : HX e h h') {t : TypeId} {m i v : D} (hm : Pres h m) {k : Hp → Prop} (hh : (mapUpR P h' t m i v).all k) :
    (mapUpR P h t m i v).all (fun y => (∃ h1', HX e y h1' ∧ k h1') ∧ NewLe none h y) := by
  unfold mapUpR at *
  split at hh
  · rename_i id key x h0
    have hid := hm id (by simp [D.ids])
    rw [hx.eq hid] at hh
    split at hh
    · exact ⟨hh.1, ⟨_, hx.setL _ _, hh.2⟩, NewLe.setL hid _⟩
    · exact hh.elim
  · exact hh.elim
theorem nstStoreR_hy (hx : HX e h h') {id i n : Nat} {v : D} (ha : get h id ≠ none) (hv : Pres h v) {k : Hp → Prop} (hh : (nstStoreR h' id i n v).all k) :
    (nstStoreR h id i n v).all (fun y => (∃ h1', HX e y h1' ∧ k h1') ∧ NewLe none h y) := by
  unfold nstStoreR at *
  split at hh
  · rename_i q off len N
    have hq := hv q (by simp [D.ids])
    rw [hx.eq hq, hx.eq ha] at hh
    split at hh
    · refine ⟨hh.1, ⟨_, (hx.setL _ _).setL _ _, hh.2⟩, (NewLe.setL ha _).trans (NewLe.setL (KeyLe.setL _ _ _ _ hq) _)⟩
    · exact hh.elim
  · exact hh.elim
theorem storeR_hy (hx : HX e h h') (hn : NoDh h) {t : TypeId} {a v : D} (ha : Pres h a) (hv : Pres h v) {k : Hp → Prop} (hh : (storeR P h' t a v).all k) :
    (storeR P h t a v).all (fun y => (∃ h1', HX e y h1' ∧ k h1') ∧ NewLe none h y) := by
  unfold storeR at *
  split at hh
  case h_2 => exact hh.elim
  split at hh
  case h_2 => exact hh.elim
  rename_i hst
  split at hh
  · rename_i id off
    have hid := ha id (by simp [D.ids])
    rw [hx.eq hid] at hh
    split at hh
    · exact ⟨hh.1, ⟨_, hx.setL _ _, hh.2⟩, NewLe.setL hid _⟩
    · exact hh.elim
  · rename_i id i c N
    have hid := ha id (by simp [D.ids])
    refine Rs.bind_all (Rs.all_mono (fun y hy => ?_) (pursR_hy hx hn (fun j hj => hv j (by rw [← stored_ids hst]; exact hj)) (Rs.all_bind hh)))
    obtain ⟨⟨h1, hx1, hy⟩, hn1, hk1⟩ := hy
    have hid1 := (hk1 id).2 hid
    rw [hx1.eq hid1] at hy
    split at hy
    · exact ⟨hy.1, ⟨_, hx1.setL _ _, hy.2⟩, fun j hj => by
        rcases NewLe.setL (q := none) hid1 _ j hj with h3 | h3 | h3
        · exact .inl ((hk1 j).1 h3)
        · cases h3
        · exact .inr (.inr h3)⟩
    · exact hy.elim
  · rename_i id i n
    have hid := ha id (by simp [D.ids])
    exact Rs.and_all (Rs.all_and' hh).1 (nstStoreR_hy hx hid hv (Rs.all_and' hh).2)
  · exact hh.elim
end
end Go.Am
namespace Go.Am
open Go
def isQ (o : Op) : Bool :=
  match o with
  | .call c => match c.callee with
    | .value _ => true
    | .builtin .append | .builtin .copy => true
    | _ => false
  | .store _ _ _ => true
  | .slice _ _ _ _ _ => true
  | .buildSlice _ _ _ => true
  | .load _ _ => true
  | .mapUpdate _ _ _ _ => true
  | .indexAddr _ _ _ => true
  | _ => false
section
variable {P : Program} {e h h' : Hp}
theorem addNew_mem : ∀ (l T : List Nat) (id : Nat), id ∈ addNew T l → id ∈ T ∨ id ∈ l
  | [], T, id, hi => .inl hi
  | i :: r, T, id, hi => by
    simp only [addNew] at hi
    split at hi
    · rcases addNew_mem r T id hi with h1 | h1
      · exact .inl h1
      · exact .inr (by simp [h1])
    · rcases addNew_mem r _ id hi with h1 | h1
      · rcases List.mem_append.1 h1 with h2 | h2
        · exact .inl h2
        · simp only [List.mem_singleton] at h2; exact .inr (by simp [h2])
      · exact .inr (by simp [h1])
theorem idsAt_pres (hn : NoDh h) : ∀ (l : List Nat) (id : Nat), id ∈ idsAt h l → get h id ≠ none
  | [], id, hi => by simp [idsAt] at hi
  | i :: r, id, hi => by
    simp only [idsAt, List.mem_append] at hi
    rcases hi with h1 | h1
    · cases ho : get h i with
      | none => rw [ho] at h1; simp at h1
      | some o => rw [ho] at h1; exact hn i o ho id h1
    · exact idsAt_pres hn r id h1
theorem closeT_pres (hn : NoDh h) {ids : List Nat} (hp : ∀ id ∈ ids, get h id ≠ none) : ∀ id ∈ closeT h ids, get h id ≠ none := by
  intro id hi
  unfold closeT at hi
  simp only at hi
  rcases addNew_mem _ _ _ hi with h0 | h0
  · rcases addNew_mem _ _ _ h0 with h1 | h1
    · rcases addNew_mem _ _ _ h1 with h2 | h2
      · rcases addNew_mem _ _ _ h2 with h3 | h3
        · simp at h3
        · exact hp id h3
      · exact idsAt_pres hn _ _ h2
    · exact idsAt_pres hn _ _ h1
  · have hg : ∀ j, id ∈ ghost h j → get h id ≠ none := by
      intro j hj
      unfold ghost at hj
      split at hj
      · rename_i hgj
        simp only [List.mem_singleton] at hj
        subst hj
        rw [hgj]; simp
      · simp at hj
    simp only [ghosts, List.mem_append] at h0
    rcases h0 with h0 | h0 | h0 | h0 <;> exact hg _ h0
theorem fresh_hy (hx : HX e h h') {q : Nat} : ∀ (l : Hp), fresh q h' l → fresh q h l
  | [], _ => trivial
  | (j, _) :: r, hf => ⟨hf.1.imp id fun h1 => hx.nn' h1, fresh_hy hx r hf.2⟩
theorem callD_hy (hx : HX e h h') (he : ∀ id, get e id ≠ none → id < 10000) (hn : NoDh h) {f : FuncId} {ds : List D} (hd : PresL h ds) {q : Nat} {k : D → Hp → Prop} (hh : callD P h' f ds q k) :
    callD P h f ds q (fun d y => (∃ h1', HX e y h1' ∧ k d h1') ∧ NewLe none h y) := by
  have hp := closeT_pres hn hd
  have hs : ∀ id ∈ closeT h (idsL ds), (get h id).isSome = true := fun id hi => by
    have := hp id hi
    cases hg : get h id with
    | none => exact (this hg).elim
    | some o => rfl
  unfold callD at *
  rw [closeT_hx hx he _ hs] at hh
  obtain ⟨h1, h2, h3⟩ := hh
  refine ⟨h1, List.all_eq_true.2 hs, ?_⟩
  rw [sub_hx hx _ _ _ hs] at h3
  refine h3.mono fun h2 r ⟨hf, hk⟩ => ⟨fresh_hy hx h2 hf, ⟨_, merge_hx hx _ _ _, hk⟩, ?_⟩
  intro i hi
  have key : ∀ (l : Hp), get (merge (closeT h (idsL ds)) q h l) i ≠ none → get h i ≠ none ∨ some i = none ∨ 10000 ≤ i := by
    intro l
    induction l with
    | nil => intro h4; exact .inl h4
    | cons x r ih =>
      obtain ⟨j, o⟩ := x
      intro h4
      simp only [merge] at h4
      split at h4
      · rename_i id hid
        rw [get_setL] at h4
        by_cases ej : i = id
        · subst ej
          unfold back at hid
          split at hid
          · exact .inl (hp i (List.mem_of_getElem? hid))
          · simp only [Option.some.injEq] at hid
            exact .inr (.inr (by omega))
        · rw [if_neg ej] at h4; exact ih h4
      · exact ih h4
  exact key h2 hi
theorem callR_hy {env : List (Nat × D)} {n : Nat} (hx : HX e h h') (hn : NoDh h) {f : Operand} {args : List Operand} (hf : Pres h (ev ⟨env, h, n⟩ f)) (ha : ∀ x ∈ args, Pres h (ev ⟨env, h, n⟩ x))
    {k : FuncId × List D × Hp → Prop} (hh : (callR ⟨env, h', n⟩ f args).all k) :
    (callR ⟨env, h, n⟩ f args).all (fun y => (∃ h1', HX e y.2.2 h1' ∧ k (y.1, y.2.1, h1')) ∧ PresL y.2.2 y.2.1 ∧ NoDh y.2.2 ∧ KeyEq h y.2.2) := by
  have ef : ev ⟨env, h', n⟩ = ev ⟨env, h, n⟩ := funext fun _ => rfl
  unfold callR at *
  rw [ef] at hh
  have hargs : PresL h (args.map (ev ⟨env, h, n⟩)) := by
    intro id hi
    clear hh
    induction args with
    | nil => simp [idsL] at hi
    | cons x r ih =>
      simp only [List.map_cons, idsL, List.mem_append] at hi
      rcases hi with h1 | h1
      · exact ha x (by simp) id h1
      · exact ih (fun y hy => ha y (by simp [hy])) h1
  split at hh
  · rename_i g cap he
    rw [he] at hf
    have hall : PresL h (args.map (ev ⟨env, h, n⟩) ++ cap) := by
      intro id hi
      rw [idsL_append, List.mem_append] at hi
      rcases hi with h1 | h1
      · exact hargs id h1
      · exact hf id h1
    refine Rs.bind_all (Rs.all_mono (fun y hy => ?_) (borDsR_hy hx hn hall (Rs.all_bind hh)))
    obtain ⟨⟨h1, hx1, h2⟩, hp1, hn1, hk1⟩ := hy
    exact ⟨h2.1, ⟨h1, hx1, h2.2⟩, hk1.presL.2 hp1, hn1, hk1⟩
  · exact hh.elim
theorem put_hp (st : St) (t : Option Nat) (d : D) : (st.put t d).hp = st.hp := by
  cases t with
  | none => rfl
  | some t => simp only [St.put]; split <;> rfl
theorem put_with {K : St → Prop} {env : List (Nat × D)} {n : Nat} {dst : Option Nat} (y h2 : Hp) (d : D) (hk : K ((⟨env, h2, n⟩ : St).put dst d)) : K { (⟨env, y, n⟩ : St).put dst d with hp := h2 } := by
  cases dst with
  | none => exact hk
  | some t =>
    simp only [St.put] at hk ⊢
    split
    · rename_i ht; rw [if_pos ht] at hk; exact hk
    · rename_i ht; rw [if_neg ht] at hk; exact hk
theorem cells_ids (d : D) : idsL d.cells = d.ids := by cases d <;> simp [D.cells, D.ids, idsL]
theorem idsL_sub {l : List D} {d : D} (h : d ∈ l) : ∀ i ∈ d.ids, i ∈ idsL l := by
  induction l with
  | nil => cases h
  | cons x r ih =>
    intro i hi
    simp only [idsL, List.mem_append]
    rcases List.mem_cons.1 h with rfl | h
    · exact .inl hi
    · exact .inr (ih h i hi)
theorem idsL_from {l : List D} {i : Nat} : i ∈ idsL l → ∃ d ∈ l, i ∈ d.ids := by
  induction l with
  | nil => intro h; simp [idsL] at h
  | cons x r ih =>
    intro h
    simp only [idsL, List.mem_append] at h
    rcases h with h | h
    · exact ⟨x, by simp, h⟩
    · obtain ⟨d, hd, hi⟩ := ih h; exact ⟨d, by simp [hd], hi⟩
theorem fillD_pres {h : Hp} {place : Nat → Option (Nat × Nat)} : ∀ (ps : List (Nat × D)) (cells cs : List D), (∀ x ∈ ps, Pres h x.2) → PresL h cells → fillD place cells ps = some cs → PresL h cs
  | [], cells, cs, _, hc, hf => by simp only [fillD, Option.some.injEq] at hf; subst hf; exact hc
  | (i, d) :: r, cells, cs, hp, hc, hf => by
    simp only [fillD] at hf
    split at hf
    · cases hf
    · split at hf
      · refine fillD_pres r _ cs (fun x hx => hp x (by simp [hx])) ?_ hf
        intro id hi
        obtain ⟨d2, hd2, hi2⟩ := idsL_from hi
        rcases List.mem_append.1 hd2 with h1 | h1
        · rcases List.mem_append.1 h1 with h2 | h2
          · exact hc id (idsL_sub (List.mem_of_mem_take h2) id hi2)
          · have := idsL_sub h2 id hi2
            rw [cells_ids] at this
            exact hp (i, d) (by simp) id this
        · exact hc id (idsL_sub (List.mem_of_mem_drop h1) id hi2)
      · cases hf
theorem indexAddrR_hy (hx : HX e h h') {t : TypeId} {x i : D} (hd : Pres h x) : indexAddrR P t x i h' = indexAddrR P t x i h := by
  cases x with
  | ref id a b c =>
    have : sg h' id = sg h id := by simp only [sg, hx.eq (hd id (by simp [D.ids]))]
    simp only [indexAddrR, this]
  | p y => cases y <;> rfl
  | _ => rfl
theorem wDo_hy {env : List (Nat × D)} {n : Nat} (hx : HX e h h') (he : ∀ id, get e id ≠ none → id < 10000) (hn : NoDh h) {o : Oper} (hq : isQ o.op = true) (ho : ∀ x ∈ o.op.operands.toList, Pres h (ev ⟨env, h, n⟩ x)) {K : St → Prop} (hh : wDo P false o K ⟨env, h', n⟩) :
    wDo P false o (fun st => (∃ h1', HX e st.hp h1' ∧ K { st with hp := h1' }) ∧ NewLe (some (o.dst.getD 0)) h st.hp) ⟨env, h, n⟩ := by
  have ef : ev ⟨env, h', n⟩ = ev ⟨env, h, n⟩ := funext fun _ => rfl
  unfold wDo at *
  split at hh
  · rename_i f args hc
    rcases Rs.allOr_or hh with hh | hh
    case inr => exact (Bool.false_ne_true hh.1).elim
    have hop : (∀ x ∈ f :: args, x ∈ o.op.operands.toList) := by
      unfold isCall at hc
      split at hc
      case h_2 => cases hc
      rename_i cl hcl
      split at hc
      case h_2 => cases hc
      rename_i f' hf'
      simp only [Option.some.injEq, Prod.mk.injEq] at hc
      obtain ⟨rfl, rfl⟩ := hc
      intro x hxm
      rw [hcl]
      simp [Op.operands, Call.operands, hf'] at hxm ⊢
      exact hxm
    simp only [callDO_false] at hh ⊢
    refine Rs.all_allOr (Rs.all_mono (fun x hx2 => ?_) (callR_hy hx hn (ho f (hop f (by simp))) (fun x hx3 => ho x (hop x (by simp [hx3]))) hh))
    obtain ⟨⟨h1, hx1, hc⟩, hp1, hn1, hk1⟩ := hx2
    refine callD_mono (fun d y hy => ?_) (callD_hy hx1 he hn1 hp1 hc)
    obtain ⟨⟨h2, hx2, hk⟩, hnew⟩ := hy
    refine ⟨⟨h2, by rw [put_hp]; exact hx2, put_with _ _ _ hk⟩, fun i hi => ?_⟩
    rw [put_hp] at hi
    rcases hnew i hi with h3 | h3 | h3
    · exact .inl ((hk1 i).1 h3)
    · cases h3
    · exact .inr (.inr h3)
  · rcases Rs.allOr_or hh with hh | hh
    case inr => exact (Bool.false_ne_true hh.1).elim
    have fin : ∀ {r : Rs (D × Hp)}, r.all (Beh e h (some (o.dst.getD 0)) fun x => K ((⟨env, x.2, n⟩ : St).put o.dst x.1)) →
        r.allOr (false = true ∧ SemOp P o (fun st => (∃ h1', HX e st.hp h1' ∧ K { st with hp := h1' }) ∧ NewLe (some (o.dst.getD 0)) h st.hp) ⟨env, h, n⟩) (fun x => (fun st : St => (∃ h1', HX e st.hp h1' ∧ K { st with hp := h1' }) ∧ NewLe (some (o.dst.getD 0)) h st.hp) ((⟨env, x.2, n⟩ : St).put o.dst x.1)) := fun hr =>
      Rs.all_allOr (Rs.all_mono (fun x hx2 => by
        obtain ⟨⟨h1, hx1, hk⟩, hnew⟩ := hx2
        exact ⟨⟨h1, by rw [put_hp]; exact hx1, put_with _ _ _ hk⟩, by rw [put_hp]; exact hnew⟩) hr)
    refine fin ?_
    cases hop : o.op with
    | call cl =>
      cases hcl : cl.callee with
      | builtin b =>
        cases b <;> rw [hop] at hq <;> simp only [isQ, hcl, Bool.false_eq_true] at hq
        · simp only [doR, hop, hcl, ef] at hh ⊢
          have hargs : ∀ x ∈ cl.args.toList, Pres h (ev ⟨env, h, n⟩ x) := fun x hx3 => ho x (by rw [hop]; simp [Op.operands, Call.operands, hcl]; simpa using hx3)
          generalize hl : cl.args.toList.map (ev ⟨env, h, n⟩) = l at hh ⊢
          rcases l with _ | ⟨s, _ | ⟨x, _ | ⟨z, r⟩⟩⟩
          · exact hh.elim
          · cases s <;> first | exact hh.elim | (rename_i z; cases z <;> exact hh.elim)
          · obtain ⟨sq, xq, hxs, rfl, rfl⟩ := list_two hl
            have hb3 : ∀ hz : Hp, builtinR P ⟨env, hz, n⟩ (o.dst.getD 0) .append cl.argTypes [ev ⟨env, h, n⟩ sq, ev ⟨env, h, n⟩ xq] = match cl.argTypes[0]?, cl.argTypes[1]? with
              | some t, some t2 => appR P hz (o.dst.getD 0) t t2 (ev ⟨env, h, n⟩ sq) (ev ⟨env, h, n⟩ xq)
              | _, _ => .fail := fun _ => rfl
            rw [hb3] at hh ⊢
            split at hh
            · rename_i t t2 h1 h2
              exact appR_hy hx (hargs sq (by rw [hxs]; simp)) (hargs xq (by rw [hxs]; simp)) hh
            · exact hh.elim
          · first | exact hh.elim | (cases s <;> first | exact hh.elim | (rename_i z1; cases z1 <;> exact hh.elim))
        · simp only [doR, hop, hcl, ef] at hh ⊢
          have hargs : ∀ x ∈ cl.args.toList, Pres h (ev ⟨env, h, n⟩ x) := fun x hx3 => ho x (by rw [hop]; simp [Op.operands, Call.operands, hcl]; simpa using hx3)
          generalize hl : cl.args.toList.map (ev ⟨env, h, n⟩) = l at hh ⊢
          rcases l with _ | ⟨s, _ | ⟨x, _ | ⟨z, r⟩⟩⟩
          · exact hh.elim
          · cases s <;> first | exact hh.elim | (rename_i z; cases z <;> exact hh.elim)
          · obtain ⟨sq, xq, hxs, rfl, rfl⟩ := list_two hl
            have hb3 : ∀ hz : Hp, builtinR P ⟨env, hz, n⟩ (o.dst.getD 0) .copy cl.argTypes [ev ⟨env, h, n⟩ sq, ev ⟨env, h, n⟩ xq] = match cl.argTypes[0]?, cl.argTypes[1]? with
              | some t, some _ => copyR P hz t (ev ⟨env, h, n⟩ sq) (ev ⟨env, h, n⟩ xq)
              | _, _ => .fail := fun _ => rfl
            rw [hb3] at hh ⊢
            split at hh
            · rename_i t t2 h1 h2
              exact copyR_hy hx (hargs sq (by rw [hxs]; simp)) (hargs xq (by rw [hxs]; simp)) hh
            · exact hh.elim
          · first | exact hh.elim | (cases s <;> first | exact hh.elim | (rename_i z1; cases z1 <;> exact hh.elim))
      | _ => rw [hop] at hq; rename_i hc _; simp only [isQ, hcl, Bool.false_eq_true] at hq <;> simp_all [isCall]
    | store t a v =>
      simp only [doR, hop, mOpR, ef] at hh ⊢
      have h1 := storeR_hy hx hn (ho a (by rw [hop]; simp [Op.operands])) (ho v (by rw [hop]; simp [Op.operands])) (Rs.all_bind hh)
      refine Rs.bind_all (Rs.all_mono (fun y hy => ?_) h1)
      obtain ⟨⟨h2, hx2, hk⟩, hnew⟩ := hy
      refine ⟨hk.1, ⟨h2, hx2, hk.2⟩, fun i hi => ?_⟩
      rcases hnew i hi with h3 | h3 | h3
      · exact .inl h3
      · cases h3
      · exact .inr (.inr h3)
    | slice t x lo hi mx =>
      have hp := ho x (by rw [hop]; simp [Op.operands])
      have hsl : sliceR P ⟨env, h', n⟩ t (ev ⟨env, h, n⟩ x) lo hi mx = sliceR P ⟨env, h, n⟩ t (ev ⟨env, h, n⟩ x) lo hi mx := by
        have hb : ∀ o d, boundR ⟨env, h', n⟩ o d = boundR ⟨env, h, n⟩ o d := fun o d => by cases o <;> rfl
        generalize ev ⟨env, h, n⟩ x = d at hp
        unfold sliceR
        simp only [hb]
        rcases tiOf P t with _ | ⟨s1, b1, k1, z1⟩
        · rfl
        cases k1 with
        | string => cases d with
          | p y => cases y <;> rfl
          | _ => rfl
        | slice e =>
          simp only
          cases tiOf P e with
          | none => rfl
          | some ti => cases d with
            | p y => cases y <;> rfl
            | ref id off len N =>
              have : sg h' id = sg h id := by simp only [sg, hx.eq (hp id (by simp [D.ids]))]
              simp only [this]
            | _ => rfl
        | _ => rfl
      simp only [doR, hop, vOpR, ef] at hh ⊢
      rw [hsl] at hh
      have h1 := Rs.all_bind hh
      refine Rs.bind_all (Rs.all_mono (fun y hy => ?_) h1)
      exact ⟨hy.1, ⟨h', hx, hy.2⟩, NewLe.refl _ _⟩
    | buildSlice t n2 ps =>
      have hps : ∀ x ∈ ps.toList.map (fun q => (q.1, ev ⟨env, h, n⟩ q.2)), Pres h x.2 := fun x hx3 => by
        obtain ⟨q, hq3, rfl⟩ := List.mem_map.1 hx3
        exact ho q.2 (by rw [hop]; simp [Op.operands]; exact ⟨q.1, by simpa using hq3⟩)
      simp only [doR, hop, mOpR, ef] at hh ⊢
      split at hh
      · split at hh
        · split at hh
          · rename_i cs hcs
            have hpc : PresL h cs := fillD_pres _ _ _ hps (fun id hi => by
              obtain ⟨d2, hd2, hi2⟩ := idsL_from hi
              rw [List.mem_replicate] at hd2
              rw [hd2.2] at hi2
              simp [D.ids] at hi2) hcs
            split at hh
            · exact hh.elim
            rename_i hnr
            rw [if_neg hnr]
            refine Rs.bind_all (Rs.all_mono (fun y hy => ?_) (pursR_hy hx hn hpc (Rs.all_bind hh)))
            obtain ⟨⟨h2, hx2, hk⟩, hn2, hk2⟩ := hy
            refine ⟨⟨hk.1.1, hk.1.2.1, hx2.nn' hk.1.2.2⟩, ⟨_, hx2.cons _ _, hk.2⟩, fun i hi => ?_⟩
            rw [get_cons] at hi
            split at hi
            · rename_i ej; exact .inr (.inl (by rw [ej]))
            · exact .inl ((hk2 i).1 hi)
          · exact hh.elim
        · exact hh.elim
      · exact hh.elim
    | mapUpdate t m i x =>
      simp only [doR, hop, mOpR, ef] at hh ⊢
      have h1 := mapUpR_hy hx (ho m (by rw [hop]; simp [Op.operands])) (Rs.all_bind hh)
      refine Rs.bind_all (Rs.all_mono (fun y hy => ?_) h1)
      obtain ⟨⟨h2, hx2, hk⟩, hnew⟩ := hy
      refine ⟨hk.1, ⟨h2, hx2, hk.2⟩, fun i hi => ?_⟩
      rcases hnew i hi with h3 | h3 | h3
      · exact .inl h3
      · cases h3
      · exact .inr (.inr h3)
    | load t a =>
      have hp := ho a (by rw [hop]; simp [Op.operands])
      simp only [doR, hop, vOpR, ef] at hh ⊢
      rw [loadR_hy hx hp] at hh
      have h1 := Rs.all_bind hh
      refine Rs.bind_all (Rs.all_mono (fun y hy => ?_) h1)
      exact ⟨hy.1, ⟨h', hx, hy.2⟩, NewLe.refl _ _⟩
    | indexAddr t x i =>
      have hp := ho x (by rw [hop]; simp [Op.operands])
      simp only [doR, hop, vOpR, ef] at hh ⊢
      rw [indexAddrR_hy hx hp] at hh
      have h1 := Rs.all_bind hh
      refine Rs.bind_all (Rs.all_mono (fun y hy => ?_) h1)
      exact ⟨hy.1, ⟨h', hx, hy.2⟩, NewLe.refl _ _⟩
    | _ => rw [hop] at hq; simp [isQ] at hq
end
end Go.Am
namespace Go.Am
open Go
mutual
def Bor (h : Hp) : D → D → Prop
  | .p x, d => d = .p x
  | .cl es, d => d = .p (.sl es)
  | .ref id off len N, d => match get h id with
    | some (.arr _ _ es) => N = es.length ∧ d = .p (.sl ((es.drop off).take len))
    | some (.fro _ es) => N = es.length ∧ d = .p (.sl ((es.drop off).take len))
    | _ => False
  | .nref id n, d => match get h id with
    | some (.nst _ _ _ _ rows none) => n = rows.length ∧ d = .p (.sl (rows.map fun r => [.sl r]))
    | _ => False
  | .nr id i len k, d => match get h id with
    | some (.nst _ _ _ k2 rows none) => (k = k2 ∧ i < rows.length ∧ len = (rows.getD i []).length) ∧ d = .p (.sl (rows.getD i []))
    | _ => False
  | .agg cs, .agg cs' => BorL h cs cs'
  | .fn f cap, .fn f' cap' => f' = f ∧ BorL h cap cap'
  | _, _ => False
def BorL (h : Hp) : List D → List D → Prop
  | [], [] => True
  | d :: r, d' :: r' => Bor h d d' ∧ BorL h r r'
  | _, _ => False
end
def D.flat1 : D → Bool
  | .p x => x.flat
  | _ => false
def D.flat : D → Bool
  | .p x => x.flat
  | .tup cs => cs.all D.flat1
  | .agg cs => cs.all D.flat1
  | _ => false
mutual
def D.scrub : D → D
  | .p x => if x.flat then .p x else .unk
  | .agg cs => .agg (scrubL cs)
  | .tup cs => .tup (scrubL cs)
  | _ => .bad
def scrubL : List D → List D
  | [] => []
  | d :: r => d.scrub :: scrubL r
end
theorem scrubL_len : ∀ cs : List D, (scrubL cs).length = cs.length
  | [] => rfl
  | _ :: r => by simp [scrubL, scrubL_len r]
theorem scrubL_get : ∀ (cs : List D) (i : Nat), (scrubL cs)[i]? = (cs[i]?).map D.scrub
  | [], i => by simp [scrubL]
  | d :: r, 0 => by simp [scrubL]
  | d :: r, i + 1 => by simp [scrubL, scrubL_get r i]
theorem scrub_flat1 : ∀ {d : D}, d.flat1 = true → d.scrub = d
  | .p x, h => by simp only [D.flat1] at h; simp [D.scrub, h]
  | .agg _, h | .tup _, h | .cl _, h | .cz _, h | .ref _ _ _ _, h | .ptr _ _, h | .pe _, h | .ea _ _ _ _, h | .fn _ _, h | .np, h | .mv _, h | .nref _ _, h | .nea _ _ _, h | .nr _ _ _ _, h | .unk, h | .bad, h => by simp [D.flat1] at h
theorem scrubL_flat : ∀ {cs : List D}, cs.all D.flat1 = true → scrubL cs = cs
  | [], _ => rfl
  | d :: r, h => by
    simp only [List.all_cons, Bool.and_eq_true] at h
    simp [scrubL, scrub_flat1 h.1, scrubL_flat h.2]
theorem scrub_flat {d : D} (h : d.flat = true) : d.scrub = d := by
  cases d with
  | p x => exact scrub_flat1 h
  | agg cs => simp only [D.flat] at h; simp [D.scrub, scrubL_flat h]
  | tup cs => simp only [D.flat] at h; simp [D.scrub, scrubL_flat h]
  | _ => simp [D.flat] at h
section
variable {F F' : Nat → Prop} {w w' : World} {M M' : Nat → Mb} {s s' : Nat → Option Sg} {h h' e : Hp}
theorem DR.scrub {d : D} {v : Value} (hr : DR F w M s d v) : DR F' w' M' s' d.scrub v := by
  induction hr with
  | p hp =>
    simp only [D.scrub]
    split
    · rename_i hf
      cases hp with
      | int k n => exact .p (.int k n)
      | bool b => exact .p (.bool b)
      | str l => exact .p (.str l)
      | sl0 a cap => simp [Pd.flat] at hf
      | sl es b off cap sz row t fr _ _ _ _ _ _ => simp [Pd.flat] at hf
    · exact .unk _ hp.oneCell
  | agg cs vs hl hc ih =>
    simp only [D.scrub]
    refine .agg _ vs (by rw [scrubL_len]; exact hl) fun i c hi => ?_
    rw [scrubL_get] at hi
    cases hg : cs[i]? with
    | none => rw [hg] at hi; cases hi
    | some x => rw [hg] at hi; cases hi; exact ih i x hg
  | tup cs vs hl hc ih =>
    simp only [D.scrub]
    refine .tup _ vs (by rw [scrubL_len]; exact hl) fun i c hi => ?_
    rw [scrubL_get] at hi
    cases hg : cs[i]? with
    | none => rw [hg] at hi; cases hi
    | some x => rw [hg] at hi; cases hi; exact ih i x hg
  | _ => simp only [D.scrub]; exact .bad _
def LentF (F : Nat → Prop) (M : Nat → Mb) (h : Hp) : Nat → Prop := fun b => F b ∨ Owned M h b
mutual
theorem Bor_sound (hr : HR F w M h) : ∀ (d d' : D) {v : Value}, DR F w M (sg h) d v → Bor h d d' → DR (LentF F M h) w M (sg []) d' v
  | .p x, d', v, hd, hb => by
    simp only [Bor] at hb
    subst hb
    cases hd with | p hp => exact .p (hp.keep (fun _ _ => rfl) fun b hb => .inl hb)
  | .cl es, d', v, hd, hb => by
    simp only [Bor] at hb
    subst hb
    cases hd with | cl _ ad hp _ => exact .p (hp.keep (fun _ _ => rfl) fun b hb => .inl hb)
  | .ref id off len N, d', v, hd, hb => by
    simp only [Bor] at hb
    cases hd with | ref _ _ _ _ sz n _ hs hN hv hx =>
      split at hb
      · rename_i t sz2 es ho
        obtain ⟨hb1, rfl⟩ := hb
        have : sz2 = sz ∧ es.length = n := by simpa [sg, ho, AO.sg] using hs
        obtain ⟨rfl, rfl⟩ := this
        exact .p (view_of_ref (st := ⟨[], h, 0⟩) hr (.inl ⟨t, ho⟩) rfl (hx hb1) (fun b hb => .inl hb) fun hc => .inr ⟨id, _, ho, hc, rfl⟩)
      · rename_i sz2 es ho
        obtain ⟨hb1, rfl⟩ := hb
        have : sz2 = sz ∧ es.length = n := by simpa [sg, ho, AO.sg] using hs
        obtain ⟨rfl, rfl⟩ := this
        have hob := hr.obj id _ ho
        exact .p (view_of_ref (st := ⟨[], h, 0⟩) hr (.inr ho) rfl (hx hb1) (fun b hb => .inl hb) fun hc => .inl (hob.2.2.2 hc).1)
      · exact hb.elim
  | .nref id n, d', v, hd, hb => by
    simp only [Bor] at hb
    cases hd with | nref _ _ sz m k _ hs hN hv hx =>
      split at hb
      · rename_i t e2 sz2 k2 rows ho
        obtain ⟨hb1, rfl⟩ := hb
        have : sz2 = sz ∧ rows.length = m ∧ k2 = k := by simpa [sg, ho, AO.sg] using hs
        obtain ⟨rfl, rfl, rfl⟩ := this
        refine .p ((view_of_nref (st := ⟨[], h, 0⟩) hr ho (by have := hx hb1; rwa [hb1] at this)).keep (fun _ _ => rfl) fun b hb => ?_)
        rcases hb with hb | hb
        · exact .inl hb
        · exact .inr ⟨id, _, ho, hb⟩
      · exact hb.elim
  | .nr id i len q, d', v, hd, hb => by
    simp only [Bor] at hb
    cases hd with | nr _ _ _ _ sz m k _ hs hN hv hx =>
      split at hb
      · rename_i t e2 sz2 k2 rows ho
        obtain ⟨⟨hb1, hb2, hb3⟩, rfl⟩ := hb
        have : sz2 = sz ∧ rows.length = m ∧ k2 = k := by simpa [sg, ho, AO.sg] using hs
        obtain ⟨rfl, rfl, rfl⟩ := this
        obtain ⟨bc, g1, g2, a, g3, g4⟩ := hx hb1
        have hn : NstR F w (M id) t e2 sz2 rows none := hr.obj id _ ho
        have hg : rows[i]? = some (rows.getD i []) := by simp [List.getD, hb2]
        subst g3
        rw [hb3]
        exact .p ((hn.rows i _ bc hg g1 (by simp)).pure (fun b hb => .inl hb) (fun hc => .inr ⟨id, _, ho, .inr ⟨i, bc, g1, hc, rfl⟩⟩) g4)
      · exact hb.elim
  | .agg cs, .agg cs', v, hd, hb => by
    simp only [Bor] at hb
    cases hd with | agg _ vs hl hc =>
      have h1 := BorL_sound hr cs cs' (vs := vs.toList) (by simpa using hl) (fun i e he => by have := hc i e he; simpa [List.getD, Array.getD_eq_getD_getElem?] using this) hb
      exact .agg _ vs (by have := h1.1; simpa using this) (fun i e he => by have := h1.2 i e he; simpa [List.getD, Array.getD_eq_getD_getElem?] using this)
  | .fn f cap, .fn f' cap', v, hd, hb => by
    simp only [Bor] at hb
    obtain ⟨rfl, hb⟩ := hb
    cases hd with | fn _ _ vs hl hc =>
      have h1 := BorL_sound hr cap cap' (vs := vs.toList) (by simpa using hl) (fun i e he => by have := hc i e he; simpa [List.getD, Array.getD_eq_getD_getElem?] using this) hb
      exact .fn _ _ vs (by have := h1.1; simpa using this) (fun i e he => by have := h1.2 i e he; simpa [List.getD, Array.getD_eq_getD_getElem?] using this)
theorem BorL_sound (hr : HR F w M h) : ∀ (ds ds' : List D) {vs : List Value}, vs.length = ds.length → (∀ (i : Nat) c, ds[i]? = some c → DR F w M (sg h) c (vs.getD i undef)) → BorL h ds ds' → DRl (LentF F M h) w M (sg []) ds' vs
  | [], [], vs, hl, _, _ => ⟨hl, fun i c hi => by simp at hi⟩
  | d :: r, d' :: r', vs, hl, hc, hb => by
    simp only [BorL] at hb
    rcases vs with _ | ⟨x, vs⟩
    · simp at hl
    have h0 := Bor_sound hr d d' (v := x) (by simpa using hc 0 d rfl) hb.1
    have h1 := BorL_sound hr r r' (vs := vs) (by simpa using hl) (fun i c hi => by simpa using hc (i + 1) c (by simpa using hi)) hb.2
    refine ⟨by simp [h1.1], fun i c hi => ?_⟩
    rcases i with _ | i
    · simp at hi; subst hi; simpa using h0
    · simpa using h1.2 i c (by simpa using hi)
end
mutual
theorem Bor_congr : ∀ (d d' : D), (∀ id ∈ d.ids, get h' id = get h id) → Bor h d d' → Bor h' d d'
  | .p x, d', _, hb => by simp only [Bor] at hb ⊢; exact hb
  | .cl es, d', _, hb => by simp only [Bor] at hb ⊢; exact hb
  | .ref id off len N, d', hg, hb => by simp only [Bor] at hb ⊢; rw [hg id (by simp [D.ids])]; exact hb
  | .nref id n, d', hg, hb => by simp only [Bor] at hb ⊢; rw [hg id (by simp [D.ids])]; exact hb
  | .nr id i len q, d', hg, hb => by simp only [Bor] at hb ⊢; rw [hg id (by simp [D.ids])]; exact hb
  | .agg cs, .agg cs', hg, hb => by simp only [Bor] at hb ⊢; exact BorL_congr cs cs' (fun id hi => hg id (by simpa [D.ids] using hi)) hb
  | .fn f cap, .fn f' cap', hg, hb => by simp only [Bor] at hb ⊢; exact ⟨hb.1, BorL_congr cap cap' (fun id hi => hg id (by simpa [D.ids] using hi)) hb.2⟩
theorem BorL_congr : ∀ (ds ds' : List D), (∀ id ∈ idsL ds, get h' id = get h id) → BorL h ds ds' → BorL h' ds ds'
  | [], [], _, _ => by simp only [BorL]
  | d :: r, d' :: r', hg, hb => by
    simp only [BorL] at hb ⊢
    exact ⟨Bor_congr d d' (fun id hi => hg id (by simp [idsL, hi])) hb.1, BorL_congr r r' (fun id hi => hg id (by simp [idsL, hi])) hb.2⟩
end
end
def BorO (P : Program) (o : Oper) (K : St → Prop) (st : St) : Prop :=
  ∃ (f : Operand) (args : List Operand) (g : FuncId) (cap ds : List D), isCall o.op = some (f, args) ∧ ev st f = .fn g cap ∧ BorL st.hp (args.map (ev st) ++ cap) ds ∧
    ACalls P g ds [] fun h r => h = [] ∧ K (st.put o.dst r.scrub)
section
variable {P : Program} {c : Ctx} {st st' : St} {a : Act} {w : World} {F : Nat → Prop} {M : Nat → Mb} {o : Oper} {K K' : St → Prop}
theorem Rel.lent (hr : Rel c st a w F M) {v : Value} {w' : World} {F' : Nat → Prop} {M' : Nat → Mb} {d : D} (hd : DR F' w' M' (sg []) d v) (hk : Keep ⟨w, LentF F M st.hp, Owned M [], M, sg []⟩ w' F' M' []) :
    Rel c st a w' F M ∧ DR F w' M (sg st.hp) d.scrub v := by
  have hno : ∀ b, ¬ Owned M [] b := by rintro b ⟨id, o, ho, _⟩; simp [get] at ho
  have hold : ∀ b, b < w.heap.size → w'.heap[b]? = w.heap[b]? := fun b hb => hk.old b hb (hno b)
  have hsz : w.heap.size ≤ w'.heap.size := hk.size
  have hF : ∀ b, F b → w'.heap[b]? = w.heap[b]? := fun b hb => hold b (hr.keep.Fl b hb)
  have hO : ∀ b, Owned M st.hp b → w'.heap[b]? = w.heap[b]? := fun b hb => hold b (hr.heap.lt hb)
  refine ⟨⟨fun t d ht => (hr.env t d ht).keep hF (fun _ h => h) (SgKeep.refl _ _), hr.size, hr.defers, hr.heap.keep hF hO, ?_⟩, hd.scrub⟩
  have hk0 := hr.keep
  exact ⟨hk.os.trans hk0.os, hk.tape.trans hk0.tape, hk.output.trans hk0.output, Nat.le_trans hk0.size hsz, fun b hb hO => (hold b (Nat.lt_of_lt_of_le hb hk0.size)).trans (hk0.old b hb hO), hk0.F0, hk0.Fn,
    fun b hb => Nat.lt_of_lt_of_le (hk0.Fl b hb) hsz, hk0.own, hk0.sgk, hk0.s0b⟩
theorem BorO_sound (hr : Rel c st a w F M) (hb : BorO P o K st) (Q : Exit → Act → World → Prop) : o.wp P a w (Good c K) Q := by
  obtain ⟨f, args, g, cap, ds, ho, hg, hbor, hcall⟩ := hb
  unfold isCall at ho
  split at ho
  case h_2 => cases ho
  rename_i cl hop
  split at ho
  case h_2 => cases ho
  rename_i f' hf
  simp only [Option.some.injEq, Prod.mk.injEq] at ho
  obtain ⟨rfl, rfl⟩ := ho
  have hfv := ev_sound hr f'
  rw [hg] at hfv
  generalize hvf : a.eval f' = vf at hfv
  cases hfv with
  | fn _ _ caps hl hc =>
    have hargs := (evs_sound hr cl.args.toList).append (cs' := cap) (vs' := caps.toList) ⟨by simpa using hl, fun i e he => by have := hc i e he; simpa [List.getD, Array.getD_eq_getD_getElem?] using this⟩
    have hdl := BorL_sound hr.heap _ _ hargs.1 hargs.2 hbor
    have hruns := hcall (cl.args.map a.eval ++ caps) w (LentF F M st.hp) M ⟨fun id o ho => by simp [get] at ho, fun id o id' o' b ho => by simp [get] at ho⟩
      (fun b hb => hb.elim (hr.keep.Fl b) hr.heap.lt) (fun id hid => by simp [sg, get] at hid) (by simpa using hdl)
    rcases hruns with ⟨hent, hcalls⟩ | ⟨v, w', hval, hres⟩
    · have hrun : (execOp a.eval o).run P w = .ok (.enter g (cl.args.map a.eval ++ caps)) w := by
        simp only [execOp, hop, hf, resolve, hvf, Deferred.ofValue, Sem.run_bind, Sem.run_pure, Result.andThen_ok, invoke, Array.empty_append]
        exact hent
      unfold Oper.wp
      rw [hrun]
      refine hcalls.mono ?_
      rintro e w' ⟨v, h', r, F2, M2, rfl, ⟨rfl, hk⟩, _, hd, hkeep⟩
      obtain ⟨hr2, hd2⟩ := hr.lent hd hkeep
      exact ⟨_, F, M, hk, hr2.put hd2 o.dst⟩
    · have hrun : (execOp a.eval o).run P w = .ok (.value v) w' := by
        simp only [execOp, hop, hf, resolve, hvf, Deferred.ofValue, Sem.run_bind, Sem.run_pure, Result.andThen_ok, invoke, Array.empty_append]
        exact hval
      obtain ⟨v2, h', r, F2, M2, hv2, ⟨rfl, hk⟩, _, hd, hkeep⟩ := hres
      cases hv2
      obtain ⟨hr2, hd2⟩ := hr.lent hd hkeep
      unfold Oper.wp
      rw [hrun]
      exact ⟨_, F, M, hk, hr2.put hd2 o.dst⟩
theorem isCall_ops {f : Operand} {args : List Operand} (hc : isCall o.op = some (f, args)) : ∀ x ∈ f :: args, x ∈ o.op.operands.toList := by
  unfold isCall at hc
  split at hc
  case h_2 => cases hc
  rename_i cl hcl
  split at hc
  case h_2 => cases hc
  rename_i f' hf'
  simp only [Option.some.injEq, Prod.mk.injEq] at hc
  obtain ⟨rfl, rfl⟩ := hc
  intro x hxm
  rw [hcl]
  simp [Op.operands, Call.operands, hf'] at hxm ⊢
  exact hxm
theorem BorO_congr (h : ∀ x ∈ o.op.operands.toList, ev st' x = ev st x) (hp : ∀ id, get st'.hp id = get st.hp id) (hK : ∀ d, K (st.put o.dst d) → K' (st'.put o.dst d)) (hb : BorO P o K st) : BorO P o K' st' := by
  obtain ⟨f, args, g, cap, ds, ho, hg, hbor, hcall⟩ := hb
  have hx := isCall_ops ho
  have hargs : args.map (ev st') = args.map (ev st) := List.map_congr_left fun x hx2 => h x (hx x (by simp [hx2]))
  refine ⟨f, args, g, cap, ds, ho, (h f (hx f (by simp))).trans hg, ?_, hcall.mono fun h' r hr => ⟨hr.1, hK _ hr.2⟩⟩
  rw [hargs]
  exact BorL_congr _ _ (fun id _ => hp id) hbor
theorem BorO_hy {env : List (Nat × D)} {n : Nat} {e h h' : Hp} (hx : HX e h h') (ho : ∀ x ∈ o.op.operands.toList, Pres h (ev ⟨env, h, n⟩ x)) (hb : BorO P o K ⟨env, h', n⟩) :
    BorO P o (fun st => (∃ h1', HX e st.hp h1' ∧ K { st with hp := h1' }) ∧ NewLe (some (o.dst.getD 0)) h st.hp) ⟨env, h, n⟩ := by
  obtain ⟨f, args, g, cap, ds, hc, hg, hbor, hcall⟩ := hb
  have hops := isCall_ops hc
  refine ⟨f, args, g, cap, ds, hc, hg, ?_, hcall.mono fun h2 r hr => ⟨hr.1, ⟨h', by rw [put_hp]; exact hx, put_with _ _ _ hr.2⟩, fun i hi => by rw [put_hp] at hi; exact .inl hi⟩⟩
  refine BorL_congr _ _ (fun id hid => ?_) hbor
  rw [idsL_append, List.mem_append] at hid
  have hpres : get h id ≠ none := by
    rcases hid with h1 | h1
    · obtain ⟨d, hd, hi⟩ := idsL_from h1
      obtain ⟨x, hx2, rfl⟩ := List.mem_map.1 hd
      exact ho x (hops x (by simp [hx2])) id hi
    · have h3 := ho f (hops f (by simp)) id
      have e2 : ev ⟨env, h, n⟩ f = .fn g cap := hg
      rw [e2] at h3
      exact h3 (by simpa [D.ids] using h1)
  exact (hx.eq hpres).symm
def wDq (P : Program) (o : Oper) (K : St → Prop) (st : St) : Prop := wDo P false o K st ∨ BorO P o K st
theorem wDq_sound (hr : Rel c st a w F M) (h : wDq P o K st) (Q : Exit → Act → World → Prop) : o.wp P a w (Good c K) Q := h.elim (fun h => wDo_sound hr h Q) fun h => BorO_sound hr h Q
end
end Go.Am
namespace Go.Am
open Go
structure Eqv (st st' : St) : Prop where
  n : st'.n = st.n
  env : ∀ t, get st'.env t = get st.env t
  hp : ∀ id, get st'.hp id = get st.hp id
theorem Eqv.refl (st : St) : Eqv st st := ⟨rfl, fun _ => rfl, fun _ => rfl⟩
theorem Eqv.symm {a b : St} (h : Eqv a b) : Eqv b a := ⟨h.n.symm, fun t => (h.env t).symm, fun t => (h.hp t).symm⟩
theorem Eqv.trans {a b c : St} (h : Eqv a b) (h' : Eqv b c) : Eqv a c := ⟨h'.n.trans h.n, fun t => (h'.env t).trans (h.env t), fun t => (h'.hp t).trans (h.hp t)⟩
theorem Rel.eqv {c : Ctx} {st st' : St} {a : Act} {w : World} {F : Nat → Prop} {M : Nat → Mb} (hr : Rel c st a w F M) (h : Eqv st st') : Rel c st' a w F M := by
  have hs : sg st'.hp = sg st.hp := funext fun id => by unfold sg; rw [h.hp]
  refine ⟨fun t d ht => ?_, by rw [h.n]; exact hr.size, hr.defers, ?_, ?_⟩
  · rw [hs]; exact hr.env t d (by rw [← h.env]; exact ht)
  · exact ⟨fun id o ho => by rw [hs]; exact hr.heap.obj id o (by rw [← h.hp]; exact ho), fun id o id' o' b ho ho' => hr.heap.inj id o id' o' b (by rw [← h.hp]; exact ho) (by rw [← h.hp]; exact ho')⟩
  · have hk := hr.keep
    exact ⟨hk.os, hk.tape, hk.output, hk.size, hk.old, hk.F0, hk.Fn, hk.Fl, fun b ⟨id, o, ho, h1⟩ => hk.own b ⟨id, o, by rw [← h.hp]; exact ho, h1⟩, by rw [hs]; exact hk.sgk, hk.s0b⟩
def Shut (K : St → Prop) : Prop := ∀ st st', Eqv st st' → K st → K st'
def ShutOf (K : St → Prop) : St → Prop := fun st => ∃ st', Eqv st st' ∧ K st'
theorem Shut.of (K : St → Prop) : Shut (ShutOf K) := fun _ _ h ⟨s, h1, h2⟩ => ⟨s, h.symm.trans h1, h2⟩
theorem ev_eqv {st st' : St} (h : Eqv st st') (x : Operand) : ev st' x = ev st x := by
  cases x <;> simp only [ev, h.env]
theorem get_put {st : St} {t : Option Nat} {d : D} (q : Nat) : get (st.put t d).env q = if t = some q ∧ q < st.n then some d else get st.env q := by
  cases t with
  | none => simp [St.put]
  | some t =>
    simp only [St.put]
    by_cases ht : t < st.n
    · rw [if_pos ht]
      simp only [get_cons, Option.some.injEq]
      by_cases e : t = q
      · subst e; simp [ht]
      · simp [e]
    · rw [if_neg ht]
      by_cases e : t = q
      · subst e; simp [ht]
      · simp [e]
theorem put_n (st : St) (t : Option Nat) (d : D) : (st.put t d).n = st.n := by
  cases t with
  | none => rfl
  | some t => simp only [St.put]; split <;> rfl
theorem Eqv.put {st st' : St} (h : Eqv st st') (t : Option Nat) (d : D) : Eqv (st.put t d) (st'.put t d) := by
  refine ⟨by rw [put_n, put_n]; exact h.n, fun q => ?_, fun id => by rw [put_hp, put_hp]; exact h.hp id⟩
  rw [get_put, get_put, h.n, h.env]
theorem Eqv.heap {st st' : St} (h : Eqv st st') {x x' : Hp} (hx : ∀ id, get x' id = get x id) : Eqv { st with hp := x } { st' with hp := x' } := ⟨h.n, h.env, hx⟩
theorem Eqv.swap {st : St} {t u : Option Nat} {d x : D} (hne : ∀ q, t = some q → u ≠ some q) : Eqv ((st.put t d).put u x) ((st.put u x).put t d) := by
  refine ⟨by simp only [put_n], fun q => ?_, fun id => by simp only [put_hp]⟩
  simp only [get_put, put_n]
  by_cases h1 : t = some q ∧ q < st.n
  · rw [if_pos h1]
    have := hne q h1.1
    simp [this, h1]
  · rw [if_neg h1]
    by_cases h2 : u = some q ∧ q < st.n
    · simp [h2, h1]
    · simp [h2, h1]
section
variable {P : Program}
def Looks (l : List Oper) (o : Oper) (st st' : St) : Prop := (∀ x ∈ o.op.operands.toList, ev st' x = ev st x) ∧ gval st' l o.guard = gval st l o.guard
theorem mapev {st st' : St} : ∀ {l : List Operand}, (∀ x ∈ l, ev st' x = ev st x) → l.map (ev st') = l.map (ev st)
  | [], _ => rfl
  | x :: r, h => by simp only [List.map_cons, h x (by simp), mapev (l := r) (fun y hy => h y (by simp [hy]))]
theorem mapev2 {st st' : St} : ∀ {l : List (Nat × Operand)}, (∀ x ∈ l.map (·.2), ev st' x = ev st x) → l.map (fun q => (q.1, ev st' q.2)) = l.map (fun q => (q.1, ev st q.2))
  | [], _ => rfl
  | x :: r, h => by simp only [List.map_cons, h x.2 (by simp), mapev2 (l := r) (fun y hy => h y (by simp only [List.map_cons, List.mem_cons]; exact .inr hy))]
theorem boundR_congr {st st' : St} {o : Option Operand} {n : Int} (h : ∀ x ∈ o.toList, ev st' x = ev st x) : boundR st' o n = boundR st o n := by
  cases o with
  | none => rfl
  | some x => simp only [boundR, h x (by simp)]
theorem doR_congr {st st' : St} {o : Oper} (h : ∀ x ∈ o.op.operands.toList, ev st' x = ev st x) (hp : st'.hp = st.hp) : doR P st' o = doR P st o := by
  unfold doR
  generalize o.op = op at h
  cases op with
  | call c =>
    simp only
    cases hc : c.callee with
    | builtin b =>
      simp only
      have : c.args.toList.map (ev st') = c.args.toList.map (ev st) := mapev fun x hx => h x (by simp [Op.operands, Call.operands, hc]; simpa using hx)
      rw [this]
      unfold builtinR
      rw [hp]
    | _ => rfl
  | slice t x lo hi mx =>
    have h1 : ev st' x = ev st x := h x (by simp [Op.operands])
    have h2 : ∀ n, boundR st' lo n = boundR st lo n := fun n => boundR_congr fun y hy => h y (by simp [Op.operands]; cases lo <;> simp_all)
    have h3 : ∀ n, boundR st' hi n = boundR st hi n := fun n => boundR_congr fun y hy => h y (by simp [Op.operands]; cases hi <;> simp_all)
    have h4 : ∀ m n, mx = some m → boundR st' (some m) n = boundR st (some m) n := fun m n hm => boundR_congr fun y hy => h y (by simp [Op.operands]; simp_all)
    have : sliceR P st' t (ev st x) lo hi mx = sliceR P st t (ev st x) lo hi mx := by
      unfold sliceR
      simp only [h2, h3, hp]
      cases mx with
      | none => rfl
      | some m => simp only [h4 m _ rfl]
    simp only [vOpR, h1, this, hp]
  | build t ps =>
    have h1 : ps.toList.map (fun q => (q.1, ev st' q.2)) = ps.toList.map (fun q => (q.1, ev st q.2)) := mapev2 fun x hx => h x (by simpa [Op.operands] using hx)
    simp only [vOpR, buildR, h1, hp]
  | buildSlice t n ps =>
    have h1 : ps.toList.map (fun q => (q.1, ev st' q.2)) = ps.toList.map (fun q => (q.1, ev st q.2)) := mapev2 fun x hx => h x (by simpa [Op.operands] using hx)
    simp only [mOpR, h1, hp]
  | makeFunc fn first cap =>
    have h1 : cap.toList.map (ev st') = cap.toList.map (ev st) := mapev fun x hx => h x (by simp [Op.operands]; exact .inr (by simpa using hx))
    cases fn <;> simp only [vOpR, h1, hp]
  | makeMap t r => cases r <;> simp only [mOpR, hp]
  | _ => simp [Op.operands] at h <;> simp only [vOpR, mOpR, h, hp]
theorem callR_congr {st st' : St} {o : Oper} {f : Operand} {args : List Operand} (hc : isCall o.op = some (f, args)) (h : ∀ x ∈ o.op.operands.toList, ev st' x = ev st x) (hp : st'.hp = st.hp) : callR st' f args = callR st f args := by
  unfold isCall at hc
  split at hc
  case h_2 => cases hc
  rename_i cl hcl
  split at hc
  case h_2 => cases hc
  rename_i f' hf'
  simp only [Option.some.injEq, Prod.mk.injEq] at hc
  obtain ⟨rfl, rfl⟩ := hc
  rw [hcl] at h
  have h1 : ev st' f' = ev st f' := h f' (by simp [Op.operands, Call.operands, hf'])
  have h2 : cl.args.toList.map (ev st') = cl.args.toList.map (ev st) := mapev fun x hx => h x (by simp [Op.operands, Call.operands, hf']; exact .inr (by simpa using hx))
  unfold callR
  rw [h1, h2, hp]
theorem wDo_congr {st st' : St} {o : Oper} {K K' : St → Prop} (h : ∀ x ∈ o.op.operands.toList, ev st' x = ev st x) (hp : st'.hp = st.hp)
    (hK : ∀ y d, K (({ st with hp := y } : St).put o.dst d) → K' (({ st' with hp := y } : St).put o.dst d)) (hh : wDo P false o K st) : wDo P false o K' st' := by
  unfold wDo at *
  split at hh
  · rename_i f args hc
    rw [callR_congr hc h hp]
    rcases Rs.allOr_or hh with hh | hh
    case inr => exact (Bool.false_ne_true hh.1).elim
    simp only [callDO_false] at hh ⊢
    exact Rs.all_allOr (Rs.all_mono (fun x hx => callD_mono (fun d y hk => hK y d hk) hx) hh)
  · rw [doR_congr h hp]
    rcases Rs.allOr_or hh with hh | hh
    case inr => exact (Bool.false_ne_true hh.1).elim
    exact Rs.all_allOr (Rs.all_mono (fun x hx => hK _ _ hx) hh)
theorem wDo_mono {st : St} {o : Oper} {K K' : St → Prop} (hK : ∀ s, K s → K' s) (hh : wDo P false o K st) : wDo P false o K' st :=
  wDo_congr (fun _ _ => rfl) rfl (fun _ _ hk => hK _ hk) hh
theorem wDo_eqv {st st' : St} (he : Eqv st st') {o : Oper} {K : St → Prop} (hs : Shut K) (hh : wDo P false o K st) : wDo P false o K st' := by
  have h1 : wDo P false o K { st' with hp := st.hp } := wDo_congr (fun x _ => ev_eqv (st' := { st' with hp := st.hp }) ⟨he.n, he.env, fun _ => rfl⟩ x) rfl
    (fun y d hk => hs _ _ (Eqv.put (Eqv.heap he fun _ => rfl) _ _) hk) hh
  have hx : HX [] st.hp st'.hp := fun id => by rw [he.hp]; cases get st.hp id <;> rfl
  have h2 := wDo_hx (env := st'.env) (n := st'.n) hx (fun id h => (h rfl).elim) rfl h1
  refine wDo_mono (fun s ⟨y, hy, hk⟩ => ?_) h2
  have e : Eqv { s with hp := y } s := by
    refine ⟨rfl, fun _ => rfl, fun id => ?_⟩
    have := hy id
    simp only [get] at this
    rw [this]; cases get y id <;> rfl
  exact hs _ _ e hk
theorem wDq_congr {st st' : St} {o : Oper} {K K' : St → Prop} (h : ∀ x ∈ o.op.operands.toList, ev st' x = ev st x) (hp : st'.hp = st.hp)
    (hK : ∀ y d, K (({ st with hp := y } : St).put o.dst d) → K' (({ st' with hp := y } : St).put o.dst d)) (hh : wDq P o K st) : wDq P o K' st' := by
  rcases hh with hh | hh
  · exact .inl (wDo_congr h hp hK hh)
  · refine .inr (BorO_congr h (fun id => by rw [hp]) (fun d hk => ?_) hh)
    have := hK st.hp d hk
    rw [← hp] at this
    exact this
theorem wDq_mono {st : St} {o : Oper} {K K' : St → Prop} (hK : ∀ s, K s → K' s) (hh : wDq P o K st) : wDq P o K' st :=
  wDq_congr (fun _ _ => rfl) rfl (fun _ _ hk => hK _ hk) hh
theorem wDq_eqv {st st' : St} (he : Eqv st st') {o : Oper} {K : St → Prop} (hs : Shut K) (hh : wDq P o K st) : wDq P o K st' := by
  rcases hh with hh | hh
  · exact .inl (wDo_eqv he hs hh)
  · exact .inr (BorO_congr (fun x _ => ev_eqv he x) he.hp (fun d hk => hs _ _ (he.put _ _) hk) hh)
theorem wDq_hy {env : List (Nat × D)} {n : Nat} {e h h' : Hp} (hx : HX e h h') (he : ∀ id, get e id ≠ none → id < 10000) (hn : NoDh h) {o : Oper} (hq : isQ o.op = true) (ho : ∀ x ∈ o.op.operands.toList, Pres h (ev ⟨env, h, n⟩ x)) {K : St → Prop} (hh : wDq P o K ⟨env, h', n⟩) :
    wDq P o (fun st => (∃ h1', HX e st.hp h1' ∧ K { st with hp := h1' }) ∧ NewLe (some (o.dst.getD 0)) h st.hp) ⟨env, h, n⟩ :=
  hh.elim (fun hh => .inl (wDo_hy hx he hn hq ho hh)) fun hh => .inr (BorO_hy hx ho hh)
end
end Go.Am
namespace Go.Am
open Go
def pureL : List D → Option (List Pd)
  | [] => some []
  | .p x :: r => (pureL r).map (x :: ·)
  | .cl es :: r => (pureL r).map (.sl es :: ·)
  | _ :: _ => none
def allocR (P : Program) (st : St) (q : Nat) (op : Op) : Rs (D × AO) :=
  match op with
  | .alloc t => match tiOf P t with
    | some ti => match ti.zero.stored with
      | some cs => .ret True (.ptr q 0, .box cs (npT t cs))
      | none => .fail
    | none => .fail
  | .box _ x => match (ev st x).stored with
    | some cs => .ret True (.ptr q 0, .box cs)
    | none => .fail
  | .buildSlice t n parts => match tiOf P t with
    | some ⟨_, _, .slice e, _⟩ => match tiOf P e with
      | some ti => match fillD (fun i => some (i * ti.size, ti.size)) (List.replicate (n * ti.size) .bad) (parts.toList.map fun q => (q.1, ev st q.2)) with
        | some cs => if nilRows ti cs = true then .fail else match pureL cs with
          | some y => .ret (0 < ti.size ∧ n * ti.size ≤ 16777216) (.ref q 0 n n, .arr e ti.size (chunk ti.size n y))
          | none => .fail
        | none => .fail
      | none => .fail
    | _ => .fail
  | .makeSlice t l m => match tiOf P t, ev st l, ev st m with
    | some ⟨_, _, .slice e, _⟩, .p (.int _ l), .p (.int _ m) => match tiOf P e with
      | some ti => if ti.k.isSl = true then .fail else match pureL ti.zero.cells with
        | some y => .ret (0 < ti.size ∧ (0 ≤ l ∧ l ≤ m ∧ m * ti.bytes ≤ 140737488355328 ∧ m ≤ 140737488355328) ∧ ti.zero.cells.length = ti.size) (.ref q 0 l.toNat l.toNat, .arr e ti.size (List.replicate l.toNat y))
        | none => .fail
      | none => .fail
    | _, _, _ => .fail
  | _ => .fail
def Gp (P : Program) (l : List Oper) (hR : Hp) : List (Nat × Nat) → (St → Prop) → St → Prop
  | [], K, st => K st
  | (i, kd) :: r, K, st => match l[i]? with
    | none => False
    | some o => guardD st l o.guard (match kd with
      | 0 => (doR P { st with hp := hR } o).all fun x => Gp P l hR r K (st.put o.dst x.1)
      | 1 => (allocR P st (o.dst.getD 0) o.op).all fun x => get st.hp (o.dst.getD 0) = none ∧ Gp P l hR r K (({ st with hp := (o.dst.getD 0, x.2) :: st.hp } : St).put o.dst x.1)
      | 2 => wDq P o (fun s => LeH s.hp hR ∧ Gp P l hR r K s) st
      | _ => wDq P o (Gp P l hR r K) st) (Gp P l hR r K (st.put o.dst (.tup [])))
theorem Rs.leaf {α : Type} {k : α → Prop} : ∀ {r : Rs α}, r.all k → ∃ a, k a ∧ ∀ k' : α → Prop, k' a → r.all k'
  | .fail, h => h.elim
  | .ret p a, h => ⟨a, h.2, fun _ hk => ⟨h.1, hk⟩⟩
  | .split b x y, h => by
    cases b
    · obtain ⟨a, h1, h2⟩ := Rs.leaf (h.2 rfl)
      exact ⟨a, h1, fun k' hk => ⟨fun e => (Bool.false_ne_true e).elim, fun _ => h2 k' hk⟩⟩
    · obtain ⟨a, h1, h2⟩ := Rs.leaf (h.1 rfl)
      exact ⟨a, h1, fun k' hk => ⟨fun _ => h2 k' hk, fun e => (Bool.false_ne_true e.symm).elim⟩⟩
theorem guardD_gval (st : St) (l : List Oper) (g : Option (Nat × Bool)) (yes no : Prop) : guardD st l g yes no = match gval st l g with
    | .yes => yes
    | .no => no
    | .cond b => WIf b yes no
    | .bad => False := by
  unfold guardD gval
  cases g with
  | none => rfl
  | some g =>
    obtain ⟨j, want⟩ := g
    simp only
    cases ((l[j]?).bind (·.dst)).bind (get st.env) with
    | none => rfl
    | some d => cases d with
      | p q => cases q <;> rfl
      | tup cs => cases cs <;> rfl
      | _ => rfl
theorem guardD_leaf {st : St} {l : List Oper} {g : Option (Nat × Bool)} {yes no : Prop} (h : guardD st l g yes no) :
    (yes ∧ ∀ (st' : St) (y n : Prop), gval st' l g = gval st l g → y → guardD st' l g y n) ∨ (no ∧ ∀ (st' : St) (y n : Prop), gval st' l g = gval st l g → n → guardD st' l g y n) := by
  rw [guardD_gval] at h
  cases hg : gval st l g with
  | yes => rw [hg] at h; exact .inl ⟨h, fun st' y n e hy => by rw [guardD_gval, e]; exact hy⟩
  | no => rw [hg] at h; exact .inr ⟨h, fun st' y n e hy => by rw [guardD_gval, e]; exact hy⟩
  | bad => rw [hg] at h; exact h.elim
  | cond b =>
    rw [hg] at h
    cases b
    · exact .inr ⟨h.2 rfl, fun st' y n e hy => by rw [guardD_gval, e]; exact ⟨fun e => (Bool.false_ne_true e).elim, fun _ => hy⟩⟩
    · exact .inl ⟨h.1 rfl, fun st' y n e hy => by rw [guardD_gval, e]; exact ⟨fun _ => hy, fun e => (Bool.false_ne_true e.symm).elim⟩⟩
theorem guardD_mono {st st' : St} {l : List Oper} {g : Option (Nat × Bool)} {yes no yes' no' : Prop} (e : gval st' l g = gval st l g) (hy : yes → yes') (hn : no → no') (h : guardD st l g yes no) : guardD st' l g yes' no' := by
  rcases guardD_leaf h with ⟨h1, h2⟩ | ⟨h1, h2⟩
  · exact h2 st' _ _ e (hy h1)
  · exact h2 st' _ _ e (hn h1)
section
variable {P : Program} {l : List Oper} {hR : Hp}
theorem gval_eqv {st st' : St} (h : Eqv st st') (g : Option (Nat × Bool)) : gval st' l g = gval st l g := by
  unfold gval
  have : get st'.env = get st.env := funext h.env
  rw [this]
theorem allocR_congr {st st' : St} {q : Nat} {op : Op} (h : ∀ x ∈ op.operands.toList, ev st' x = ev st x) : allocR P st' q op = allocR P st q op := by
  unfold allocR
  cases op with
  | box t x => simp only [h x (by simp [Op.operands])]
  | buildSlice t n ps =>
    have h1 : ps.toList.map (fun q => (q.1, ev st' q.2)) = ps.toList.map (fun q => (q.1, ev st q.2)) := mapev2 fun x hx => h x (by simpa [Op.operands] using hx)
    simp only [h1]
  | makeSlice t l m => simp only [h l (by simp [Op.operands]), h m (by simp [Op.operands])]
  | _ => rfl
theorem pursR_pure : ∀ {cs : List D} {y : List Pd}, pureL cs = some y → ∀ (h : Hp) (k : List Pd × Hp → Prop), k (y, h) → (pursR h cs).all k
  | [], y, hp, h, k, hk => by simp only [pureL, Option.some.injEq] at hp; subst hp; exact ⟨trivial, hk⟩
  | .p x :: r, y, hp, h, k, hk => by
    simp only [pureL, Option.map_eq_some_iff] at hp
    obtain ⟨z, hz, rfl⟩ := hp
    exact Rs.bind_all ⟨trivial, Rs.bind_all (pursR_pure hz h _ ⟨trivial, hk⟩)⟩
  | .cl es :: r, y, hp, h, k, hk => by
    simp only [pureL, Option.map_eq_some_iff] at hp
    obtain ⟨z, hz, rfl⟩ := hp
    exact Rs.bind_all ⟨trivial, Rs.bind_all (pursR_pure hz h _ ⟨trivial, hk⟩)⟩
  | .agg _ :: r, y, hp, h, k, hk => by simp [pureL] at hp
  | .tup _ :: r, y, hp, h, k, hk => by simp [pureL] at hp
  | .cz _ :: r, y, hp, h, k, hk => by simp [pureL] at hp
  | .ref _ _ _ _ :: r, y, hp, h, k, hk => by simp [pureL] at hp
  | .ptr _ _ :: r, y, hp, h, k, hk => by simp [pureL] at hp
  | .pe _ :: r, y, hp, h, k, hk => by simp [pureL] at hp
  | .ea _ _ _ _ :: r, y, hp, h, k, hk => by simp [pureL] at hp
  | .fn _ _ :: r, y, hp, h, k, hk => by simp [pureL] at hp
  | .np :: r, y, hp, h, k, hk => by simp [pureL] at hp
  | .mv _ :: r, y, hp, h, k, hk => by simp [pureL] at hp
  | .nref _ _ :: r, y, hp, h, k, hk => by simp [pureL] at hp
  | .nea _ _ _ :: r, y, hp, h, k, hk => by simp [pureL] at hp
  | .nr _ _ _ _ :: r, y, hp, h, k, hk => by simp [pureL] at hp
  | .unk :: r, y, hp, h, k, hk => by simp [pureL] at hp
  | .bad :: r, y, hp, h, k, hk => by simp [pureL] at hp
theorem allocR_do {st : St} {o : Oper} {K : St → Prop} (h : (allocR P st (o.dst.getD 0) o.op).all fun x => get st.hp (o.dst.getD 0) = none ∧ K (({ st with hp := (o.dst.getD 0, x.2) :: st.hp } : St).put o.dst x.1)) :
    isCall o.op = none ∧ doR P st o = mOpR P st (o.dst.getD 0) o.op ∧ (mOpR P st (o.dst.getD 0) o.op).all fun x => K (({ st with hp := x.2 } : St).put o.dst x.1) := by
  unfold allocR at h
  unfold doR isCall
  split at h
  · rename_i t ho
    simp only [ho, true_and]
    split at h
    · rename_i h1
      split at h
      · rename_i h2; simp only [mOpR, h1, h2]; exact ⟨h.2.1, h.2.2⟩
      · exact h.elim
    · exact h.elim
  · rename_i t x ho
    simp only [ho, true_and]
    split at h
    · rename_i h2; simp only [mOpR, h2]; exact ⟨h.2.1, h.2.2⟩
    · exact h.elim
  · rename_i t n parts ho
    simp only [ho, true_and]
    split at h
    · rename_i h1
      split at h
      · rename_i h2
        split at h
        · rename_i h3
          split at h
          · exact h.elim
          rename_i hnr
          split at h
          · rename_i h4
            simp only [mOpR, h1, h2, h3, if_neg hnr]
            exact Rs.bind_all (pursR_pure h4 _ _ ⟨⟨h.1.1, h.1.2, h.2.1⟩, h.2.2⟩)
          · exact h.elim
        · exact h.elim
      · exact h.elim
    · exact h.elim
  · rename_i t l m ho
    simp only [ho, true_and]
    split at h
    · rename_i h1 h2 h3
      split at h
      · rename_i h4
        split at h
        · exact h.elim
        rename_i hnr
        split at h
        · rename_i h5
          simp only [mOpR, h1, h2, h3, h4, if_neg hnr]
          exact Rs.bind_all (pursR_pure h5 _ _ ⟨⟨h.1.1, h.2.1, h.1.2.1, h.1.2.2⟩, h.2.2⟩)
        · exact h.elim
      · exact h.elim
    · exact h.elim
  · exact h.elim
theorem LeH.congr {h h2 : Hp} (he : ∀ id, get h2 id = get h id) : ∀ {h1 : Hp}, LeH h h1 → LeH h2 h1
  | [], _ => trivial
  | (id, o) :: r, hl => ⟨by rw [he]; exact hl.1, LeH.congr he hl.2⟩
theorem Gp_shut {K : St → Prop} (hK : Shut K) : ∀ (r : List (Nat × Nat)), Shut (Gp P l hR r K)
  | [] => hK
  | (i, kd) :: r => by
    intro st st' he h
    have ih := Gp_shut hK r
    simp only [Gp] at h ⊢
    split at h
    · exact h.elim
    · rename_i o ho
      try simp only [ho]
      refine guardD_mono (gval_eqv he _) (fun hy => ?_) (fun hn => ih _ _ (he.put _ _) hn) h
      split at hy
      · rw [doR_congr (st := { st with hp := hR }) (st' := { st' with hp := hR }) (fun x _ => ev_eqv (he.heap (x := hR) (x' := hR) fun _ => rfl) x) rfl]
        exact Rs.all_mono (fun x hx => ih _ _ (he.put _ _) hx) hy
      · rw [allocR_congr (st := st) (fun x _ => ev_eqv he x)]
        refine Rs.all_mono (fun x hx => ⟨by rw [he.hp]; exact hx.1, ih _ _ (Eqv.put (he.heap fun id => ?_) _ _) hx.2⟩) hy
        simp only [get_cons, he.hp]
      · exact wDq_eqv he (fun s s' hs hh => ⟨hh.1.congr hs.hp, ih _ _ hs hh.2⟩) hy
      · exact wDq_eqv he ih hy
end
end Go.Am
namespace Go.Am
open Go
section
variable {P : Program} {l : List Oper} {hR : Hp}
theorem LeH.hx {h : Hp} (hl : LeH h hR) : HX h hR h := by
  intro id
  cases hg : get hR id with
  | none => rfl
  | some o => exact hl.spec id o hg
theorem isV_call {o : Oper} (hv : isV o.op = true) : isCall o.op = none := by
  unfold isCall
  split
  · rename_i c hc
    rw [hc] at hv
    split
    · rename_i f hf; simp [isV, hf] at hv
    · rfl
  · rfl
theorem builtinV {env : List (Nat × D)} {n : Nat} {e h h' : Hp} (hx : HX e h h') {q : Nat} {b : Builtin} (hb : b ≠ .append) (hb2 : b ≠ .copy) {ts : Array TypeId} {args : List D} {k : D → Prop} (hh : (builtinR P ⟨env, h, n⟩ q b ts args).all (fun x => k x.1)) :
    (builtinR P ⟨env, h', n⟩ q b ts args).all (fun y => y.2 = h' ∧ k y.1) := by
  unfold builtinR at *
  split at hh
  · split at hh
    · refine Rs.bind_all (Rs.all_mono (fun y hy => ?_) (lenR_hx hx (Rs.all_bind hh)))
      exact ⟨hy.1, rfl, hy.2⟩
    · exact hh.elim
  · exact (hb rfl).elim
  · exact (hb2 rfl).elim
  · exact ⟨hh.1, rfl, hh.2⟩
  · exact ⟨hh.1, rfl, hh.2⟩
  · exact ⟨hh.1, rfl, hh.2⟩
  · exact hh.elim
theorem doV {env : List (Nat × D)} {n : Nat} {e h h' : Hp} (hx : HX e h h') {o : Oper} (hv : isV o.op = true) {k : D → Prop} (hh : (doR P ⟨env, h, n⟩ o).all (fun x => k x.1)) : (doR P ⟨env, h', n⟩ o).all (fun x => x.2 = h' ∧ k x.1) := by
  have val : ∀ {op : Op}, ((vOpR P ⟨env, h, n⟩ op).bind fun d => .ret True (d, h)).all (fun x => k x.1) → ((vOpR P ⟨env, h', n⟩ op).bind fun d => .ret True (d, h')).all (fun x => x.2 = h' ∧ k x.1) := fun hv =>
    Rs.bind_all (Rs.all_mono (fun d hd => ⟨hd.1, rfl, hd.2⟩) (vOpR_hx hx (Rs.all_bind hv)))
  unfold doR at *
  generalize o.op = op at hv hh ⊢
  cases op with
  | call c =>
    cases hc : c.callee with
    | builtin b =>
      simp only [hc] at hh ⊢
      exact builtinV hx (fun e => by subst e; simp [isV, hc] at hv) (fun e => by subst e; simp [isV, hc] at hv) hh
    | _ => simp only [hc] at hh; exact hh.elim
  | alloc _ => simp [isV] at hv
  | box _ _ => simp [isV] at hv
  | store _ _ _ => simp [isV] at hv
  | buildSlice _ _ _ => simp [isV] at hv
  | makeSlice _ _ _ => simp [isV] at hv
  | makeMap _ _ => simp [isV] at hv
  | mapUpdate _ _ _ _ => simp [isV] at hv
  | _ => exact val hh
theorem wDo_of_do {st : St} {o : Oper} {K : St → Prop} (hc : isCall o.op = none) (h : (doR P st o).all fun x => K (({ st with hp := x.2 } : St).put o.dst x.1)) : wDo P false o K st := by
  unfold wDo
  rw [hc]
  exact Rs.all_allOr h
theorem eff {i kd : Nat} {r : List (Nat × Nat)} {K : St → Prop} {st : St} {o : Oper} (ho : l[i]? = some o) (hk : kd = 0 ∨ kd = 1) (hv : kd = 0 → isV o.op = true) (h : Gp P l hR ((i, kd) :: r) K st) :
    ∃ (e : Hp) (d : D), (e = [] ∨ (kd = 1 ∧ ∃ ao, e = [(o.dst.getD 0, ao)])) ∧ (∀ x ∈ e, get st.hp x.1 = none) ∧ Gp P l hR r K (({ st with hp := e ++ st.hp } : St).put o.dst d) ∧
      (∀ (s : St) (r' : List (Nat × Nat)) (K' : St → Prop), Looks l o st s → (∀ x ∈ e, get s.hp x.1 = none) → Gp P l hR r' K' (({ s with hp := e ++ s.hp } : St).put o.dst d) → Gp P l hR ((i, kd) :: r') K' s) ∧
      (∀ (c : Ctx) (a : Act) (w : World) (F : Nat → Prop) (M : Nat → Mb), Rel c st a w F M → (kd = 0 → LeH st.hp hR) → ∃ a' w' F' M', Rel c (({ st with hp := e ++ st.hp } : St).put o.dst d) a' w' F' M') := by
  simp only [Gp, ho] at h
  rcases guardD_leaf h with ⟨hy, hback⟩ | ⟨hn, hback⟩
  · rcases hk with rfl | rfl
    · simp only at hy
      obtain ⟨x, hx, hb⟩ := Rs.leaf hy
      refine ⟨[], x.1, .inl rfl, (fun y hy => by cases hy), hx, fun s r' K' hl _ hg => ?_, fun c a w F M hr hle => ?_⟩
      · simp only [Gp, ho]
        refine hback s _ _ hl.2 ?_
        try simp only
        rw [doR_congr (st := { st with hp := hR }) (st' := { s with hp := hR }) (fun x hx => hl.1 x hx) rfl]
        exact hb _ hg
      · have h1 : (doR P ⟨st.env, hR, st.n⟩ o).all (fun y => (fun d => d = x.1) y.1) := hb (fun y => y.1 = x.1) rfl
        have h2 := doV (k := fun d => d = x.1) (hle rfl).hx (hv rfl) h1
        have h3 : wDo P false o (fun s => s = st.put o.dst x.1) st := wDo_of_do (isV_call (hv rfl)) (Rs.all_mono (fun y hy => by
          obtain ⟨e1, e2⟩ := hy
          rw [e1, e2]) h2)
        obtain ⟨d, v, e1, hd, _⟩ := isV_sound hr (hv rfl) h3
        have := hr.put hd o.dst
        rw [e1] at this
        exact ⟨_, w, F, M, this⟩
    · simp only at hy
      obtain ⟨x, hx, hb⟩ := Rs.leaf hy
      refine ⟨[(o.dst.getD 0, x.2)], x.1, .inr ⟨rfl, x.2, rfl⟩, (fun y hy => by simp only [List.mem_singleton] at hy; subst hy; exact hx.1), hx.2, fun s r' K' hl hf hg => ?_, fun c a w F M hr _ => ?_⟩
      · simp only [Gp, ho]
        refine hback s _ _ hl.2 ?_
        try simp only
        rw [allocR_congr (st := st) (fun x hx => hl.1 x hx)]
        exact hb _ ⟨hf (o.dst.getD 0, x.2) (by simp), hg⟩
      · obtain ⟨_, _, h1⟩ := allocR_do (K := fun s => s = ({ st with hp := (o.dst.getD 0, x.2) :: st.hp } : St).put o.dst x.1) (hb (fun y => get st.hp (o.dst.getD 0) = none ∧ ({ st with hp := (o.dst.getD 0, y.2) :: st.hp } : St).put o.dst y.1 = ({ st with hp := (o.dst.getD 0, x.2) :: st.hp } : St).put o.dst x.1) ⟨hx.1, rfl⟩)
        obtain ⟨d, h', v, w', F', M', e1, hr', _, hd, _⟩ := mOp_sound hr (o := o) (k := fun d h => ({ st with hp := h } : St).put o.dst d = ({ st with hp := (o.dst.getD 0, x.2) :: st.hp } : St).put o.dst x.1) (mOpR_all h1)
        have := hr'.put hd o.dst
        try simp only at e1
        rw [e1] at this
        exact ⟨_, w', F', M', this⟩
  · refine ⟨[], .tup [], .inl rfl, (fun y hy => by cases hy), hn, fun s r' K' hl _ hg => ?_, fun c a w F M hr _ => ?_⟩
    · simp only [Gp, ho]
      exact hback s _ _ hl.2 hg
    · exact ⟨_, w, F, M, hr.put (.tup [] #[] rfl (fun i d hd => by simp at hd)) o.dst⟩
end
end Go.Am
namespace Go.Am
open Go
structure Ap (l : List Oper) (x y : Oper) : Prop where
  a : ∀ d, x.dst = some d → d ∉ y.looksAt l.toArray
  b : ∀ d, x.dst = some d → y.dst ≠ some d
  c : ∀ d, y.dst = some d → d ∉ x.looksAt l.toArray
section
variable {P : Program} {l : List Oper} {hR : Hp}
theorem looks_put {o : Oper} {st : St} {t : Option Nat} {d : D} {h : Hp} (hn : ∀ q, t = some q → q ∉ o.looksAt l.toArray) : Looks l o st (({ st with hp := h } : St).put t d) := by
  refine ⟨fun x hx => ?_, ?_⟩
  · cases x with
    | tmp q =>
      simp only [ev, get_put]
      rw [if_neg]
      rintro ⟨e, _⟩
      refine hn q e ?_
      unfold Oper.looksAt
      exact List.mem_append_left _ (List.mem_filterMap.2 ⟨.tmp q, hx, rfl⟩)
    | _ => rfl
  · unfold gval
    cases hg : o.guard with
    | none => rfl
    | some g =>
      obtain ⟨j, want⟩ := g
      simp only
      cases hj : (l[j]?).bind (·.dst) with
      | none => rfl
      | some q =>
        have : get (({ st with hp := h } : St).put t d).env q = get st.env q := by
          rw [get_put, if_neg]
          rintro ⟨e, _⟩
          refine hn q e ?_
          unfold Oper.looksAt
          refine List.mem_append_right _ ?_
          rw [hg]
          simp [hj]
        simp only [Option.bind_some, this]
theorem Looks.trans {o : Oper} {a b c : St} (h : Looks l o a b) (h' : Looks l o b c) : Looks l o a c := ⟨fun x hx => (h'.1 x hx).trans (h.1 x hx), h'.2.trans h.2⟩
theorem Looks.heap {o : Oper} {a b : St} (h : Looks l o a b) (x y : Hp) : Looks l o { a with hp := x } { b with hp := y } := by
  refine ⟨fun z hz => ?_, ?_⟩
  · have := h.1 z hz
    cases z <;> exact this
  · exact h.2
theorem eqv_two {st : St} {e : Hp} {t u : Option Nat} {d x : D} (hne : ∀ q, t = some q → u ≠ some q) :
    Eqv ((({ st with hp := e ++ st.hp } : St).put t d).put u x) (({ (st.put u x) with hp := e ++ (st.put u x).hp } : St).put t d) := by
  have h1 : Eqv ((({ st with hp := e ++ st.hp } : St).put t d).put u x) ((({ st with hp := e ++ st.hp } : St).put u x).put t d) := Eqv.swap hne
  refine h1.trans (Eqv.put ?_ _ _)
  refine ⟨by simp only [put_n], fun q => ?_, fun id => ?_⟩
  · simp only [get_put]
  · simp only [put_hp]
theorem pullF {K : St → Prop} (hK : Shut K) {j : Nat} {oj : Oper} (hj : l[j]? = some oj) (post : List (Nat × Nat)) : ∀ (pre : List (Nat × Nat)) {st : St}, Gp P l hR (pre ++ (j, 0) :: post) K st →
    (∀ x ∈ pre, (x.2 = 0 ∨ x.2 = 1) ∧ ∃ oi, l[x.1]? = some oi ∧ (x.2 = 0 → isV oi.op = true) ∧ Ap l oi oj) →
    guardD st l oj.guard ((doR P { st with hp := hR } oj).all fun x => Gp P l hR (pre ++ post) K (st.put oj.dst x.1)) (Gp P l hR (pre ++ post) K (st.put oj.dst (.tup [])))
  | [], st, h, _ => by
    simp only [List.nil_append, Gp, hj] at h
    exact h
  | (i, ki) :: pre, st, h, hp => by
    obtain ⟨hk, oi, ho, hv, hap⟩ := hp (i, ki) (by simp)
    obtain ⟨e, d, he, hf, hg, hback, _⟩ := eff ho hk hv h
    have ih := pullF hK hj post pre hg (fun x hx => hp x (by simp [hx]))
    have hlk : Looks l oj st (({ st with hp := e ++ st.hp } : St).put oi.dst d) := looks_put hap.a
    have go : ∀ x : D, Gp P l hR (pre ++ post) K ((({ st with hp := e ++ st.hp } : St).put oi.dst d).put oj.dst x) → Gp P l hR ((i, ki) :: (pre ++ post)) K (st.put oj.dst x) := by
      intro x hx
      refine hback _ _ _ (looks_put (h := st.hp) hap.c) (fun y hy => by rw [put_hp]; exact hf y hy) (Gp_shut hK _ _ _ (eqv_two hap.b) hx)
    refine guardD_mono hlk.2.symm (fun hy => ?_) (fun hn => go _ hn) ih
    rw [doR_congr (st := { st with hp := hR }) (fun x hx => (hlk.heap hR hR).1 x hx) rfl] at hy
    exact Rs.all_mono (fun x hx => go _ hx) hy
theorem pullA {K : St → Prop} (hK : Shut K) {j : Nat} {oj : Oper} (hj : l[j]? = some oj) (post : List (Nat × Nat)) : ∀ (pre : List (Nat × Nat)) {st : St}, Gp P l hR (pre ++ (j, 1) :: post) K st →
    (∀ x ∈ pre, (x.2 = 0 ∨ x.2 = 1) ∧ ∃ oi, l[x.1]? = some oi ∧ (x.2 = 0 → isV oi.op = true) ∧ Ap l oi oj ∧ (x.2 = 1 → oi.dst.getD 0 ≠ oj.dst.getD 0)) →
    guardD st l oj.guard ((allocR P st (oj.dst.getD 0) oj.op).all fun x => get st.hp (oj.dst.getD 0) = none ∧ Gp P l hR (pre ++ post) K (({ st with hp := (oj.dst.getD 0, x.2) :: st.hp } : St).put oj.dst x.1)) (Gp P l hR (pre ++ post) K (st.put oj.dst (.tup [])))
  | [], st, h, _ => by
    simp only [List.nil_append, Gp, hj] at h
    exact h
  | (i, ki) :: pre, st, h, hp => by
    obtain ⟨hk, oi, ho, hv, hap, hdst⟩ := hp (i, ki) (by simp)
    obtain ⟨e, d, he, hf, hg, hback, _⟩ := eff ho hk hv h
    have ih := pullA hK hj post pre hg (fun x hx => hp x (by simp [hx]))
    have hlk : Looks l oj st (({ st with hp := e ++ st.hp } : St).put oi.dst d) := looks_put hap.a
    have hkeys : ∀ y ∈ e, y.1 ≠ oj.dst.getD 0 := by
      intro y hy
      rcases he with rfl | ⟨h1, ao, rfl⟩
      · cases hy
      · simp only [List.mem_singleton] at hy; subst hy; exact hdst h1
    refine guardD_mono hlk.2.symm (fun hy => ?_) (fun hn => ?_) ih
    · rw [allocR_congr (st := st) (fun x hx => hlk.1 x hx)] at hy
      refine Rs.all_mono (fun x hx => ?_) hy
      obtain ⟨h1, h2⟩ := hx
      rw [put_hp] at h1
      simp only at h1
      have hfresh : get st.hp (oj.dst.getD 0) = none := by
        rcases he with rfl | ⟨_, ao, rfl⟩
        · exact h1
        · simp only [List.singleton_append, get_cons] at h1
          rw [if_neg (hkeys (oi.dst.getD 0, ao) (by simp))] at h1
          exact h1
      refine ⟨hfresh, ?_⟩
      refine hback _ _ _ ((looks_put (h := (oj.dst.getD 0, x.2) :: st.hp) hap.c)) (fun y hy => ?_) ?_
      · rw [put_hp]
        simp only [get_cons]
        rw [if_neg (fun e2 => hkeys y hy e2.symm)]
        exact hf y hy
      · refine Gp_shut hK _ _ _ ?_ h2
        have h3 := eqv_two (st := { st with hp := (oj.dst.getD 0, x.2) :: st.hp }) (e := e) (d := d) (x := x.1) hap.b
        refine Eqv.trans ?_ h3
        refine ⟨by simp only [put_n], fun q => by simp only [get_put, put_n], fun id => ?_⟩
        simp only [put_hp]
        rcases he with rfl | ⟨_, ao, rfl⟩
        · rfl
        · simp only [List.singleton_append, get_cons]
          by_cases e1 : oi.dst.getD 0 = id
          · by_cases e2 : oj.dst.getD 0 = id
            · exact (hkeys (oi.dst.getD 0, ao) (by simp) (e1.trans e2.symm)).elim
            · simp [e1, e2]
          · simp [e1]
    · refine hback _ _ _ (looks_put (h := st.hp) hap.c) (fun y hy => by rw [put_hp]; exact hf y hy) (Gp_shut hK _ _ _ (eqv_two hap.b) hn)
end
end Go.Am
namespace Go.Am
open Go
theorem idsL_mem : ∀ {cs : List D} {id : Nat}, id ∈ idsL cs → ∃ (i : Nat) (c : D), cs[i]? = some c ∧ id ∈ c.ids
  | [], id, h => by simp [idsL] at h
  | d :: r, id, h => by
    simp only [idsL, List.mem_append] at h
    rcases h with h | h
    · exact ⟨0, d, rfl, h⟩
    · obtain ⟨i, c, h1, h2⟩ := idsL_mem h
      exact ⟨i + 1, c, by simpa using h1, h2⟩
theorem DR.pres {F : Nat → Prop} {w : World} {M : Nat → Mb} {s : Nat → Option Sg} {d : D} {v : Value} (h : DR F w M s d v) : ∀ id ∈ d.ids, s id ≠ none := by
  induction h with
  | p _ => intro id hi; simp [D.ids] at hi
  | agg cs vs hl _ ih => intro id hi; obtain ⟨i, c, h1, h2⟩ := idsL_mem hi; exact ih i c h1 id h2
  | tup cs vs hl _ ih => intro id hi; obtain ⟨i, c, h1, h2⟩ := idsL_mem hi; exact ih i c h1 id h2
  | cl es a _ _ => intro id hi; simp [D.ids] at hi
  | cz es a _ => intro id hi; simp [D.ids] at hi
  | ref id off len N sz n v hs _ _ _ => intro i hi; simp only [D.ids, List.mem_singleton] at hi; subst hi; rw [hs]; simp
  | ptr id off hs => intro i hi; simp only [D.ids, List.mem_singleton] at hi; subst hi; rw [hs]; simp
  | pe _ _ _ _ _ _ _ _ _ _ => intro id hi; simp [D.ids] at hi
  | ea id i c N sz n v hs _ _ _ => intro i hi; simp only [D.ids, List.mem_singleton] at hi; subst hi; rw [hs]; simp
  | fn f cap vs hl _ ih => intro id hi; obtain ⟨i, c, h1, h2⟩ := idsL_mem hi; exact ih i c h1 id h2
  | unk _ _ => intro id hi; simp [D.ids] at hi
  | bad _ => intro id hi; simp [D.ids] at hi
  | np => intro id hi; simp [D.ids] at hi
  | mv id hs => intro i hi; simp only [D.ids, List.mem_singleton] at hi; subst hi; rw [hs]; simp
  | nref id n sz m k v hs _ _ _ => intro i hi; simp only [D.ids, List.mem_singleton] at hi; subst hi; rw [hs]; simp
  | nea id i n sz m k b hs _ _ _ => intro i hi; simp only [D.ids, List.mem_singleton] at hi; subst hi; rw [hs]; simp
  | nr id i n q sz m k v hs _ _ _ => intro i hi; simp only [D.ids, List.mem_singleton] at hi; subst hi; rw [hs]; simp
section
variable {P : Program} {l : List Oper} {hR : Hp}
theorem sg_none {h : Hp} {id : Nat} : sg h id ≠ none → get h id ≠ none := by
  intro hs hg
  exact hs (by simp [sg, hg])
theorem Rel.nod {c : Ctx} {st : St} {a : Act} {w : World} {F : Nat → Prop} {M : Nat → Mb} (hr : Rel c st a w F M) : NoDh st.hp ∧ ∀ x, Pres st.hp (ev st x) := by
  refine ⟨fun id o ho i hi => ?_, fun x id hi => sg_none ((ev_sound hr x).pres id hi)⟩
  have hob := hr.heap.obj id o ho
  cases o with
  | box cs ty =>
    obtain ⟨_, row, t, _, _, hd⟩ := hob
    obtain ⟨j, c, h1, h2⟩ := idsL_mem (cs := cs) hi
    exact sg_none ((hd.1 j c h1).1.pres i h2)
  | arx t sz es i c d =>
    obtain ⟨row, _, _, _, h4, _⟩ := ArxR.row hob
    exact sg_none (h4.pres _ hi)
  | _ => simp [AO.ids] at hi
theorem LeH.app {h e : Hp} (he : e = [] ∨ ∃ x, e = [x]) (hf : ∀ x ∈ e, get h x.1 = none) : ∀ {h1 : Hp}, LeH h h1 → LeH (e ++ h) h1
  | [], _ => trivial
  | (id, o) :: r, hl => by
    refine ⟨?_, LeH.app he hf hl.2⟩
    rcases he with rfl | ⟨x, rfl⟩
    · exact hl.1
    · simp only [List.singleton_append]
      rw [get_cons, if_neg]
      · exact hl.1
      · intro e1
        have := hf x (by simp)
        rw [e1, hl.1] at this
        cases this
theorem LeH.unapp {h e y : Hp} (hx : HX e y h) (hf : ∀ x ∈ e, get y x.1 = none) (he : e = [] ∨ ∃ x, e = [x]) {st : Hp} (hs : ∀ x ∈ e, get st x.1 = none) : ∀ {h1 : Hp}, LeH st h1 → LeH h h1 → LeH y h1
  | [], _, _ => trivial
  | (id, o) :: r, h0, hl => by
    refine ⟨?_, LeH.unapp hx hf he hs h0.2 hl.2⟩
    have h1 := hl.1
    rw [hx] at h1
    cases hg : get y id with
    | some o2 => rw [hg] at h1; exact h1
    | none =>
      rw [hg] at h1
      simp only at h1
      rcases he with rfl | ⟨x, rfl⟩
      · cases h1
      · rw [get_cons] at h1
        split at h1
        · rename_i e1
          have := hs x (by simp)
          rw [e1, h0.1] at this
          cases this
        · cases h1
theorem HX.app {h e : Hp} (he : e = [] ∨ ∃ x, e = [x]) (hf : ∀ x ∈ e, get h x.1 = none) : HX e h (e ++ h) := by
  rcases he with rfl | ⟨⟨q, o⟩, rfl⟩
  · exact HX.refl h
  · exact HX.one (hf (q, o) (by simp))
theorem HX.get_app {h y e : Hp} (hx : HX e h y) (he : e = [] ∨ ∃ x, e = [x]) (hf : ∀ x ∈ e, get h x.1 = none) (id : Nat) : get (e ++ h) id = get y id := by
  rw [hx]
  rcases he with rfl | ⟨x, rfl⟩
  · simp only [List.nil_append]; cases get h id <;> rfl
  · simp only [List.singleton_append]
    rw [get_cons]
    by_cases e1 : x.1 = id
    · have := hf x (by simp)
      rw [e1] at this
      rw [if_pos e1, this]
      simp [get, e1]
    · rw [if_neg e1]
      cases hg : get h id with
      | none => simp [get, e1]
      | some o => rfl
theorem pullQ {K : St → Prop} (hK : Shut K) {c : Ctx} {j kj : Nat} {oj : Oper} (hj : l[j]? = some oj) (hkj : kj = 2 ∨ kj = 3) (hq : isQ oj.op = true) (post : List (Nat × Nat)) :
    ∀ (pre : List (Nat × Nat)) {st : St} {a : Act} {w : World} {F : Nat → Prop} {M : Nat → Mb}, Rel c st a w F M → Gp P l hR (pre ++ (j, kj) :: post) K st → (kj = 2 ∨ (∃ x ∈ pre, x.2 = 0) → LeH st.hp hR) →
    (∀ x ∈ pre, (x.2 = 0 ∨ x.2 = 1) ∧ ∃ oi, l[x.1]? = some oi ∧ (x.2 = 0 → isV oi.op = true) ∧ Ap l oi oj ∧ (x.2 = 1 → oi.dst.getD 0 ≠ oj.dst.getD 0 ∧ oi.dst.getD 0 < 10000)) →
    guardD st l oj.guard (wDq P oj (fun s => (kj = 2 → LeH s.hp hR) ∧ Gp P l hR (pre ++ post) K s) st) (Gp P l hR (pre ++ post) K (st.put oj.dst (.tup [])))
  | [], st, a, w, F, M, hr, h, hle, _ => by
    simp only [List.nil_append, Gp, hj] at h
    refine guardD_mono rfl (fun hy => ?_) id h
    rcases hkj with rfl | rfl
    · exact wDq_mono (fun s hs => ⟨fun _ => hs.1, hs.2⟩) hy
    · exact wDq_mono (fun s hs => ⟨fun e => (by cases e), hs⟩) hy
  | (i, ki) :: pre, st, a, w, F, M, hr, h, hle, hp => by
    obtain ⟨hk, oi, ho, hv, hap, hdst⟩ := hp (i, ki) (by simp)
    obtain ⟨e, d, he, hf, hg, hback, hrel⟩ := eff ho hk hv h
    have he' : e = [] ∨ ∃ x, e = [x] := by
      rcases he with h1 | ⟨_, ao, h1⟩
      · exact .inl h1
      · exact .inr ⟨_, h1⟩
    obtain ⟨a1, w1, F1, M1, hr1⟩ := hrel c a w F M hr (fun e0 => hle (.inr ⟨(i, ki), by simp, e0⟩))
    have ih := pullQ hK hj hkj hq post pre hr1 hg (fun hh => by
      rw [put_hp]
      refine LeH.app he' hf (hle ?_)
      rcases hh with h1 | ⟨x, hx, hx0⟩
      · exact .inl h1
      · exact .inr ⟨x, by simp [hx], hx0⟩) (fun x hx => hp x (by simp [hx]))
    have hlk : Looks l oj st (({ st with hp := e ++ st.hp } : St).put oi.dst d) := looks_put hap.a
    refine guardD_mono hlk.2.symm (fun hy => ?_) (fun hn => ?_) ih
    · have h1 : wDq P oj (fun s => (kj = 2 → LeH s.hp hR) ∧ Gp P l hR (pre ++ post) K (s.put oi.dst d)) { st with hp := e ++ st.hp } := by
        refine wDq_congr (fun x hx => (hlk.1 x hx).symm) (by rw [put_hp]) (fun y x hk => ?_) hy
        refine ⟨fun e2 => by have := hk.1 e2; simp only [put_hp] at this ⊢; exact this, ?_⟩
        refine Gp_shut hK _ _ _ ?_ hk.2
        have h2 : Eqv ((({ st with hp := y } : St).put oi.dst d).put oj.dst x) ((({ st with hp := y } : St).put oj.dst x).put oi.dst d) := Eqv.swap hap.b
        refine Eqv.trans ?_ h2
        refine ⟨by simp only [put_n], fun q => by simp only [get_put, put_n], fun id => by simp only [put_hp]⟩
      obtain ⟨hno, hpr⟩ := hr.nod
      have heN : ∀ id, get e id ≠ none → id < 10000 := by
        intro id hid
        rcases he with h1 | ⟨hk1, ao, h1⟩
        · subst h1; exact (hid rfl).elim
        · subst h1
          rw [get_cons] at hid
          split at hid
          · rename_i e1; subst e1; exact (hdst hk1).2
          · exact (hid rfl).elim
      have h2 := wDq_hy (env := st.env) (n := st.n) (HX.app he' hf) heN hno hq (fun x _ => hpr x) h1
      refine wDq_congr (st := st) (fun _ _ => rfl) rfl (fun y x hk => ?_) h2
      obtain ⟨⟨h1', hx1, hle1, hg1⟩, hnew⟩ := hk
      rw [put_hp] at hx1 hnew
      simp only at hx1 hnew
      have hfy : ∀ z ∈ e, get y z.1 = none := by
        intro z hz
        cases hgz : get y z.1 with
        | none => rfl
        | some o =>
          exfalso
          rcases he with rfl | ⟨hk1, ao, rfl⟩
          · cases hz
          · simp only [List.mem_singleton] at hz
            subst hz
            obtain ⟨hd1, hd2⟩ := hdst hk1
            rcases hnew (oi.dst.getD 0) (by rw [hgz]; simp) with h3 | h3 | h3
            · exact h3 (hf (oi.dst.getD 0, ao) (by simp))
            · exact hd1 (Option.some.inj h3)
            · exact absurd hd2 (Nat.not_lt.2 h3)
      refine ⟨fun e2 => by
        rw [put_hp]
        exact LeH.unapp hx1 hfy he' hf (hle (.inl e2)) (hle1 e2), ?_⟩
      refine hback _ _ _ (looks_put (h := y) hap.c) (fun z hz => by rw [put_hp]; exact hfy z hz) ?_
      refine Gp_shut hK _ _ _ (Eqv.put ?_ _ _) hg1
      refine ⟨rfl, fun _ => rfl, fun id => ?_⟩
      simp only [put_hp]
      exact HX.get_app hx1 he' hfy id
    · refine hback _ _ _ (looks_put (h := st.hp) hap.c) (fun y hy => by rw [put_hp]; exact hf y hy) (Gp_shut hK _ _ _ (eqv_two hap.b) hn)
end
end Go.Am
namespace Go.Am
open Go
def waits (o : Oper) (i : Nat) : Bool := o.after.toList.any fun e => Region.binds .any e && e.on == i
def hless : Op → Bool
  | .move _ | .assign _ | .binOp _ _ _ _ _ | .unOp _ _ _ | .extract _ _ => true
  | _ => false
theorem doV_hless {P : Program} {env : List (Nat × D)} {n : Nat} {h h' : Hp} {o : Oper} (hv : hless o.op = true) {k : D → Prop} (hh : (doR P ⟨env, h, n⟩ o).all (fun x => k x.1)) : (doR P ⟨env, h', n⟩ o).all (fun x => x.2 = h' ∧ k x.1) := by
  have val : ∀ {op : Op}, vOpR P ⟨env, h', n⟩ op = vOpR P ⟨env, h, n⟩ op → ((vOpR P ⟨env, h, n⟩ op).bind fun d => .ret True (d, h)).all (fun x => k x.1) → ((vOpR P ⟨env, h', n⟩ op).bind fun d => .ret True (d, h')).all (fun x => x.2 = h' ∧ k x.1) := fun e hv => by
    rw [e]
    exact Rs.bind_all (Rs.all_mono (fun d hd => ⟨hd.1, rfl, hd.2⟩) (Rs.all_bind hv))
  unfold doR at *
  generalize o.op = op at hv hh ⊢
  cases op with
  | move _ => exact val rfl hh
  | assign _ => exact val rfl hh
  | binOp _ _ _ _ _ => exact val rfl hh
  | unOp _ _ _ => exact val rfl hh
  | extract _ _ => exact val rfl hh
  | _ => simp [hless] at hv
def needsH (l : List Oper) (x : Nat × Nat) : Prop := (x.2 = 0 ∧ ∀ o, l[x.1]? = some o → hless o.op = false) ∨ x.2 = 2
theorem pullH {P : Program} {l : List Oper} {hR : Hp} {K : St → Prop} (hK : Shut K) {j : Nat} {oj : Oper} (hj : l[j]? = some oj) (post : List (Nat × Nat)) : ∀ (pre : List (Nat × Nat)) {st : St}, Gp P l hR (pre ++ (j, 4) :: post) K st →
    (∀ x ∈ pre, x.2 = 0 ∧ ∃ oi, l[x.1]? = some oi ∧ isV oi.op = true ∧ Ap l oi oj) →
    guardD st l oj.guard (wDq P oj (Gp P l hR (pre ++ post) K) st) (Gp P l hR (pre ++ post) K (st.put oj.dst (.tup [])))
  | [], st, h, _ => by
    simp only [List.nil_append, Gp, hj] at h
    exact h
  | (i, ki) :: pre, st, h, hp => by
    obtain ⟨hk, oi, ho, hv, hap⟩ := hp (i, ki) (by simp)
    obtain ⟨e, d, he, hf, hg, hback, _⟩ := eff ho (.inl hk) (fun _ => hv) h
    obtain rfl : e = [] := by
      rcases he with h1 | ⟨h1, _⟩
      · exact h1
      · simp only at hk; rw [hk] at h1; cases h1
    have ih := pullH hK hj post pre hg (fun x hx => hp x (by simp [hx]))
    have hlk : Looks l oj st (({ st with hp := [] ++ st.hp } : St).put oi.dst d) := looks_put hap.a
    have go : ∀ (y : Hp) (x : D), Gp P l hR (pre ++ post) K ((({ st with hp := y } : St).put oi.dst d).put oj.dst x) → Gp P l hR ((i, ki) :: (pre ++ post)) K (({ st with hp := y } : St).put oj.dst x) := by
      intro y x hx
      refine hback _ _ _ (looks_put (h := y) hap.c) (fun z hz => by cases hz) (Gp_shut hK _ _ _ ?_ hx)
      have h2 : Eqv ((({ st with hp := y } : St).put oi.dst d).put oj.dst x) ((({ st with hp := y } : St).put oj.dst x).put oi.dst d) := Eqv.swap hap.b
      refine h2.trans ?_
      refine ⟨by simp only [put_n], fun q => by simp only [get_put, put_n], fun id => by simp only [put_hp, List.nil_append]⟩
    refine guardD_mono hlk.2.symm (fun hy => ?_) (fun hn => ?_) ih
    · refine wDq_congr (fun x hx => (hlk.1 x hx).symm) (by rw [put_hp]; rfl) (fun y x hk => ?_) hy
      refine go y x (Gp_shut hK _ _ _ ?_ hk)
      refine ⟨by simp only [put_n], fun q => by simp only [get_put, put_n], fun id => by simp only [put_hp]⟩
    · exact go st.hp (.tup []) (Gp_shut hK _ _ _ ⟨by simp only [put_n], fun q => by simp only [get_put, put_n, List.nil_append], fun id => by simp only [put_hp, List.nil_append]⟩ hn)
def tdep (l : List Oper) : Nat → Nat → Nat → Bool
  | 0, _, _ => false
  | f + 1, i, j => match l[j]? with
    | some oj => oj.after.toList.any fun e => Region.binds .any e && (e.on == i || tdep l f i e.on)
    | none => false
def pairB (l : List Oper) (n : Nat) (x y : Nat × Nat) : Bool :=
  match l[x.1]?, l[y.1]? with
  | some ox, some oy => !waits ox y.1 &&
    (if y.2 = 4 then tdep l n x.1 y.1 || (decide (x.2 = 0) && hless ox.op && isV ox.op && Oper.apart l.toArray ox oy) else if x.2 ≤ 1 then (waits oy x.1 || (Oper.apart l.toArray ox oy && (x.2 != 1 || (ox.dst.getD 0 != oy.dst.getD 0 && decide (ox.dst.getD 0 < 10000))))) && (!(y.2 == 3 && x.2 == 0) || tdep l n x.1 y.1)
     else tdep l n x.1 y.1 && !((x.2 == 3 || x.2 == 4) && (y.2 == 0 || y.2 == 2)))
  | _, _ => false
def opB (l : List Oper) (x : Nat × Nat) : Bool :=
  match l[x.1]? with
  | some o => (match x.2 with
      | 0 => isV o.op
      | 1 => true
      | 2 | 3 => isQ o.op
      | 4 => true
      | _ => false) && !waits o x.1 && o.after.toList.all fun e => !Region.binds .any e || decide (e.on < l.length)
  | none => false
def pairsB (l : List Oper) (n : Nat) : List (Nat × Nat) → Bool
  | [] => true
  | x :: r => r.all (pairB l n x) && pairsB l n r
def nodB : List Nat → Bool
  | [] => true
  | x :: r => r.all (fun y => x != y) && nodB r
theorem nodB_spec : ∀ {l : List Nat}, nodB l = true → l.Nodup
  | [], _ => List.nodup_nil
  | x :: r, h => by
    simp only [nodB, Bool.and_eq_true] at h
    refine List.nodup_cons.2 ⟨fun hm => ?_, nodB_spec h.2⟩
    have := List.all_eq_true.1 h.1 x hm
    simp at this
def planB (l : List Oper) (p : List (Nat × Nat)) : Bool :=
  nodB (p.map (·.1)) && pairsB l l.length p && p.all (opB l) && p.length == l.length && (List.range l.length).all fun i => p.any fun x => x.1 == i
section
variable {P : Program} {l : List Oper} {hR : Hp}
theorem pairsB_mem {n : Nat} {y : Nat × Nat} {post : List (Nat × Nat)} : ∀ {pre : List (Nat × Nat)}, pairsB l n (pre ++ y :: post) = true → ∀ x ∈ pre, pairB l n x y = true
  | [], _, x, hx => by cases hx
  | z :: pre, h, x, hx => by
    simp only [List.cons_append, pairsB, Bool.and_eq_true] at h
    rcases List.mem_cons.1 hx with rfl | hx
    · exact List.all_eq_true.1 h.1 y (by simp)
    · exact pairsB_mem h.2 x hx
theorem pairsB_post {n : Nat} {y : Nat × Nat} {post : List (Nat × Nat)} : ∀ {pre : List (Nat × Nat)}, pairsB l n (pre ++ y :: post) = true → ∀ x ∈ post, pairB l n y x = true
  | [], h, x, hx => by
    simp only [List.nil_append, pairsB, Bool.and_eq_true] at h
    exact List.all_eq_true.1 h.1 x hx
  | z :: pre, h, x, hx => by
    simp only [List.cons_append, pairsB, Bool.and_eq_true] at h
    exact pairsB_post h.2 x hx
theorem pairsB_drop {n : Nat} {y : Nat × Nat} {post : List (Nat × Nat)} : ∀ {pre : List (Nat × Nat)}, pairsB l n (pre ++ y :: post) = true → pairsB l n (pre ++ post) = true
  | [], h => by
    simp only [List.nil_append, pairsB, Bool.and_eq_true] at h
    exact h.2
  | z :: pre, h => by
    simp only [List.cons_append, pairsB, Bool.and_eq_true] at h ⊢
    refine ⟨List.all_eq_true.2 fun x hx => ?_, pairsB_drop h.2⟩
    refine List.all_eq_true.1 h.1 x ?_
    rcases List.mem_append.1 hx with h1 | h1
    · exact List.mem_append_left _ h1
    · exact List.mem_append_right _ (List.mem_cons_of_mem _ h1)
def Down (l : List Oper) (listed : Array Bool) : Prop := ∀ k ok, l[k]? = some ok → listed.getD k false = true → ∀ e ∈ ok.after, Region.binds .any e = true → listed.getD e.on false = true
theorem tdep_listed {listed : Array Bool} (hd : Down l listed) : ∀ (f i j : Nat) (oj : Oper), l[j]? = some oj → (∀ e ∈ oj.after, Region.binds .any e = true → listed.getD e.on false = true) → tdep l f i j = true → listed.getD i false = true
  | 0, i, j, oj, _, _, h => by simp [tdep] at h
  | f + 1, i, j, oj, hj, hall, h => by
    simp only [tdep, hj, List.any_eq_true, Bool.and_eq_true, Bool.or_eq_true, beq_iff_eq] at h
    obtain ⟨e, he, hb, h1⟩ := h
    have hl := hall e (by simpa using he) hb
    rcases h1 with rfl | h1
    · exact hl
    · cases hk : l[e.on]? with
      | none => cases f <;> simp [tdep, hk] at h1
      | some ok => exact tdep_listed hd f i e.on ok hk (hd e.on ok hk hl) h1
theorem waits_spec {o : Oper} {i : Nat} : waits o i = true ↔ ∃ e ∈ o.after, Region.binds .any e = true ∧ e.on = i := by
  simp only [waits, List.any_eq_true, Bool.and_eq_true, beq_iff_eq]
  constructor
  · rintro ⟨e, he, h1, h2⟩; exact ⟨e, by simpa using he, h1, h2⟩
  · rintro ⟨e, he, h1, h2⟩; exact ⟨e, by simpa using he, h1, h2⟩
theorem getD_both {listed : Array Bool} {i : Nat} (h : listed.getD i true = false) : listed.getD i false = false := by
  rw [Array.getD_eq_getD_getElem?] at *
  cases hg : listed[i]? with
  | none => rfl
  | some b => rw [hg] at h; exact h
structure Inv (l : List Oper) (rest : List (Nat × Nat)) (listed : Array Bool) : Prop where
  iff : ∀ k, k < l.length → (listed.getD k true = false ↔ ∃ x ∈ rest, x.1 = k)
  sz : listed.size = l.length
  down : Down l listed
  pairs : pairsB l l.length rest = true
  ops : rest.all (opB l) = true
  len : ∀ x ∈ rest, x.1 < l.length
theorem Gp_any {K : St → Prop} (hK : Shut K) {c : Ctx} {Q : Exit → Act → World → Prop} (hQ : ∀ a w, Good c K a w → Q .normal a w) : ∀ (fuel : Nat) {rest : List (Nat × Nat)} {listed : Array Bool} {st : St} {a : Act} {w : World} {F : Nat → Prop} {M : Nat → Mb},
    rest.length = fuel → (rest.map (·.1)).Nodup → Rel c st a w F M → Gp P l hR rest K st → ((∃ x ∈ rest, needsH l x) → LeH st.hp hR) → Inv l rest listed → wpAny P .any l.toArray Q fuel listed a w := by
  intro fuel
  induction fuel with
  | zero =>
    intro rest listed st a w F M hlen hnd hr hg hle hi
    obtain rfl : rest = [] := List.eq_nil_of_length_eq_zero hlen
    refine ⟨?_, hQ _ _ ⟨st, F, M, hg, hr⟩⟩
    refine List.eq_nil_iff_forall_not_mem.2 fun j hj => ?_
    obtain ⟨h0, oj, hoj, _⟩ := mem_ready.1 hj
    have hlt : j < l.length := by have := (Array.getElem?_eq_some_iff.1 hoj).1; simpa using this
    obtain ⟨x, hx, _⟩ := (hi.iff j hlt).1 h0
    cases hx
  | succ fuel ih =>
    intro rest listed st a w F M hlen hnd hr hg hle hi
    refine ⟨fun hnil => ?_, fun j hj => ?_⟩
    · exfalso
      cases rest with
      | nil => cases hlen
      | cons x r =>
        have hin : x.1 ∈ Region.ready .any l.toArray listed := by
          have hlt := hi.len x (by simp)
          refine mem_ready.2 ⟨(hi.iff x.1 hlt).2 ⟨x, by simp, rfl⟩, l[x.1], by simp [hlt], fun e he hb => ?_⟩
          have hop : opB l x = true := List.all_eq_true.1 hi.ops x (by simp)
          have hox : l[x.1]? = some l[x.1] := List.getElem?_eq_getElem hlt
          simp only [opB, hox, Bool.and_eq_true, List.all_eq_true, Bool.or_eq_true, Bool.not_eq_true', decide_eq_true_eq] at hop
          have helt := (hop.2 e (by simpa using he)).resolve_left (by rw [hb]; simp)
          cases hle : listed.getD e.on true with
          | true =>
            rw [Array.getD_eq_getD_getElem?] at hle ⊢
            have : e.on < listed.size := by rw [hi.sz]; exact helt
            rw [Array.getElem?_eq_getElem this] at hle ⊢
            exact hle
          | false =>
            exfalso
            obtain ⟨y, hy, hye⟩ := (hi.iff e.on helt).1 hle
            have hw : waits l[x.1] y.1 = true := waits_spec.2 ⟨e, he, hb, hye.symm⟩
            rcases List.mem_cons.1 hy with rfl | hy
            · rw [hw] at hop; simp at hop
            · have hp := hi.pairs
              simp only [pairsB, Bool.and_eq_true] at hp
              have := List.all_eq_true.1 hp.1 y hy
              unfold pairB at this
              rw [hox] at this
              split at this
              · rename_i ox oy h1 h2
                cases h1
                rw [hw] at this
                simp at this
              · cases this
        rw [hnil] at hin
        cases hin
    · obtain ⟨h0, oj, hoj, hall⟩ := mem_ready.1 hj
      have hlt : j < l.length := by have := (Array.getElem?_eq_some_iff.1 hoj).1; simpa using this
      have hoj' : l[j]? = some oj := by simpa using hoj
      obtain ⟨x, hx, rfl⟩ := (hi.iff j hlt).1 h0
      obtain ⟨j, kj⟩ := x
      obtain ⟨pre, post, rfl⟩ := List.append_of_mem hx
      simp only at hoj hoj' h0 hall hlt hj ⊢
      have hpre : ∀ x ∈ pre, x.2 ≤ 1 ∧ ∃ oi, l[x.1]? = some oi ∧ (x.2 = 0 → isV oi.op = true) ∧ Ap l oi oj ∧ (x.2 = 1 → oi.dst.getD 0 ≠ oj.dst.getD 0 ∧ oi.dst.getD 0 < 10000) ∧ ¬ (kj = 3 ∧ x.2 = 0) := by
        intro x hx
        have hp := pairsB_mem hi.pairs x hx
        have hxin : x ∈ pre ++ (j, kj) :: post := by simp [hx]
        have hxl := hi.len x hxin
        have hun : listed.getD x.1 false = false := getD_both ((hi.iff x.1 hxl).2 ⟨x, hxin, rfl⟩)
        have hox : l[x.1]? = some l[x.1] := List.getElem?_eq_getElem hxl
        have hop : opB l x = true := List.all_eq_true.1 hi.ops x hxin
        have hnt : tdep l l.length x.1 j ≠ true := fun ht => by
          have := tdep_listed hi.down _ _ _ oj hoj' hall ht
          rw [hun] at this; cases this
        have hnw : waits oj x.1 ≠ true := fun hw => by
          obtain ⟨e, he, hb, hye⟩ := waits_spec.1 hw
          have := hall e he hb
          rw [hye, hun] at this; cases this
        unfold pairB at hp
        rw [hox, hoj'] at hp
        simp only [Bool.and_eq_true] at hp
        obtain ⟨_, hp⟩ := hp
        split at hp
        · rename_i h4
          simp only [Bool.or_eq_true, Bool.and_eq_true, decide_eq_true_eq] at hp
          rcases hp with hp | ⟨⟨⟨h1, h2⟩, h3⟩, h5⟩
          · exact (hnt hp).elim
          · obtain ⟨s1, s2, s3⟩ := Oper.apart_spec h5
            exact ⟨by omega, l[x.1], hox, fun _ => h3, ⟨s1, s2, s3⟩, fun h => by omega, fun ⟨h, _⟩ => by omega⟩
        split at hp
        · rename_i hle1
          simp only [Bool.and_eq_true, Bool.or_eq_true] at hp
          obtain ⟨hp1, hp2⟩ := hp
          have hp1 := hp1.resolve_left hnw
          obtain ⟨s1, s2, s3⟩ := Oper.apart_spec hp1.1
          refine ⟨hle1, l[x.1], hox, fun hz => ?_, ⟨s1, s2, s3⟩, fun h1 => ?_, fun ⟨h3, hz⟩ => ?_⟩
          · simp only [opB, hox, hz, Bool.and_eq_true] at hop
            exact hop.1.1
          · have := hp1.2.resolve_left (by simp [h1])
            simpa using this
          · exact hnt (hp2.resolve_left (by simp [h3, hz]))
        · simp only [Bool.and_eq_true] at hp
          exact (hnt hp.1).elim
      have hopj : opB l (j, kj) = true := List.all_eq_true.1 hi.ops _ (by simp)
      have hnd' : ((pre ++ post).map (·.1)).Nodup ∧ ∀ x ∈ pre ++ post, x.1 ≠ j := by
        rw [List.map_append, List.map_cons] at hnd
        obtain ⟨h1, h2, h3⟩ := List.nodup_append.1 hnd
        obtain ⟨h4, h5⟩ := List.nodup_cons.1 h2
        refine ⟨?_, fun x hx e => ?_⟩
        · rw [List.map_append]
          exact List.nodup_append.2 ⟨h1, h5, fun a ha b hb => h3 a ha b (List.mem_cons_of_mem _ hb)⟩
        · rcases List.mem_append.1 hx with h6 | h6
          · exact h3 x.1 (List.mem_map_of_mem h6) j (by simp) e
          · exact h4 (by simp only; rw [← e]; exact List.mem_map_of_mem h6)
      have hi' : Inv l (pre ++ post) (listed.setIfInBounds j true) := by
        refine ⟨fun k hk => ?_, by simp [hi.sz], ?_, pairsB_drop hi.pairs, ?_, fun x hx => hi.len x (by rcases List.mem_append.1 hx with h | h <;> simp [h])⟩
        · by_cases e : j = k
          · subst e
            have : (listed.setIfInBounds j true).getD j true = true := by
              rw [Array.getD_eq_getD_getElem?, Array.getElem?_setIfInBounds]; simp [hi.sz, hlt]
            rw [this]
            refine ⟨fun h => (by cases h), fun ⟨x, hx, hxe⟩ => (hnd'.2 x hx hxe).elim⟩
          · rw [getD_set_ne true e, hi.iff k hk]
            constructor
            · rintro ⟨x, hx, hxe⟩
              rcases List.mem_append.1 hx with h | h
              · exact ⟨x, List.mem_append_left _ h, hxe⟩
              · rcases List.mem_cons.1 h with rfl | h
                · exact (e hxe).elim
                · exact ⟨x, List.mem_append_right _ h, hxe⟩
            · rintro ⟨x, hx, hxe⟩
              exact ⟨x, by rcases List.mem_append.1 hx with h | h <;> simp [h], hxe⟩
        · intro k ok hk hkl e he hb
          by_cases ee : j = k
          · subst ee
            rw [hoj'] at hk
            cases hk
            exact getD_set_true (hall e he hb)
          · rw [getD_set_ne false ee] at hkl
            exact getD_set_true (hi.down k ok hk hkl e he hb)
        · refine List.all_eq_true.2 fun x hx => List.all_eq_true.1 hi.ops x ?_
          rcases List.mem_append.1 hx with h | h <;> simp [h]
      have hlen' : (pre ++ post).length = fuel := by simp at hlen ⊢; omega
      have next : ∀ {s a' w' F' M'}, Rel c s a' w' F' M' → Gp P l hR (pre ++ post) K s → ((∃ x ∈ pre ++ post, needsH l x) → LeH s.hp hR) → wpAny P .any l.toArray Q fuel (listed.setIfInBounds j true) a' w' :=
        fun hr' hg' hle' => ih hlen' hnd'.1 hr' hg' hle' hi'
      have hsub : (∃ x ∈ pre ++ post, needsH l x) → LeH st.hp hR := fun ⟨x, hx, h2⟩ => hle ⟨x, by rcases List.mem_append.1 hx with h | h <;> simp [h], h2⟩
      have main : guardD st l oj.guard (wDq P oj (fun s => ((∃ x ∈ pre ++ post, needsH l x) → LeH s.hp hR) ∧ Gp P l hR (pre ++ post) K s) st) (Gp P l hR (pre ++ post) K (st.put oj.dst (.tup []))) := by
        have two : ∀ x ∈ pre, x.2 = 0 ∨ x.2 = 1 := fun x hx => by have := (hpre x hx).1; omega
        match kj, hg, hle, hpre, hopj, hi with
        | 0, hg, hle, hpre, hopj, hi =>
          have h1 := pullF hK hoj' post pre hg (fun x hx => ⟨two x hx, by obtain ⟨_, oi, h1, h2, h3, _⟩ := hpre x hx; exact ⟨oi, h1, h2, h3⟩⟩)
          have hv : isV oj.op = true := by simp only [opB, hoj', Bool.and_eq_true] at hopj; exact hopj.1.1
          refine guardD_mono rfl (fun hy => ?_) id h1
          have h2 : (doR P st oj).all (fun x => x.2 = st.hp ∧ Gp P l hR (pre ++ post) K (st.put oj.dst x.1)) := by
            by_cases hls : hless oj.op = true
            · exact doV_hless (k := fun d => Gp P l hR (pre ++ post) K (st.put oj.dst d)) hls hy
            · have hl := hle ⟨(j, 0), by simp, .inl ⟨rfl, fun o ho => by rw [hoj'] at ho; cases ho; simpa using hls⟩⟩
              exact doV (k := fun d => Gp P l hR (pre ++ post) K (st.put oj.dst d)) hl.hx hv hy
          exact .inl <| wDo_of_do (isV_call hv) (Rs.all_mono (fun x hx => by
            obtain ⟨e1, e2⟩ := hx
            rw [e1]
            exact ⟨fun hh => by rw [put_hp]; exact hsub hh, e2⟩) h2)
        | 1, hg, hle, hpre, hopj, hi =>
          have h1 := pullA hK hoj' post pre hg (fun x hx => ⟨two x hx, by obtain ⟨_, oi, h1, h2, h3, h4, _⟩ := hpre x hx; exact ⟨oi, h1, h2, h3, fun e => (h4 e).1⟩⟩)
          refine guardD_mono rfl (fun hy => ?_) id h1
          obtain ⟨x, hx, hb⟩ := Rs.leaf hy
          obtain ⟨h2, h3, h4⟩ := allocR_do (K := fun s => ((∃ x ∈ pre ++ post, needsH l x) → LeH s.hp hR) ∧ Gp P l hR (pre ++ post) K s) (Rs.all_mono (fun y hy => ⟨hy.1, fun hh => by
            rw [put_hp]
            exact LeH.app (.inr ⟨_, rfl⟩) (fun z hz => by simp only [List.mem_singleton] at hz; subst hz; exact hy.1) (hsub hh), hy.2⟩) hy)
          exact .inl <| wDo_of_do h2 (by rw [h3]; exact h4)
        | 2, hg, hle, hpre, hopj, hi =>
          have hq : isQ oj.op = true := by simp only [opB, hoj', Bool.and_eq_true] at hopj; exact hopj.1.1
          have h1 := pullQ hK hoj' (.inl rfl) hq post pre hr hg (fun _ => hle ⟨(j, 2), by simp, .inr rfl⟩) (fun x hx => ⟨two x hx, by obtain ⟨_, oi, h1, h2, h3, h4, _⟩ := hpre x hx; exact ⟨oi, h1, h2, h3, h4⟩⟩)
          exact guardD_mono rfl (fun hy => wDq_mono (fun s hs => ⟨fun _ => hs.1 rfl, hs.2⟩) hy) id h1
        | 3, hg, hle, hpre, hopj, hi =>
          have hq : isQ oj.op = true := by simp only [opB, hoj', Bool.and_eq_true] at hopj; exact hopj.1.1
          have hno : ∀ x ∈ pre ++ post, ¬ (x.2 = 0 ∨ x.2 = 2) := by
            intro x hx h2
            rcases List.mem_append.1 hx with h | h
            · obtain ⟨h3, oi, _, _, _, _, h4⟩ := hpre x h
              rcases h2 with h2 | h2
              · exact h4 ⟨rfl, h2⟩
              · omega
            · have hp := pairsB_post hi.pairs x h
              unfold pairB at hp
              split at hp
              · rw [if_neg (by omega), if_neg (by simp)] at hp
                rcases h2 with h2 | h2 <;> simp [h2] at hp
              · cases hp
          have h1 := pullQ hK hoj' (.inr rfl) hq post pre hr hg (fun hh => by
            rcases hh with h | ⟨x, hx, h2⟩
            · cases h
            · exact (hno x (List.mem_append_left _ hx) (.inl h2)).elim) (fun x hx => ⟨two x hx, by obtain ⟨_, oi, h1, h2, h3, h4, _⟩ := hpre x hx; exact ⟨oi, h1, h2, h3, h4⟩⟩)
          exact guardD_mono rfl (fun hy => wDq_mono (fun s hs => ⟨fun ⟨x, hx, h2⟩ => (hno x hx (h2.imp And.left id)).elim, hs.2⟩) hy) id h1
        | 4, hg, hle, hpre, hopj, hi =>
          have hfl : ∀ x ∈ pre, x.2 = 0 ∧ ∃ oi, l[x.1]? = some oi ∧ isV oi.op = true ∧ Ap l oi oj ∧ hless oi.op = true := by
            intro x hx
            have hp := pairsB_mem hi.pairs x hx
            have hxin : x ∈ pre ++ (j, 4) :: post := by simp [hx]
            have hxl := hi.len x hxin
            have hun : listed.getD x.1 false = false := getD_both ((hi.iff x.1 hxl).2 ⟨x, hxin, rfl⟩)
            have hox : l[x.1]? = some l[x.1] := List.getElem?_eq_getElem hxl
            unfold pairB at hp
            rw [hox, hoj'] at hp
            simp only [if_true, Bool.and_eq_true, Bool.or_eq_true, decide_eq_true_eq] at hp
            rcases hp.2 with h | ⟨⟨⟨h1, h2⟩, h3⟩, h5⟩
            · have := tdep_listed hi.down _ _ _ oj hoj' hall h
              rw [hun] at this; cases this
            · obtain ⟨s1, s2, s3⟩ := Oper.apart_spec h5
              exact ⟨h1, l[x.1], hox, h3, ⟨s1, s2, s3⟩, h2⟩
          have hno : ∀ x ∈ pre ++ post, ¬ needsH l x := by
            intro x hx h2
            rcases List.mem_append.1 hx with h | h
            · obtain ⟨g1, oi, g2, _, _, g3⟩ := hfl x h
              rcases h2 with ⟨_, h2⟩ | h2
              · have := h2 oi g2; rw [g3] at this; cases this
              · omega
            · have hp := pairsB_post hi.pairs x h
              unfold pairB at hp
              split at hp
              · rename_i ox oy e1 e2
                by_cases h4 : x.2 = 4
                · rcases h2 with ⟨h2, _⟩ | h2 <;> omega
                · rw [if_neg h4, if_neg (by simp)] at hp
                  rcases h2 with ⟨h2, _⟩ | h2 <;> simp [h2] at hp
              · cases hp
          have h1 := pullH hK hoj' post pre hg (fun x hx => by obtain ⟨g1, oi, g2, g3, g4, _⟩ := hfl x hx; exact ⟨g1, oi, g2, g3, g4⟩)
          exact guardD_mono rfl (fun hy => wDq_mono (fun s hs => ⟨fun ⟨x, hx, h2⟩ => (hno x hx h2).elim, hs⟩) hy) id h1
        | kj + 5, hg, hle, hpre, hopj, hi => simp [opB, hoj'] at hopj
      unfold wpOp
      rw [hoj]
      simp only
      have hgs := guard_sound (ops := l.toArray) hr main
      rcases hgs with ⟨hw, hy⟩ | ⟨hw, hn⟩
      · rw [if_pos hw]
        refine .inl (Oper.wp_mono (fun a' w' hgd => ?_) (wDq_sound hr hy Q))
        obtain ⟨s, F', M', ⟨h1, h2⟩, hr'⟩ := hgd
        exact next hr' h2 h1
      · rw [if_neg (by rw [hw]; simp)]
        exact next (hr.put (.tup [] #[] rfl (fun i d hd => by simp at hd)) oj.dst) hn (fun hh => by rw [put_hp]; exact hsub hh)
end
end Go.Am
namespace Go.Am
open Go
section
variable {P : Program} {l : List Oper} {hR : Hp}
theorem Gp_mono {K K' : St → Prop} (hK : ∀ s, K s → K' s) : ∀ (r : List (Nat × Nat)) {st : St}, Gp P l hR r K st → Gp P l hR r K' st
  | [], st, h => hK _ h
  | (i, kd) :: r, st, h => by
    simp only [Gp] at h ⊢
    split at h
    · exact h.elim
    · rename_i o ho
      try simp only [ho]
      refine guardD_mono rfl (fun hy => ?_) (fun hn => Gp_mono hK r hn) h
      split at hy
      · exact Rs.all_mono (fun x hx => Gp_mono hK r hx) hy
      · exact Rs.all_mono (fun x hx => ⟨hx.1, Gp_mono hK r hx.2⟩) hy
      · exact wDq_mono (fun s hs => ⟨hs.1, Gp_mono hK r hs.2⟩) hy
      · exact wDq_mono (fun s hs => Gp_mono hK r hs) hy
def wDg (P : Program) (o : Oper) (K : St → Prop) (st : St) : Prop :=
  match isCall o.op with
  | some (f, args) => (callR st f args).allOr (BorO P o K st) fun x => callDO (BorO P o K st) P x.2.2 x.1 x.2.1 (o.dst.getD 0) fun d h' => K (({ st with hp := h' } : St).put o.dst d)
  | none => (doR P st o).all fun x => K (({ st with hp := x.2 } : St).put o.dst x.1)
theorem Rs.allOr_split {α : Type} {S T : Prop} {k k' : α → Prop} (hk : ∀ x, k x → k' x ∨ T) (hS : S → T) : ∀ {r : Rs α}, r.allOr S k → r.all k' ∨ T
  | .fail, h => .inr (hS h)
  | .ret p x, h => (hk x h.2).elim (fun h2 => .inl ⟨h.1, h2⟩) .inr
  | .split b x y, h => by
    cases b
    · exact (Rs.allOr_split hk hS (h.2 rfl)).elim (fun h2 => .inl ⟨fun e => (Bool.false_ne_true e).elim, fun _ => h2⟩) .inr
    · exact (Rs.allOr_split hk hS (h.1 rfl)).elim (fun h2 => .inl ⟨fun _ => h2, fun e => (Bool.false_ne_true e.symm).elim⟩) .inr
theorem wDg_q {o : Oper} {K : St → Prop} {st : St} (h : wDg P o K st) : wDq P o K st := by
  unfold wDg at h
  unfold wDq wDo
  split at h
  · rename_i f args hc
    try simp only [hc]
    refine (Rs.allOr_split (k' := fun x : FuncId × List D × Hp => callD P x.2.2 x.1 x.2.1 (o.dst.getD 0) fun d h' => K (({ st with hp := h' } : St).put o.dst d)) (fun x hx => callDO_of hx) id h).imp (fun h2 => ?_) id
    exact Rs.all_allOr (Rs.all_mono (fun x hx => callDO_in hx) h2)
  · rename_i hc
    try simp only [hc]
    exact .inl (Rs.all_allOr h)
def Gw (P : Program) (l : List Oper) (hR : Hp) : List (Nat × Nat) → (St → Prop) → St → Prop
  | [], K, st => K st
  | (i, kd) :: r, K, st => match l[i]? with
    | none => False
    | some o => guardD st l o.guard (match kd with
      | 0 => (doR P { st with hp := hR } o).all fun x => Gw P l hR r K (st.put o.dst x.1)
      | 1 => (allocR P st (o.dst.getD 0) o.op).all fun x => get st.hp (o.dst.getD 0) = none ∧ Gw P l hR r K (({ st with hp := (o.dst.getD 0, x.2) :: st.hp } : St).put o.dst x.1)
      | 2 => wDg P o (fun s => LeH s.hp hR ∧ Gw P l hR r K s) st
      | _ => wDg P o (Gw P l hR r K) st) (Gw P l hR r K (st.put o.dst (.tup [])))
theorem Gw_Gp {K : St → Prop} : ∀ (r : List (Nat × Nat)) {st : St}, Gw P l hR r K st → Gp P l hR r K st
  | [], st, h => h
  | (i, kd) :: r, st, h => by
    simp only [Gw] at h
    simp only [Gp]
    split at h
    · exact h.elim
    · rename_i o ho
      try simp only [ho]
      refine guardD_mono rfl (fun hy => ?_) (fun hn => Gw_Gp r hn) h
      match kd, hy with
      | 0, hy => exact Rs.all_mono (fun x hx => Gw_Gp r hx) hy
      | 1, hy => exact Rs.all_mono (fun x hx => ⟨hx.1, Gw_Gp r hx.2⟩) hy
      | 2, hy => exact wDq_mono (fun s hs => ⟨hs.1, Gw_Gp r hs.2⟩) (wDg_q hy)
      | kd + 3, hy => exact wDq_mono (fun s hs => Gw_Gp r hs) (wDg_q hy)
def G (P : Program) (l : List Oper) (hR : Hp) (r : List (Nat × Nat)) (k : Kt) (st : St) : Prop := Gw P l hR r (k.sem P .normal) st
theorem planB_inv {p : List (Nat × Nat)} (h : planB l p = true) : (p.map (·.1)).Nodup ∧ p.length = l.length ∧ Inv l p (Array.replicate l.length false) := by
  simp only [planB, Bool.and_eq_true, beq_iff_eq] at h
  obtain ⟨⟨⟨⟨h0, h1⟩, h2⟩, h3⟩, h4⟩ := h
  have hlen : ∀ x ∈ p, x.1 < l.length := by
    intro x hx
    have := List.all_eq_true.1 h2 x hx
    unfold opB at this
    split at this
    · rename_i o ho; exact (List.getElem?_eq_some_iff.1 ho).1
    · cases this
  have hsub : List.range l.length ⊆ p.map (·.1) := by
    intro i hi
    have := List.all_eq_true.1 h4 i hi
    obtain ⟨x, hx, hxi⟩ := List.any_eq_true.1 this
    exact List.mem_map.2 ⟨x, hx, by simpa using hxi⟩
  have hnd := nodB_spec h0
  refine ⟨hnd, h3, ⟨fun k hk => ?_, by simp, fun k ok hk hl => ?_, h1, h2, hlen⟩⟩
  · rw [Array.getD_eq_getD_getElem?, Array.getElem?_replicate, if_pos hk]
    refine ⟨fun _ => ?_, fun _ => rfl⟩
    obtain ⟨x, hx, hxi⟩ := List.mem_map.1 (hsub (List.mem_range.2 hk))
    exact ⟨x, hx, hxi⟩
  · exfalso
    rw [Array.getD_eq_getD_getElem?, Array.getElem?_replicate] at hl
    split at hl <;> simp at hl
theorem X_any {id : Nat} {p : List (Nat × Nat)} {k : Kt} {st : St} (hR : Hp) (hm : P.follows .mixedOrders = true) (hB : planB l p = true) (hle : LeH st.hp hR) (h : G P l hR p k st) : X P (.region id l.toArray true) k st := by
  refine .inr ⟨rfl, fun c a w F M hr => ?_⟩
  obtain ⟨hnd, hl, hi⟩ := planB_inv hB
  refine wp_region_any hm ?_
  have hr2 : Rel c st a { w with drawn := w.drawn + 1 } F M := hr.drew
  have := Gp_any (P := P) (l := l) (hR := hR) (Shut.of (k.sem P .normal)) (c := c) (Q := QC c (k.sem P)) (fun a w ⟨s, F, M, ⟨s', he, hk⟩, hr⟩ => ⟨s', F, M, hk, hr.eqv he⟩) l.length hl hnd hr2
    (Gp_mono (fun s hs => ⟨s, Eqv.refl s, hs⟩) p (Gw_Gp p h)) (fun _ => hle) hi
  simpa using this
end
def Hd (kd : Nat) (h hR : Hp) : Prop := match kd with
  | 2 => LeH h hR
  | _ => True
theorem Hd_two (h hR : Hp) : Hd 2 h hR = LeH h hR := nd rfl
theorem Hd_three (h hR : Hp) : Hd 3 h hR = True := nd rfl
def Gf (P : Program) (l : List Oper) (hR : Hp) (r : List (Nat × Nat)) (k : Kt) (o : Oper) (st : St) (x : Rs (D × Hp)) : Prop := x.all fun x => G P l hR r k (st.put o.dst x.1)
def Ga (P : Program) (l : List Oper) (hR : Hp) (r : List (Nat × Nat)) (k : Kt) (o : Oper) (st : St) (x : Rs (D × AO)) : Prop :=
  x.all fun x => get st.hp (o.dst.getD 0) = none ∧ G P l hR r k (({ st with hp := (o.dst.getD 0, x.2) :: st.hp } : St).put o.dst x.1)
def Gs (P : Program) (l : List Oper) (hR : Hp) (r : List (Nat × Nat)) (k : Kt) (kd : Nat) (o : Oper) (st : St) (x : Rs (D × Hp)) : Prop :=
  x.all fun x => Hd kd x.2 hR ∧ G P l hR r k (({ st with hp := x.2 } : St).put o.dst x.1)
def Bq (P : Program) (l : List Oper) (hR : Hp) (r : List (Nat × Nat)) (k : Kt) (kd : Nat) (o : Oper) (st : St) : Prop := BorO P o (fun s => Hd kd s.hp hR ∧ G P l hR r k s) st
def Gc (P : Program) (l : List Oper) (hR : Hp) (r : List (Nat × Nat)) (k : Kt) (kd : Nat) (o : Oper) (st : St) (x : Rs (FuncId × List D × Hp)) : Prop :=
  x.allOr (Bq P l hR r k kd o st) fun x => callDO (Bq P l hR r k kd o st) P x.2.2 x.1 x.2.1 (o.dst.getD 0) fun d h' => Hd kd h' hR ∧ G P l hR r k (({ st with hp := h' } : St).put o.dst d)
def Gk (P : Program) (l : List Oper) (hR : Hp) (r : List (Nat × Nat)) (k : Kt) (kd : Nat) (dst : Option Nat) (st : St) (f : FuncId) (ds : List D) (h : Hp) (T : List Nat) (S : Prop) : Prop :=
  (ACalls P f (renL (idx T base) ds) (sub h (idx T base) base T) fun h' x => fresh (dst.getD 0) h h' ∧ Hd kd (merge T (dst.getD 0) h h') hR ∧ G P l hR r k (({ st with hp := merge T (dst.getD 0) h h' } : St).put dst (x.ren (back T (dst.getD 0))))) ∨ S
def Ge (P : Program) (l : List Oper) (hR : Hp) (r : List (Nat × Nat)) (k : Kt) (o : Oper) (st : St) : Nat → Prop
  | 0 => Gf P l hR r k o st (doR P { st with hp := hR } o)
  | 1 => Ga P l hR r k o st (allocR P st (o.dst.getD 0) o.op)
  | 2 => match isCall o.op with
    | some (f, args) => Gc P l hR r k 2 o st (callR st f args)
    | none => Gs P l hR r k 2 o st (doR P st o)
  | _ => match isCall o.op with
    | some (f, args) => Gc P l hR r k 3 o st (callR st f args)
    | none => Gs P l hR r k 3 o st (doR P st o)
def Gd (P : Program) (l : List Oper) (hR : Hp) (r : List (Nat × Nat)) (k : Kt) (kd : Nat) (o : Oper) (st : St) : Gv → Prop
  | .yes => Ge P l hR r k o st kd
  | .no => G P l hR r k (st.put o.dst (.tup []))
  | .cond b => WIf b (Ge P l hR r k o st kd) (G P l hR r k (st.put o.dst (.tup [])))
  | .bad => False
def Gg (P : Program) (l : List Oper) (hR : Hp) (r : List (Nat × Nat)) (k : Kt) (kd : Nat) (st : St) : Option Oper → Prop
  | none => False
  | some o => Gd P l hR r k kd o st (gval st l o.guard)
section
variable {P : Program} {l : List Oper} {hR : Hp} {r : List (Nat × Nat)} {k : Kt} {o : Oper} {st : St} {kd : Nat} {b : Bool} {dst : Option Nat}
theorem wDg_call {f : Operand} {args : List Operand} {K : St → Prop} (hc : isCall o.op = some (f, args)) : wDg P o K st = (callR st f args).allOr (BorO P o K st) fun x => callDO (BorO P o K st) P x.2.2 x.1 x.2.1 (o.dst.getD 0) fun d h' => K (({ st with hp := h' } : St).put o.dst d) := by
  unfold wDg
  rw [hc]
theorem wDg_none {K : St → Prop} (hc : isCall o.op = none) : wDg P o K st = (doR P st o).all fun x => K (({ st with hp := x.2 } : St).put o.dst x.1) := by
  unfold wDg
  rw [hc]
theorem G_nil : G P l hR [] k st = J P k .normal st := nd rfl
theorem G_cons (i : Nat) : G P l hR ((i, kd) :: r) k st = Gg P l hR r k kd st l[i]? := by
  unfold G
  simp only [Gw]
  cases l[i]? with
  | none => rfl
  | some o =>
    simp only [Gg]
    rw [guardD_gval]
    have e : (match kd with
      | 0 => (doR P { st with hp := hR } o).all fun x => Gw P l hR r (k.sem P .normal) (st.put o.dst x.1)
      | 1 => (allocR P st (o.dst.getD 0) o.op).all fun x => get st.hp (o.dst.getD 0) = none ∧ Gw P l hR r (k.sem P .normal) (({ st with hp := (o.dst.getD 0, x.2) :: st.hp } : St).put o.dst x.1)
      | 2 => wDg P o (fun s => LeH s.hp hR ∧ Gw P l hR r (k.sem P .normal) s) st
      | _ => wDg P o (Gw P l hR r (k.sem P .normal)) st) = Ge P l hR r k o st kd := by
      match kd with
      | 0 => rfl
      | 1 => rfl
      | 2 =>
        simp only [Ge]
        cases hc : isCall o.op with
        | none => simp only [wDg_none hc, put_hp]; rfl
        | some x => obtain ⟨f, args⟩ := x; simp only [wDg_call hc, Gc, Bq, Hd, put_hp]; rfl
      | kd + 3 =>
        simp only [Ge]
        cases hc : isCall o.op with
        | none => simp only [wDg_none hc, Gs, Hd, true_and]; rfl
        | some x => obtain ⟨f, args⟩ := x; simp only [wDg_call hc, Gc, Bq, Hd, true_and]; rfl
    cases gval st l o.guard with
    | yes => exact e
    | no => rfl
    | bad => rfl
    | cond b => exact congrArg (fun x => WIf b x (Gw P l hR r (k.sem P .normal) (st.put o.dst (.tup [])))) e
theorem Gg_some : Gg P l hR r k kd st (some o) = Gd P l hR r k kd o st (gval st l o.guard) := nd rfl
theorem Gd_yes : Gd P l hR r k kd o st .yes = Ge P l hR r k o st kd := nd rfl
theorem Gd_no : Gd P l hR r k kd o st .no = G P l hR r k (st.put o.dst (.tup [])) := nd rfl
theorem Gd_true : Gd P l hR r k kd o st (.cond true) = Ge P l hR r k o st kd := by simp [Gd]
theorem Gd_false : Gd P l hR r k kd o st (.cond false) = G P l hR r k (st.put o.dst (.tup [])) := by simp [Gd]
theorem Ge_zero : Ge P l hR r k o st 0 = Gf P l hR r k o st (doR P { st with hp := hR } o) := nd rfl
theorem Ge_one : Ge P l hR r k o st 1 = Ga P l hR r k o st (allocR P st (o.dst.getD 0) o.op) := nd rfl
theorem Ge_two : Ge P l hR r k o st 2 = match isCall o.op with
    | some (f, args) => Gc P l hR r k 2 o st (callR st f args)
    | none => Gs P l hR r k 2 o st (doR P st o) := nd rfl
theorem Ge_three : Ge P l hR r k o st 3 = match isCall o.op with
    | some (f, args) => Gc P l hR r k 3 o st (callR st f args)
    | none => Gs P l hR r k 3 o st (doR P st o) := nd rfl
theorem Ge_four : Ge P l hR r k o st 4 = match isCall o.op with
    | some (f, args) => Gc P l hR r k 3 o st (callR st f args)
    | none => Gs P l hR r k 3 o st (doR P st o) := nd rfl
theorem Gf_ret (p : Prop) (d : D) (h : Hp) : Gf P l hR r k o st (.ret p (d, h)) = (p ∧ G P l hR r k (st.put o.dst d)) := nd rfl
theorem Gf_true (x y : Rs (D × Hp)) : Gf P l hR r k o st (.split true x y) = Gf P l hR r k o st x := by simp [Gf, Rs.all]
theorem Gf_false (x y : Rs (D × Hp)) : Gf P l hR r k o st (.split false x y) = Gf P l hR r k o st y := by simp [Gf, Rs.all]
theorem Ga_ret (p : Prop) (d : D) (ao : AO) : Ga P l hR r k o st (.ret p (d, ao)) = (p ∧ get st.hp (o.dst.getD 0) = none ∧ G P l hR r k (({ st with hp := (o.dst.getD 0, ao) :: st.hp } : St).put o.dst d)) := nd rfl
theorem Gs_ret (p : Prop) (d : D) (h : Hp) : Gs P l hR r k kd o st (.ret p (d, h)) = (p ∧ Hd kd h hR ∧ G P l hR r k (({ st with hp := h } : St).put o.dst d)) := nd rfl
theorem Gc_ret (p : Prop) (f : FuncId) (ds : List D) (h : Hp) : Gc P l hR r k kd o st (.ret p (f, ds, h)) =
    (p ∧ (closeT h (idsL ds)).Nodup ∧ ((closeT h (idsL ds)).all fun id => (get h id).isSome) = true ∧ Gk P l hR r k kd o.dst st f ds h (closeT h (idsL ds)) (Bq P l hR r k kd o st)) := nd rfl
end
def Cc (P : Program) (s : Bool) (ops rest : List Oper) (k : Kt) (dst : Option Nat) (st : St) (h : Hp) (T : List Nat) (f : FuncId) (ds : List D) (hs : Hp) (S : Prop) : Prop :=
  (ACalls P f ds hs fun h' r => fresh (dst.getD 0) h h' ∧ O P s ops rest k (({ st with hp := merge T (dst.getD 0) h h' } : St).put dst (r.ren (back T (dst.getD 0))))) ∨ S
theorem Ck_eq (P : Program) (s : Bool) (ops rest : List Oper) (k : Kt) (dst : Option Nat) (st : St) (f : FuncId) (ds : List D) (h : Hp) (T : List Nat) (S : Prop) :
    Ck P s ops rest k dst st f ds h T S = Cc P s ops rest k dst st h T f (renL (idx T base) ds) (sub h (idx T base) base T) S := nd rfl
theorem Cc_of {P : Program} {s : Bool} {ops rest : List Oper} {k : Kt} {dst : Option Nat} {st : St} {h : Hp} {T : List Nat} {f : FuncId} {ds : List D} {hs : Hp} {S : Prop} {R : Hp → D → Prop} (hc : ACalls P f ds hs R)
    (hk : ∀ h' r, R h' r → fresh (dst.getD 0) h h' ∧ O P s ops rest k (({ st with hp := merge T (dst.getD 0) h h' } : St).put dst (r.ren (back T (dst.getD 0))))) : Cc P s ops rest k dst st h T f ds hs S := .inl (hc.mono hk)
def Kc (P : Program) (f : FuncId) (ds : List D) (hs h : Hp) (T : List Nat) (q : Nat) (k : D → Hp → Prop) : Prop := ACalls P f ds hs fun h' r => fresh q h h' ∧ k (r.ren (back T q)) (merge T q h h')
theorem Kc_of {P : Program} {f : FuncId} {ds : List D} {hs h : Hp} {T : List Nat} {q : Nat} {k : D → Hp → Prop} {R : Hp → D → Prop} (hc : ACalls P f ds hs R)
    (hk : ∀ h' r, R h' r → fresh q h h' ∧ k (r.ren (back T q)) (merge T q h h')) : Kc P f ds hs h T q k := hc.mono hk
theorem callD_eq (P : Program) (h : Hp) (f : FuncId) (ds : List D) (q : Nat) (k : D → Hp → Prop) :
    callD P h f ds q k = ((closeT h (idsL ds)).Nodup ∧ ((closeT h (idsL ds)).all fun id => (get h id).isSome) = true ∧
      Kc P f (renL (idx (closeT h (idsL ds)) base) ds) (sub h (idx (closeT h (idsL ds)) base) base (closeT h (idsL ds))) h (closeT h (idsL ds)) q k) := nd rfl
theorem Cc_own {P : Program} {ops rest : List Oper} {k : Kt} {dst : Option Nat} {st : St} {h : Hp} {T : List Nat} {f : FuncId} {ds : List D} {hs : Hp} {o : Oper} {fo : Operand} {args : List Operand} {g : FuncId} {cap : List D}
    (hc : isCall o.op = some (fo, args)) (hg : ev st fo = .fn g cap) (hk : callD P st.hp g (args.map (ev st) ++ cap) (o.dst.getD 0) fun d h' => O P true ops rest k (({ st with hp := h' } : St).put o.dst d)) :
    Cc P true ops rest k dst st h T f ds hs (Sm P true ops rest k o st) := by
  refine .inr ⟨rfl, fun c a w F M Q hr => ?_⟩
  exact own_sound hr hc hg hk Q
def Gh (P : Program) (l : List Oper) (hR : Hp) (r : List (Nat × Nat)) (k : Kt) (kd : Nat) (dst : Option Nat) (st : St) (h : Hp) (T : List Nat) (f : FuncId) (ds : List D) (hs : Hp) (S : Prop) : Prop :=
  (ACalls P f ds hs fun h' x => fresh (dst.getD 0) h h' ∧ Hd kd (merge T (dst.getD 0) h h') hR ∧ G P l hR r k (({ st with hp := merge T (dst.getD 0) h h' } : St).put dst (x.ren (back T (dst.getD 0))))) ∨ S
theorem Gk_eq (P : Program) (l : List Oper) (hR : Hp) (r : List (Nat × Nat)) (k : Kt) (kd : Nat) (dst : Option Nat) (st : St) (f : FuncId) (ds : List D) (h : Hp) (T : List Nat) (S : Prop) :
    Gk P l hR r k kd dst st f ds h T S = Gh P l hR r k kd dst st h T f (renL (idx T base) ds) (sub h (idx T base) base T) S := nd rfl
theorem Gh_of {P : Program} {l : List Oper} {hR : Hp} {r : List (Nat × Nat)} {k : Kt} {kd : Nat} {dst : Option Nat} {st : St} {h : Hp} {T : List Nat} {f : FuncId} {ds : List D} {hs : Hp} {S : Prop} {R : Hp → D → Prop} (hc : ACalls P f ds hs R)
    (hk : ∀ h' x, R h' x → fresh (dst.getD 0) h h' ∧ Hd kd (merge T (dst.getD 0) h h') hR ∧ G P l hR r k (({ st with hp := merge T (dst.getD 0) h h' } : St).put dst (x.ren (back T (dst.getD 0))))) : Gh P l hR r k kd dst st h T f ds hs S := .inl (hc.mono hk)
theorem Bq_of {P : Program} {l : List Oper} {hR : Hp} {r : List (Nat × Nat)} {k : Kt} {kd : Nat} {o : Oper} {st : St} {fo : Operand} {args : List Operand} {g : FuncId} {cap ds : List D} {R : Hp → D → Prop}
    (ho : isCall o.op = some (fo, args)) (hg : ev st fo = .fn g cap) (hc : ACalls P g ds [] R) (hb : BorL st.hp (args.map (ev st) ++ cap) ds)
    (hk : ∀ h x, R h x → h = [] ∧ x.flat = true ∧ Hd kd st.hp hR ∧ G P l hR r k (st.put o.dst x)) : Bq P l hR r k kd o st :=
  ⟨fo, args, g, cap, ds, ho, hg, hb, hc.mono fun h x hx => by
    obtain ⟨h1, h2, h3, h4⟩ := hk h x hx
    exact ⟨h1, by rw [put_hp]; exact h3, by rw [scrub_flat h2]; exact h4⟩⟩
theorem Gh_bor {P : Program} {l : List Oper} {hR : Hp} {r : List (Nat × Nat)} {k : Kt} {kd : Nat} {o : Oper} {st : St} {fo : Operand} {args : List Operand} {g : FuncId} {cap ds : List D} {R : Hp → D → Prop} {dst : Option Nat} {h : Hp} {T : List Nat} {f' : FuncId} {ds' : List D} {hs : Hp} {st' : St}
    (ho : isCall o.op = some (fo, args)) (hg : ev st fo = .fn g cap) (hc : ACalls P g ds [] R) (hb : BorL st.hp (args.map (ev st) ++ cap) ds)
    (hk : ∀ h x, R h x → h = [] ∧ x.flat = true ∧ Hd kd st.hp hR ∧ G P l hR r k (st.put o.dst x)) : Gh P l hR r k kd dst st' h T f' ds' hs (Bq P l hR r k kd o st) := .inr (Bq_of ho hg hc hb hk)
theorem Sm_bor {P : Program} {ops rest : List Oper} {k : Kt} {st : St} {o : Oper} {fo : Operand} {args : List Operand} {g : FuncId} {cap ds : List D} {R : Hp → D → Prop}
    (ho : isCall o.op = some (fo, args)) (hg : ev st fo = .fn g cap) (hc : ACalls P g ds [] R) (hb : BorL st.hp (args.map (ev st) ++ cap) ds)
    (hk : ∀ h x, R h x → h = [] ∧ x.flat = true ∧ O P true ops rest k (st.put o.dst x)) : Sm P true ops rest k o st :=
  ⟨rfl, fun c a w F M Q hr => BorO_sound hr ⟨fo, args, g, cap, ds, ho, hg, hb, hc.mono fun h x hx => by
    obtain ⟨h1, h2, h3⟩ := hk h x hx
    exact ⟨h1, by rw [scrub_flat h2]; exact h3⟩⟩ Q⟩
theorem Cc_borS {P : Program} {ops rest : List Oper} {k : Kt} {dst : Option Nat} {st st' : St} {h : Hp} {T : List Nat} {f' : FuncId} {ds' : List D} {hs : Hp} {o : Oper} {fo : Operand} {args : List Operand} {g : FuncId} {cap ds : List D} {R : Hp → D → Prop}
    (ho : isCall o.op = some (fo, args)) (hg : ev st fo = .fn g cap) (hc : ACalls P g ds [] R) (hb : BorL st.hp (args.map (ev st) ++ cap) ds)
    (hk : ∀ h x, R h x → h = [] ∧ O P true ops rest k (st.put o.dst x.scrub)) : Cc P true ops rest k dst st' h T f' ds' hs (Sm P true ops rest k o st) :=
  .inr ⟨rfl, fun c a w F M Q hr => BorO_sound hr ⟨fo, args, g, cap, ds, ho, hg, hb, hc.mono hk⟩ Q⟩
theorem Cc_bor {P : Program} {ops rest : List Oper} {k : Kt} {dst : Option Nat} {st st' : St} {h : Hp} {T : List Nat} {f' : FuncId} {ds' : List D} {hs : Hp} {o : Oper} {fo : Operand} {args : List Operand} {g : FuncId} {cap ds : List D} {R : Hp → D → Prop}
    (ho : isCall o.op = some (fo, args)) (hg : ev st fo = .fn g cap) (hc : ACalls P g ds [] R) (hb : BorL st.hp (args.map (ev st) ++ cap) ds)
    (hk : ∀ h x, R h x → h = [] ∧ x.flat = true ∧ O P true ops rest k (st.put o.dst x)) : Cc P true ops rest k dst st' h T f' ds' hs (Sm P true ops rest k o st) := .inr (Sm_bor ho hg hc hb hk)
attribute [go_sem] Rt Ck_eq Gk_eq base AO.ren fresh merge back retN pick List.filter_cons List.filter_nil List.mem_cons List.not_mem_nil or_false false_or or_true true_or List.nodup_cons List.contains_cons List.contains_nil Bool.or_false Bool.or_true Bool.false_or Bool.true_or
attribute [go_sem] Hd_two Hd_three G_nil G_cons Gg_some Gd_yes Gd_no Gd_true Gd_false Ge_zero Ge_one Ge_two Ge_three Ge_four Gf_ret Gf_true Gf_false D.scrub scrubL Pd.flat Ga_ret Gs_ret Gc_ret allocR pureL LeH
end Go.Am
end
