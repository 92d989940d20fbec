/- Texts of this proof, what it rests on, merged: part A. -/
import Derived.WalkKit
import Derived.WalkLawsBesides
import Derived.Laws.StructEq
import Derived.Laws.BytesString
import Derived.Laws.Cells
import Derived.Lib.SliceRun
import Derived.MapKept
section
set_option linter.unusedVariables false
set_option linter.unusedSimpArgs false
namespace Go.Am
open Go
inductive Pd where
  | int (k : IntKind) (n : Int)
  | bool (b : Bool)
  | str (l : List UInt8)
  | sl (es : List (List Pd))
inductive D where
  | p (x : Pd)
  | agg (cs : List D)
  | tup (cs : List D)
  | cl (es : List (List Pd))
  | cz (es : List (List Pd))
  | ref (id off len N : Nat)
  | ptr (id off : Nat)
  | pe (cs : List Pd)
  | ea (id i c N : Nat)
  | fn (f : FuncId) (cap : List D)
  | np
  | mv (id : Nat)
  | nref (id n : Nat)
  | nea (id i n : Nat)
  | nr (id i len k : Nat)
  | unk
  | bad
def Pd.val : Pd → Value
  | .int k n => .int k n
  | .bool b => .bool b
  | .str l => .string ⟨l.toArray⟩
  | .sl _ => undef
def Pd.flat : Pd → Bool
  | .sl _ => false
  | _ => true
structure Mb where
  blk : Nat
  cap : Nat
  xs : List (Nat × Nat) := []
inductive Sg where
  | box
  | arr (sz n : Nat)
  | nst (sz n k : Nat)
structure SObj where
  sg : Sg
  holds : (Nat → Prop) → World → Mb → Prop
  owns : Mb → Nat → Prop
  keep : ∀ {F F' : Nat → Prop} {w w' : World} {m : Mb}, holds F w m → (∀ b, F b → w'.heap[b]? = w.heap[b]?) → (∀ b, F b → F' b) → (∀ b, owns m b → w'.heap[b]? = w.heap[b]? ∧ ¬ F' b) → holds F' w' m
  notF : ∀ {F : Nat → Prop} {w : World} {m : Mb} {b : Nat}, holds F w m → owns m b → ¬ F b
  lt : ∀ {F : Nat → Prop} {w : World} {m : Mb} {b : Nat}, holds F w m → owns m b → b < w.heap.size
  froz : ∀ {F : Nat → Prop} {w w' : World} {m : Mb}, holds F w m → (∀ b row t fr, F b → w.heap[b]? = some (.cells row t fr) → ∃ fr', w'.heap[b]? = some (.cells row t fr')) → (∀ b, ¬ F b → w'.heap[b]? = w.heap[b]?) → holds F w' m
inductive AO where
  | box (cs : List D) (t : TypeId := 0)
  | arr (t : TypeId) (sz : Nat) (es : List (List Pd))
  | fro (sz : Nat) (es : List (List Pd))
  | iter (l : List UInt8) (pos : Nat)
  | glob (g : Nat) (cs : List Pd)
  | sem (s : SObj)
  | mp (l : List (Pd × Pd))
  | nst (t e : TypeId) (sz k : Nat) (rows : List (List (List Pd))) (hole : Option Nat)
  | arx (t : TypeId) (sz : Nat) (es : List (List Pd)) (i c : Nat) (d : D)
def base : Nat := 1000000
abbrev Hp := List (Nat × AO)
def get {α : Type} : List (Nat × α) → Nat → Option α
  | [], _ => none
  | (k', x) :: r, k => if k' = k then some x else get r k
def AO.sg : AO → Sg
  | .box _ _ => .box
  | .arr _ sz es => .arr sz es.length
  | .fro sz es => .arr sz es.length
  | .iter _ _ => .box
  | .glob _ _ => .box
  | .sem s => s.sg
  | .mp _ => .box
  | .nst _ _ sz k rows _ => .nst sz rows.length k
  | .arx _ sz es _ _ _ => .arr sz es.length
def sg (h : Hp) (id : Nat) : Option Sg := (get h id).map AO.sg
inductive PR (F : Nat → Prop) (w : World) : Pd → Value → Prop
  | int (k : IntKind) (n : Int) : PR F w (.int k n) (.int k n)
  | bool (b : Bool) : PR F w (.bool b) (.bool b)
  | str (l : List UInt8) : PR F w (.str l) (.string ⟨l.toArray⟩)
  | sl0 (a : Option Addr) (cap : Nat) : PR F w (.sl []) (.slice a 0 cap)
  | sl (es : List (List Pd)) (b off cap sz : Nat) (row : Array Value) (t : TypeId) (fr : Nat × Nat)
      (hF : F b) (hh : w.heap[b]? = some (.cells row t fr)) (hc : es.length ≤ cap)
      (hs : ∀ (i : Nat) e, es[i]? = some e → e.length = sz)
      (hi : ∀ (i : Nat) e (j : Nat) c, es[i]? = some e → e[j]? = some c → off + i * sz + j < row.size)
      (hp : ∀ (i : Nat) e (j : Nat) c, es[i]? = some e → e[j]? = some c → PR F w c (row.getD (off + i * sz + j) undef)) :
      PR F w (.sl es) (.slice (some ⟨b, off, none⟩) es.length cap)
theorem PR.flat {F : Nat → Prop} {w : World} {x : Pd} (h : x.flat = true) : PR F w x x.val := by
  cases x with
  | int k n => exact .int k n
  | bool b => exact .bool b
  | str l => exact .str l
  | sl _ => cases h
theorem PR.keep {F F' : Nat → Prop} {w w' : World} {x : Pd} {v : Value} (h : PR F w x v) (hw : ∀ b, F b → w'.heap[b]? = w.heap[b]?) (hF : ∀ b, F b → F' b) :
    PR F' w' x v := by
  induction h with
  | int k n => exact .int k n
  | bool b => exact .bool b
  | str l => exact .str l
  | sl0 a cap => exact .sl0 a cap
  | sl es b off cap sz row t fr hb hh hc hs hi hp ih =>
    exact .sl es b off cap sz row t fr (hF b hb) (by rw [hw b hb]; exact hh) hc hs hi (fun i e j c h1 h2 => ih i e j c h1 h2)
theorem PR.oneCell {F : Nat → Prop} {w : World} {x : Pd} {v : Value} (h : PR F w x v) : v.oneCell' = true := by
  cases h <;> rfl
def refOK (m : Mb) (sz n off len : Nat) (v : Value) : Prop :=
  ∃ a cap, v = .slice a len cap ∧ off + len ≤ n ∧ len ≤ cap ∧ off + cap = m.cap ∧ (cap = 0 ∨ a = some ⟨m.blk, off * sz, none⟩)
inductive DR (F : Nat → Prop) (w : World) (M : Nat → Mb) (s : Nat → Option Sg) : D → Value → Prop
  | p {x : Pd} {v : Value} (h : PR F w x v) : DR F w M s (.p x) v
  | agg (cs : List D) (vs : Array Value) (hl : vs.size = cs.length) (h : ∀ (i : Nat) c, cs[i]? = some c → DR F w M s c (vs.getD i undef)) : DR F w M s (.agg cs) (.agg vs)
  | tup (cs : List D) (vs : Array Value) (hl : vs.size = cs.length) (h : ∀ (i : Nat) c, cs[i]? = some c → DR F w M s c (vs.getD i undef)) : DR F w M s (.tup cs) (.tuple vs)
  | cl (es : List (List Pd)) (a : Option Addr) (h : PR F w (.sl es) (.slice a es.length es.length)) (hn : es = [] → a = none) : DR F w M s (.cl es) (.slice a es.length es.length)
  | cz (es : List (List Pd)) (a : Option Addr) (h : PR F w (.sl es) (.slice a es.length es.length)) : DR F w M s (.cz es) (.slice a es.length es.length)
  | ref (id off len N sz n : Nat) (v : Value) (hs : s id = some (.arr sz n)) (hN : N ≤ n) (hv : ∃ a l c, v = .slice a l c) (h : N = n → refOK (M id) sz n off len v) : DR F w M s (.ref id off len N) v
  | ptr (id off : Nat) (hs : s id = some .box) : DR F w M s (.ptr id off) (.pointer (some ⟨(M id).blk, off, none⟩))
  | pe (cs : List Pd) (b off : Nat) (row : Array Value) (t : TypeId) (fr : Nat × Nat) (hF : F b) (hh : w.heap[b]? = some (.cells row t fr))
      (hi : ∀ (j : Nat) c, cs[j]? = some c → off + j < row.size) (hp : ∀ (j : Nat) c, cs[j]? = some c → PR F w c (row.getD (off + j) undef)) :
      DR F w M s (.pe cs) (.pointer (some ⟨b, off, none⟩))
  | ea (id i c N sz n : Nat) (v : Value) (hs : s id = some (.arr sz n)) (hN : N ≤ n) (hv : ∃ a, v = .pointer a) (h : N = n → v = .pointer (some ⟨(M id).blk, i * sz + c, none⟩) ∧ i < n) :
      DR F w M s (.ea id i c N) v
  | fn (f : FuncId) (cap : List D) (vs : Array Value) (hl : vs.size = cap.length) (h : ∀ (i : Nat) c, cap[i]? = some c → DR F w M s c (vs.getD i undef)) :
      DR F w M s (.fn f cap) (.func (.func f) #[] vs)
  | np : DR F w M s .np (.pointer none)
  | mv (id : Nat) (hs : s id = some .box) : DR F w M s (.mv id) (.map (some (M id).blk))
  | nref (id n sz m k : Nat) (v : Value) (hs : s id = some (.nst sz m k)) (hN : n ≤ m) (hv : ∃ a c, v = .slice a n c ∧ (n = 0 ∨ ∃ b, a = some ⟨b, 0, none⟩)) (h : n = m → refOK (M id) 1 m 0 n v) : DR F w M s (.nref id n) v
  | nea (id i n sz m k : Nat) (b : Nat) (hs : s id = some (.nst sz m k)) (hN : n ≤ m) (hi : i < n) (h : n = m → b = (M id).blk ∧ (M id).cap ≠ 0) : DR F w M s (.nea id i n) (.pointer (some ⟨b, i, none⟩))
  | nr (id i len q sz m k : Nat) (v : Value) (hs : s id = some (.nst sz m k)) (hN : q ≤ k) (hv : ∃ a c, v = .slice a len c) (h : q = k → ∃ bc, (M id).xs[i]? = some bc ∧ len ≤ bc.2 ∧ ∃ a, v = .slice a len bc.2 ∧ (bc.2 = 0 ∨ a = some ⟨bc.1, 0, none⟩)) : DR F w M s (.nr id i len q) v
  | unk (v : Value) (h : v.oneCell' = true) : DR F w M s .unk v
  | bad (v : Value) : DR F w M s .bad v
def SgKeep (M M' : Nat → Mb) (s s' : Nat → Option Sg) : Prop :=
  (∀ id, s id = some .box → s' id = some .box ∧ (M' id).blk = (M id).blk) ∧
  (∀ id sz n, s id = some (.arr sz n) → ∃ n', s' id = some (.arr sz n') ∧ n ≤ n' ∧ (n' = n → M' id = M id)) ∧
  (∀ id sz n k, s id = some (.nst sz n k) → ∃ n' k', s' id = some (.nst sz n' k') ∧ n ≤ n' ∧ k ≤ k' ∧ (n' = n → (M' id).blk = (M id).blk ∧ (M' id).cap = (M id).cap) ∧ (k' = k → (M' id).xs = (M id).xs))
theorem SgKeep.refl (M : Nat → Mb) (s : Nat → Option Sg) : SgKeep M M s s :=
  ⟨fun _ h => ⟨h, rfl⟩, fun _ _ n h => ⟨n, h, Nat.le_refl _, fun _ => rfl⟩, fun _ _ n k h => ⟨n, k, h, Nat.le_refl _, Nat.le_refl _, fun _ => ⟨rfl, rfl⟩, fun _ => rfl⟩⟩
theorem SgKeep.trans {M M' M'' : Nat → Mb} {s s' s'' : Nat → Option Sg} (h : SgKeep M M' s s') (h' : SgKeep M' M'' s' s'') : SgKeep M M'' s s'' := by
  refine ⟨fun id hi => ?_, fun id sz n hi => ?_, fun id sz n k hi => ?_⟩
  · obtain ⟨h1, h2⟩ := h.1 id hi
    obtain ⟨h3, h4⟩ := h'.1 id h1
    exact ⟨h3, h4.trans h2⟩
  · obtain ⟨n1, h1, h2, h3⟩ := h.2.1 id sz n hi
    obtain ⟨n2, h4, h5, h6⟩ := h'.2.1 id sz n1 h1
    refine ⟨n2, h4, Nat.le_trans h2 h5, fun e => ?_⟩
    have e1 : n1 = n := by omega
    rw [h6 (by omega), h3 e1]
  · obtain ⟨n1, k1, h1, h2, h2', h3, h3'⟩ := h.2.2 id sz n k hi
    obtain ⟨n2, k2, h4, h5, h5', h6, h6'⟩ := h'.2.2 id sz n1 k1 h1
    refine ⟨n2, k2, h4, Nat.le_trans h2 h5, Nat.le_trans h2' h5', fun e => ?_, fun e => ?_⟩
    · have e1 : n1 = n := by omega
      exact ⟨(h6 (by omega)).1.trans (h3 e1).1, (h6 (by omega)).2.trans (h3 e1).2⟩
    · have e1 : k1 = k := by omega
      rw [h6' (by omega), h3' e1]
theorem DR.keep {F F' : Nat → Prop} {w w' : World} {M M' : Nat → Mb} {s s' : Nat → Option Sg} {d : D} {v : Value} (h : DR F w M s d v)
    (hw : ∀ b, F b → w'.heap[b]? = w.heap[b]?) (hF : ∀ b, F b → F' b) (hs : SgKeep M M' s s') : DR F' w' M' s' d v := by
  induction h with
  | p h => exact .p (h.keep hw hF)
  | agg cs vs hl _ ih => exact .agg cs vs hl ih
  | tup cs vs hl _ ih => exact .tup cs vs hl ih
  | cl es a h hn => exact .cl es a (h.keep hw hF) hn
  | cz es a h => exact .cz es a (h.keep hw hF)
  | ref id off len N sz n v h1 hN hv h2 =>
    obtain ⟨n', h3, h4, h5⟩ := hs.2.1 id sz n h1
    refine .ref id off len N sz n' v h3 (Nat.le_trans hN h4) hv fun e => ?_
    have e2 : n' = n := by omega
    subst e2
    rw [h5 rfl]
    exact h2 e
  | ptr id off h1 =>
    obtain ⟨h2, h3⟩ := hs.1 id h1
    rw [← h3]
    exact .ptr id off h2
  | pe cs b off row t fr hb hh hi hp => exact .pe cs b off row t fr (hF b hb) (by rw [hw b hb]; exact hh) hi (fun j c h1 => (hp j c h1).keep hw hF)
  | ea id i c N sz n v h1 hN hv h2 =>
    obtain ⟨n', h3, h4, h5⟩ := hs.2.1 id sz n h1
    refine .ea id i c N sz n' v h3 (Nat.le_trans hN h4) hv fun e => ?_
    have e2 : n' = n := by omega
    subst e2
    rw [h5 rfl]
    exact h2 e
  | fn f cap vs hl _ ih => exact .fn f cap vs hl ih
  | np => exact .np
  | mv id h1 =>
    obtain ⟨h2, h3⟩ := hs.1 id h1
    rw [← h3]
    exact .mv id h2
  | nref id n sz m k v h1 hN hv h2 =>
    obtain ⟨m', k', h3, h4, _, h5, _⟩ := hs.2.2 id sz m k h1
    refine .nref id n sz m' k' v h3 (Nat.le_trans hN h4) hv fun e => ?_
    obtain ⟨h6, h7⟩ := h5 (by omega)
    obtain ⟨a, cap, g1, g2, g3, g4, g5⟩ := h2 (by omega)
    exact ⟨a, cap, g1, by omega, g3, by rw [h7]; exact g4, by rw [h6]; exact g5⟩
  | nea id i n sz m k b h1 hN hi h2 =>
    obtain ⟨m', k', h3, h4, _, h5, _⟩ := hs.2.2 id sz m k h1
    refine .nea id i n sz m' k' b h3 (Nat.le_trans hN h4) hi fun e => ?_
    obtain ⟨h6, h7⟩ := h5 (by omega)
    rw [h6, h7]
    exact h2 (by omega)
  | nr id i len q sz m k v h1 hN hv h2 =>
    obtain ⟨m', k', h3, _, h4, _, h5⟩ := hs.2.2 id sz m k h1
    refine .nr id i len q sz m' k' v h3 (Nat.le_trans hN h4) hv fun e => ?_
    rw [h5 (by omega)]
    exact h2 (by omega)
  | unk v h => exact .unk v h
  | bad v => exact .bad v
def tyOr (ty t : TypeId) : TypeId := if ty = 0 then t else ty
def D.isNp : D → Bool
  | .np => true
  | _ => false
def Exa (ty : TypeId) (cs : List D) (row : Array Value) : Prop := ty ≠ 0 → cs.any D.isNp = true → ∀ (j : Nat), cs[j]? = some (.cl []) → row.getD j undef = .slice none 0 0
theorem Exa.zero (cs : List D) (row : Array Value) : Exa 0 cs row := fun h => (h rfl).elim
def Hm (fr : Nat × Nat) (n : Nat) : Prop := ∀ i, i < n → ¬ (fr.1 ≤ i ∧ i < fr.2)
theorem Hm.zero (n : Nat) : Hm (0, 0) n := fun _ _ h => Nat.not_lt_zero _ h.2
def RowH (w : World) (b : Nat) (t : TypeId) (row : Array Value) : Prop := ∃ fr, w.heap[b]? = some (.cells row t fr) ∧ Hm fr row.size
theorem RowH.of0 {w : World} {b : Nat} {t : TypeId} {row : Array Value} (h : w.heap[b]? = some (.cells row t (0, 0))) : RowH w b t row := ⟨_, h, Hm.zero _⟩
theorem RowH.lt {w : World} {b : Nat} {t : TypeId} {row : Array Value} (h : RowH w b t row) : b < w.heap.size := (Array.getElem?_eq_some_iff.1 h.choose_spec.1).1
theorem RowH.keep {w w' : World} {b : Nat} {t : TypeId} {row : Array Value} (h : RowH w b t row) (e : w'.heap[b]? = w.heap[b]?) : RowH w' b t row := by
  obtain ⟨fr, h1, h2⟩ := h
  exact ⟨fr, by rw [e]; exact h1, h2⟩
theorem RowH.set {w : World} {b : Nat} {t : TypeId} {row cs : Array Value} (h : RowH w b t row) (e : cs.size = row.size) : RowH (w.setRow b cs) b t cs := by
  obtain ⟨fr, h1, h2⟩ := h
  exact ⟨fr, setRow_heap w b row cs t fr h1, by rw [e]; exact h2⟩
theorem run_storeCells_row (P : Program) (g o : Nat) (t : TypeId) : ∀ (vs : List Value) (i : Nat) (cur : Array Value) (w : World), RowH w g t cur → o + i + vs.length ≤ cur.size → (∀ v ∈ vs, v.oneCell' = true) →
    (storeCells ⟨g, o, none⟩ vs i).run P w = .ok () (w.setRow g (cur.toList.take (o + i) ++ vs ++ cur.toList.drop (o + i + vs.length)).toArray)
  | [], i, cur, w, hg, _, _ => by
    obtain ⟨fr, hg, _⟩ := hg
    simp only [storeCells, List.append_nil, List.length_nil, Nat.add_zero, List.take_append_drop, Array.toArray_toList]
    rw [setRow_self w g cur t fr hg]
    rfl
  | v :: rest, i, cur, w, hg0, hl, h1 => by
    have hi : o + i < cur.size := by simp at hl; omega
    have ih := run_storeCells_row P g o t rest (i + 1) (cur.setIfInBounds (o + i) v) (w.setRow g (cur.setIfInBounds (o + i) v)) (hg0.set (by simp)) (by simp at hl ⊢; omega) (fun x hx => h1 x (by simp [hx]))
    obtain ⟨fr, hg, hm⟩ := hg0
    have hadd : (⟨g, o, none⟩ : Addr).add i = ⟨g, o + i, none⟩ := by unfold Addr.add; split <;> simp_all
    have hcell : w.cell? ⟨g, o + i, none⟩ = some cur[o + i] := by simp [World.cell?, hg, hi]
    have hfro : w.frozen? ⟨g, o + i, none⟩ = false := by
      have := hm (o + i) hi
      simp [World.frozen?, hg]
      omega
    have hst : (store ((⟨g, o, none⟩ : Addr).add i) v).run P w = .ok () (w.setRow g (cur.setIfInBounds (o + i) v)) := by
      rw [hadd, run_store P w _ v _ (h1 v (by simp)), hcell]
      simp [hfro, setCell_eq_setRow w g (o + i) cur t fr v hg]
    simp only [storeCells, Sem.run_bind, hst, Result.andThen_ok, ih, setRow_setRow]
    congr 3
    have e := list_seg_step cur.toList (o + i) v rest (by simp at hl ⊢; omega)
    simpa [Array.toList_setIfInBounds, Nat.add_assoc] using e
def ArrR (F : Nat → Prop) (w : World) (m : Mb) (t : TypeId) (sz : Nat) (es : List (List Pd)) : Prop :=
  0 < sz ∧ es.length ≤ m.cap ∧ m.cap ≤ maxLen ∧ (∀ (i : Nat) e, es[i]? = some e → e.length = sz) ∧
      (m.cap ≠ 0 → ¬ F m.blk ∧ ∃ row, RowH w m.blk t row ∧ row.size = m.cap * sz ∧
        ∀ (i : Nat) e (j : Nat) c, es[i]? = some e → e[j]? = some c → PR F w c (row.getD (i * sz + j) undef))
structure NstR (F : Nat → Prop) (w : World) (m : Mb) (t e : TypeId) (sz : Nat) (rows : List (List (List Pd))) (hole : Option Nat) : Prop where
  pos : 0 < sz
  xl : m.xs.length = rows.length
  le : rows.length ≤ m.cap
  max : m.cap ≤ maxLen
  outer : m.cap ≠ 0 → ¬ F m.blk ∧ ∃ row, w.heap[m.blk]? = some (.cells row t (0, 0)) ∧ row.size = m.cap ∧
    ∀ (i : Nat) r bc, rows[i]? = some r → m.xs[i]? = some bc → hole ≠ some i → ∃ a, row.getD i undef = .slice a r.length bc.2 ∧ (bc.2 = 0 ∨ a = some ⟨bc.1, 0, none⟩)
  rows : ∀ (i : Nat) r bc, rows[i]? = some r → m.xs[i]? = some bc → hole ≠ some i → ArrR F w ⟨bc.1, bc.2, []⟩ e sz r
  lent : ∀ (i : Nat) bc, hole = some i → m.xs[i]? = some bc → bc.2 = 0
  dis : ∀ (i j : Nat) bi bj, m.xs[i]? = some bi → m.xs[j]? = some bj → i ≠ j → bi.2 ≠ 0 → bj.2 ≠ 0 → bi.1 ≠ bj.1
  out : ∀ (i : Nat) bi, m.xs[i]? = some bi → bi.2 ≠ 0 → m.cap ≠ 0 → bi.1 ≠ m.blk
def NstOwns (m : Mb) (b : Nat) : Prop := (m.cap ≠ 0 ∧ b = m.blk) ∨ ∃ (i : Nat) (bc : Nat × Nat), m.xs[i]? = some bc ∧ bc.2 ≠ 0 ∧ b = bc.1
theorem ArrR.keep {F F' : Nat → Prop} {w w' : World} {m : Mb} {t : TypeId} {sz : Nat} {es : List (List Pd)} (h : ArrR F w m t sz es)
    (hw : ∀ b, F b → w'.heap[b]? = w.heap[b]?) (hF : ∀ b, F b → F' b) (hown : m.cap ≠ 0 → w'.heap[m.blk]? = w.heap[m.blk]? ∧ ¬ F' m.blk) : ArrR F' w' m t sz es := by
  obtain ⟨h1, h2, h2', h3, h4⟩ := h
  refine ⟨h1, h2, h2', h3, fun hc => ?_⟩
  obtain ⟨h5, row, h6, h7, h8⟩ := h4 hc
  obtain ⟨h9, h10⟩ := hown hc
  exact ⟨h10, row, h6.keep h9, h7, fun i e j c he hj => (h8 i e j c he hj).keep hw hF⟩
theorem NstR.row {F : Nat → Prop} {w : World} {m : Mb} {t e : TypeId} {sz : Nat} {rows : List (List (List Pd))} {hole : Option Nat} (h : NstR F w m t e sz rows hole) {i : Nat} {bc : Nat × Nat} (hx : m.xs[i]? = some bc) (hc : bc.2 ≠ 0) :
    ∃ r, rows[i]? = some r ∧ hole ≠ some i ∧ ArrR F w ⟨bc.1, bc.2, []⟩ e sz r := by
  have hlt : i < rows.length := by rw [← h.xl]; exact (List.getElem?_eq_some_iff.1 hx).1
  have hh : hole ≠ some i := fun e => hc (h.lent i bc e hx)
  exact ⟨rows[i], by simp [hlt], hh, h.rows i _ bc (by simp [hlt]) hx hh⟩
theorem NstR.keep {F F' : Nat → Prop} {w w' : World} {m : Mb} {t e : TypeId} {sz : Nat} {rows : List (List (List Pd))} {hole : Option Nat} (h : NstR F w m t e sz rows hole)
    (hw : ∀ b, F b → w'.heap[b]? = w.heap[b]?) (hF : ∀ b, F b → F' b) (hown : ∀ b, NstOwns m b → w'.heap[b]? = w.heap[b]? ∧ ¬ F' b) : NstR F' w' m t e sz rows hole := by
  refine ⟨h.pos, h.xl, h.le, h.max, fun hc => ?_, fun i r bc h1 h2 h3 => (h.rows i r bc h1 h2 h3).keep hw hF fun hc => hown _ (.inr ⟨i, bc, h2, hc, rfl⟩), h.lent, h.dis, h.out⟩
  obtain ⟨h1, row, h2, h3⟩ := h.outer hc
  obtain ⟨h4, h5⟩ := hown _ (.inl ⟨hc, rfl⟩)
  exact ⟨h5, row, by rw [h4]; exact h2, h3⟩
theorem NstR.notF {F : Nat → Prop} {w : World} {m : Mb} {t e : TypeId} {sz : Nat} {rows : List (List (List Pd))} {hole : Option Nat} (h : NstR F w m t e sz rows hole) {b : Nat} (hb : NstOwns m b) : ¬ F b := by
  rcases hb with ⟨hc, rfl⟩ | ⟨i, bc, hx, hc, rfl⟩
  · exact (h.outer hc).1
  · obtain ⟨r, _, _, h1⟩ := h.row hx hc
    exact (h1.2.2.2.2 hc).1
theorem NstR.lt {F : Nat → Prop} {w : World} {m : Mb} {t e : TypeId} {sz : Nat} {rows : List (List (List Pd))} {hole : Option Nat} (h : NstR F w m t e sz rows hole) {b : Nat} (hb : NstOwns m b) : b < w.heap.size := by
  rcases hb with ⟨hc, rfl⟩ | ⟨i, bc, hx, hc, rfl⟩
  · obtain ⟨_, row, h2, _⟩ := h.outer hc
    exact (Array.getElem?_eq_some_iff.1 h2).1
  · obtain ⟨r, _, _, h1⟩ := h.row hx hc
    obtain ⟨_, rw_, h2, _⟩ := h1.2.2.2.2 hc
    exact h2.lt
structure ArxR (F : Nat → Prop) (w : World) (M : Nat → Mb) (s : Nat → Option Sg) (m : Mb) (t : TypeId) (sz : Nat) (es : List (List Pd)) (i0 c0 : Nat) (d : D) : Prop where
  pos : 0 < sz
  le : es.length ≤ m.cap
  max : m.cap ≤ maxLen
  wid : ∀ (i : Nat) e, es[i]? = some e → e.length = sz
  at_ : i0 < es.length ∧ c0 < sz
  nF : ¬ F m.blk
  row : ∃ row, RowH w m.blk t row ∧ row.size = m.cap * sz ∧ (∀ (i : Nat) e (j : Nat) c, es[i]? = some e → e[j]? = some c → ¬ (i = i0 ∧ j = c0) → PR F w c (row.getD (i * sz + j) undef)) ∧
    DR F w M s d (row.getD (i0 * sz + c0) undef) ∧ (row.getD (i0 * sz + c0) undef).oneCell' = true
theorem ArxR.keep {F F' : Nat → Prop} {w w' : World} {M M' : Nat → Mb} {s s' : Nat → Option Sg} {m : Mb} {t : TypeId} {sz : Nat} {es : List (List Pd)} {i0 c0 : Nat} {d : D} (h : ArxR F w M s m t sz es i0 c0 d)
    (hw : ∀ b, F b → w'.heap[b]? = w.heap[b]?) (hF : ∀ b, F b → F' b) (hs : SgKeep M M' s s') (hown : w'.heap[m.blk]? = w.heap[m.blk]? ∧ ¬ F' m.blk) : ArxR F' w' M' s' m t sz es i0 c0 d := by
  obtain ⟨row, h1, h2, h3, h4, h5⟩ := h.row
  exact ⟨h.pos, h.le, h.max, h.wid, h.at_, hown.2, row, h1.keep hown.1, h2, fun i e j c he hj hn => (h3 i e j c he hj hn).keep hw hF, h4.keep hw hF hs, h5⟩
def ObjR (F : Nat → Prop) (w : World) (M : Nat → Mb) (s : Nat → Option Sg) (m : Mb) : AO → Prop
  | .box cs ty => ¬ F m.blk ∧ ∃ row t, w.heap[m.blk]? = some (.cells row (tyOr ty t) (0, 0)) ∧ row.size = cs.length ∧
      (∀ (j : Nat) d, cs[j]? = some d → DR F w M s d (row.getD j undef) ∧ (row.getD j undef).oneCell' = true) ∧ Exa ty cs row
  | .arr t sz es => 0 < sz ∧ es.length ≤ m.cap ∧ m.cap ≤ maxLen ∧ (∀ (i : Nat) e, es[i]? = some e → e.length = sz) ∧
      (m.cap ≠ 0 → ¬ F m.blk ∧ ∃ row, RowH w m.blk t row ∧ row.size = m.cap * sz ∧
        ∀ (i : Nat) e (j : Nat) c, es[i]? = some e → e[j]? = some c → PR F w c (row.getD (i * sz + j) undef))
  | .fro sz es => 0 < sz ∧ es.length ≤ m.cap ∧ (∀ (i : Nat) e, es[i]? = some e → e.length = sz) ∧
      (m.cap ≠ 0 → F m.blk ∧ ∃ row t fr, w.heap[m.blk]? = some (.cells row t fr) ∧ row.size = m.cap * sz ∧
        ∀ (i : Nat) e (j : Nat) c, es[i]? = some e → e[j]? = some c → PR F w c (row.getD (i * sz + j) undef))
  | .iter l pos => ¬ F m.blk ∧ w.heap[m.blk]? = some (.stringIter ⟨l.toArray⟩ pos)
  | .glob g cs => F g ∧ ∃ row t fr, w.heap[g]? = some (.cells row t fr) ∧ row.size = cs.length ∧ ∀ (j : Nat) c, cs[j]? = some c → PR F w c (row.getD j undef)
  | .sem o => o.holds F w m
  | .mp l => ¬ F m.blk ∧ (∃ es clock, w.heap[m.blk]? = some (.map es clock) ∧ es.toList.map (fun e => (e.key, e.val)) = l.map (fun p => (p.1.val, p.2.val))) ∧ ∀ p ∈ l, p.2.flat = true
  | .nst t e sz _ rows hole => NstR F w m t e sz rows hole
  | .arx t sz es i c d => ArxR F w M s m t sz es i c d
def AO.owns (o : AO) (m : Mb) (b : Nat) : Prop :=
  match o with
  | .box _ _ => b = m.blk
  | .arr _ _ _ => m.cap ≠ 0 ∧ b = m.blk
  | .fro _ _ => False
  | .iter _ _ => b = m.blk
  | .glob _ _ => False
  | .sem s => s.owns m b
  | .mp _ => b = m.blk
  | .nst _ _ _ _ _ _ => NstOwns m b
  | .arx _ _ _ _ _ _ => b = m.blk
structure HR (F : Nat → Prop) (w : World) (M : Nat → Mb) (h : Hp) : Prop where
  obj : ∀ id o, get h id = some o → ObjR F w M (sg h) (M id) o
  inj : ∀ id o id' o' b, get h id = some o → get h id' = some o' → o.owns (M id) b → o'.owns (M id') b → id = id'
def Owned (M : Nat → Mb) (h : Hp) (b : Nat) : Prop := ∃ id o, get h id = some o ∧ o.owns (M id) b
theorem HR.notF {F : Nat → Prop} {w : World} {M : Nat → Mb} {h : Hp} (hr : HR F w M h) {b : Nat} (ho : Owned M h b) : ¬ F b := by
  obtain ⟨id, o, h1, h2⟩ := ho
  have := hr.obj id o h1
  cases o with
  | box cs ty => cases h2; exact this.1
  | arr t sz es => obtain ⟨h2, rfl⟩ := h2; exact (this.2.2.2.2 h2).1
  | fro sz es => exact h2.elim
  | iter l pos => cases h2; exact this.1
  | glob g cs => exact h2.elim
  | sem s => exact s.notF this h2
  | mp l => cases h2; exact this.1
  | nst t e sz k rows hole => exact NstR.notF this h2
  | arx t sz es i c d => cases h2; exact ArxR.nF this
theorem HR.lt {F : Nat → Prop} {w : World} {M : Nat → Mb} {h : Hp} (hr : HR F w M h) {b : Nat} (ho : Owned M h b) : b < w.heap.size := by
  obtain ⟨id, o, h1, h2⟩ := ho
  have := hr.obj id o h1
  cases o with
  | box cs ty => cases h2; obtain ⟨_, row, t, h3, _⟩ := this; exact (Array.getElem?_eq_some_iff.1 h3).1
  | arr t sz es => obtain ⟨h2, rfl⟩ := h2; obtain ⟨_, row, h3, _⟩ := this.2.2.2.2 h2; exact h3.lt
  | fro sz es => exact h2.elim
  | iter l pos => cases h2; exact (Array.getElem?_eq_some_iff.1 this.2).1
  | glob g cs => exact h2.elim
  | sem s => exact s.lt this h2
  | mp l => cases h2; obtain ⟨_, ⟨_, _, h3, _⟩, _⟩ := this; exact (Array.getElem?_eq_some_iff.1 h3).1
  | nst t e sz k rows hole => exact NstR.lt this h2
  | arx t sz es i c d => cases h2; obtain ⟨_, h3, _⟩ := ArxR.row this; exact h3.lt
theorem ObjR.keep {F F' : Nat → Prop} {w w' : World} {M M' : Nat → Mb} {s s' : Nat → Option Sg} {m : Mb} {o : AO} (h : ObjR F w M s m o)
    (hw : ∀ b, F b → w'.heap[b]? = w.heap[b]?) (hF : ∀ b, F b → F' b) (hs : SgKeep M M' s s')
    (hown : ∀ b, o.owns m b → w'.heap[b]? = w.heap[b]? ∧ ¬ F' b) : ObjR F' w' M' s' m o := by
  cases o with
  | box cs ty =>
    obtain ⟨h1, row, t, h2, h3, h4⟩ := h
    obtain ⟨h5, h6⟩ := hown _ rfl
    exact ⟨h6, row, t, by rw [h5]; exact h2, h3, fun j d hd => ⟨(h4.1 j d hd).1.keep hw hF hs, (h4.1 j d hd).2⟩, h4.2⟩
  | arr t sz es =>
    obtain ⟨h1, h2, h2', h3, h4⟩ := h
    refine ⟨h1, h2, h2', h3, fun hc => ?_⟩
    obtain ⟨h5, row, h6, h7, h8⟩ := h4 hc
    obtain ⟨h9, h10⟩ := hown _ ⟨hc, rfl⟩
    exact ⟨h10, row, h6.keep h9, h7, fun i e j c he hj => (h8 i e j c he hj).keep hw hF⟩
  | fro sz es =>
    obtain ⟨h1, h2, h3, h4⟩ := h
    refine ⟨h1, h2, h3, fun hc => ?_⟩
    obtain ⟨h5, row, t, fr, h6, h7, h8⟩ := h4 hc
    exact ⟨hF _ h5, row, t, fr, by rw [hw _ h5]; exact h6, h7, fun i e j c he hj => (h8 i e j c he hj).keep hw hF⟩
  | iter l pos =>
    obtain ⟨h5, h6⟩ := hown _ rfl
    exact ⟨h6, by rw [h5]; exact h.2⟩
  | glob g cs =>
    obtain ⟨h1, row, t, fr, h2, h4, h3⟩ := h
    exact ⟨hF _ h1, row, t, fr, by rw [hw _ h1]; exact h2, h4, fun j c hc => (h3 j c hc).keep hw hF⟩
  | sem o => exact o.keep h hw hF hown
  | mp l =>
    obtain ⟨h5, h6⟩ := hown _ rfl
    obtain ⟨_, ⟨es, clock, h2, h3⟩, h4⟩ := h
    exact ⟨h6, ⟨es, clock, by rw [h5]; exact h2, h3⟩, h4⟩
  | nst t e sz k rows hole => exact NstR.keep h hw hF hown
  | arx t sz es i c d => exact ArxR.keep h hw hF hs (hown _ rfl)
theorem HR.keep {F : Nat → Prop} {w w' : World} {M : Nat → Mb} {h : Hp} (hr : HR F w M h) (hw : ∀ b, F b → w'.heap[b]? = w.heap[b]?)
    (hown : ∀ b, Owned M h b → w'.heap[b]? = w.heap[b]?) : HR F w' M h :=
  ⟨fun id o ho => (hr.obj id o ho).keep hw (fun _ h => h) (SgKeep.refl _ _) (fun b h2 => ⟨hown b ⟨id, o, ho, h2⟩, hr.notF ⟨id, o, ho, h2⟩⟩), hr.inj⟩
def deadO (g : Sg) : SObj where
  sg := g
  holds := fun _ _ _ => True
  owns := fun _ _ => False
  keep := fun _ _ _ _ => trivial
  notF := fun _ h => h.elim
  lt := fun _ h => h.elim
  froz := fun _ _ _ => trivial
end Go.Am
namespace Go.Am
open Go
def WIf (b : Bool) (x y : Prop) : Prop := (b = true → x) ∧ (b = false → y)
@[simp] theorem WIf_true (x y : Prop) : WIf true x y = x := by simp [WIf]
@[simp] theorem WIf_false (x y : Prop) : WIf false x y = y := by simp [WIf]
structure St where
  env : List (Nat × D)
  hp : Hp
  n : Nat
def St.put (st : St) (t : Option Nat) (d : D) : St :=
  match t with
  | some t => if t < st.n then { st with env := (t, d) :: st.env } else st
  | none => st
def setL {α : Type} : List (Nat × α) → Nat → α → List (Nat × α)
  | [], k, x => [(k, x)]
  | (k', x') :: r, k, x => if k' = k then (k, x) :: r else (k', x') :: setL r k x
mutual
def ofV : Value → D
  | .int k n => .p (.int k n)
  | .bool b => .p (.bool b)
  | .string s => .p (.str s.data.toList)
  | .slice none 0 0 => .cl []
  | .pointer none => .np
  | .agg cs => .agg (ofVs cs.toList)
  | .tuple cs => .tup (ofVs cs.toList)
  | _ => .bad
def ofVs : List Value → List D
  | [] => []
  | v :: r => ofV v :: ofVs r
end
def ev (st : St) : Operand → D
  | .tmp t => (get st.env t).getD .bad
  | .const v => ofV v
  | .func f => .fn f []
  | .global _ => .bad
inductive TK where
  | int (k : IntKind) | bool | string | slice (e : TypeId) | ptr (e : TypeId) | struct (fs : List (Nat × TypeId)) | array (n : Nat) (e : TypeId) | other
structure TI where
  size : Nat
  bytes : Nat
  k : TK
  zero : D
def TK.of : TypeDesc → TK
  | .int k => .int k
  | .bool => .bool
  | .string => .string
  | .slice e => .slice e
  | .pointer e => .ptr e
  | .struct fs => .struct (fs.toList.map fun f => (f.offset, f.type))
  | .array n e => .array n e
  | _ => .other
def TK.isAgg : TK → Bool
  | .struct _ | .array _ _ => true
  | _ => false
def tiOf (P : Program) (t : TypeId) : Option TI :=
  match P.info? t, P.underlying t with
  | some i, some u => match i.zero with
    | some z => some ⟨i.size, i.bytes, TK.of u, ofV z⟩
    | none => none
  | _, _ => none
def D.one : D → Bool
  | .agg _ | .tup _ | .bad => false
  | _ => true
def D.cells : D → List D
  | .agg cs => cs
  | d => [d]
def D.stored (d : D) : Option (List D) := if d.cells.all D.one then some d.cells else none
def partD (ti : TI) (cs : List D) (off : Nat) (k : D → Prop) : Prop :=
  if ti.k.isAgg then off + ti.size ≤ cs.length ∧ k (.agg ((cs.drop off).take ti.size))
  else match cs[off]? with
    | some d => k d
    | none => False
def partP (ti : TI) (cs : List Pd) (off : Nat) (k : D → Prop) : Prop :=
  if ti.k.isAgg then off + ti.size ≤ cs.length ∧ k (.agg (((cs.drop off).take ti.size).map D.p))
  else match cs[off]? with
    | some d => k (.p d)
    | none => False
def loadD (P : Program) (h : Hp) (t : TypeId) (d : D) (k : D → Prop) : Prop :=
  match tiOf P t, d with
  | some ti, .ptr id off => match get h id with
    | some (.box cs _) => partD ti cs off k
    | _ => False
  | some ti, .pe cs => partP ti cs 0 k
  | some ti, .ea id i c N => match get h id with
    | some (.arr _ _ es) => N = es.length ∧ partP ti (es.getD i []) c k
    | some (.fro _ es) => N = es.length ∧ partP ti (es.getD i []) c k
    | some (.arx _ _ es i0 c0 d) => WIf (decide (i = i0 ∧ c = c0)) ((N = es.length ∧ ti.k.isAgg = false) ∧ k d) ((N = es.length ∧ ti.k.isAgg = false) ∧ partP ti (es.getD i []) c k)
    | _ => False
  | some ti, .nea id i n => match get h id with
    | some (.nst _ _ _ kk rows hole) => (n = rows.length ∧ hole ≠ some i ∧ ti.k.isAgg = false) ∧ k (.nr id i (rows.getD i []).length kk)
    | _ => False
  | _, _ => False
def binD (op : BinOp) (x y : D) (k : D → Prop) : Prop :=
  match op, x, y with
  | .add, .p (.int k1 a), .p (.int k2 b) => k1 = k2 ∧ k (.p (.int k1 (k1.wrap (a + b))))
  | .sub, .p (.int k1 a), .p (.int k2 b) => k1 = k2 ∧ k (.p (.int k1 (k1.wrap (a - b))))
  | .mul, .p (.int k1 a), .p (.int k2 b) => k1 = k2 ∧ k (.p (.int k1 (k1.wrap (a * b))))
  | .quo, .p (.int k1 a), .p (.int k2 b) => k1 = k2 ∧ b ≠ 0 ∧ k (.p (.int k1 (k1.wrap (a.tdiv b))))
  | .rem, .p (.int k1 a), .p (.int k2 b) => k1 = k2 ∧ b ≠ 0 ∧ k (.p (.int k1 (a.tmod b)))
  | .eql, .p (.int k1 a), .p (.int k2 b) => k1 = k2 ∧ k (.p (.bool (decide (a = b))))
  | .neq, .p (.int k1 a), .p (.int k2 b) => k1 = k2 ∧ k (.p (.bool (!decide (a = b))))
  | .lss, .p (.int k1 a), .p (.int k2 b) => k1 = k2 ∧ k (.p (.bool (decide (a < b))))
  | .leq, .p (.int k1 a), .p (.int k2 b) => k1 = k2 ∧ k (.p (.bool (decide (a ≤ b))))
  | .gtr, .p (.int k1 a), .p (.int k2 b) => k1 = k2 ∧ k (.p (.bool (decide (b < a))))
  | .geq, .p (.int k1 a), .p (.int k2 b) => k1 = k2 ∧ k (.p (.bool (decide (b ≤ a))))
  | .and, .p (.int k1 a), .p (.int k2 b) => k1 = k2 ∧ k (.p (.int k1 (k1.wrap (BitVec.ofInt k1.bits a &&& BitVec.ofInt k1.bits b).toNat)))
  | .shr, .p (.int k1 a), .p (.int _ b) => 0 ≤ b ∧ k (.p (.int k1 (a.fdiv (2 ^ (min b.toNat k1.bits)))))
  | .add, .p (.str a), .p (.str b) => a.length + b.length ≤ maxLen ∧ k (.p (.str (a ++ b)))
  | .eql, .p (.str a), .p (.str b) => k (.p (.bool (decide (a = b))))
  | .neq, .p (.str a), .p (.str b) => k (.p (.bool (!decide (a = b))))
  | _, _, _ => False
inductive FK where
  | int | bool | str
def flatFs (P : Program) : Nat → List Field → Option (List FK)
  | _, [] => some []
  | i, f :: r => if f.name ≠ "_" ∧ f.offset = i then
      match tiOf P f.type, flatFs P (i + 1) r with
      | some ⟨1, _, .int _, _⟩, some l => some (.int :: l)
      | some ⟨1, _, .bool, _⟩, some l => some (.bool :: l)
      | some ⟨1, _, .string, _⟩, some l => some (.str :: l)
      | _, _ => none
    else none
def kindT (P : Program) (e : TypeId) : Option FK :=
  match tiOf P e with
  | some ⟨1, _, .int _, _⟩ => some .int
  | some ⟨1, _, .bool, _⟩ => some .bool
  | some ⟨1, _, .string, _⟩ => some .str
  | _ => none
def flatT (P : Program) (t : TypeId) : Option (List FK) :=
  if P.eqGuardType P.depth t = false ∧ P.stoodInHeld t = false then
    match P.underlying t with
    | some (.struct fs) => flatFs P 0 fs.toList
    | some (.array n e) => (kindT P e).map (List.replicate n)
    | _ => none
  else none
def cmpK : List FK → List D → List D → Option Bool
  | [], [], [] => some true
  | .int :: ks, .p (.int k a) :: xs, .p (.int k' b) :: ys => if k = k' then (cmpK ks xs ys).map (decide (a = b) && ·) else none
  | .bool :: ks, .p (.bool a) :: xs, .p (.bool b) :: ys => (cmpK ks xs ys).map ((a == b) && ·)
  | .str :: ks, .p (.str a) :: xs, .p (.str b) :: ys => (cmpK ks xs ys).map (decide (a = b) && ·)
  | _, _, _ => none
def eqAgg (P : Program) (t : TypeId) (xs ys : List D) : Option Bool := (flatT P t).bind fun ks => cmpK ks xs ys
def binBD (P : Program) (op : BinOp) (t : TypeId) (x y : D) (k : D → Prop) : Prop :=
  match op, x, y with
  | .eql, .p (.bool a), .p (.bool b) => (match tiOf P t with | some ⟨_, _, .bool, _⟩ => k (.p (.bool (a == b))) | _ => False)
  | .neq, .p (.bool a), .p (.bool b) => (match tiOf P t with | some ⟨_, _, .bool, _⟩ => k (.p (.bool (!(a == b)))) | _ => False)
  | .eql, .agg xs, .agg ys => (match eqAgg P t xs ys with | some b => k (.p (.bool b)) | none => False)
  | .neq, .agg xs, .agg ys => (match eqAgg P t xs ys with | some b => k (.p (.bool (!b))) | none => False)
  | .eql, .p (.sl es), .cl [] => (match tiOf P t with | some ⟨_, _, .slice _, _⟩ => es ≠ [] ∧ k (.p (.bool false)) | _ => False)
  | .eql, .cl es, .cl [] => (match tiOf P t with | some ⟨_, _, .slice _, _⟩ => k (.p (.bool es.isEmpty)) | _ => False)
  | op, x, y => binD op x y k
def unD (op : UnOp) (x : D) (k : D → Prop) : Prop :=
  match op, x with
  | .not, .p (.bool b) => k (.p (.bool (!b)))
  | .neg, .p (.int kd n) => k (.p (.int kd (kd.wrap (0 - n))))
  | _, _ => False
def pickD (c a b : D) (k : D → Prop) : Prop :=
  match c, a, b with
  | .p (.bool t), .p (.bool x), .p (.bool y) => k (.p (.bool (if t then x else y)))
  | .p (.bool t), a, b => WIf t (k a) (k b)
  | _, _, _ => False
def decB : List (List Pd) → Option (List UInt8)
  | [] => some []
  | [.int .u8 n] :: r => (decB r).map (UInt8.ofNat n.toNat :: ·)
  | _ => none
def convD (P : Program) (s d : TypeId) (x : D) (k : D → Prop) : Prop :=
  match tiOf P s, tiOf P d, x with
  | some _, some ⟨_, _, .int kd, _⟩, .p (.int _ n) => k (.p (.int kd (kd.wrap n)))
  | some _, some ⟨_, _, .string, _⟩, .p (.str l) => k (.p (.str l))
  | some ⟨_, _, .slice e, _⟩, some ⟨_, _, .string, _⟩, .p (.sl es) => match tiOf P e, decB es with
    | some ⟨_, _, .int .u8, _⟩, some l => k (.p (.str l))
    | _, _ => False
  | _, _, _ => False
def fieldAddrD (P : Program) (t : TypeId) (x : D) (f : Nat) (h : Hp) (k : D → Prop) : Prop :=
  match tiOf P t with
  | some ⟨_, _, .struct fs, _⟩ => match fs[f]? with
    | some (o, u) => match tiOf P u with
      | some ti => ti.size ≠ 0 ∧ match x with
        | .ptr id off => k (.ptr id (off + o))
        | .pe cs => k (.pe (cs.drop o))
        | .ea id i c N => (match sg h id with | some (.arr _ m) => N = m | _ => False) ∧ k (.ea id i (c + o) N)
        | _ => False
      | none => False
    | none => False
  | _ => False
def fieldD (P : Program) (t : TypeId) (x : D) (f : Nat) (k : D → Prop) : Prop :=
  match tiOf P t with
  | some ⟨_, _, .struct fs, _⟩ => match fs[f]?, x with
    | some (o, u), .agg cs => match tiOf P u with
      | some ti => partD ti cs o k
      | none => False
    | _, _ => False
  | _ => False
def indexAddrD (P : Program) (t : TypeId) (x i : D) (h : Hp) (k : D → Prop) : Prop :=
  match tiOf P t, i with
  | some ⟨_, _, .slice e, _⟩, .p (.int _ n) => match tiOf P e with
    | some ti => match x with
      | .p (.sl es) => (0 ≤ n ∧ n < es.length) ∧ (es.getD n.toNat []).length = ti.size ∧ k (.pe (es.getD n.toNat []))
      | .cl es => (0 ≤ n ∧ n < es.length) ∧ (es.getD n.toNat []).length = ti.size ∧ k (.pe (es.getD n.toNat []))
      | .ref id off len N => match sg h id with
        | some (.arr sz m) => (0 ≤ n ∧ n < len) ∧ sz = ti.size ∧ N = m ∧ k (.ea id (off + n.toNat) 0 N)
        | _ => False
      | .nref id N => (0 ≤ n ∧ n < N) ∧ ti.size = 1 ∧ k (.nea id n.toNat N)
      | _ => False
    | none => False
  | some ⟨_, _, .array m e, _⟩, .p (.int _ n) => match tiOf P e, x with
    | some ti, .ptr id off => (0 ≤ n ∧ n < m) ∧ k (.ptr id (off + n.toNat * ti.size))
    | some ti, .pe cs => (0 ≤ n ∧ n < m) ∧ k (.pe (cs.drop (n.toNat * ti.size)))
    | _, _ => False
  | _, _ => False
def indexD (P : Program) (t : TypeId) (x i : D) (k : D → Prop) : Prop :=
  match tiOf P t, x, i with
  | some ⟨_, _, .string, _⟩, .p (.str l), .p (.int _ n) => (0 ≤ n ∧ n < l.length) ∧ k (.p (.int .u8 (l.getD n.toNat 0).toNat))
  | some ⟨_, _, .array m e, _⟩, .agg cs, .p (.int _ n) => match tiOf P e with
    | some ti => (0 ≤ n ∧ n < m) ∧ partD ti cs (n.toNat * ti.size) k
    | none => False
  | _, _, _ => False
def boundD (st : St) (o : Option Operand) (dflt : Int) (k : Int → Prop) : Prop :=
  match o with
  | none => k dflt
  | some x => match ev st x with
    | .p (.int _ n) => k n
    | _ => False
def sliceD (P : Program) (st : St) (t : TypeId) (x : D) (lo hi mx : Option Operand) (k : D → Prop) : Prop :=
  match tiOf P t, x with
  | some ⟨_, _, .string, _⟩, .p (.str l) => mx.isNone = true ∧ boundD st lo 0 fun a => boundD st hi l.length fun b => (0 ≤ a ∧ a ≤ b ∧ b ≤ l.length) ∧ k (.p (.str ((l.take b.toNat).drop a.toNat)))
  | some ⟨_, _, .slice e, _⟩, x => match tiOf P e with
    | some ti => match x with
      | .p (.sl es) => match mx with
        | none => boundD st lo 0 fun a => boundD st hi es.length fun b => (0 ≤ a ∧ a ≤ b ∧ b ≤ es.length) ∧ (∀ (i : Nat) e, es[i]? = some e → e.length = ti.size) ∧ k (.p (.sl ((es.take b.toNat).drop a.toNat)))
        | some m => boundD st lo 0 fun a => boundD st hi es.length fun b => boundD st (some m) 0 fun c => (0 ≤ a ∧ a ≤ b ∧ b = c ∧ c ≤ es.length) ∧ (∀ (i : Nat) e, es[i]? = some e → e.length = ti.size) ∧ hi.isSome = true ∧ k (.cz ((es.take b.toNat).drop a.toNat))
      | .ref id off len N => match sg st.hp id with
        | some (.arr sz m) => mx.isNone = true ∧ sz = ti.size ∧ boundD st lo 0 fun a => boundD st hi len fun b => (0 ≤ a ∧ a ≤ b ∧ b ≤ len) ∧ N = m ∧ k (.ref id (off + a.toNat) (b - a).toNat N)
        | _ => False
      | _ => False
    | none => False
  | _, _ => False
def fillD (place : Nat → Option (Nat × Nat)) (cells : List D) : List (Nat × D) → Option (List D)
  | [] => some cells
  | (i, d) :: rest => match place i with
    | none => none
    | some (off, size) => if d.cells.length = size ∧ off + size ≤ cells.length ∧ d.cells.all D.one = true then fillD place (cells.take off ++ d.cells ++ cells.drop (off + size)) rest else none
def placesD (P : Program) : List (Nat × TypeId) → Option (List (Nat × Nat))
  | [] => some []
  | (o, u) :: r => match tiOf P u, placesD P r with
    | some ti, some l => some ((o, ti.size) :: l)
    | _, _ => none
def buildD (P : Program) (st : St) (t : TypeId) (parts : List (Nat × Operand)) (k : D → Prop) : Prop :=
  match tiOf P t with
  | some ⟨_, _, .struct fs, z⟩ =>
    match placesD P fs, z with
    | some pl, .agg zs => match fillD (fun i => pl[i]?) zs (parts.map fun q => (q.1, ev st q.2)) with
      | some cs => k (.agg cs)
      | none => False
    | _, _ => False
  | some ⟨_, _, .array _ e, z⟩ =>
    match tiOf P e, z with
    | some ti, .agg zs => match fillD (fun i => some (i * ti.size, ti.size)) zs (parts.map fun q => (q.1, ev st q.2)) with
      | some cs => k (.agg cs)
      | none => False
    | _, _ => False
  | _ => False
def extractD (x : D) (i : Nat) (k : D → Prop) : Prop :=
  match x with
  | .tup cs => match cs[i]? with
    | some d => k d
    | none => False
  | _ => False
inductive KK where
  | int (k : IntKind) | str
def KK.fit : KK → Pd → Bool
  | .int k, .int k' _ => decide (k' = k)
  | .str, .str _ => true
  | _, _ => false
def pdV : Value → Option Pd
  | .int k n => some (.int k n)
  | .bool b => some (.bool b)
  | .string s => some (.str s.data.toList)
  | _ => none
def mapOf (P : Program) (t : TypeId) : Option (KK × Pd) :=
  match P.underlying t with
  | some (.map k e) => match P.underlying k, (P.info? e).bind (·.zero) with
    | some (.int q), some z => (pdV z).map fun y => (.int q, y)
    | some .string, some z => (pdV z).map fun y => (.str, y)
    | _, _ => none
  | _ => none
def Pd.same : Pd → Pd → Option Bool
  | .int k a, .int k' b => if k = k' then some (a == b) else none
  | .str a, .str b => some (a == b)
  | _, _ => none
def mfind (k : Pd) : List (Pd × Pd) → Option (Option Pd)
  | [] => some none
  | (k', v) :: r => match Pd.same k k' with
    | some true => some (some v)
    | some false => mfind k r
    | none => none
def mfit (k : Pd) (l : List (Pd × Pd)) : Prop := (mfind k l).isSome = true
def mget (k : Pd) (l : List (Pd × Pd)) : Option Pd := (mfind k l).getD none
def mset (k v : Pd) : List (Pd × Pd) → List (Pd × Pd)
  | [] => [(k, v)]
  | (k', v') :: r => if Pd.same k k' = some true then (k, v) :: r else (k', v') :: mset k v r
def lookD (z : Pd) (ok : Bool) (r : Option Pd) : D := if ok then .tup [.p (r.getD z), .p (.bool r.isSome)] else .p (r.getD z)
def lookupD (P : Program) (h : Hp) (t : TypeId) (x i : D) (ok : Bool) (k : D → Prop) : Prop :=
  match mapOf P t, x, i with
  | some (kk, z), .mv id, .p key => match get h id with
    | some (.mp l) => (kk.fit key = true ∧ mfit key l) ∧ k (lookD z ok (mget key l))
    | _ => False
  | _, _, _ => False
def mapUpD (P : Program) (h : Hp) (t : TypeId) (m i v : D) (k : Hp → Prop) : Prop :=
  match mapOf P t, m, i, v with
  | some (kk, _), .mv id, .p key, .p x => match get h id with
    | some (.mp l) => (kk.fit key = true ∧ mfit key l ∧ x.flat = true) ∧ k (setL h id (.mp (mset key x l)))
    | _ => False
  | _, _, _, _ => False
def vOp (P : Program) (st : St) (op : Op) (k : D → Prop) : Prop :=
  match op with
  | .move x | .assign x => k (ev st x)
  | .pick c a b => pickD (ev st c) (ev st a) (ev st b) k
  | .binOp op t x y _ => binBD P op t (ev st x) (ev st y) k
  | .unOp op _ x => unD op (ev st x) k
  | .nilCheck x => match ev st x with
    | .ptr id off => k (.ptr id off)
    | .pe cs => k (.pe cs)
    | .ea id i c N => (match sg st.hp id with | some (.arr _ m) => N = m | _ => False) ∧ k (.ea id i c N)
    | _ => False
  | .convert s d x => convD P s d (ev st x) k
  | .build t parts => buildD P st t parts.toList k
  | .load t a => loadD P st.hp t (ev st a) k
  | .slice t x lo hi mx => sliceD P st t (ev st x) lo hi mx k
  | .fieldAddr t x f => fieldAddrD P t (ev st x) f st.hp k
  | .field t x f => fieldD P t (ev st x) f k
  | .indexAddr t x i => indexAddrD P t (ev st x) (ev st i) st.hp k
  | .index t x i => indexD P t (ev st x) (ev st i) k
  | .extract t i => extractD (ev st t) i k
  | .lookup t x i ok => lookupD P st.hp t (ev st x) (ev st i) ok k
  | .makeFunc (.func f) first cap => first.size = 0 ∧ k (.fn f (cap.toList.map (ev st)))
  | _ => False
def encB (l : List UInt8) : List (List Pd) := l.map fun b => [Pd.int .u8 b.toNat]
def froze (h : Hp) (id : Nat) : Hp :=
  match get h id with
  | some (.arr _ sz es) => setL h id (.fro sz es)
  | _ => h
def purD (h : Hp) (d : D) (k : Pd → Hp → Prop) : Prop :=
  match d with
  | .p x => k x h
  | .cl es => k (.sl es) h
  | .cz es => k (.sl es) h
  | .ref id off len N => match get h id with
    | some (.arr _ _ es) => N = es.length ∧ k (.sl ((es.drop off).take len)) (froze h id)
    | some (.fro _ es) => N = es.length ∧ k (.sl ((es.drop off).take len)) h
    | _ => False
  | .nref id n => match get h id with
    | some (.nst _ _ sz kk rows none) => n = rows.length ∧ k (.sl (rows.map fun r => [.sl r])) (setL h id (.sem (deadO (.nst sz rows.length kk))))
    | _ => False
  | _ => False
def pursD : Hp → List D → (List Pd → Hp → Prop) → Prop
  | h, [], k => k [] h
  | h, d :: r, k => purD h d fun x h' => pursD h' r fun xs h'' => k (x :: xs) h''
def srcD (h : Hp) (d : D) (k : List (List Pd) → Prop) : Prop :=
  match d with
  | .p (.sl ys) => k ys
  | .p (.str l) => k (encB l)
  | .cl ys => k ys
  | .ref id off len N => match get h id with
    | some (.arr _ _ es) => N = es.length ∧ k ((es.drop off).take len)
    | some (.fro _ es) => N = es.length ∧ k ((es.drop off).take len)
    | _ => False
  | _ => False
def chunk {α : Type} (sz : Nat) : Nat → List α → List (List α)
  | 0, _ => []
  | n + 1, l => l.take sz :: chunk sz n (l.drop sz)
def appD (P : Program) (h : Hp) (q : Nat) (t t2 : TypeId) (s x : D) (k : D → Hp → Prop) : Prop :=
  match tiOf P t, tiOf P t2 with
  | some ⟨_, _, .slice e, _⟩, some ti2 => (match ti2.k with | .slice _ => True | .string => True | _ => False) ∧ match tiOf P e with
    | some ti => srcD h x fun ys => (∀ y ∈ ys, y.length = ti.size) ∧ 0 < ti.size ∧ ti.zero.cells.length = ti.size ∧ match s with
      | .cl es => get h q = none ∧ (es = [] ∨ ys ≠ []) ∧ (∀ y ∈ es, y.length = ti.size) ∧ (es.length + ys.length) * ti.bytes ≤ 140737488355328 ∧ es.length + ys.length ≤ 140737488355328 ∧
          k (.ref q 0 (es ++ ys).length (es ++ ys).length) ((q, .arr e ti.size (es ++ ys)) :: h)
      | .cz es => WIf ys.isEmpty ((∀ y ∈ es, y.length = ti.size) ∧ k (.cz es) h) (get h q = none ∧ (∀ y ∈ es, y.length = ti.size) ∧ (es.length + ys.length) * ti.bytes ≤ 140737488355328 ∧ es.length + ys.length ≤ 140737488355328 ∧
          k (.ref q 0 (es ++ ys).length (es ++ ys).length) ((q, .arr e ti.size (es ++ ys)) :: h))
      | .ref id off len N => match get h id with
        | some (.arr e' sz es) => off = 0 ∧ N = es.length ∧ len = es.length ∧ e' = e ∧ sz = ti.size ∧ (es.length + ys.length) * ti.bytes ≤ 140737488355328 ∧ es.length + ys.length ≤ 140737488355328 ∧
            k (.ref id 0 (es ++ ys).length (es ++ ys).length) (setL h id (.arr e sz (es ++ ys)))
        | _ => False
      | .nr id i len kk => match get h id with
        | some (.nst t3 e' sz k2 rows none) => (e' = e ∧ sz = ti.size ∧ kk = k2 ∧ len = (rows.getD i []).length ∧ i < rows.length ∧ get h q = none) ∧ (len + ys.length) * ti.bytes ≤ 140737488355328 ∧ len + ys.length ≤ 140737488355328 ∧
            k (.ref q 0 (rows.getD i [] ++ ys).length (rows.getD i [] ++ ys).length) ((q, .arr e sz (rows.getD i [] ++ ys)) :: setL h id (.nst t3 e' sz (k2 + 1) rows (some i)))
        | _ => False
      | _ => False
    | none => False
  | _, _ => False
def copyD (P : Program) (h : Hp) (t : TypeId) (s x : D) (k : D → Hp → Prop) : Prop :=
  match tiOf P t with
  | some ⟨_, _, .slice e, _⟩ => match tiOf P e with
    | some ti => srcD h x fun ys => (∀ y ∈ ys, y.length = ti.size) ∧ 0 < ti.size ∧ match s with
      | .ref id off len N => match get h id with
        | some (.arr e' sz es) => N = es.length ∧ off + len ≤ N ∧ sz = ti.size ∧
            k (.p (.int .i64 ((min len ys.length : Nat) : Int))) (setL h id (.arr e' sz (es.take off ++ ys.take len ++ es.drop (off + min len ys.length))))
        | _ => False
      | _ => False
    | none => False
  | _ => False
def keepT (ty : TypeId) (cs : List D) : TypeId := match ty with
  | 0 => 0
  | t + 1 => if cs.any D.isNp = true then 0 else t + 1
def nstK (hole : Option Nat) (k : Nat) : Nat := match hole with
  | none => k + 2
  | some _ => k + 1
def nstStore (h : Hp) (id i n : Nat) (v : D) (k : Hp → Prop) : Prop :=
  match v with
  | .ref q off len N => match get h q, get h id with
    | some (.arr e2 sz2 es), some (.nst t e sz k2 rows hole) => (off = 0 ∧ e2 = e ∧ sz2 = sz ∧ N = es.length ∧ len = N ∧ n = rows.length ∧ (hole = none ∨ hole = some i)) ∧
        k (setL (setL h id (.nst t e sz (nstK hole k2) (rows.set i es) none)) q (.sem (deadO (.arr sz (es.length + 1)))))
    | _, _ => False
  | _ => False
def storeD (P : Program) (h : Hp) (t : TypeId) (a v : D) (k : Hp → Prop) : Prop :=
  match tiOf P t with
  | some ti => match v.stored with
    | some cs => cs.length = ti.size ∧ match a with
      | .ptr id off => match get h id with
        | some (.box bs ty) => off + cs.length ≤ bs.length ∧ k (setL h id (.box (bs.take off ++ cs ++ bs.drop (off + cs.length)) (keepT ty (bs.take off ++ cs ++ bs.drop (off + cs.length)))))
        | _ => False
      | .ea id i c N => pursD h cs fun xs h' => match get h' id with
        | some (.arr e sz es) => N = es.length ∧ c + xs.length ≤ sz ∧ k (setL h' id (.arr e sz (es.set i ((es.getD i []).take c ++ xs ++ (es.getD i []).drop (c + xs.length)))))
        | _ => False
      | .nea id i n => nstStore h id i n v k
      | _ => False
    | none => False
  | none => False
def npT (t : TypeId) (cs : List D) : TypeId := if cs.any D.isNp = true then t else 0
def mOp (P : Program) (st : St) (q : Nat) (op : Op) (k : D → Hp → Prop) : Prop :=
  match op with
  | .alloc t => match tiOf P t with
    | some ti => match ti.zero.stored with
      | some cs => get st.hp q = none ∧ k (.ptr q 0) ((q, .box cs (npT t cs)) :: st.hp)
      | none => False
    | none => False
  | .box _ x => match (ev st x).stored with
    | some cs => get st.hp q = none ∧ k (.ptr q 0) ((q, .box cs) :: st.hp)
    | none => False
  | .store t a x => storeD P st.hp t (ev st a) (ev st x) fun h => k (.tup []) h
  | .makeMap _ none => get st.hp q = none ∧ k (.mv q) ((q, .mp []) :: st.hp)
  | .mapUpdate t m i x => mapUpD P st.hp t (ev st m) (ev st i) (ev st x) fun h => k (.tup []) h
  | .buildSlice t n parts => match tiOf P t with
    | some ⟨_, _, .slice e, _⟩ => match tiOf P e with
      | some ti => 0 < ti.size ∧ n * ti.size ≤ 16777216 ∧ match fillD (fun i => some (i * ti.size, ti.size)) (List.replicate (n * ti.size) .bad) (parts.toList.map fun q => (q.1, ev st q.2)) with
        | some cs => pursD st.hp cs fun xs h => get h q = none ∧ k (.ref q 0 n n) ((q, .arr e ti.size (chunk ti.size n xs)) :: h)
        | none => False
      | none => False
    | _ => False
  | .makeSlice t l m => match tiOf P t, ev st l, ev st m with
    | some ⟨_, _, .slice e, _⟩, .p (.int _ l), .p (.int _ m) => match tiOf P e with
      | some ti => 0 < ti.size ∧ get st.hp q = none ∧ (0 ≤ l ∧ l ≤ m ∧ m * ti.bytes ≤ 140737488355328 ∧ m ≤ 140737488355328) ∧ ti.zero.cells.length = ti.size ∧
          pursD [] ti.zero.cells fun zs _ => k (.ref q 0 l.toNat l.toNat) ((q, .arr e ti.size (List.replicate l.toNat zs)) :: st.hp)
      | none => False
    | _, _, _ => False
  | _ => False
end Go.Am
namespace Go.Am
open Go
structure Ctx where
  w0 : World
  F0 : Nat → Prop
  O0 : Nat → Prop
  M0 : Nat → Mb
  s0 : Nat → Option Sg
structure Keep (c : Ctx) (w : World) (F : Nat → Prop) (M : Nat → Mb) (h : Hp) : Prop where
  os : w.os = c.w0.os
  tape : w.tape = c.w0.tape
  output : w.output = c.w0.output
  size : c.w0.heap.size ≤ w.heap.size
  old : ∀ b, b < c.w0.heap.size → ¬ c.O0 b → w.heap[b]? = c.w0.heap[b]?
  F0 : ∀ b, c.F0 b → F b
  Fn : ∀ b, F b → c.F0 b ∨ c.O0 b ∨ c.w0.heap.size ≤ b
  Fl : ∀ b, F b → b < w.heap.size
  own : ∀ b, Owned M h b → c.O0 b ∨ c.w0.heap.size ≤ b
  sgk : SgKeep c.M0 M c.s0 (sg h)
  s0b : ∀ id, c.s0 id ≠ none → base ≤ id
structure Rel (c : Ctx) (st : St) (a : Act) (w : World) (F : Nat → Prop) (M : Nat → Mb) : Prop where
  env : ∀ t d, get st.env t = some d → DR F w M (sg st.hp) d (a.tmps.getD t undef)
  size : a.tmps.size = st.n
  defers : a.defers = []
  heap : HR F w M st.hp
  keep : Keep c w F M st.hp
theorem get_cons {α : Type} (k' : Nat) (x : α) (r : List (Nat × α)) (k : Nat) : get ((k', x) :: r) k = if k' = k then some x else get r k := rfl
mutual
theorem ofV_sound (F : Nat → Prop) (w : World) (M : Nat → Mb) (s : Nat → Option Sg) : ∀ v : Value, DR F w M s (ofV v) v
  | .int k n => by simp only [ofV]; exact .p (.int k n)
  | .bool b => by simp only [ofV]; exact .p (.bool b)
  | .string s => by simp only [ofV]; have := PR.str (F := F) (w := w) s.data.toList; simpa using DR.p this
  | .slice none 0 0 => by simp only [ofV]; exact .cl [] none (.sl0 none 0) (fun _ => rfl)
  | .agg cs => by
    simp only [ofV]
    have h := ofVs_sound F w M s cs.toList
    refine .agg _ cs (by simpa using h.1.symm) fun i c hc => ?_
    have := h.2 i c hc
    simpa [Array.getD_eq_getD_getElem?, List.getD] using this
  | .tuple cs => by
    simp only [ofV]
    have h := ofVs_sound F w M s cs.toList
    refine .tup _ cs (by simpa using h.1.symm) fun i c hc => ?_
    have := h.2 i c hc
    simpa [Array.getD_eq_getD_getElem?, List.getD] using this
  | .float _ _ => by simp only [ofV]; exact .bad _
  | .complex _ _ _ => by simp only [ofV]; exact .bad _
  | .pointer none => by simp only [ofV]; exact .np
  | .pointer (some _) => by simp only [ofV]; exact .bad _
  | .slice (some _) _ _ => by simp only [ofV]; exact .bad _
  | .slice none (_ + 1) _ => by simp only [ofV]; exact .bad _
  | .slice none 0 (_ + 1) => by simp only [ofV]; exact .bad _
  | .map _ => by simp only [ofV]; exact .bad _
  | .chan _ => by simp only [ofV]; exact .bad _
  | .func _ _ _ => by simp only [ofV]; exact .bad _
  | .nilFunc => by simp only [ofV]; exact .bad _
  | .iface _ _ => by simp only [ofV]; exact .bad _
  | .nilIface => by simp only [ofV]; exact .bad _
theorem ofVs_sound (F : Nat → Prop) (w : World) (M : Nat → Mb) (s : Nat → Option Sg) : ∀ vs : List Value,
    (ofVs vs).length = vs.length ∧ ∀ (i : Nat) c, (ofVs vs)[i]? = some c → DR F w M s c (vs.getD i undef)
  | [] => by simp [ofVs]
  | v :: r => by
    have h0 := ofV_sound F w M s v
    have h1 := ofVs_sound F w M s r
    refine ⟨by simp [ofVs, h1.1], fun i c hc => ?_⟩
    cases i with
    | zero => simp only [ofVs, List.getElem?_cons_zero, Option.some.injEq] at hc; subst hc; simpa [List.getD] using h0
    | succ i => simp only [ofVs, List.getElem?_cons_succ] at hc; simpa [List.getD] using h1.2 i c hc
end
section
variable {P : Program} {c : Ctx} {st : St} {a : Act} {w : World} {F : Nat → Prop} {M : Nat → Mb}
theorem ev_sound (hr : Rel c st a w F M) (x : Operand) : DR F w M (sg st.hp) (ev st x) (a.eval x) := by
  cases x with
  | tmp t =>
    simp only [ev, Act.eval]
    cases h : get st.env t with
    | none => exact .bad _
    | some d => exact hr.env t d h
  | const v => exact ofV_sound _ _ _ _ v
  | global g => exact .bad _
  | func f => exact .fn f [] #[] rfl (fun i c h => by simp at h)
theorem tiOf_some {t : TypeId} {ti : TI} (h : tiOf P t = some ti) : ∃ i u z, P.info? t = some i ∧ P.underlying t = some u ∧ i.zero = some z ∧ ti = ⟨i.size, i.bytes, TK.of u, ofV z⟩ := by
  unfold tiOf at h
  cases h1 : P.info? t with
  | none => rw [h1] at h; cases h
  | some i =>
    cases h2 : P.underlying t with
    | none => rw [h1, h2] at h; cases h
    | some u =>
      cases h3 : i.zero with
      | none => rw [h1, h2] at h; simp only [h3] at h; cases h
      | some z => rw [h1, h2] at h; simp only [h3] at h; cases h; exact ⟨i, u, z, rfl, rfl, h3, rfl⟩
theorem TK.of_slice {u : TypeDesc} {e : TypeId} (h : TK.of u = .slice e) : u = .slice e := by cases u <;> simp_all [TK.of]
theorem TK.of_struct {u : TypeDesc} {fs : List (Nat × TypeId)} (h : TK.of u = .struct fs) : ∃ gs, u = .struct gs ∧ fs = gs.toList.map fun f => (f.offset, f.type) := by
  cases u <;> simp_all [TK.of]
theorem TK.of_array {u : TypeDesc} {n : Nat} {e : TypeId} (h : TK.of u = .array n e) : u = .array n e := by cases u <;> simp_all [TK.of]
theorem TK.of_string {u : TypeDesc} (h : TK.of u = .string) : u = .string := by cases u <;> simp_all [TK.of]
theorem TK.of_int {u : TypeDesc} {k : IntKind} (h : TK.of u = .int k) : u = .int k := by cases u <;> simp_all [TK.of]
theorem run_sizeOf' {t : TypeId} {i : TypeInfo} (h : P.info? t = some i) (w : World) : (sizeOf t).run P w = .ok i.size w := by
  simp [sizeOf, typeInfo, h]
theorem run_isAgg' {t : TypeId} {u : TypeDesc} (h : P.underlying t = some u) (w : World) : (isAgg t).run P w = .ok (TK.of u).isAgg w := by
  unfold isAgg
  rw [Sem.run_bind, run_underlying h w]
  cases u <;> rfl
theorem run_loadVar_at {t : TypeId} {i : TypeInfo} {u : TypeDesc} (hi : P.info? t = some i) (hu : P.underlying t = some u) {b off : Nat} {row : Array Value} {e : TypeId} {fr : Nat × Nat}
    (hb : w.heap[b]? = some (.cells row e fr)) (hag : (TK.of u).isAgg = true → off + i.size ≤ row.size ∨ i.size = 0) (hone : (TK.of u).isAgg = false → off < row.size) :
    (loadVar t ⟨b, off, none⟩).run P w = .ok (if (TK.of u).isAgg then .agg ((row.toList.drop off).take i.size).toArray else row.getD off undef) w := by
  unfold loadVar
  rw [Sem.run_bind, run_isAgg' hu w]
  simp only [Result.andThen_ok]
  cases hk : (TK.of u).isAgg with
  | false =>
    have := hone hk
    have hc : w.cell? ⟨b, off, none⟩ = some (row.getD off undef) := by
      rw [cell_of_row w b off row e fr hb, Array.getD_eq_getD_getElem?]
      simp [this]
    simp [hc]
  | true =>
    have hl := hag hk
    have hlen : ((row.toList.drop off).take i.size).length = i.size := by simp; omega
    have hc := run_loadCells_list (P := P) w ⟨b, off, none⟩ ((row.toList.drop off).take i.size) (fun j v hv => by
      rw [Addr.add_lit, cell_of_row w b (off + j) row e fr hb]
      rw [List.getElem?_take] at hv
      split at hv
      · simpa using hv
      · cases hv)
    rw [hlen] at hc
    simp [run_sizeOf' hi w, hc]
theorem partD_sound {ti : TI} {cs : List D} {off : Nat} {k : D → Prop} (h : partD ti cs off k) {row : Array Value} {s : Nat → Option Sg} (hrow : row.size = cs.length)
    (hc : ∀ (j : Nat) d, cs[j]? = some d → DR F w M s d (row.getD j undef)) :
    (ti.k.isAgg = true → off + ti.size ≤ row.size ∨ ti.size = 0) ∧ (ti.k.isAgg = false → off < row.size) ∧
    ∃ d, k d ∧ DR F w M s d (if ti.k.isAgg then .agg ((row.toList.drop off).take ti.size).toArray else row.getD off undef) := by
  unfold partD at h
  cases hk : ti.k.isAgg with
  | true =>
    rw [hk] at h
    simp only [if_true] at h
    refine ⟨fun _ => .inl (by rw [hrow]; exact h.1), fun h => by simp at h, _, h.2, ?_⟩
    simp only [if_true]
    refine .agg _ _ (by simp [hrow]) fun i d hd => ?_
    rw [List.getElem?_take] at hd
    split at hd
    · rename_i hlt
      rw [List.getElem?_drop] at hd
      have := hc _ d hd
      have hlt2 : off + i < cs.length := (List.getElem?_eq_some_iff.1 hd).1
      have e : (((row.toList.drop off).take ti.size).toArray).getD i undef = row.getD (off + i) undef := by
        rw [Array.getD_eq_getD_getElem?, Array.getD_eq_getD_getElem?]
        simp [List.getElem?_take, hlt]
      rw [e]; exact this
    · cases hd
  | false =>
    rw [hk] at h
    simp only [Bool.false_eq_true, if_false] at h ⊢
    cases hd : cs[off]? with
    | none => rw [hd] at h; exact h.elim
    | some d =>
      rw [hd] at h
      exact ⟨fun h => h.elim, fun _ => by rw [hrow]; exact (List.getElem?_eq_some_iff.1 hd).1, d, h, hc off d hd⟩
theorem partP_sound {ti : TI} {cs : List Pd} {off : Nat} {k : D → Prop} (h : partP ti cs off k) {row : Array Value} {s : Nat → Option Sg} (o : Nat)
    (hi : ∀ (j : Nat) c, cs[j]? = some c → o + j < row.size) (hc : ∀ (j : Nat) c, cs[j]? = some c → PR F w c (row.getD (o + j) undef)) :
    (ti.k.isAgg = true → (o + off) + ti.size ≤ row.size ∨ ti.size = 0) ∧ (ti.k.isAgg = false → o + off < row.size) ∧
    ∃ d, k d ∧ DR F w M s d (if ti.k.isAgg then .agg ((row.toList.drop (o + off)).take ti.size).toArray else row.getD (o + off) undef) := by
  unfold partP at h
  cases hk : ti.k.isAgg with
  | true =>
    rw [hk] at h
    simp only [if_true] at h
    have hsz : (o + off) + ti.size ≤ row.size ∨ ti.size = 0 := by
      rcases Nat.eq_zero_or_pos ti.size with h0 | h0
      · exact .inr h0
      · refine .inl ?_
        have h1 := h.1
        have hlt : off + ti.size - 1 < cs.length := by omega
        have := hi (off + ti.size - 1) _ (List.getElem?_eq_getElem hlt)
        omega
    refine ⟨fun _ => hsz, fun h => by simp at h, _, h.2, ?_⟩
    simp only [if_true]
    refine .agg _ _ (by rcases hsz with h2 | h2 <;> simp <;> omega) fun i d hd => ?_
    rw [List.getElem?_map] at hd
    cases hx : ((cs.drop off).take ti.size)[i]? with
    | none => rw [hx] at hd; cases hd
    | some x =>
      rw [hx] at hd
      cases hd
      rw [List.getElem?_take] at hx
      split at hx
      · rename_i hlt
        rw [List.getElem?_drop] at hx
        have := hc _ x hx
        have e : (((row.toList.drop (o + off)).take ti.size).toArray).getD i undef = row.getD (o + (off + i)) undef := by
          rw [Array.getD_eq_getD_getElem?, Array.getD_eq_getD_getElem?]
          simp [List.getElem?_take, hlt, Nat.add_assoc]
        rw [e]; exact .p this
      · cases hx
  | false =>
    rw [hk] at h
    simp only [Bool.false_eq_true, if_false] at h ⊢
    cases hd : cs[off]? with
    | none => rw [hd] at h; exact h.elim
    | some d =>
      rw [hd] at h
      exact ⟨fun h => h.elim, fun _ => hi off d hd, .p d, h, .p (hc off d hd)⟩
end
end Go.Am
namespace Go.Am
open Go
section
variable {P : Program} {c : Ctx} {st : St} {a : Act} {w : World} {F : Nat → Prop} {M : Nat → Mb}
theorem sg_of_get {h : Hp} {id : Nat} {o : AO} (hg : get h id = some o) : sg h id = some o.sg := by simp [sg, hg]
theorem sg_box {h : Hp} {id : Nat} (hg : sg h id = some .box) : ∃ o, get h id = some o ∧ o.sg = .box := by
  unfold sg at hg
  cases ho : get h id with
  | none => rw [ho] at hg; cases hg
  | some o => rw [ho] at hg; exact ⟨o, rfl, Option.some.inj hg⟩
theorem sg_arr {h : Hp} {id sz n : Nat} (hg : sg h id = some (.arr sz n)) : (∃ t es, get h id = some (.arr t sz es) ∧ es.length = n) ∨ (∃ es, get h id = some (.fro sz es) ∧ es.length = n) ∨ (∃ s, get h id = some (.sem s) ∧ s.sg = .arr sz n) ∨ (∃ t es i c d, get h id = some (.arx t sz es i c d) ∧ es.length = n) := by
  unfold sg at hg
  cases ho : get h id with
  | none => rw [ho] at hg; cases hg
  | some o =>
    rw [ho] at hg
    cases o <;> simp [AO.sg] at hg
    · obtain ⟨rfl, h2⟩ := hg; exact .inl ⟨_, _, rfl, h2⟩
    · obtain ⟨rfl, h2⟩ := hg; exact .inr (.inl ⟨_, rfl, h2⟩)
    · exact .inr (.inr (.inl ⟨_, rfl, hg⟩))
    · obtain ⟨rfl, h2⟩ := hg; exact .inr (.inr (.inr ⟨_, _, _, _, _, rfl, h2⟩))
theorem HR.row (hr : HR F w M st.hp) {id sz : Nat} {es : List (List Pd)} (hg : (∃ t, get st.hp id = some (.arr t sz es)) ∨ get st.hp id = some (.fro sz es)) :
    0 < sz ∧ es.length ≤ (M id).cap ∧ (∀ (i : Nat) e, es[i]? = some e → e.length = sz) ∧ ((M id).cap ≠ 0 → ∃ row t fr, w.heap[(M id).blk]? = some (.cells row t fr) ∧ row.size = (M id).cap * sz ∧
        ∀ (i : Nat) e (j : Nat) c, es[i]? = some e → e[j]? = some c → PR F w c (row.getD (i * sz + j) undef)) := by
  rcases hg with ⟨t, hg⟩ | hg
  · obtain ⟨h1, h2, _, h3, h4⟩ := hr.obj id _ hg
    exact ⟨h1, h2, h3, fun hc => by obtain ⟨_, row, ⟨fr, h5, _⟩, h6⟩ := h4 hc; exact ⟨row, t, fr, h5, h6⟩⟩
  · obtain ⟨h1, h2, h3, h4⟩ := hr.obj id _ hg
    exact ⟨h1, h2, h3, fun hc => by obtain ⟨_, row, t, fr, h5⟩ := h4 hc; exact ⟨row, t, fr, h5⟩⟩
theorem row_lt {i j n sz cap : Nat} (h1 : i < n) (h2 : n ≤ cap) (h3 : j < sz) : i * sz + j < cap * sz := by
  have : (i + 1) * sz ≤ cap * sz := Nat.mul_le_mul_right _ (by omega)
  rw [Nat.add_mul] at this
  omega
theorem loadD_sound (hr : HR F w M st.hp) {t : TypeId} {d : D} {k : D → Prop} (h : loadD P st.hp t d k) {v : Value} (hv : DR F w M (sg st.hp) d v) :
    ∃ d' v', k d' ∧ DR F w M (sg st.hp) d' v' ∧ (Instr.loadAt t v).run P w = .ok v' w := by
  unfold loadD at h
  cases ht : tiOf P t with
  | none => rw [ht] at h; simp at h
  | some ti =>
    rw [ht] at h
    obtain ⟨i, u, z, hi, hu, hz, rfl⟩ := tiOf_some ht
    cases d with
    | ptr id off =>
      simp only at h
      cases ho : get st.hp id with
      | none => rw [ho] at h; exact h.elim
      | some o =>
        rw [ho] at h
        cases o with
        | box cs ty =>
          cases hv with
          | ptr _ _ hs =>
            obtain ⟨h1, row, e, h2, h3, h4⟩ := hr.obj id _ ho
            obtain ⟨hp1, hp2, d', hk, hd⟩ := partD_sound (F := F) (w := w) (M := M) h (s := sg st.hp) h3 (fun j d hd => (h4.1 j d hd).1)
            exact ⟨d', _, hk, hd, by simp [Instr.loadAt, Instr.sureAddr, run_loadVar_at hi hu h2 hp1 hp2]⟩
        | arr _ _ _ => exact h.elim
        | fro _ _ => exact h.elim
        | iter _ _ => exact h.elim
        | glob _ _ => exact h.elim
        | sem _ => exact h.elim
        | mp _ => exact h.elim
        | nst _ _ _ _ _ _ => exact h.elim
        | arx _ _ _ _ _ _ => exact h.elim
    | pe cs =>
      simp only at h
      cases hv with
      | pe _ b off row e fr hF hh hi' hp =>
        obtain ⟨hp1, hp2, d', hk, hd⟩ := partP_sound (F := F) (w := w) (M := M) h (s := sg st.hp) off hi' hp
        exact ⟨d', _, hk, hd, by simp only [Instr.loadAt, Instr.sureAddr, Sem.run_bind, Sem.run_pure, Result.andThen_ok]; exact run_loadVar_at hi hu hh hp1 hp2⟩
    | ea id j q N =>
      simp only at h
      have key : ∀ (sz : Nat) (es : List (List Pd)), ((∃ t, get st.hp id = some (.arr t sz es)) ∨ get st.hp id = some (.fro sz es)) → sg st.hp id = some (.arr sz es.length) → N = es.length →
          partP ⟨i.size, i.bytes, TK.of u, ofV z⟩ (es.getD j []) q k → ∃ d' v', k d' ∧ DR F w M (sg st.hp) d' v' ∧ (Instr.loadAt t v).run P w = .ok v' w := by
        intro sz es hg hsg hN hpart
        cases hv with
        | ea _ _ _ _ sz' n v hs hN' _ h2 =>
          rw [hsg] at hs
          simp only [Option.some.injEq, Sg.arr.injEq] at hs
          obtain ⟨rfl, rfl⟩ := hs
          obtain ⟨rfl, hlt⟩ := h2 hN
          obtain ⟨h1, h3, h4, h5⟩ := hr.row hg
          obtain ⟨row, e, fr, h6, h7, h8⟩ := h5 (by omega)
          have hej : es[j]? = some (es.getD j []) := by simp [List.getD, hlt]
          have hlen := h4 j _ hej
          obtain ⟨hp1, hp2, d', hk, hd⟩ := partP_sound (F := F) (w := w) (M := M) hpart (s := sg st.hp) (row := row) (j * sz)
            (fun q c hc => by rw [h7]; exact row_lt hlt h3 (by have := (List.getElem?_eq_some_iff.1 hc).1; omega)) (fun q c hc => h8 j _ q c hej hc)
          exact ⟨d', _, hk, hd, by simp [Instr.loadAt, Instr.sureAddr, run_loadVar_at hi hu h6 hp1 hp2]⟩
      cases ho : get st.hp id with
      | none => rw [ho] at h; exact h.elim
      | some o =>
        rw [ho] at h
        cases o with
        | box cs ty => exact h.elim
        | arr t' sz es => exact key sz es (.inl ⟨t', ho⟩) (sg_of_get ho) h.1 h.2
        | fro sz es => exact key sz es (.inr ho) (sg_of_get ho) h.1 h.2
        | iter _ _ => exact h.elim
        | glob _ _ => exact h.elim
        | sem _ => exact h.elim
        | mp _ => exact h.elim
        | nst _ _ _ _ _ _ => exact h.elim
        | arx t' sz es i0 c0 d0 =>
          have hx : ArxR F w M (sg st.hp) (M id) t' sz es i0 c0 d0 := hr.obj id _ ho
          have hsg := sg_of_get ho
          obtain ⟨row, ⟨fr, h6, _⟩, h7, h8, h9, h10⟩ := hx.row
          have hcap : 0 < (M id).cap := by have := hx.le; have := hx.at_.1; omega
          have hN : N = es.length := by
            by_cases hb : j = i0 ∧ q = c0
            · exact (h.1 (by simpa using hb)).1.1
            · exact (h.2 (by simpa using hb)).1.1
          have hag : (TK.of u).isAgg = false := by
            by_cases hb : j = i0 ∧ q = c0
            · exact (h.1 (by simpa using hb)).1.2
            · exact (h.2 (by simpa using hb)).1.2
          cases hv with
          | ea _ _ _ _ sz' n v hs hN' _ h2 =>
            rw [hsg] at hs
            simp only [AO.sg, Option.some.injEq, Sg.arr.injEq] at hs
            obtain ⟨rfl, rfl⟩ := hs
            obtain ⟨rfl, hlt⟩ := h2 hN
            have hej : es[j]? = some (es.getD j []) := by simp [List.getD, hlt]
            have hlen := hx.wid j _ hej
            by_cases hb : j = i0 ∧ q = c0
            · obtain ⟨rfl, rfl⟩ := hb
              have hlt2 : j * sz + q < row.size := by rw [h7]; exact row_lt hlt hx.le hx.at_.2
              exact ⟨_, _, (h.1 (by simp)).2, h9, by simp [Instr.loadAt, Instr.sureAddr, run_loadVar_at hi hu h6 (fun h => by rw [hag] at h; cases h) (fun _ => hlt2), hag]⟩
            · have hpart := (h.2 (by simpa using hb)).2
              unfold partP at hpart
              simp only [hag, Bool.false_eq_true, if_false] at hpart
              cases hd : (es.getD j [])[q]? with
              | none => rw [hd] at hpart; exact hpart.elim
              | some d =>
                rw [hd] at hpart
                have hq := (List.getElem?_eq_some_iff.1 hd).1
                have hlt2 : j * sz + q < row.size := by rw [h7]; exact row_lt hlt hx.le (by omega)
                exact ⟨_, _, hpart, .p (h8 j _ q d hej hd hb), by simp [Instr.loadAt, Instr.sureAddr, run_loadVar_at hi hu h6 (fun h => by rw [hag] at h; cases h) (fun _ => hlt2), hag]⟩
    | nea id j n =>
      simp only at h
      cases ho : get st.hp id with
      | none => rw [ho] at h; exact h.elim
      | some o =>
        rw [ho] at h
        cases o with
        | nst t' e' sz kk rows hole =>
          obtain ⟨⟨h1, h2, h3⟩, hk⟩ := h
          cases hv with
          | nea _ _ _ sz2 m k2 b hs hN hi2 hl =>
            rw [sg_of_get ho] at hs
            simp only [AO.sg, Option.some.injEq, Sg.nst.injEq] at hs
            obtain ⟨rfl, rfl, rfl⟩ := hs
            obtain ⟨rfl, hc⟩ := hl h1
            have hn : NstR F w (M id) t' e' sz rows hole := hr.obj id _ ho
            obtain ⟨_, row, hrow, hsz, hcells⟩ := hn.outer hc
            have hjr : rows[j]? = some (rows.getD j []) := by simp [List.getD, show j < rows.length by omega]
            have hjx : j < (M id).xs.length := by rw [hn.xl]; omega
            have hjb : (M id).xs[j]? = some ((M id).xs[j]) := List.getElem?_eq_getElem hjx
            obtain ⟨ad, h4, h5⟩ := hcells j _ _ hjr hjb h2
            have hA := hn.rows j _ _ hjr hjb h2
            have hlt2 : j < row.size := by have := hn.le; omega
            have h3' : (TK.of u).isAgg = false := h3
            refine ⟨_, row.getD j undef, hk, ?_, by simp [Instr.loadAt, Instr.sureAddr, run_loadVar_at hi hu hrow (fun h => by rw [h3'] at h; cases h) (fun _ => hlt2), h3']⟩
            rw [h4]
            exact .nr id j _ _ sz rows.length kk _ (by rw [sg_of_get ho]; rfl) (Nat.le_refl _) ⟨_, _, rfl⟩ (fun _ => ⟨_, hjb, hA.2.1, ad, rfl, h5⟩)
        | _ => exact h.elim
    | _ => simp at h
theorem beq_dec {α : Type} [BEq α] [LawfulBEq α] [DecidableEq α] (a b : α) : (a == b) = decide (a = b) := by rw [Bool.eq_iff_iff]; simp
theorem bne_dec {α : Type} [BEq α] [LawfulBEq α] [DecidableEq α] (a b : α) : (a != b) = !decide (a = b) := by rw [Bool.eq_iff_iff]; simp
theorem size_str (l : List UInt8) : (⟨l.toArray⟩ : ByteArray).size = l.length := by simp [ByteArray.size]
theorem str_append (a b : List UInt8) : ((⟨a.toArray⟩ : ByteArray) ++ (⟨b.toArray⟩ : ByteArray)) = ⟨(a ++ b).toArray⟩ := by
  apply ByteArray.ext
  simp
theorem binD_sound {op : BinOp} {x y : D} {k : D → Prop} (h : binD op x y k) {s : Nat → Option Sg} {vx vy : Value} (hx : DR F w M s x vx) (hy : DR F w M s y vy) (t : TypeId) (ox oy : Operand) :
    ∃ d v, k d ∧ DR F w M s d v ∧ (do eqGuard op t ox oy vx vy; binOp op t vx vy : Sem Value).run P w = .ok v w := by
  have keyI : ∀ {k1 k2 : IntKind} {p q : Int}, x = .p (.int k1 p) → y = .p (.int k2 q) → vx = .int k1 p ∧ vy = .int k2 q := by
    rintro k1 k2 p q rfl rfl
    cases hx with | p hx => cases hx; cases hy with | p hy => cases hy; exact ⟨rfl, rfl⟩
  have keyS : ∀ {p q : List UInt8}, x = .p (.str p) → y = .p (.str q) → vx = .string ⟨p.toArray⟩ ∧ vy = .string ⟨q.toArray⟩ := by
    rintro p q rfl rfl
    cases hx with | p hx => cases hx; cases hy with | p hy => cases hy; exact ⟨rfl, rfl⟩
  unfold binD at h
  split at h
  all_goals first
    | exact h.elim
    | (obtain ⟨rfl, h⟩ := h
       obtain ⟨rfl, rfl⟩ := keyI rfl rfl
       first
         | (refine ⟨_, _, h, .p (.int _ _), ?_⟩; first | (simp [eqGuard, binOp, Op.intArith]; done) | (simp [eqGuard, binOp, Op.intBits]; done))
         | exact ⟨_, _, h.2, .p (.int _ _), by simp [eqGuard, binOp, Op.intDiv, h.1]⟩
         | (refine ⟨_, _, h, .p (.bool _), ?_⟩; first | (simp [eqGuard, binOp, Op.intCmp]; done) | (simp [eqGuard, binOp, Op.intCmp, beq_dec, bne_dec]; done)))
    | (obtain ⟨h0, h⟩ := h
       obtain ⟨rfl, rfl⟩ := keyI rfl rfl
       exact ⟨_, _, h, .p (.int _ _), by simp [eqGuard, binOp, Op.shift, show ¬ _ < (0 : Int) from Int.not_lt.2 h0]⟩)
    | (obtain ⟨rfl, rfl⟩ := keyS rfl rfl
       first
         | (refine ⟨_, _, h, .p (.bool _), ?_⟩; simp [eqGuard, binOp, Op.stringOp, beq_dec]; done)
         | (refine ⟨_, _, h.2, .p (.str _), ?_⟩
            have h1 := h.1
            simp only [maxLen] at h1
            simp only [eqGuard, binOp, Op.stringOp, size_str, Sem.run_bind]
            simp [str_append, IntKind.max, IntKind.bits, IntKind.signed]
            omega))
theorem TK.of_bool {u : TypeDesc} (h : TK.of u = .bool) : u = .bool := by cases u <;> simp_all [TK.of]
theorem unD_sound {op : UnOp} {x : D} {k : D → Prop} (h : unD op x k) {s : Nat → Option Sg} {vx : Value} (hx : DR F w M s x vx) :
    ∃ d v, k d ∧ DR F w M s d v ∧ (Op.unary op vx).run P w = .ok v w := by
  unfold unD at h
  split at h
  · cases hx with | p hx => cases hx; exact ⟨_, _, h, .p (.bool _), by simp [Op.unary]⟩
  · cases hx with | p hx => cases hx; exact ⟨_, _, h, .p (.int _ _), by simp [Op.unary, Op.intArith]⟩
  · exact h.elim
theorem pickD_sound {x y z : D} {k : D → Prop} (h : pickD x y z k) {s : Nat → Option Sg} {vx vy vz : Value} (hx : DR F w M s x vx) (hy : DR F w M s y vy) (hz : DR F w M s z vz) :
    ∃ d v, k d ∧ DR F w M s d v ∧ (do pure (.value (if ← asBool vx then vy else vz)) : Sem Next).run P w = .ok (.value v) w := by
  unfold pickD at h
  split at h
  · rename_i t b1 b2
    cases hx with | p hx => cases hx; cases hy with | p hy => cases hy; cases hz with | p hz => cases hz; refine ⟨_, .bool (if t then b1 else b2), h, .p (.bool _), ?_⟩; cases t <;> simp [asBool]
  · cases hx with | p hx =>
      cases hx
      rename_i t _
      by_cases ht : t = true
      · subst ht; exact ⟨_, _, h.1 rfl, hy, by simp [asBool]⟩
      · have ht' : t = false := by simpa using ht
        subst ht'; exact ⟨_, _, h.2 rfl, hz, by simp [asBool]⟩
  · exact h.elim
theorem decB_len : ∀ {es : List (List Pd)} {l : List UInt8}, decB es = some l → l.length = es.length
  | [], l, h => by simp [decB] at h; subst h; rfl
  | y :: r, l, h => by
    unfold decB at h
    split at h
    · rename_i he; cases he
    · rename_i n r' he
      cases he
      cases hr : decB r with
      | none => rw [hr] at h; cases h
      | some l' => rw [hr] at h; cases h; simp [decB_len hr]
    · cases h
theorem decB_get : ∀ {es : List (List Pd)} {l : List UInt8}, decB es = some l → ∀ (j : Nat), j < es.length → ∃ n : Int, es[j]? = some [.int .u8 n] ∧ l[j]? = some (UInt8.ofNat n.toNat)
  | [], l, h, j, hj => by simp at hj
  | y :: r, l, h, j, hj => by
    unfold decB at h
    split at h
    · rename_i he; cases he
    · rename_i n r' he
      cases he
      cases hr : decB r with
      | none => rw [hr] at h; cases h
      | some l' =>
        rw [hr] at h; cases h
        cases j with
        | zero => exact ⟨n, rfl, rfl⟩
        | succ j =>
          obtain ⟨m, h1, h2⟩ := decB_get hr j (by simpa using hj)
          exact ⟨m, by simpa using h1, by simpa using h2⟩
    · cases h
theorem exists_list {n : Nat} {p : Nat → Int → Prop} (h : ∀ j, j < n → ∃ x, p j x) : ∃ l : List Int, l.length = n ∧ ∀ j (hj : j < l.length), p j l[j] := by
  induction n with
  | zero => exact ⟨[], rfl, fun j hj => by simp at hj⟩
  | succ n ih =>
    obtain ⟨l, h1, h2⟩ := ih fun j hj => h j (by omega)
    obtain ⟨x, hx⟩ := h n (by omega)
    refine ⟨l ++ [x], by simp [h1], fun j hj => ?_⟩
    by_cases e : j < l.length
    · rw [List.getElem_append_left e]; exact h2 j e
    · have : j = n := by simp at hj; omega
      subst this
      rw [List.getElem_append_right (by omega)]
      simpa [h1] using hx
theorem foldl_push_ints (ns : List Int) : ns.foldl (fun r n => r.push (UInt8.ofNat n.toNat)) ByteArray.empty = ⟨(ns.map fun n => UInt8.ofNat n.toNat).toArray⟩ := by
  have key : ∀ (ns : List Int) (r : ByteArray), ns.foldl (fun r n => r.push (UInt8.ofNat n.toNat)) r = ⟨r.data ++ (ns.map fun n => UInt8.ofNat n.toNat).toArray⟩ := by
    intro ns
    induction ns with
    | nil => intro r; simp
    | cons n ns ih => intro r; simp only [List.foldl_cons, ih]; simp [ByteArray.push]
  rw [key]
  have he0 : ByteArray.empty.data = #[] := rfl
  rw [he0]
  simp
theorem convD_sound {ts td : TypeId} {x : D} {k : D → Prop} (h : convD P ts td x k) {s : Nat → Option Sg} {vx : Value} (hx : DR F w M s x vx) :
    ∃ d v, k d ∧ DR F w M s d v ∧ (convert ts td vx).run P w = .ok v w := by
  unfold convD at h
  split at h
  · rename_i t1 _ _ kd _ kx n h1 h2
    obtain ⟨i1, u1, _, _, hu1, _, _⟩ := tiOf_some h1
    obtain ⟨i2, u2, _, _, hu2, _, e2⟩ := tiOf_some h2
    simp only [TI.mk.injEq] at e2
    have hu2' := TK.of_int e2.2.2.1.symm
    subst hu2'
    cases hx with | p hx =>
      cases hx
      refine ⟨_, _, h, .p (.int _ _), ?_⟩
      simp only [convert, Sem.run_bind, run_underlying hu1, run_underlying hu2, Result.andThen_ok, Conv.intToInt]
      rfl
  · rename_i t1 _ _ _ l h1 h2
    obtain ⟨i1, u1, _, _, hu1, _, _⟩ := tiOf_some h1
    obtain ⟨i2, u2, _, _, hu2, _, e2⟩ := tiOf_some h2
    simp only [TI.mk.injEq] at e2
    have hu2' := TK.of_string e2.2.2.1.symm
    subst hu2'
    cases hx with | p hx =>
      cases hx
      refine ⟨_, _, h, .p (.str _), ?_⟩
      simp only [convert, Sem.run_bind, run_underlying hu1, run_underlying hu2, Result.andThen_ok]
      cases u1 <;> simp
  · rename_i t1 e _ _ _ _ es h1 h2
    split at h
    case h_2 => exact h.elim
    rename_i b3 z3 l h3 h4
    obtain ⟨i1, u1, _, _, hu1, _, e1⟩ := tiOf_some h1
    obtain ⟨i2, u2, _, _, hu2, _, e2⟩ := tiOf_some h2
    obtain ⟨i3, u3, _, _, hu3, _, e3⟩ := tiOf_some h3
    simp only [TI.mk.injEq] at e1 e2 e3
    obtain rfl := TK.of_slice e1.2.2.1.symm
    obtain rfl := TK.of_string e2.2.2.1.symm
    obtain rfl := TK.of_int e3.2.2.1.symm
    refine ⟨_, .string ⟨l.toArray⟩, h, .p (.str l), ?_⟩
    cases hx with | p hx =>
      have hlen := decB_len h4
      cases hx with
      | sl0 ad cap =>
        obtain rfl : l = [] := by simp [decB] at h4; exact h4
        rw [run_convert_bytes_string w ts td e ad 0 cap hu1 hu3 hu2]
        cases ad with
        | none => simp [Conv.bytesToString]; rfl
        | some ad =>
          have := run_bytesToString (P := P) w ad 0 cap [] (run_loadCells_list (P := P) w ad [] (fun j v hj => by simp at hj))
          rw [this]; rfl
      | sl _ b off cap sz row t fr hF hh hc hs hi hp =>
        have hcell : ∀ (j : Nat) (hj : j < es.length), ∃ n : Int, w.cell? ((⟨b, off, none⟩ : Addr).add j) = some (.int .u8 n) ∧ l[j]? = some (UInt8.ofNat n.toNat) := by
          intro j hj
          obtain ⟨n, h5, h6⟩ := decB_get h4 j hj
          have hsz : sz = 1 := (hs j _ h5).symm
          subst hsz
          have h7 := hi j _ 0 (.int .u8 n) h5 rfl
          have h8 := hp j _ 0 (.int .u8 n) h5 rfl
          rw [Nat.mul_one, Nat.add_zero] at h7 h8
          refine ⟨n, ?_, h6⟩
          rw [Addr.add_lit]
          have hcl : w.cell? ⟨b, off + j, none⟩ = row[off + j]? := by simp [World.cell?, hh]
          rw [hcl, Array.getElem?_eq_getElem h7]
          rw [Array.getD_eq_getD_getElem?, Array.getElem?_eq_getElem h7, Option.getD_some] at h8
          generalize row[off + j] = y at h8
          cases h8
          rfl
        have hns : ∃ ns : List Int, ns.length = es.length ∧ ∀ j (hj : j < ns.length), w.cell? ((⟨b, off, none⟩ : Addr).add j) = some (.int .u8 ns[j]) ∧ l[j]? = some (UInt8.ofNat ns[j].toNat) :=
          exists_list (n := es.length) (p := fun j n => w.cell? ((⟨b, off, none⟩ : Addr).add j) = some (.int .u8 n) ∧ l[j]? = some (UInt8.ofNat n.toNat)) hcell
        obtain ⟨ns, hn1, hn2⟩ := hns
        rw [run_convert_bytes_string w ts td e _ es.length cap hu1 hu3 hu2]
        have hl := run_loadCells_list (P := P) w ⟨b, off, none⟩ (ns.map (Value.int .u8)) (fun j v hj => by
          have hj' : j < ns.length := by simpa using (List.getElem?_eq_some_iff.1 hj).1
          rw [(hn2 j hj').1]
          simp [List.getElem?_eq_getElem hj'] at hj
          rw [← hj])
        simp only [List.length_map] at hl
        rw [hn1] at hl
        have := run_bytesToString (P := P) w ⟨b, off, none⟩ es.length cap ns hl
        rw [this]
        have hll : ns.map (fun n => UInt8.ofNat n.toNat) = l := by
          refine List.ext_getElem? fun j => ?_
          by_cases hj : j < ns.length
          · rw [List.getElem?_map, List.getElem?_eq_getElem hj, (hn2 j hj).2]; rfl
          · rw [List.getElem?_eq_none (by simpa using hj), List.getElem?_eq_none (by omega)]
        rw [foldl_push_ints, hll]
  · exact h.elim
theorem fieldAddrD_sound {t : TypeId} {x : D} {f : Nat} {hp : Hp} {k : D → Prop} (h : fieldAddrD P t x f hp k) {vx : Value} (hx : DR F w M (sg hp) x vx) :
    ∃ d v, k d ∧ DR F w M (sg hp) d v ∧ (Instr.fieldAt t vx f).run P w = .ok v w := by
  unfold fieldAddrD at h
  cases ht : tiOf P t with
  | none => rw [ht] at h; simp at h
  | some ti =>
    obtain ⟨i, u, z, hi, hu, hz, rfl⟩ := tiOf_some ht
    rw [ht] at h
    try simp only at h
    split at h
    case h_2 => exact h.elim
    rename_i fs z' he
    simp only [Option.some.injEq, TI.mk.injEq] at he
    obtain ⟨gs, rfl, rfl⟩ := TK.of_struct he.2.2.1
    rw [List.getElem?_map] at h
    cases hf : gs.toList[f]? with
    | none => rw [hf] at h; simp at h
    | some fd =>
      rw [hf] at h
      simp only [Option.map_some] at h
      have hf' : gs[f]? = some fd := by simpa using hf
      cases hft : tiOf P fd.type with
      | none => rw [hft] at h; exact h.elim
      | some tj =>
        rw [hft] at h
        obtain ⟨i2, u2, z2, hi2, _, _, rfl⟩ := tiOf_some hft
        obtain ⟨hne, h⟩ := h
        simp only at hne
        have run : ∀ b off, vx = .pointer (some ⟨b, off, none⟩) → (Instr.fieldAt t vx f).run P w = .ok (.pointer (some ⟨b, off + fd.offset, none⟩)) w := by
          rintro b off rfl
          simp [Instr.fieldAt, run_underlying hu, hf', Instr.sureAddr, fieldPlace, run_sizeOf' hi2, hne, Addr.add_lit]
        cases x with
        | ptr id off =>
          cases hx with
          | ptr _ _ hs => exact ⟨_, _, h, .ptr id (off + fd.offset) hs, run _ _ rfl⟩
        | pe cs =>
          cases hx with
          | pe _ b off row e fr hF hh hi' hp' =>
            refine ⟨_, _, h, .pe _ b (off + fd.offset) row e fr hF hh (fun j c hj => ?_) (fun j c hj => ?_), run _ _ rfl⟩
            · rw [List.getElem?_drop] at hj; have := hi' _ c hj; omega
            · rw [List.getElem?_drop] at hj; have := hp' _ c hj; rwa [Nat.add_assoc]
        | ea id j q N =>
          obtain ⟨hN, h⟩ := h
          cases hx with
          | ea _ _ _ _ sz n v hs hle _ h2 =>
            rw [hs] at hN
            obtain ⟨rfl, hlt⟩ := h2 hN
            exact ⟨_, _, h, .ea id j (q + fd.offset) N sz n _ hs hle ⟨_, rfl⟩ (fun _ => ⟨by rw [Nat.add_assoc], hlt⟩), run _ _ rfl⟩
        | _ => exact h.elim
theorem run_part' {t : TypeId} {i : TypeInfo} {u : TypeDesc} (hi : P.info? t = some i) (hu : P.underlying t = some u) {cs : Array Value} {off : Nat}
    (hone : (TK.of u).isAgg = false → off < cs.size) :
    (part t cs off).run P w = .ok (if (TK.of u).isAgg then .agg ((cs.toList.drop off).take i.size).toArray else cs.getD off undef) w := by
  unfold part
  rw [Sem.run_bind, run_isAgg' hu w]
  simp only [Result.andThen_ok]
  cases hk : (TK.of u).isAgg with
  | false =>
    have hlt := hone hk
    simp [hlt]
  | true =>
    simp only [if_true, run_sizeOf' hi w, Sem.run_bind, Result.andThen_ok, Sem.run_pure]
    congr 2
    apply Array.ext'
    simp [List.drop_take]
theorem cmpK_int {ks : List FK} {X Y : List D} {b : Bool} (h : cmpK (.int :: ks) X Y = some b) : ∃ k a c xs ys b2, X = .p (.int k a) :: xs ∧ Y = .p (.int k c) :: ys ∧ cmpK ks xs ys = some b2 ∧ b = (decide (a = c) && b2) := by
  unfold cmpK at h
  split at h <;> try (first | (cases h; done) | (rename_i e0 _ _; cases e0; done) | (rename_i e0; cases e0; done))
  all_goals first
    | (rename_i e0
       injection e0 with e1 e2
       subst e2
       split at h
       · rename_i ek
         subst ek
         obtain ⟨b2, h1, rfl⟩ := Option.map_eq_some_iff.1 h
         exact ⟨_, _, _, _, _, b2, rfl, rfl, h1, rfl⟩
       · cases h)
    | skip
theorem cmpK_bool {ks : List FK} {X Y : List D} {b : Bool} (h : cmpK (.bool :: ks) X Y = some b) : ∃ a c xs ys b2, X = .p (.bool a) :: xs ∧ Y = .p (.bool c) :: ys ∧ cmpK ks xs ys = some b2 ∧ b = ((a == c) && b2) := by
  unfold cmpK at h
  split at h <;> try (first | (cases h; done) | (rename_i e0 _ _; cases e0; done) | (rename_i e0; cases e0; done))
  all_goals first
    | (rename_i e0
       injection e0 with e1 e2
       subst e2
       obtain ⟨b2, h1, rfl⟩ := Option.map_eq_some_iff.1 h
       exact ⟨_, _, _, _, b2, rfl, rfl, h1, rfl⟩)
    | skip
theorem cmpK_string {ks : List FK} {X Y : List D} {b : Bool} (h : cmpK (.str :: ks) X Y = some b) : ∃ a c xs ys b2, X = .p (.str a) :: xs ∧ Y = .p (.str c) :: ys ∧ cmpK ks xs ys = some b2 ∧ b = (decide (a = c) && b2) := by
  unfold cmpK at h
  split at h <;> try (first | (cases h; done) | (rename_i e0 _ _; cases e0; done) | (rename_i e0; cases e0; done))
  all_goals first
    | (rename_i e0
       injection e0 with e1 e2
       subst e2
       obtain ⟨b2, h1, rfl⟩ := Option.map_eq_some_iff.1 h
       exact ⟨_, _, _, _, b2, rfl, rfl, h1, rfl⟩)
    | skip
theorem eqFields_sound {s : Nat → Option Sg} {vx vy : Array Value} {xs ys : List D} (hlx : vx.size = xs.length) (hly : vy.size = ys.length) (hx : ∀ (i : Nat) c, xs[i]? = some c → DR F w M s c (vx.getD i undef)) (hy : ∀ (i : Nat) c, ys[i]? = some c → DR F w M s c (vy.getD i undef)) (d : Nat) :
    ∀ (fs : List Field) (i : Nat) (ks : List FK) (b : Bool), flatFs P i fs = some ks → cmpK ks (xs.drop i) (ys.drop i) = some b → (Op.eqFields (d + 1) vx vy fs).run P w = .ok b w := by
  intro fs
  induction fs with
  | nil =>
    intro i ks b hf hc
    simp only [flatFs, Option.some.injEq] at hf
    subst hf
    cases hxs : xs.drop i <;> cases hys : ys.drop i <;> rw [hxs, hys] at hc <;> simp [cmpK] at hc
    subst hc
    rfl
  | cons f fs ih =>
    intro i ks b hf hc
    simp only [flatFs] at hf
    split at hf
    case isFalse => cases hf
    rename_i hn
    obtain ⟨hn, hoff⟩ := hn
    have dropc : ∀ {zs : List D} {q : D} {r : List D}, zs.drop i = q :: r → zs[i]? = some q ∧ i < zs.length ∧ zs.drop (i + 1) = r := fun {zs q r} h => by
      have h1 : i < zs.length := by
        by_cases h2 : i < zs.length
        · exact h2
        · rw [List.drop_eq_nil_of_le (by omega)] at h; cases h
      rw [List.drop_eq_getElem_cons h1] at h
      cases h
      exact ⟨by simp, h1, rfl⟩
    have step : ∀ {u : TypeDesc} {inf : TypeInfo} (hu : P.underlying f.type = some u) (hi : P.info? f.type = some inf) (ha : (TK.of u).isAgg = false) {b1 b2 : Bool} {p q : Value},
        vx.getD i undef = p → vy.getD i undef = q → i < vx.size → i < vy.size → (Op.equalIn (d + 1) f.type p q).run P w = .ok b1 w → (b1 = true → (Op.eqFields (d + 1) vx vy fs).run P w = .ok b2 w) →
        (Op.eqFields (d + 1) vx vy (f :: fs)).run P w = .ok (b1 && b2) w := by
      intro u inf hu hi ha b1 b2 p q hp hq hlx' hly' he hr
      simp only [Op.eqFields, hn, ne_eq, not_false_eq_true, if_true, Sem.run_bind]
      rw [run_part' (w := w) hi hu (fun _ => by omega)]
      simp only [ha, hoff, hp, Result.andThen_ok, Bool.false_eq_true, if_false]
      rw [run_part' (w := w) hi hu (fun _ => by omega)]
      simp only [ha, hq, Result.andThen_ok, he, Bool.false_eq_true, if_false]
      cases b1
      · simp
      · simp [hr rfl]
    have both : ∀ (l : List FK) {x y : D} {xr yr : List D} {b2 : Bool}, xs.drop i = x :: xr → ys.drop i = y :: yr → flatFs P (i + 1) fs = some l → cmpK l xr yr = some b2 → (Op.eqFields (d + 1) vx vy fs).run P w = .ok b2 w := by
      intro l x y xr yr b2 hxs hys hl hc2
      obtain ⟨_, _, rx⟩ := dropc hxs
      obtain ⟨_, _, ry⟩ := dropc hys
      exact ih (i + 1) l b2 hl (by rw [rx, ry]; exact hc2)
    split at hf
    · rename_i l h1 h2
      simp only [Option.some.injEq] at hf
      subst hf
      obtain ⟨inf, u, z, hi, hu, _, e⟩ := tiOf_some h1
      simp only [TI.mk.injEq] at e
      obtain rfl := TK.of_int e.2.2.1.symm
      obtain ⟨k1, a1, a2, xr, yr, b2, hxs, hys, hc2, rfl⟩ := cmpK_int hc
      obtain ⟨gx, lx, _⟩ := dropc hxs
      obtain ⟨gy, ly, _⟩ := dropc hys
      have dx := hx i _ gx
      have dy := hy i _ gy
      refine step hu hi rfl (p := .int k1 a1) (q := .int k1 a2) ?_ ?_ (by omega) (by omega) ?_ (fun _ => both l hxs hys h2 hc2)
      · generalize vx.getD i undef = v at dx; cases dx with | p h => cases h; rfl
      · generalize vy.getD i undef = v at dy; cases dy with | p h => cases h; rfl
      · rw [run_equalIn_int w d f.type k1 _ a1 a2 hu, beq_dec]
    · rename_i l h1 h2
      simp only [Option.some.injEq] at hf
      subst hf
      obtain ⟨inf, u, z, hi, hu, _, e⟩ := tiOf_some h1
      simp only [TI.mk.injEq] at e
      obtain rfl := TK.of_bool e.2.2.1.symm
      obtain ⟨a1, a2, xr, yr, b2, hxs, hys, hc2, rfl⟩ := cmpK_bool hc
      obtain ⟨gx, lx, _⟩ := dropc hxs
      obtain ⟨gy, ly, _⟩ := dropc hys
      have dx := hx i _ gx
      have dy := hy i _ gy
      refine step hu hi rfl (p := .bool a1) (q := .bool a2) ?_ ?_ (by omega) (by omega) ?_ (fun _ => both l hxs hys h2 hc2)
      · generalize vx.getD i undef = v at dx; cases dx with | p h => cases h; rfl
      · generalize vy.getD i undef = v at dy; cases dy with | p h => cases h; rfl
      · exact run_equalIn_bool' w d f.type a1 a2 hu
    · rename_i l h1 h2
      simp only [Option.some.injEq] at hf
      subst hf
      obtain ⟨inf, u, z, hi, hu, _, e⟩ := tiOf_some h1
      simp only [TI.mk.injEq] at e
      obtain rfl := TK.of_string e.2.2.1.symm
      obtain ⟨a1, a2, xr, yr, b2, hxs, hys, hc2, rfl⟩ := cmpK_string hc
      obtain ⟨gx, lx, _⟩ := dropc hxs
      obtain ⟨gy, ly, _⟩ := dropc hys
      have dx := hx i _ gx
      have dy := hy i _ gy
      refine step hu hi rfl (p := .string ⟨a1.toArray⟩) (q := .string ⟨a2.toArray⟩) ?_ ?_ (by omega) (by omega) ?_ (fun _ => both l hxs hys h2 hc2)
      · generalize vx.getD i undef = v at dx; cases dx with | p h => cases h; rfl
      · generalize vy.getD i undef = v at dy; cases dy with | p h => cases h; rfl
      · rw [run_equalIn_string w d f.type _ _ hu, ByteArray.toList_eq, ByteArray.toList_eq, beq_dec]
    · cases hf
def fakeF (e : TypeId) (i : Nat) : Field := { name := "x", type := e, offset := i, embedded := false, tag := "", pkgPath := "", byteOffset := 0 }
def fakes (e : TypeId) (s n : Nat) : List Field := (List.range' s n).map (fakeF e)
theorem run_equalIn_array {P : Program} (w : World) (d : Nat) (t e : TypeId) (n : Nat) (xs ys : Array Value) (ht : P.underlying t = some (.array n e)) {i : TypeInfo} (hi : P.info? e = some i) (hs : i.size = 1) :
    (Op.equalIn (d + 1) t (.agg xs) (.agg ys)).run P w = (Op.eqFields d xs ys (fakes e 0 n)).run P w := by
  simp only [Op.equalIn, Sem.run_bind, run_underlying ht, Result.andThen_ok, run_sizeOf' hi, hs, Nat.mul_one]
  rw [Std.Legacy.Range.forIn_eq_forIn_range']
  simp only [Std.Legacy.Range.size, Nat.sub_zero, Nat.add_sub_cancel, Nat.div_one]
  unfold fakes
  generalize List.range' 0 n = fs
  induction fs generalizing w with
  | nil => simp [Op.eqFields]
  | cons f fs ih =>
    simp only [List.forIn_cons, List.map_cons, Op.eqFields, fakeF, Sem.run_bind, Sem.run_ite]
    rw [if_pos (by decide)]
    generalize (part e xs f).run P w = r1
    cases r1 with
    | ok a w1 =>
      simp only [Result.andThen_ok]
      generalize (part e ys f).run P w1 = r2
      cases r2 with
      | ok b w2 =>
        simp only [Result.andThen_ok]
        generalize (Op.equalIn d e a b).run P w2 = r3
        cases r3 with
        | ok r w3 =>
          cases r
          · simp only [Result.andThen_ok, Bool.not_false, if_true, Sem.run_pure]
          · simp only [Result.andThen_ok, Bool.not_true, Bool.false_eq_true, if_false, Sem.run_pure]
            exact ih w3
        | halt x w3 => simp [Result.andThen]
      | halt x w2 => simp [Result.andThen]
    | halt x w1 => simp [Result.andThen]
theorem flat_fakes {P : Program} {e : TypeId} {k : FK} (h : ∀ s, flatFs P s [fakeF e s] = some [k]) : ∀ n s, flatFs P s (fakes e s n) = some (List.replicate n k)
  | 0, s => rfl
  | n + 1, s => by
    have h1 := h s
    have h2 := flat_fakes h n (s + 1)
    have e1 : fakes e s (n + 1) = fakeF e s :: fakes e (s + 1) n := by simp [fakes, List.range'_succ]
    rw [e1]
    simp only [flatFs] at h1 ⊢
    rw [h2]
    split at h1
    case isFalse => cases h1
    rename_i hc
    rw [if_pos hc]
    split at h1 <;> simp_all [List.replicate_succ]
theorem kindT_flat {P : Program} {e : TypeId} {k : FK} (h : kindT P e = some k) : (∃ i, P.info? e = some i ∧ i.size = 1) ∧ ∀ s, flatFs P s [fakeF e s] = some [k] := by
  unfold kindT at h
  split at h
  case h_4 => cases h
  all_goals
    rename_i h1
    obtain ⟨i, u, z, hi, hu, hz, e1⟩ := tiOf_some h1
    simp only [TI.mk.injEq] at e1
    refine ⟨⟨i, hi, e1.1.symm⟩, fun s => ?_⟩
    simp only [Option.some.injEq] at h
    subst h
    simp [flatFs, fakeF, h1]
theorem eqAgg_sound {s : Nat → Option Sg} {vx vy : Value} {t : TypeId} {xs ys : List D} {b : Bool} (h : eqAgg P t xs ys = some b) (hx : DR F w M s (.agg xs) vx) (hy : DR F w M s (.agg ys) vy) :
    P.eqGuardType P.depth t = false ∧ ∃ as bs, vx = .agg as ∧ vy = .agg bs ∧ (Op.equalIn 10000 t (.agg as) (.agg bs)).run P w = .ok b w := by
  unfold eqAgg flatT at h
  obtain ⟨ks, h1, h2⟩ := Option.bind_eq_some_iff.1 h
  split at h1
  case isFalse => cases h1
  rename_i h3
  split at h1
  case h_3 => cases h1
  case h_2 =>
    rename_i n e hu
    cases hk : kindT P e with
    | none => rw [hk] at h1; cases h1
    | some kk =>
      rw [hk] at h1
      simp only [Option.map_some, Option.some.injEq] at h1
      subst h1
      obtain ⟨⟨i, hi, hs⟩, hfl⟩ := kindT_flat hk
      cases hx with | agg _ as hl1 h4 =>
      cases hy with | agg _ bs hl2 h5 =>
      refine ⟨h3.1, as, bs, rfl, rfl, ?_⟩
      rw [run_equalIn_array w 9999 t e n as bs hu hi hs]
      exact eqFields_sound hl1 hl2 h4 h5 9998 (fakes e 0 n) 0 _ b (flat_fakes hfl n 0) (by simpa using h2)
  rename_i fs hu
  cases hx with | agg _ as hl1 h4 =>
  cases hy with | agg _ bs hl2 h5 =>
  refine ⟨h3.1, as, bs, rfl, rfl, ?_⟩
  have hf : P.fieldsOf t = fs := by simp [Program.fieldsOf, hu]
  rw [run_equalIn_struct w 9999 t as bs (by rw [hf]; exact hu) h3.2, hf]
  exact eqFields_sound hl1 hl2 h4 h5 9998 fs.toList 0 ks b h1 (by simpa using h2)
theorem binBD_sound {op : BinOp} {x y : D} {k : D → Prop} {t : TypeId} (h : binBD P op t x y k) {s : Nat → Option Sg} {vx vy : Value} (hx : DR F w M s x vx) (hy : DR F w M s y vy) (ox oy : Operand) :
    ∃ d v, k d ∧ DR F w M s d v ∧ (do eqGuard op t ox oy vx vy; binOp op t vx vy : Sem Value).run P w = .ok v w := by
  unfold binBD at h
  split at h
  · rename_i p q
    split at h
    · rename_i h1
      obtain ⟨_, u1, _, _, hu1, _, e1⟩ := tiOf_some h1
      simp only [TI.mk.injEq] at e1
      obtain rfl := TK.of_bool e1.2.2.1.symm
      cases hx with | p hx => cases hx; cases hy with | p hy =>
      cases hy
      have he : (Op.equal t (.bool p) (.bool q)).run P w = .ok (p == q) w := run_equalIn_bool' w _ t p q hu1
      exact ⟨_, _, h, .p (.bool _), by simp [eqGuard, binOp, he]⟩
    · exact h.elim
  · rename_i p q
    split at h
    · rename_i h1
      obtain ⟨_, u1, _, _, hu1, _, e1⟩ := tiOf_some h1
      simp only [TI.mk.injEq] at e1
      obtain rfl := TK.of_bool e1.2.2.1.symm
      cases hx with | p hx => cases hx; cases hy with | p hy =>
      cases hy
      have he : (Op.equal t (.bool p) (.bool q)).run P w = .ok (p == q) w := run_equalIn_bool' w _ t p q hu1
      exact ⟨_, _, h, .p (.bool _), by simp [eqGuard, binOp, he]⟩
    · exact h.elim
  · rename_i xs ys
    split at h
    · rename_i b he
      obtain ⟨hg, as, bs, rfl, rfl, hr⟩ := eqAgg_sound he hx hy
      refine ⟨_, _, h, .p (.bool _), ?_⟩
      rw [Sem.run_bind, run_eqGuard_agg w .eql t ox oy as bs hg, Result.andThen_ok, run_eql_struct w t as bs, hr]
      rfl
    · exact h.elim
  · rename_i xs ys
    split at h
    · rename_i b he
      obtain ⟨hg, as, bs, rfl, rfl, hr⟩ := eqAgg_sound he hx hy
      refine ⟨_, _, h, .p (.bool _), ?_⟩
      rw [Sem.run_bind, run_eqGuard_agg w .neq t ox oy as bs hg, Result.andThen_ok, run_neq_struct w t as bs, hr]
      rfl
    · exact h.elim
  · rename_i es
    split at h
    · rename_i e z h1
      obtain ⟨hne, h⟩ := h
      obtain ⟨_, u1, _, _, hu1, _, e1⟩ := tiOf_some h1
      simp only [TI.mk.injEq] at e1
      obtain rfl := TK.of_slice e1.2.2.1.symm
      cases hy with | cl _ ad hy hn =>
      obtain rfl := hn rfl
      cases hx with | p hx =>
      cases hx with
      | sl0 _ _ => exact (hne rfl).elim
      | sl _ b off cap sz row t2 fr hF hh hc hs hi hp =>
        have he := Lib.run_eql_slice_nil w t _ (some ⟨b, off, none⟩) es.length cap 0 0 hu1
        exact ⟨_, _, h, .p (.bool _), by simpa [eqGuard] using he⟩
    · exact h.elim
  · rename_i es
    split at h
    · rename_i e z h1
      obtain ⟨_, u1, _, _, hu1, _, e1⟩ := tiOf_some h1
      simp only [TI.mk.injEq] at e1
      obtain rfl := TK.of_slice e1.2.2.1.symm
      cases hy with | cl _ ad hy hn =>
      obtain rfl := hn rfl
      cases hx with | cl _ ad2 hx hn2 =>
      have he := Lib.run_eql_slice_nil w t _ ad2 es.length es.length 0 0 hu1
      have hb : ad2.isNone = es.isEmpty := by
        cases es with
        | nil => rw [hn2 rfl]; rfl
        | cons x r => cases hx; rfl
      rw [hb] at he
      exact ⟨_, _, h, .p (.bool _), by simpa [eqGuard] using he⟩
    · exact h.elim
  · exact binD_sound h hx hy t ox oy
theorem fieldD_sound {t : TypeId} {x : D} {f : Nat} {k : D → Prop} (h : fieldD P t x f k) {s : Nat → Option Sg} {vx : Value} (hx : DR F w M s x vx) :
    ∃ d v, k d ∧ DR F w M s d v ∧ (Instr.field t vx f).run P w = .ok v w := by
  unfold fieldD at h
  cases ht : tiOf P t with
  | none => rw [ht] at h; simp at h
  | some ti =>
    obtain ⟨i, u, z, hi, hu, hz, rfl⟩ := tiOf_some ht
    rw [ht] at h
    try simp only at h
    split at h
    case h_2 => exact h.elim
    rename_i fs z' he
    simp only [Option.some.injEq, TI.mk.injEq] at he
    obtain ⟨gs, rfl, rfl⟩ := TK.of_struct he.2.2.1
    rw [List.getElem?_map] at h
    cases hf : gs.toList[f]? with
    | none => rw [hf] at h; simp at h
    | some fd =>
      rw [hf] at h
      simp only [Option.map_some] at h
      have hf' : gs[f]? = some fd := by simpa using hf
      cases x with
      | agg cs =>
        simp only at h
        cases hft : tiOf P fd.type with
        | none => rw [hft] at h; exact h.elim
        | some tj =>
          rw [hft] at h
          obtain ⟨i2, u2, z2, hi2, hu2, _, rfl⟩ := tiOf_some hft
          cases hx with
          | agg _ vs hl hc =>
            obtain ⟨h1, h2, d, hk, hd⟩ := partD_sound (F := F) (w := w) (M := M) h (s := s) hl hc
            exact ⟨d, _, hk, hd, by simp only [Instr.field, Sem.run_bind, run_underlying hu, Result.andThen_ok, hf', asAgg, Sem.run_pure]; exact run_part' hi2 hu2 h2⟩
      | _ => simp at h
theorem indexD_sound {t : TypeId} {x y : D} {k : D → Prop} (h : indexD P t x y k) {s : Nat → Option Sg} {vx vy : Value} (hx : DR F w M s x vx) (hy : DR F w M s y vy) :
    ∃ d v, k d ∧ DR F w M s d v ∧ (Instr.index t vx vy).run P w = .ok v w := by
  unfold indexD at h
  split at h
  · rename_i _ _ _ l kd n h1
    obtain ⟨i1, u1, _, _, hu1, _, e1⟩ := tiOf_some h1
    simp only [TI.mk.injEq] at e1
    have hu' := TK.of_string e1.2.2.1.symm
    subst hu'
    cases hx with | p hx =>
      cases hx
      cases hy with | p hy =>
        cases hy
        obtain ⟨⟨h0, h2⟩, h⟩ := h
        have hlt : n.toNat < l.length := by omega
        refine ⟨_, .int .u8 (l.getD n.toNat 0).toNat, h, .p (.int _ _), ?_⟩
        have hb : (⟨l.toArray⟩ : ByteArray)[n.toNat]? = some (l.getD n.toNat 0) := by
          rw [ByteArray.getElem?_lt' _ _ (by simpa [ByteArray.size] using hlt)]
          simp [List.getD, hlt]
          rfl
        simp only [Instr.index, asIntOf, Sem.run_bind, Sem.run_pure, run_underlying hu1, Result.andThen_ok, h0, if_true, hb]
  · rename_i _ _ _ m e _ cs kd n h1
    obtain ⟨i1, u1, _, _, hu1, _, e1⟩ := tiOf_some h1
    simp only [TI.mk.injEq] at e1
    have hu' := TK.of_array e1.2.2.1.symm
    subst hu'
    cases hft : tiOf P e with
    | none => rw [hft] at h; exact h.elim
    | some tj =>
      rw [hft] at h
      obtain ⟨i2, u2, z2, hi2, hu2, _, rfl⟩ := tiOf_some hft
      obtain ⟨⟨h0, h2⟩, h⟩ := h
      cases hx with
      | agg _ vs hl hc =>
        cases hy with | p hy =>
          cases hy
          obtain ⟨h3, h4, d, hk, hd⟩ := partD_sound (F := F) (w := w) (M := M) h (s := s) hl hc
          exact ⟨d, _, hk, hd, by simp only [Instr.index, asIntOf, Sem.run_bind, Sem.run_pure, run_underlying hu1, Result.andThen_ok, h0, h2, and_self, if_true, run_sizeOf' hi2 w]; exact run_part' hi2 hu2 h4⟩
  · exact h.elim
theorem extractD_sound {x : D} {i : Nat} {k : D → Prop} (h : extractD x i k) {s : Nat → Option Sg} {vx : Value} (hx : DR F w M s x vx) :
    ∃ d v, k d ∧ DR F w M s d v ∧ (Instr.extract vx i).run P w = .ok v w := by
  unfold extractD at h
  split at h
  · rename_i cs
    cases hx with
    | tup _ vs hl hc =>
      cases hd : cs[i]? with
      | none => rw [hd] at h; exact h.elim
      | some d =>
        rw [hd] at h
        have hlt := (List.getElem?_eq_some_iff.1 hd).1
        refine ⟨d, _, h, hc i d hd, ?_⟩
        have : i < vs.size := by omega
        simp [Instr.extract, this]
  · exact h.elim
end
end Go.Am
namespace Go.Am
open Go
section
variable {P : Program} {c : Ctx} {st : St} {a : Act} {w : World} {F : Nat → Prop} {M : Nat → Mb}
theorem run_indexAt' {t e : TypeId} {i : TypeInfo} (hu : P.underlying t = some (.slice e)) (hi : P.info? e = some i) {ad : Addr} {len cap : Nat} {k : IntKind} {n : Int} (hn : 0 ≤ n ∧ n < len) :
    (Instr.indexAt t (.slice (some ad) len cap) (.int k n)).run P w = .ok (.pointer (some (ad.add (n.toNat * i.size)))) w := by
  simp [Instr.indexAt, run_underlying hu, asIntOf, hn, run_sizeOf' hi]
theorem run_indexAt_arr' {t e : TypeId} {m : Nat} {i : TypeInfo} (hu : P.underlying t = some (.array m e)) (hi : P.info? e = some i) {ad : Addr} {k : IntKind} {n : Int} (hn : 0 ≤ n ∧ n < m) :
    (Instr.indexAt t (.pointer (some ad)) (.int k n)).run P w = .ok (.pointer (some (ad.add (n.toNat * i.size)))) w := by
  simp [Instr.indexAt, run_underlying hu, asIntOf, hn, run_sizeOf' hi, Instr.sureAddr]
theorem pe_of_sl {es : List (List Pd)} {v : Value} (h : PR F w (.sl es) v) {n : Nat} (hn : n < es.length) {s : Nat → Option Sg} :
    ∃ b off cap sz, v = .slice (some ⟨b, off, none⟩) es.length cap ∧ (es.getD n []).length = sz ∧ DR F w M s (.pe (es.getD n [])) (.pointer (some ⟨b, off + n * sz, none⟩)) := by
  cases h with
  | sl0 => simp at hn
  | sl _ b off cap sz row t fr hF hh hc hs hi hp =>
    have he : es[n]? = some (es.getD n []) := by simp [List.getD, hn]
    exact ⟨b, off, cap, sz, rfl, hs n _ he, .pe _ b (off + n * sz) row t fr hF hh (fun j c hj => hi n _ j c he hj) (fun j c hj => hp n _ j c he hj)⟩
theorem indexAddrD_sound {t : TypeId} {x y : D} {hp : Hp} {k : D → Prop} (h : indexAddrD P t x y hp k) {vx vy : Value} (hx : DR F w M (sg hp) x vx) (hy : DR F w M (sg hp) y vy) :
    ∃ d v, k d ∧ DR F w M (sg hp) d v ∧ (Instr.indexAt t vx vy).run P w = .ok v w := by
  unfold indexAddrD at h
  split at h
  · rename_i _ _ _ _ e _ kd n h1
    obtain ⟨i1, u1, _, _, hu1, _, e1⟩ := tiOf_some h1
    simp only [TI.mk.injEq] at e1
    have hu' := TK.of_slice e1.2.2.1.symm
    subst hu'
    cases hft : tiOf P e with
    | none => rw [hft] at h; exact h.elim
    | some tj =>
      rw [hft] at h
      try simp only at h
      obtain ⟨i2, u2, z2, hi2, hu2, _, e5⟩ := tiOf_some hft
      subst e5
      cases hy with | p hy =>
        cases hy
        split at h
        · rename_i es _
          obtain ⟨hn, hsz, h⟩ := h
          cases hx with | p hx =>
            obtain ⟨b, off, cap, sz, rfl, h3, h4⟩ := pe_of_sl (M := M) hx (n := n.toNat) (by omega) (s := sg hp)
            have e2 : sz = i2.size := h3.symm.trans hsz
            subst e2
            exact ⟨_, _, h, h4, by rw [run_indexAt' hu1 hi2 hn, Addr.add_lit]⟩
        · rename_i es _
          obtain ⟨hn, hsz, h⟩ := h
          cases hx with | cl _ ad hx _ =>
            obtain ⟨b, off, cap, sz, e3, h3, h4⟩ := pe_of_sl (M := M) hx (n := n.toNat) (by omega) (s := sg hp)
            have e2 : sz = i2.size := h3.symm.trans hsz
            subst e2
            cases e3
            exact ⟨_, _, h, h4, by rw [run_indexAt' hu1 hi2 hn, Addr.add_lit]⟩
        · rename_i id off len N
          cases hx with
          | ref _ _ _ _ sz m v hs hN _ h2 =>
            rw [hs] at h
            simp only at h
            obtain ⟨hn, rfl, rfl, h⟩ := h
            obtain ⟨ad, cap, rfl, h3, h4, h5, h6⟩ := h2 rfl
            have h7 : ad = some ⟨(M id).blk, off * i2.size, none⟩ := h6.resolve_left (by omega)
            subst h7
            refine ⟨_, _, h, .ea id (off + n.toNat) 0 N i2.size N _ hs (Nat.le_refl _) ⟨_, rfl⟩ (fun _ => ⟨rfl, by omega⟩), ?_⟩
            rw [run_indexAt' hu1 hi2 hn, Addr.add_lit]
            simp only [Nat.add_mul, Nat.add_zero]
        · rename_i id N
          obtain ⟨hn, hsz, h⟩ := h
          cases hx with
          | nref _ _ sz m k v hs hN hv h2 =>
            obtain ⟨ad, cp, rfl, hb⟩ := hv
            obtain ⟨b, rfl⟩ := hb.resolve_left (by omega)
            refine ⟨_, _, h, .nea id n.toNat N sz m k b hs hN (by omega) (fun e => ?_), ?_⟩
            · obtain ⟨a2, c2, g1, g2, g3, g4, g5⟩ := h2 e
              cases g1
              rcases g5 with g5 | g5
              · omega
              · cases g5; exact ⟨rfl, by omega⟩
            · simp only at hsz
              rw [run_indexAt' hu1 hi2 hn, Addr.add_lit, hsz]
              simp
        · exact h.elim
  · rename_i _ _ _ _ m e _ kd n h1
    obtain ⟨i1, u1, _, _, hu1, _, e1⟩ := tiOf_some h1
    simp only [TI.mk.injEq] at e1
    have hu' := TK.of_array e1.2.2.1.symm
    subst hu'
    cases hft : tiOf P e with
    | none => rw [hft] at h; exact h.elim
    | some tj =>
      rw [hft] at h
      try simp only at h
      obtain ⟨i2, u2, z2, hi2, hu2, _, e5⟩ := tiOf_some hft
      subst e5
      cases hy with | p hy =>
        cases hy
        split at h
        · rename_i _ _ _ id off e3
          obtain ⟨hn, h⟩ := h
          cases e3
          cases hx with | ptr _ _ hs =>
            exact ⟨_, _, h, .ptr id _ hs, by rw [run_indexAt_arr' hu1 hi2 hn, Addr.add_lit]⟩
        · rename_i _ _ _ cs e3
          obtain ⟨hn, h⟩ := h
          cases e3
          cases hx with
          | pe _ b off row e fr hF hh hi' hp' =>
            refine ⟨_, _, h, .pe _ b (off + n.toNat * i2.size) row e fr hF hh (fun j c hj => ?_) (fun j c hj => ?_), by rw [run_indexAt_arr' hu1 hi2 hn, Addr.add_lit]⟩
            · rw [List.getElem?_drop] at hj; have := hi' _ c hj; simp only at this; omega
            · rw [List.getElem?_drop] at hj; have := hp' _ c hj; rwa [Nat.add_assoc]
        · exact h.elim
  · exact h.elim
def BoundIs (a : Act) (o : Option Operand) (dflt n : Int) : Prop := (o = none ∧ n = dflt) ∨ ∃ x kd, o = some x ∧ a.eval x = .int kd n
theorem boundD_sound (hr : Rel c st a w F M) {o : Option Operand} {dflt : Int} {k : Int → Prop} (h : boundD st o dflt k) : ∃ n, k n ∧ BoundIs a o dflt n := by
  unfold boundD at h
  cases o with
  | none => exact ⟨dflt, h, .inl ⟨rfl, rfl⟩⟩
  | some x =>
    simp only at h
    have hx := ev_sound hr x
    split at h
    · rename_i kd n he
      rw [he] at hx
      generalize hv : a.eval x = v at hx
      cases hx with | p hx => exact ⟨n, h, .inr ⟨x, kd, rfl, by cases hx; exact hv⟩⟩
    · exact h.elim
theorem run_bounds {isSlice : Bool} {len cap : Nat} {lo hi : Option Operand} {x y : Int} (hlo : BoundIs a lo 0 x) (hhi : BoundIs a hi len y) (h0 : 0 ≤ x) (h1 : x ≤ y) (h2 : y ≤ cap) :
    (Instr.sliceBounds isSlice len cap (lo.map a.eval) (hi.map a.eval) none).run P w = .ok (x.toNat, y.toNat, cap) w := by
  have hy : ((y.toNat : Nat) : Int) = y := by omega
  have hy0 : 0 ≤ y := by omega
  have hm : max y 0 = y := by omega
  rcases hhi with ⟨rfl, rfl⟩ | ⟨q, kq, rfl, hq⟩ <;> rcases hlo with ⟨rfl, rfl⟩ | ⟨q', kq', rfl, hq'⟩
  · simp [Instr.sliceBounds]
  · simp [Instr.sliceBounds, Instr.sliceBound, asIntOf, h0, h1, hq']
  · simp [Instr.sliceBounds, Instr.sliceBound, asIntOf, h2, hq, hy0]
  · simp [Instr.sliceBounds, Instr.sliceBound, asIntOf, h0, h1, h2, hq, hq', hy0, hm]
theorem run_bounds3 {len cap : Nat} {lo : Option Operand} {hi mx : Operand} {x y : Int} {kh kx : IntKind} (hlo : BoundIs a lo 0 x)
    (hhi : a.eval hi = .int kh y) (hmx : a.eval mx = .int kx y) (h0 : 0 ≤ x) (h1 : x ≤ y) (h2 : y ≤ cap) :
    (Instr.sliceBounds true len cap (lo.map a.eval) ((some hi).map a.eval) ((some mx).map a.eval)).run P w = .ok (x.toNat, y.toNat, y.toNat) w := by
  have hy : ((y.toNat : Nat) : Int) = y := by omega
  have hy0 : 0 ≤ y := by omega
  have hm : max y 0 = y := by omega
  rcases hlo with ⟨rfl, rfl⟩ | ⟨q', kq', rfl, hq'⟩
  · simp [Instr.sliceBounds, Instr.sliceBound, asIntOf, h2, hhi, hmx, hy0, hm]
  · simp [Instr.sliceBounds, Instr.sliceBound, asIntOf, h0, h1, h2, hhi, hmx, hq', hy0, hm]
theorem take_drop_get {α : Type} (es : List α) (x y i : Nat) : ((es.take y).drop x)[i]? = if x + i < y then es[x + i]? else none := by
  rw [List.getElem?_drop, List.getElem?_take]
theorem PR.part {es : List (List Pd)} {len cap : Nat} {ad : Option Addr} (h : PR F w (.sl es) (.slice ad len cap)) {x y m sz : Nat} (hx : x ≤ y) (hy : y ≤ es.length) (hm : y ≤ m) (hc : m ≤ cap)
    (hsz : ∀ (i : Nat) e, es[i]? = some e → e.length = sz) :
    PR F w (.sl ((es.take y).drop x)) (.slice (if m = x then ad else ad.map (·.add (x * sz))) (y - x) (m - x)) := by
  have hlen : ((es.take y).drop x).length = y - x := by simp; omega
  by_cases h0 : y - x = 0
  · have : (es.take y).drop x = [] := List.eq_nil_of_length_eq_zero (by omega)
    rw [this, h0]
    exact .sl0 _ _
  · cases h with
    | sl0 => simp at hy; omega
    | sl _ b off cap sz' row t fr hF hh hc' hs hi hp =>
      have e1 : es[0]? = some (es.getD 0 []) := by
        have : 0 < es.length := by omega
        simp [List.getD, this]
      have e2 : sz' = sz := (hs 0 _ e1).symm.trans (hsz 0 _ e1)
      subst e2
      rw [if_neg (by omega)]
      simp only [Option.map_some, Addr.add_lit]
      rw [← hlen]
      refine .sl _ b (off + x * sz') (m - x) sz' row t fr hF hh (by omega) (fun i e he => ?_) (fun i e j q he hj => ?_) (fun i e j q he hj => ?_)
      · rw [take_drop_get] at he; split at he
        · exact hs _ _ he
        · cases he
      · rw [take_drop_get] at he; split at he
        · have := hi _ _ j q he hj
          rw [Nat.add_mul] at this; omega
        · cases he
      · rw [take_drop_get] at he; split at he
        · have := hp _ _ j q he hj
          rw [Nat.add_mul] at this
          rwa [show off + x * sz' + i * sz' + j = off + (x * sz' + i * sz') + j from by omega]
        · cases he
theorem run_sliceAt' {t e : TypeId} {i : TypeInfo} (hu : P.underlying t = some (.slice e)) (hi : P.info? e = some i) {ad : Option Addr} {len cap : Nat} {lo hi' mx : Option Value} {x y m : Nat}
    (hb : (Instr.sliceBounds true len cap lo hi' mx).run P w = .ok (x, y, m) w) :
    (Instr.sliceAt t (.slice ad len cap) lo hi' mx).run P w = .ok (.slice (if m = x then ad else ad.map (·.add (x * i.size))) (y - x) (m - x)) w := by
  simp [Instr.sliceAt, Instr.slice, run_underlying hu, hb, run_sizeOf' hi]
theorem sliceD_sound (hr : Rel c st a w F M) {t : TypeId} {x : D} {lo hi mx : Option Operand} {k : D → Prop} (h : sliceD P st t x lo hi mx k) {vx : Value} (hx : DR F w M (sg st.hp) x vx) :
    ∃ d v, k d ∧ DR F w M (sg st.hp) d v ∧ (Instr.sliceAt t vx (lo.map a.eval) (hi.map a.eval) (mx.map a.eval)).run P w = .ok v w := by
  unfold sliceD at h
  split at h
  · rename_i _ _ _ l h1
    obtain ⟨i1, u1, _, _, hu1, _, e1⟩ := tiOf_some h1
    simp only [TI.mk.injEq] at e1
    have hu' := TK.of_string e1.2.2.1.symm
    subst hu'
    obtain ⟨hmx, h⟩ := h
    have hmx' : mx = none := by simpa using hmx
    subst hmx'
    obtain ⟨x, h, hlo⟩ := boundD_sound hr h
    obtain ⟨y, h, hhi⟩ := boundD_sound hr h
    obtain ⟨⟨h0, h2, h3⟩, h⟩ := h
    cases hx with | p hx =>
      cases hx
      have hb := run_bounds (P := P) (w := w) (isSlice := false) (len := (⟨l.toArray⟩ : ByteArray).size) (cap := (⟨l.toArray⟩ : ByteArray).size) hlo (by rw [size_str]; exact hhi) h0 h2 (by rw [size_str]; exact h3)
      refine ⟨_, _, h, .p (.str _), ?_⟩
      simp only [Instr.sliceAt, Instr.slice, Sem.run_bind, run_underlying hu1, Result.andThen_ok, Option.map_none, Option.isSome_none, Bool.false_eq_true, if_false, Sem.run_ite, hb, Sem.run_pure]
      congr 2
      apply ByteArray.ext
      apply Array.ext'
      simp [List.drop_take]
  · rename_i _ _ _ _ e _ h1
    obtain ⟨i1, u1, _, _, hu1, _, e1⟩ := tiOf_some h1
    simp only [TI.mk.injEq] at e1
    have hu' := TK.of_slice e1.2.2.1.symm
    subst hu'
    cases hft : tiOf P e with
    | none => rw [hft] at h; exact h.elim
    | some tj =>
      rw [hft] at h
      obtain ⟨i2, u2, z2, hi2, hu2, _, rfl⟩ := tiOf_some hft
      simp only at h
      split at h
      · rename_i es
        cases hx with | p hx =>
          split at h
          · obtain ⟨x, h, hlo⟩ := boundD_sound hr h
            obtain ⟨y, h, hhi⟩ := boundD_sound hr h
            obtain ⟨⟨h0, h2, h3⟩, hsz, h⟩ := h
            have hx' := hx
            have hv : ∃ ad cap, vx = .slice ad es.length cap ∧ es.length ≤ cap := by
              cases hx with
              | sl0 ad cap => exact ⟨_, _, rfl, by simp⟩
              | sl _ b off cap sz row t fr hF hh hc => exact ⟨_, _, rfl, hc⟩
            obtain ⟨ad, cap, rfl, hcap⟩ := hv
            have hb := run_bounds (P := P) (w := w) (isSlice := true) (len := es.length) (cap := cap) hlo hhi h0 h2 (by omega)
            refine ⟨_, _, h, .p (hx'.part (x := x.toNat) (y := y.toNat) (m := cap) (by omega) (by omega) (by omega) (Nat.le_refl _) hsz), ?_⟩
            exact run_sliceAt' hu1 hi2 hb
          · rename_i mq
            obtain ⟨x, h, hlo⟩ := boundD_sound hr h
            obtain ⟨y, h, hhi⟩ := boundD_sound hr h
            obtain ⟨q, h, hmx⟩ := boundD_sound hr h
            obtain ⟨⟨h0, h2, rfl, h3⟩, hsz, hsome, hk⟩ := h
            have hx' := hx
            have hv : ∃ ad cap, vx = .slice ad es.length cap ∧ es.length ≤ cap := by
              cases hx with
              | sl0 ad cap => exact ⟨_, _, rfl, by simp⟩
              | sl _ b off cap sz row t fr hF hh hc => exact ⟨_, _, rfl, hc⟩
            obtain ⟨ad, cap, rfl, hcap⟩ := hv
            obtain ⟨_, kq, e6, hq⟩ := hmx.resolve_left (by simp)
            cases e6
            cases hi with
            | none => simp at hsome
            | some hi =>
              obtain ⟨_, kh, e7, hh⟩ := hhi.resolve_left (by simp)
              cases e7
              have hb := run_bounds3 (P := P) (w := w) (len := es.length) (cap := cap) hlo hh hq h0 h2 (by omega)
              have hp := hx'.part (x := x.toNat) (y := y.toNat) (m := y.toNat) (by omega) (by omega) (Nat.le_refl _) (by omega) hsz
              have hlen : ((es.take y.toNat).drop x.toNat).length = y.toNat - x.toNat := by simp; omega
              refine ⟨_, _, hk, ?_, run_sliceAt' hu1 hi2 hb⟩
              rw [← hlen] at hp ⊢
              exact .cz _ _ hp
      · rename_i id off len N
        cases hx with
        | ref _ _ _ _ sz m v hs hN _ h2 =>
          rw [hs] at h
          simp only at h
          obtain ⟨hmx, rfl, h⟩ := h
          have hmx' : mx = none := by simpa using hmx
          subst hmx'
          obtain ⟨x, h, hlo⟩ := boundD_sound hr h
          obtain ⟨y, h, hhi⟩ := boundD_sound hr h
          obtain ⟨⟨h0, h5, h6⟩, h⟩ := h
          obtain ⟨rfl, hk⟩ := h
          obtain ⟨ad, cap, rfl, h7, h8, h9, h10⟩ := h2 rfl
          have hb := run_bounds (P := P) (w := w) (isSlice := true) (len := len) (cap := cap) hlo hhi h0 h5 (by omega)
          refine ⟨_, _, hk, ?_, run_sliceAt' hu1 hi2 hb⟩
          refine .ref id (off + x.toNat) (y - x).toNat N i2.size N _ hs (Nat.le_refl _) ⟨_, _, _, rfl⟩ (fun _ => ?_)
          have e3 : (y - x).toNat = y.toNat - x.toNat := by omega
          rw [e3]
          refine ⟨_, _, rfl, by omega, by omega, by omega, ?_⟩
          by_cases hc : cap = x.toNat
          · left; omega
          · right
            rw [if_neg hc]
            have h11 := h10.resolve_left (by omega)
            rw [h11]
            simp only [Option.map_some, Addr.add_lit, Nat.add_mul]
      · exact h.elim
  · exact h.elim
def DRl (F : Nat → Prop) (w : World) (M : Nat → Mb) (s : Nat → Option Sg) (cs : List D) (vs : List Value) : Prop :=
  vs.length = cs.length ∧ ∀ (i : Nat) c, cs[i]? = some c → DR F w M s c (vs.getD i undef)
theorem DRl.append {s : Nat → Option Sg} {cs cs' : List D} {vs vs' : List Value} (h : DRl F w M s cs vs) (h' : DRl F w M s cs' vs') : DRl F w M s (cs ++ cs') (vs ++ vs') := by
  refine ⟨by simp [h.1, h'.1], fun i c hc => ?_⟩
  rw [List.getElem?_append] at hc
  have h1 := h.1
  split at hc
  · rename_i hlt
    have := h.2 i c hc
    rw [List.getD_eq_getElem?_getD] at this ⊢
    rwa [List.getElem?_append_left (by omega)]
  · rename_i hge
    have := h'.2 _ c hc
    rw [List.getD_eq_getElem?_getD] at this ⊢
    rwa [List.getElem?_append_right (by omega), h1]
theorem DRl.take {s : Nat → Option Sg} {cs : List D} {vs : List Value} (h : DRl F w M s cs vs) (n : Nat) : DRl F w M s (cs.take n) (vs.take n) := by
  refine ⟨by simp [h.1], fun i c hc => ?_⟩
  rw [List.getElem?_take] at hc
  split at hc
  · rename_i hlt
    have := h.2 i c hc
    rw [List.getD_eq_getElem?_getD] at this ⊢
    rwa [List.getElem?_take, if_pos hlt]
  · cases hc
theorem DRl.drop {s : Nat → Option Sg} {cs : List D} {vs : List Value} (h : DRl F w M s cs vs) (n : Nat) : DRl F w M s (cs.drop n) (vs.drop n) := by
  refine ⟨by simp [h.1], fun i c hc => ?_⟩
  rw [List.getElem?_drop] at hc
  have := h.2 _ c hc
  rw [List.getD_eq_getElem?_getD] at this ⊢
  rwa [List.getElem?_drop]
theorem DR.cells {s : Nat → Option Sg} {d : D} {v : Value} (h : DR F w M s d v) (hb : d.cells.all D.one = true ∨ ∃ cs, d = .agg cs) : DRl F w M s d.cells v.cells.toList := by
  have one : ∀ {d : D} {v : Value}, DR F w M s d v → v.cells = #[v] → d.cells = [d] → DRl F w M s d.cells v.cells.toList := by
    intro d v h e1 e2
    rw [e1, e2]
    refine ⟨by simp, fun i c hc => ?_⟩
    cases i with
    | zero => simp only [List.getElem?_cons_zero, Option.some.injEq] at hc; subst hc; simpa [List.getD] using h
    | succ i => simp at hc
  cases h with
  | p h => refine one (.p h) ?_ rfl; cases h <;> rfl
  | agg cs vs hl hc => exact ⟨by simp [Value.cells, D.cells, hl], fun i c h => by have := hc i c h; simpa [Value.cells, List.getD, Array.getD_eq_getD_getElem?] using this⟩
  | tup cs vs hl hc => rcases hb with hb | ⟨_, hb⟩ <;> simp [D.cells, D.one] at hb
  | cl es ad h hn => exact one (.cl es ad h hn) rfl rfl
  | cz es ad h => exact one (.cz es ad h) rfl rfl
  | ref id off len N sz n v hs hN hv h => obtain ⟨_, _, _, rfl⟩ := hv; exact one (.ref id off len N sz n _ hs hN ⟨_, _, _, rfl⟩ h) rfl rfl
  | ptr id off hs => exact one (.ptr id off hs) rfl rfl
  | pe cs b off row t fr hF hh hi hp => exact one (.pe cs b off row t fr hF hh hi hp) rfl rfl
  | ea id i c N sz n v hs hN hv h => obtain ⟨_, rfl⟩ := hv; exact one (.ea id i c N sz n _ hs hN ⟨_, rfl⟩ h) rfl rfl
  | fn f cap vs hl h => exact one (.fn f cap vs hl h) rfl rfl
  | np => exact one .np rfl rfl
  | mv id hs => exact one (.mv id hs) rfl rfl
  | nref id n sz m k v hs hN hv h => obtain ⟨_, _, rfl, hx⟩ := hv; exact one (.nref id n sz m k _ hs hN ⟨_, _, rfl, hx⟩ h) rfl rfl
  | nea id i n sz m k b hs hN hi h => exact one (.nea id i n sz m k b hs hN hi h) rfl rfl
  | nr id i len q sz m k v hs hN hv h => obtain ⟨_, _, rfl⟩ := hv; exact one (.nr id i len q sz m k _ hs hN ⟨_, _, rfl⟩ h) rfl rfl
  | unk v h => exact one (.unk v h) (by cases v <;> first | rfl | (simp [Value.oneCell'] at h)) rfl
  | bad v => rcases hb with hb | ⟨_, hb⟩ <;> simp [D.cells, D.one] at hb
end
end Go.Am
namespace Go.Am
open Go
section
variable {P : Program} {c : Ctx} {st : St} {a : Act} {w : World} {F : Nat → Prop} {M : Nat → Mb}
theorem fold_set (off : Nat) : ∀ (l : List Value) (k : Nat) (cells : Array Value), off + k + l.length ≤ cells.size →
    ((l.zipIdx k).foldl (fun cs q => cs.setIfInBounds (off + q.2) q.1) cells).toList = cells.toList.take (off + k) ++ l ++ cells.toList.drop (off + k + l.length)
  | [], k, cells, _ => by simp
  | v :: l, k, cells, h => by
    simp only [List.length_cons] at h
    simp only [List.zipIdx_cons, List.foldl_cons]
    rw [fold_set off l (k + 1) _ (by simp; omega)]
    simp only [Array.toList_setIfInBounds, List.length_cons]
    have e1 : (cells.toList.set (off + k) v).take (off + (k + 1)) = cells.toList.take (off + k) ++ [v] := by
      rw [show off + (k + 1) = (off + k) + 1 from by omega, List.take_add_one, List.getElem?_set_self (by simp; omega), List.take_set_of_le (by omega)]
      rfl
    have e2 : (cells.toList.set (off + k) v).drop (off + (k + 1) + l.length) = cells.toList.drop (off + k + (l.length + 1)) := by
      rw [List.drop_set_of_lt (by omega)]
      congr 1
      omega
    rw [e1, e2]
    simp
theorem fill_sound (hr : Rel c st a w F M) (place : Nat → Option (Nat × Nat)) : ∀ (parts : List (Nat × Operand)) (cs : List D) (vs : Array Value) (cs' : List D), DRl F w M (sg st.hp) cs vs.toList →
    fillD place cs (parts.map fun q => (q.1, ev st q.2)) = some cs' → ∃ vs', Instr.fill place vs (parts.map fun q => (q.1, a.eval q.2)) = some vs' ∧ DRl F w M (sg st.hp) cs' vs'.toList
  | [], cs, vs, cs', h, hf => by
    simp only [List.map_nil, fillD, Option.some.injEq] at hf
    subst hf
    exact ⟨vs, by simp [Instr.fill], h⟩
  | (i, x) :: parts, cs, vs, cs', h, hf => by
    simp only [List.map_cons, fillD] at hf
    cases hp : place i with
    | none => rw [hp] at hf; simp at hf
    | some q =>
      obtain ⟨off, size⟩ := q
      rw [hp] at hf
      simp only at hf
      split at hf
      case isFalse => cases hf
      rename_i hc
      obtain ⟨h1, h2, h3⟩ := hc
      have hx := (ev_sound hr x).cells (.inl h3)
      have hsz : (a.eval x).cells.size = size := by have := hx.1; simp at this; omega
      have hvs : vs.size = cs.length := by have := h.1; simpa using this
      obtain ⟨vs', h4, h5⟩ := fill_sound hr place parts _ ((a.eval x).cells.zipIdx.foldl (fun cs q => cs.setIfInBounds (off + q.2) q.1) vs) cs' (by
        rw [← Array.foldl_toList, Array.toList_zipIdx, fold_set off _ 0 vs (by simp; omega)]
        simp only [Nat.add_zero, Array.length_toList, hsz]
        exact ((h.take off).append hx).append (h.drop (off + size))) hf
      refine ⟨vs', ?_, h5⟩
      simp only [List.map_cons, Instr.fill, hp, hsz]
      rw [if_neg (by simp; omega)]
      exact h4
theorem placesD_sound : ∀ (fs : List Field) (pl : List (Nat × Nat)), placesD P (fs.map fun f => (f.offset, f.type)) = some pl →
    fs.mapM (fun f => (P.info? f.type).map fun i => (f.offset, i.size)) = some pl
  | [], pl, h => by simp [placesD] at h; subst h; rfl
  | f :: fs, pl, h => by
    simp only [List.map_cons, placesD] at h
    split at h
    · rename_i ti l h1 h2
      obtain ⟨i, u, z, hi, _, _, rfl⟩ := tiOf_some h1
      cases h
      simp [placesD_sound fs l h2, hi]
    · cases h
theorem agg_of_ofV {z : Value} {zs : List D} (h : ofV z = .agg zs) : ∃ cs, z = .agg cs := by
  cases z <;> first
    | exact ⟨_, rfl⟩
    | (simp [ofV] at h; done)
    | (rename_i q; cases q <;> simp [ofV] at h; done)
    | (rename_i ad l q; cases ad <;> (try cases l) <;> (try cases q) <;> simp [ofV] at h)
theorem buildD_sound (hr : Rel c st a w F M) {t : TypeId} {parts : Array (Nat × Operand)} {k : D → Prop} (h : buildD P st t parts.toList k) :
    ∃ d v, k d ∧ DR F w M (sg st.hp) d v ∧ (Instr.build t (parts.map fun (i, x) => (i, a.eval x))).run P w = .ok v w := by
  have hparts : (parts.map fun (i, x) => (i, a.eval x)).toList = parts.toList.map fun q => (q.1, a.eval q.2) := by simp
  have key : ∀ (place : Nat → Option (Nat × Nat)) (z : Value) (zs cs : List D), ofV z = .agg zs → fillD place zs (parts.toList.map fun q => (q.1, ev st q.2)) = some cs →
      ∃ vs, Instr.fill place z.cells (parts.map fun (i, x) => (i, a.eval x)).toList = some vs ∧ DR F w M (sg st.hp) (.agg cs) (.agg vs) := by
    intro place z zs cs hz hf
    obtain ⟨qs, rfl⟩ := agg_of_ofV hz
    have h0 := (ofV_sound F w M (sg st.hp) (.agg qs)).cells (.inr ⟨_, hz⟩)
    rw [hz] at h0
    obtain ⟨vs, h1, h2⟩ := fill_sound hr place parts.toList zs qs cs h0 hf
    exact ⟨vs, by rw [hparts]; exact h1, .agg _ _ (by simpa using h2.1) (fun i c hc => by have := h2.2 i c hc; simpa [List.getD, Array.getD_eq_getD_getElem?] using this)⟩
  unfold buildD at h
  split at h
  · rename_i _ _ _ fs zd h1
    obtain ⟨i1, u1, z1, hi1, hu1, hz1, e1⟩ := tiOf_some h1
    simp only [TI.mk.injEq] at e1
    obtain ⟨_, _, e2, rfl⟩ := e1
    obtain ⟨gs, rfl, rfl⟩ := TK.of_struct e2.symm
    split at h
    case h_2 => exact h.elim
    rename_i pl zs hpl hz
    split at h
    case h_2 => exact h.elim
    rename_i cs hf
    obtain ⟨vs, h2, h3⟩ := key _ z1 zs cs hz hf
    refine ⟨_, _, h, h3, run_build w t _ vs ?_⟩
    unfold Program.built
    simp only [hi1, hu1, hz1, placesD_sound _ _ hpl]
    simpa using h2
  · rename_i _ _ _ m e zd h1
    obtain ⟨i1, u1, z1, hi1, hu1, hz1, e1⟩ := tiOf_some h1
    simp only [TI.mk.injEq] at e1
    obtain ⟨_, _, e2, rfl⟩ := e1
    obtain rfl := TK.of_array e2.symm
    split at h
    case h_2 => exact h.elim
    rename_i tj zs hft hz
    obtain ⟨i2, u2, z2, hi2, hu2, _, rfl⟩ := tiOf_some hft
    split at h
    case h_2 => exact h.elim
    rename_i cs hf
    obtain ⟨vs, h2, h3⟩ := key _ z1 zs cs hz hf
    refine ⟨_, _, h, h3, run_build w t _ vs ?_⟩
    unfold Program.built
    simp only [hi1, hu1, hz1, hi2, h2]
  · exact h.elim
theorem Pd.same_sound {kk : KK} {key q : Pd} {d : TypeDesc} (hd : match kk with | .int x => d = .int x | .str => d = .string) (hf : kk.fit key = true) {b : Bool} (h : Pd.same key q = some b) : Instr.sameNow d key.val q.val = some b := by
  cases kk with
  | int x =>
    simp only at hd
    subst hd
    cases key <;> simp [KK.fit] at hf
    cases q <;> simp [Pd.same] at h
    simp only [Pd.val, Instr.sameNow]
    obtain ⟨h1, h2⟩ := h
    rw [if_pos h1, h2]
  | str =>
    simp only at hd
    subst hd
    cases key <;> simp [KK.fit] at hf
    cases q <;> simp [Pd.same] at h
    simp only [Pd.val, Instr.sameNow, Option.some.injEq]
    rw [← h, Bool.eq_iff_iff]
    rw [MapKept.bytes_beq]
    constructor
    · intro h3
      have h4 := congrArg (fun z : ByteArray => z.data.toList) h3
      simpa using h4
    · intro h3
      have h4 := eq_of_beq h3
      rw [h4]
theorem Pd.same_eq {a b : Pd} (h : Pd.same a b = some true) : a.val = b.val := by
  cases a <;> cases b <;> simp [Pd.same] at h
  · obtain ⟨rfl, rfl⟩ := h; rfl
  · subst h; rfl
theorem mfind_sound {kk : KK} {key : Pd} {d : TypeDesc} (hd : match kk with | .int x => d = .int x | .str => d = .string) (hf : kk.fit key = true) :
    ∀ (es : List MapEntry) (l : List (Pd × Pd)) (n : Nat), es.map (fun e => (e.key, e.val)) = l.map (fun p => (p.1.val, p.2.val)) → mfit key l →
      (∃ v i, mget key l = some v ∧ Instr.findNow d key.val es n = some (some (n + i, v.val)) ∧ v ∈ l.map (·.2) ∧ (∃ e, es[i]? = some e ∧ e.key = key.val) ∧
        ∀ x : Pd, (es.modify i fun e => { e with key := key.val, val := x.val }).map (fun e => (e.key, e.val)) = (mset key x l).map (fun p => (p.1.val, p.2.val))) ∨
      (mget key l = none ∧ Instr.findNow d key.val es n = some none ∧ ∀ x, mset key x l = l ++ [(key, x)])
  | [], [], n, _, _ => .inr ⟨rfl, rfl, fun _ => rfl⟩
  | [], _ :: _, n, h, _ => by simp at h
  | _ :: _, [], n, h, _ => by simp at h
  | e :: es, (q, v) :: l, n, h, hm => by
    simp only [List.map_cons, List.cons.injEq, Prod.mk.injEq] at h
    obtain ⟨⟨h1, h2⟩, h3⟩ := h
    unfold mfit mfind at hm
    cases hs : Pd.same key q with
    | none => rw [hs] at hm; simp at hm
    | some b =>
      have hn := Pd.same_sound hd hf hs
      cases b with
      | true => exact .inl ⟨v, 0, by simp [mget, mfind, hs], by simp [Instr.findNow, h1, hn, h2], by simp, ⟨e, rfl, h1.trans (Pd.same_eq hs).symm⟩, fun x => by simp [mset, hs, h3]⟩
      | false =>
        rw [hs] at hm
        rcases mfind_sound hd hf es l (n + 1) h3 hm with ⟨v', i, g1, g2, g3, ⟨e', g4, g5⟩, g6⟩ | ⟨g1, g2, g3⟩
        · refine .inl ⟨v', i + 1, ?_, ?_, List.mem_cons_of_mem _ g3, ⟨e', by simpa using g4, g5⟩, fun x => by simp [mset, hs, h1, h2, g6 x]⟩
          · unfold mget at g1 ⊢; simp only [mfind, hs]; exact g1
          · simp only [Instr.findNow, h1, hn, g2]; congr 3; omega
        · refine .inr ⟨?_, ?_, fun x => by simp [mset, hs, g3 x]⟩
          · unfold mget at g1 ⊢; simp only [mfind, hs]; exact g1
          · simp only [Instr.findNow, h1, hn, g2]
theorem mapOf_some {t : TypeId} {kk : KK} {z : Pd} (h : mapOf P t = some (kk, z)) : ∃ kt e d i zv, P.underlying t = some (.map kt e) ∧ P.underlying kt = some d ∧ (match kk with | .int x => d = .int x | .str => d = .string) ∧
    P.info? e = some i ∧ i.zero = some zv ∧ zv = z.val ∧ z.flat = true := by
  unfold mapOf at h
  split at h
  case h_2 => cases h
  rename_i kt e hu
  have hz : ∀ {zv : Value} {y : Pd}, pdV zv = some y → zv = y.val ∧ y.flat = true := by
    intro zv y hy
    cases zv <;> simp [pdV] at hy <;> subst hy <;> simp [Pd.val, Pd.flat]
  split at h
  · rename_i q zv hk hi
    cases hi2 : P.info? e with
    | none => rw [hi2] at hi; cases hi
    | some i =>
      rw [hi2] at hi
      cases hp : pdV zv with
      | none => rw [hp] at h; cases h
      | some y => rw [hp] at h; cases h; exact ⟨kt, e, _, i, zv, hu, hk, rfl, hi2, hi, hz hp⟩
  · rename_i zv hk hi
    cases hi2 : P.info? e with
    | none => rw [hi2] at hi; cases hi
    | some i =>
      rw [hi2] at hi
      cases hp : pdV zv with
      | none => rw [hp] at h; cases h
      | some y => rw [hp] at h; cases h; exact ⟨kt, e, _, i, zv, hu, hk, rfl, hi2, hi, hz hp⟩
  · cases h
theorem isKey_fit {kk : KK} {key : Pd} {d : TypeDesc} (hd : match kk with | .int x => d = .int x | .str => d = .string) (hf : kk.fit key = true) : MapKept.IsKey d key.val := by
  cases kk with
  | int x => simp only at hd; subst hd; cases key <;> simp [KK.fit] at hf; exact hf
  | str => simp only at hd; subst hd; cases key <;> simp [KK.fit] at hf; trivial
theorem lookupD_sound (hr : Rel c st a w F M) {t : TypeId} {x i : D} {ok : Bool} {k : D → Prop} (h : lookupD P st.hp t x i ok k) {vx vi : Value} (hx : DR F w M (sg st.hp) x vx) (hi : DR F w M (sg st.hp) i vi) :
    ∃ d v, k d ∧ DR F w M (sg st.hp) d v ∧ (Instr.lookup t vx vi ok).run P w = .ok v w := by
  unfold lookupD at h
  split at h
  case h_2 => exact h.elim
  rename_i _ _ _ kk z id key hm
  obtain ⟨kt, e, d, ii, zv, hu, hk, hd, hi2, hz, rfl, hzf⟩ := mapOf_some hm
  split at h
  case h_2 => exact h.elim
  rename_i l hg
  obtain ⟨⟨hf, hft⟩, hkk⟩ := h
  obtain ⟨_, ⟨es, clock, hb, hes⟩, hfl⟩ := hr.heap.obj id _ hg
  cases hx with
  | mv _ hs =>
    cases hi with
    | p hi =>
      have hvi : vi = key.val := by cases hi <;> first | rfl | (cases kk <;> simp [KK.fit] at hf)
      subst hvi
      have hc : ∀ b, (Instr.checkKey b 10000 kt key.val).run P w = .ok () w := fun b => MapKept.run_checkKey hk (isKey_fit hd hf) b 9999
      have hzv : (zeroValue e).run P w = .ok z.val w := by simp [zeroValue, typeInfo, hi2, hz]
      rcases mfind_sound hd hf es.toList l 0 hes hft with ⟨v, j, g1, g2, g3, _⟩ | ⟨g1, g2, _⟩
      · rw [g1] at hkk
        have hvf : v.flat = true := by obtain ⟨p, hp, rfl⟩ := List.mem_map.1 g3; exact hfl p hp
        cases ok with
        | true =>
          refine ⟨_, _, hkk, .tup _ #[v.val, .bool true] rfl (fun j c hj => ?_), ?_⟩
          · rcases j with _ | _ | j
            · simp at hj; subst hj; exact .p (PR.flat hvf)
            · simp at hj; subst hj; exact .p (.bool true)
            · simp at hj
          · simp [Instr.lookup, run_underlying hu, MapKept.run_getObj_map hb, hc, MapKept.run_findKey hk g2, Result.andThen]
        | false => exact ⟨_, v.val, hkk, .p (PR.flat hvf), by simp [Instr.lookup, run_underlying hu, MapKept.run_getObj_map hb, hc, MapKept.run_findKey hk g2, Result.andThen]⟩
      · rw [g1] at hkk
        cases ok with
        | true =>
          refine ⟨_, _, hkk, .tup _ #[z.val, .bool false] rfl (fun j c hj => ?_), ?_⟩
          · rcases j with _ | _ | j
            · simp at hj; subst hj; exact .p (PR.flat hzf)
            · simp at hj; subst hj; exact .p (.bool false)
            · simp at hj
          · simp [Instr.lookup, run_underlying hu, MapKept.run_getObj_map hb, hc, MapKept.run_findKey hk g2, hzv, Result.andThen]
        | false => exact ⟨_, z.val, hkk, .p (PR.flat hzf), by simp [Instr.lookup, run_underlying hu, MapKept.run_getObj_map hb, hc, MapKept.run_findKey hk g2, hzv, Result.andThen]⟩
theorem vOp_sound (hr : Rel c st a w F M) {o : Oper} {k : D → Prop} (h : vOp P st o.op k) :
    ∃ d v, k d ∧ DR F w M (sg st.hp) d v ∧ (execOp a.eval o).run P w = .ok (.value v) w := by
  have wrap : ∀ (s : Sem Value), (∃ d v, k d ∧ DR F w M (sg st.hp) d v ∧ s.run P w = .ok v w) → execOp a.eval o = (do pure (.value (← s)) : Sem Next) →
      ∃ d v, k d ∧ DR F w M (sg st.hp) d v ∧ (execOp a.eval o).run P w = .ok (.value v) w := by
    rintro s ⟨d, v, h1, h2, h3⟩ e
    exact ⟨d, v, h1, h2, by rw [e]; simp [h3]⟩
  unfold vOp at h
  split at h
  · rename_i x ho; exact ⟨_, _, h, ev_sound hr x, by simp [execOp, ho]⟩
  · rename_i x ho; exact ⟨_, _, h, ev_sound hr x, by simp [execOp, ho]⟩
  · rename_i x y z ho
    obtain ⟨d, v, h1, h2, h3⟩ := pickD_sound (P := P) h (ev_sound hr x) (ev_sound hr y) (ev_sound hr z)
    exact ⟨d, v, h1, h2, by simp only [execOp, ho]; exact h3⟩
  · rename_i op t x y yt ho
    exact wrap _ (binBD_sound h (ev_sound hr x) (ev_sound hr y) x y) (by simp only [execOp, ho])
  · rename_i op t x ho
    exact wrap _ (unD_sound h (ev_sound hr x)) (by simp only [execOp, ho])
  · rename_i x ho
    have hx := ev_sound hr x
    have run : ∀ {ad}, a.eval x = .pointer (some ad) → (execOp a.eval o).run P w = .ok (.value (.pointer (some ad))) w := by
      intro ad e
      simp [execOp, ho, e]
    split at h
    · rename_i id off he
      rw [he] at hx
      generalize hv : a.eval x = v at hx
      cases hx with | ptr _ _ hs => exact ⟨_, _, h, .ptr id off hs, run hv⟩
    · rename_i cs he
      rw [he] at hx
      generalize hv : a.eval x = v at hx
      cases hx with | pe _ b off row e fr hF hh hi hp => exact ⟨_, _, h, .pe cs b off row e fr hF hh hi hp, run hv⟩
    · rename_i id i q N he
      rw [he] at hx
      generalize hv : a.eval x = v at hx
      cases hx with
      | ea _ _ _ _ sz n v hs hN hv2 h2 =>
        rw [hs] at h
        obtain ⟨hv3, hlt⟩ := h2 h.1
        subst hv3
        exact ⟨_, _, h.2, .ea id i q N sz n _ hs hN hv2 h2, run hv⟩
    · exact h.elim
  · rename_i s d x ho
    exact wrap _ (convD_sound h (ev_sound hr x)) (by simp only [execOp, ho])
  · rename_i t parts ho
    exact wrap _ (buildD_sound hr h) (by simp only [execOp, ho])
  · rename_i t x ho
    exact wrap _ (loadD_sound hr.heap h (ev_sound hr x)) (by simp only [execOp, ho])
  · rename_i t x lo hi mx ho
    exact wrap _ (sliceD_sound hr h (ev_sound hr x)) (by simp only [execOp, ho])
  · rename_i t x f ho
    exact wrap _ (fieldAddrD_sound h (ev_sound hr x)) (by simp only [execOp, ho])
  · rename_i t x f ho
    exact wrap _ (fieldD_sound h (ev_sound hr x)) (by simp only [execOp, ho])
  · rename_i t x i ho
    exact wrap _ (indexAddrD_sound h (ev_sound hr x) (ev_sound hr i)) (by simp only [execOp, ho])
  · rename_i t x i ho
    exact wrap _ (indexD_sound h (ev_sound hr x) (ev_sound hr i)) (by simp only [execOp, ho])
  · rename_i t i ho
    exact wrap _ (extractD_sound h (ev_sound hr t)) (by simp only [execOp, ho])
  · rename_i t x i ok ho
    exact wrap _ (lookupD_sound hr h (ev_sound hr x) (ev_sound hr i)) (by simp only [execOp, ho])
  · rename_i f first cap ho
    obtain ⟨h0, h⟩ := h
    have hf : first = #[] := Array.eq_empty_of_size_eq_zero h0
    subst hf
    refine ⟨_, .func (.func f) #[] (cap.map a.eval), h, .fn f _ _ (by simp) (fun i c hc => ?_), by simp [execOp, ho, Instr.makeFunc]⟩
    rw [List.getElem?_map] at hc
    cases hq : cap.toList[i]? with
    | none => rw [hq] at hc; cases hc
    | some q =>
      rw [hq] at hc
      cases hc
      have := ev_sound hr q
      have hq' : cap[i]? = some q := by simpa using hq
      simpa [Array.getD_eq_getD_getElem?, hq'] using this
  · exact h.elim
end
end Go.Am
namespace Go.Am
open Go
theorem get_setL {α : Type} (x : α) : ∀ (h : List (Nat × α)) (id j : Nat), get (setL h id x) j = if j = id then some x else get h j
  | [], id, j => by simp only [setL, get]; by_cases e : id = j <;> simp [e, eq_comm]
  | (k, y) :: r, id, j => by
    have ih := get_setL x r id j
    simp only [setL]
    by_cases e : k = id
    · subst e
      simp only [if_true, get]
      by_cases e2 : k = j
      · simp [e2]
      · simp [e2, Ne.symm e2]
    · simp only [e, if_false, get, ih]
      by_cases e2 : k = j
      · subst e2; simp [e]
      · simp [e2]
section
variable {P : Program} {c : Ctx} {st : St} {a : Act} {w : World} {F : Nat → Prop} {M : Nat → Mb}
theorem Rel.change (hr : Rel c st a w F M) {id : Nat} {o' : AO} {w' : World} {M' : Nat → Mb} {hp' : Hp}
    (hget : ∀ j, get hp' j = if j = id then some o' else get st.hp j) (hM : ∀ j, j ≠ id → M' j = M j) (hsg : SgKeep M M' (sg st.hp) (sg hp'))
    (hos : w'.os = w.os) (htape : w'.tape = w.tape) (hout : w'.output = w.output) (hsize : w.heap.size ≤ w'.heap.size)
    (hold : ∀ b, b < w.heap.size → (∀ o, get st.hp id = some o → ¬ o.owns (M id) b) → w'.heap[b]? = w.heap[b]?)
    (hnew : ObjR F w' M' (sg hp') (M' id) o')
    (hblk : ∀ b, o'.owns (M' id) b → (∃ o, get st.hp id = some o ∧ o.owns (M id) b) ∨ w.heap.size ≤ b) :
    Rel c { st with hp := hp' } a w' F M' := by
  have hF : ∀ b, F b → w'.heap[b]? = w.heap[b]? := fun b hb => hold b (hr.keep.Fl b hb) (fun o ho hown => hr.heap.notF ⟨id, o, ho, hown⟩ hb)
  have hother : ∀ j o b, j ≠ id → get st.hp j = some o → o.owns (M j) b → w'.heap[b]? = w.heap[b]? := fun j o b hj ho hown =>
    hold _ (hr.heap.lt ⟨j, o, ho, hown⟩) (fun o2 ho2 hown2 => hj (hr.heap.inj j o id o2 b ho ho2 hown hown2))
  have hne : ∀ j o b, j ≠ id → get st.hp j = some o → o.owns (M j) b → ¬ o'.owns (M' id) b := fun j o b hj ho hown ho' => by
    rcases hblk b ho' with ⟨o2, h1, h2⟩ | h1
    · exact hj (hr.heap.inj j o id o2 b ho h1 hown h2)
    · have := hr.heap.lt ⟨j, o, ho, hown⟩; omega
  constructor
  · intro t d ht
    exact (hr.env t d ht).keep hF (fun _ h => h) hsg
  · exact hr.size
  · exact hr.defers
  · constructor
    · intro j o hj
      rw [hget] at hj
      by_cases e : j = id
      · subst e
        simp only [if_true, Option.some.injEq] at hj
        subst hj
        exact hnew
      · rw [if_neg e] at hj
        rw [hM j e]
        exact (hr.heap.obj j o hj).keep hF (fun _ h => h) hsg (fun b hown => ⟨hother j o b e hj hown, hr.heap.notF ⟨j, o, hj, hown⟩⟩)
    · intro j o j' o2 b hj hj' hown hown'
      rw [hget] at hj hj'
      by_cases e : j = id
      · by_cases e' : j' = id
        · rw [e, e']
        · subst e
          rw [if_neg e'] at hj'
          simp only [if_true, Option.some.injEq] at hj
          subst hj
          rw [hM j' e'] at hown'
          exact (hne j' o2 b e' hj' hown' hown).elim
      · rw [if_neg e] at hj
        rw [hM j e] at hown
        by_cases e' : j' = id
        · subst e'
          simp only [if_true, Option.some.injEq] at hj'
          subst hj'
          exact (hne j o b e hj hown hown').elim
        · rw [if_neg e'] at hj'
          rw [hM j' e'] at hown'
          exact hr.heap.inj j o j' o2 b hj hj' hown hown'
  · have hk := hr.keep
    refine ⟨hos.trans hk.os, htape.trans hk.tape, hout.trans hk.output, Nat.le_trans hk.size hsize, fun b hb hO => ?_, hk.F0, hk.Fn, fun b hb => Nat.lt_of_lt_of_le (hk.Fl b hb) hsize, ?_, hk.sgk.trans hsg, hk.s0b⟩
    · rw [hold b (Nat.lt_of_lt_of_le hb hk.size) (fun o ho hown => ?_)]
      · exact hk.old b hb hO
      · rcases hk.own _ ⟨id, o, ho, hown⟩ with h1 | h1
        · exact hO h1
        · omega
    · rintro b ⟨j, o, hj, hown⟩
      rw [hget] at hj
      by_cases e : j = id
      · subst e
        simp only [if_true, Option.some.injEq] at hj
        subst hj
        rcases hblk b hown with ⟨o2, h1, h2⟩ | h1
        · exact hk.own _ ⟨j, o2, h1, h2⟩
        · right; have := hk.size; omega
      · rw [if_neg e] at hj
        rw [hM j e] at hown
        exact hk.own _ ⟨j, o, hj, hown⟩
theorem sg_change {hp hp' : Hp} {id : Nat} {o' : AO} (hget : ∀ j, get hp' j = if j = id then some o' else get hp j) (j : Nat) :
    sg hp' j = if j = id then some o'.sg else sg hp j := by
  unfold sg
  rw [hget]
  by_cases e : j = id <;> simp [e]
theorem sgKeep_new {M M' : Nat → Mb} {hp hp' : Hp} {id : Nat} {o' : AO} (hget : ∀ j, get hp' j = if j = id then some o' else get hp j) (hM : ∀ j, j ≠ id → M' j = M j)
    (hn : get hp id = none) : SgKeep M M' (sg hp) (sg hp') := by
  have hn' : sg hp id = none := by simp [sg, hn]
  refine ⟨fun j hj => ?_, fun j sz n hj => ?_, fun j sz n k hj => ?_⟩
  · have e : j ≠ id := fun e => by rw [e, hn'] at hj; cases hj
    rw [sg_change hget, if_neg e, hM j e]
    exact ⟨hj, rfl⟩
  · have e : j ≠ id := fun e => by rw [e, hn'] at hj; cases hj
    rw [sg_change hget, if_neg e, hM j e]
    exact ⟨n, hj, Nat.le_refl _, fun _ => rfl⟩
  · have e : j ≠ id := fun e => by rw [e, hn'] at hj; cases hj
    rw [sg_change hget, if_neg e, hM j e]
    exact ⟨n, k, hj, Nat.le_refl _, Nat.le_refl _, fun _ => ⟨rfl, rfl⟩, fun _ => rfl⟩
theorem sgKeep_same {hp hp' : Hp} {id : Nat} {o o' : AO} (hget : ∀ j, get hp' j = if j = id then some o' else get hp j)
    (ho : get hp id = some o) (hs : o'.sg = o.sg) : sg hp' = sg hp := by
  funext j
  rw [sg_change hget]
  by_cases e : j = id
  · subst e; simp [sg, ho, hs]
  · simp [e]
theorem Rel.freeze (hr : Rel c st a w F M) {id sz : Nat} {t : TypeId} {es : List (List Pd)} (ho : get st.hp id = some (.arr t sz es)) :
    Rel c { st with hp := froze st.hp id } a w (fun b => F b ∨ ((M id).cap ≠ 0 ∧ b = (M id).blk)) M := by
  have hf : froze st.hp id = setL st.hp id (.fro sz es) := by simp [froze, ho]
  have hget : ∀ j, get (froze st.hp id) j = if j = id then some (.fro sz es) else get st.hp j := fun j => by rw [hf, get_setL]
  have hsg : sg (froze st.hp id) = sg st.hp := sgKeep_same hget ho rfl
  have hsk : SgKeep M M (sg st.hp) (sg (froze st.hp id)) := by rw [hsg]; exact SgKeep.refl _ _
  have hsub : ∀ b, F b → (F b ∨ ((M id).cap ≠ 0 ∧ b = (M id).blk)) := fun b h => .inl h
  constructor
  · intro q d hq
    exact (hr.env q d hq).keep (fun _ _ => rfl) hsub hsk
  · exact hr.size
  · exact hr.defers
  · constructor
    · intro j o hj
      rw [hget] at hj
      by_cases e : j = id
      · subst e
        simp only [if_true, Option.some.injEq] at hj
        subst hj
        obtain ⟨h1, h2, _, h3, h4⟩ := hr.heap.obj j _ ho
        refine ⟨h1, h2, h3, fun hc => ?_⟩
        obtain ⟨_, row, h6, h7, h8⟩ := h4 hc
        exact ⟨.inr ⟨hc, rfl⟩, row, t, h6.choose, h6.choose_spec.1, h7, fun i e q x he hx => (h8 i e q x he hx).keep (fun _ _ => rfl) hsub⟩
      · rw [if_neg e] at hj
        refine (hr.heap.obj j o hj).keep (fun _ _ => rfl) hsub hsk (fun b hown => ⟨rfl, ?_⟩)
        rintro (h | ⟨hc, he⟩)
        · exact hr.heap.notF ⟨j, o, hj, hown⟩ h
        · exact e (hr.heap.inj j o id _ b hj ho hown ⟨hc, he⟩)
    · intro j o j' o2 b hj hj' hown hown'
      rw [hget] at hj hj'
      by_cases e : j = id
      · rw [if_pos e] at hj; cases hj; exact hown.elim
      · by_cases e' : j' = id
        · rw [if_pos e'] at hj'; cases hj'; exact hown'.elim
        · rw [if_neg e] at hj
          rw [if_neg e'] at hj'
          exact hr.heap.inj j o j' o2 b hj hj' hown hown'
  · have hk := hr.keep
    refine ⟨hk.os, hk.tape, hk.output, hk.size, hk.old, fun b h => .inl (hk.F0 b h), ?_, ?_, ?_, hk.sgk.trans hsk, hk.s0b⟩
    · rintro b (h | ⟨hc, rfl⟩)
      · exact hk.Fn b h
      · rcases hk.own _ ⟨id, _, ho, hc, rfl⟩ with h1 | h1
        · exact .inr (.inl h1)
        · exact .inr (.inr h1)
    · rintro b (h | ⟨hc, rfl⟩)
      · exact hk.Fl b h
      · exact hr.heap.lt ⟨id, _, ho, hc, rfl⟩
    · rintro b ⟨j, o, hj, hown⟩
      rw [hget] at hj
      by_cases e : j = id
      · rw [if_pos e] at hj; cases hj; exact hown.elim
      · rw [if_neg e] at hj
        exact hk.own _ ⟨j, o, hj, hown⟩
theorem ArrR.pure {F F' : Nat → Prop} {w : World} {m : Mb} {t : TypeId} {sz : Nat} {es : List (List Pd)} (h : ArrR F w m t sz es) (hF : ∀ b, F b → F' b) (hb : m.cap ≠ 0 → F' m.blk) {ad : Option Addr}
    (ha : m.cap = 0 ∨ ad = some ⟨m.blk, 0, none⟩) : PR F' w (.sl es) (.slice ad es.length m.cap) := by
  obtain ⟨h1, h2, _, h3, h4⟩ := h
  by_cases h0 : es = []
  · subst h0; exact .sl0 ad m.cap
  · have hpos : 0 < es.length := List.length_pos_iff.2 h0
    have hc : m.cap ≠ 0 := by omega
    obtain ⟨_, row, h6, h7, h8⟩ := h4 hc
    obtain rfl := ha.resolve_left hc
    refine .sl es m.blk 0 m.cap sz row t h6.choose (hb hc) h6.choose_spec.1 h2 h3 (fun i e j c he hj => ?_) (fun i e j c he hj => by rw [Nat.zero_add]; exact (h8 i e j c he hj).keep (fun _ _ => rfl) hF)
    rw [h7, Nat.zero_add]
    exact row_lt (List.getElem?_eq_some_iff.1 he).1 h2 (by have := h3 i e he; have := (List.getElem?_eq_some_iff.1 hj).1; omega)
theorem Rel.freezeN (hr : Rel c st a w F M) {id sz k : Nat} {t e : TypeId} {rows : List (List (List Pd))} (ho : get st.hp id = some (.nst t e sz k rows none)) :
    Rel c { st with hp := setL st.hp id (.sem (deadO (.nst sz rows.length k))) } a w (fun b => F b ∨ NstOwns (M id) b) M := by
  have hget : ∀ j, get (setL st.hp id (.sem (deadO (.nst sz rows.length k)))) j = if j = id then some (.sem (deadO (.nst sz rows.length k))) else get st.hp j := get_setL _ _ _
  have hsg : sg (setL st.hp id (.sem (deadO (.nst sz rows.length k)))) = sg st.hp := sgKeep_same hget ho rfl
  have hsk : SgKeep M M (sg st.hp) (sg (setL st.hp id (.sem (deadO (.nst sz rows.length k))))) := by rw [hsg]; exact SgKeep.refl _ _
  have hsub : ∀ b, F b → (F b ∨ NstOwns (M id) b) := fun b h => .inl h
  constructor
  · intro q d hq
    exact (hr.env q d hq).keep (fun _ _ => rfl) hsub hsk
  · exact hr.size
  · exact hr.defers
  · constructor
    · intro j o hj
      rw [hget] at hj
      by_cases e : j = id
      · rw [if_pos e] at hj; cases hj; trivial
      · rw [if_neg e] at hj
        refine (hr.heap.obj j o hj).keep (fun _ _ => rfl) hsub hsk (fun b hown => ⟨rfl, ?_⟩)
        rintro (h | h)
        · exact hr.heap.notF ⟨j, o, hj, hown⟩ h
        · exact e (hr.heap.inj j o id _ b hj ho hown h)
    · intro j o j' o2 b hj hj' hown hown'
      rw [hget] at hj hj'
      by_cases e : j = id
      · rw [if_pos e] at hj; cases hj; exact hown.elim
      · by_cases e' : j' = id
        · rw [if_pos e'] at hj'; cases hj'; exact hown'.elim
        · rw [if_neg e] at hj
          rw [if_neg e'] at hj'
          exact hr.heap.inj j o j' o2 b hj hj' hown hown'
  · have hk := hr.keep
    refine ⟨hk.os, hk.tape, hk.output, hk.size, hk.old, fun b h => .inl (hk.F0 b h), ?_, ?_, ?_, hk.sgk.trans hsk, hk.s0b⟩
    · rintro b (h | h)
      · exact hk.Fn b h
      · rcases hk.own _ ⟨id, _, ho, h⟩ with h1 | h1
        · exact .inr (.inl h1)
        · exact .inr (.inr h1)
    · rintro b (h | h)
      · exact hk.Fl b h
      · exact hr.heap.lt ⟨id, _, ho, h⟩
    · rintro b ⟨j, o, hj, hown⟩
      rw [hget] at hj
      by_cases e : j = id
      · rw [if_pos e] at hj; cases hj; exact hown.elim
      · rw [if_neg e] at hj
        exact hk.own _ ⟨j, o, hj, hown⟩
theorem view_of_nref (hr : HR F w M st.hp) {id sz k : Nat} {t e : TypeId} {rows : List (List (List Pd))} {v : Value} (ho : get st.hp id = some (.nst t e sz k rows none)) (h : refOK (M id) 1 rows.length 0 rows.length v) :
    PR (fun b => F b ∨ NstOwns (M id) b) w (.sl (rows.map fun r => [.sl r])) v := by
  have hn : NstR F w (M id) t e sz rows none := hr.obj id _ ho
  obtain ⟨ad, cap, rfl, h1, h2, h3, h4⟩ := h
  by_cases h0 : rows = []
  · subst h0; exact .sl0 ad cap
  · have hpos : 0 < rows.length := List.length_pos_iff.2 h0
    have hc : (M id).cap ≠ 0 := by have := hn.le; omega
    obtain ⟨_, row, h6, h7, h8⟩ := hn.outer hc
    have hcap : cap ≠ 0 := by omega
    obtain rfl := h4.resolve_left hcap
    rw [show rows.length = (rows.map fun r => ([.sl r] : List Pd)).length by simp]
    refine .sl _ (M id).blk (0 * 1) cap 1 row t (0, 0) (.inr (.inl ⟨hc, rfl⟩)) h6 (by simp; omega) (fun i x hx => ?_) (fun i x j y hx hy => ?_) (fun i x j y hx hy => ?_)
    · rw [List.getElem?_map] at hx
      cases hr2 : rows[i]? with
      | none => rw [hr2] at hx; cases hx
      | some r => rw [hr2] at hx; cases hx; rfl
    · rw [List.getElem?_map] at hx
      cases hr2 : rows[i]? with
      | none => rw [hr2] at hx; cases hx
      | some r =>
        rw [hr2] at hx; cases hx
        have hi := (List.getElem?_eq_some_iff.1 hr2).1
        have hj := (List.getElem?_eq_some_iff.1 hy).1
        have := hn.le
        simp at hj
        omega
    · rw [List.getElem?_map] at hx
      cases hr2 : rows[i]? with
      | none => rw [hr2] at hx; cases hx
      | some r =>
        rw [hr2] at hx; cases hx
        have hi := (List.getElem?_eq_some_iff.1 hr2).1
        have hix : i < (M id).xs.length := by rw [hn.xl]; exact hi
        have hib : (M id).xs[i]? = some ((M id).xs[i]) := List.getElem?_eq_getElem hix
        obtain ⟨a2, g1, g2⟩ := h8 i r _ hr2 hib (by simp)
        rcases j with _ | j
        · simp at hy
          subst hy
          simp only [Nat.zero_mul, Nat.mul_one, Nat.zero_add, Nat.add_zero]
          rw [g1]
          exact (hn.rows i r _ hr2 hib (by simp)).pure (fun b h => .inl h) (fun hc2 => .inr (.inr ⟨i, _, hib, hc2, rfl⟩)) g2
        · simp at hy
theorem view_of_ref (hr : HR F w M st.hp) {id off len sz n : Nat} {es : List (List Pd)} {v : Value} (hg : (∃ t, get st.hp id = some (.arr t sz es)) ∨ get st.hp id = some (.fro sz es))
    (hn : n = es.length) (h : refOK (M id) sz n off len v) {F' : Nat → Prop} (hF : ∀ b, F b → F' b) (hb : (M id).cap ≠ 0 → F' (M id).blk) : PR F' w (.sl ((es.drop off).take len)) v := by
  subst hn
  obtain ⟨ad, cap, rfl, h1, h2, h3, h4⟩ := h
  obtain ⟨h5, h6, h7, h8⟩ := hr.row hg
  have hlen : ((es.drop off).take len).length = len := by simp; omega
  by_cases h0 : len = 0
  · subst h0
    have : (es.drop off).take 0 = [] := by simp
    rw [this]
    exact .sl0 _ _
  · have h9 := h4.resolve_left (by omega)
    subst h9
    obtain ⟨row, t, fr, h10, h11, h12⟩ := h8 (by omega)
    have hget : ∀ (i : Nat) e, ((es.drop off).take len)[i]? = some e → es[off + i]? = some e := fun i e he => by
      rw [List.getElem?_take] at he
      split at he
      · rwa [List.getElem?_drop] at he
      · cases he
    have key := PR.sl (F := F') (w := w) ((es.drop off).take len) (M id).blk (off * sz) cap sz row t fr (hb (by omega)) h10 (by omega) (fun i e he => h7 _ e (hget i e he)) (fun i e j x he hx => by
      have h13 := h7 _ e (hget i e he)
      have h14 := (List.getElem?_eq_some_iff.1 hx).1
      have h15 := (List.getElem?_eq_some_iff.1 (hget i e he)).1
      have := row_lt (j := j) (sz := sz) h15 h6 (by omega)
      rw [Nat.add_mul] at this
      omega) (fun i e j x he hx => by
      have := h12 _ e j x (hget i e he) hx
      rw [Nat.add_mul] at this
      exact this.keep (fun _ _ => rfl) hF)
    rw [hlen] at key
    exact key
theorem purD_sound (hr : Rel c st a w F M) {d : D} {v : Value} (hd : DR F w M (sg st.hp) d v) {k : Pd → Hp → Prop} (h : purD st.hp d k) :
    ∃ x h' F', k x h' ∧ Rel c { st with hp := h' } a w F' M ∧ (∀ b, F b → F' b) ∧ sg h' = sg st.hp ∧ PR F' w x v := by
  unfold purD at h
  cases d with
  | p x => cases hd with | p hx => exact ⟨x, st.hp, F, h, hr, fun _ h => h, rfl, hx⟩
  | cl es => cases hd with | cl _ ad hx _ => exact ⟨_, st.hp, F, h, hr, fun _ h => h, rfl, hx⟩
  | cz es => cases hd with | cz _ ad hx => exact ⟨_, st.hp, F, h, hr, fun _ h => h, rfl, hx⟩
  | ref id off len N =>
    simp only at h
    cases hd with
    | ref _ _ _ _ sz n v hs hN hv h2 =>
      cases ho : get st.hp id with
      | none => rw [ho] at h; exact h.elim
      | some o =>
        rw [ho] at h
        cases o with
        | box cs ty => exact h.elim
        | iter _ _ => exact h.elim
        | glob _ _ => exact h.elim
        | sem _ => exact h.elim
        | mp _ => exact h.elim
        | nst _ _ _ _ _ _ => exact h.elim
        | arx _ _ _ _ _ _ => exact h.elim
        | arr t sz' es =>
          obtain ⟨rfl, hk⟩ := h
          have hsg := sg_of_get ho
          rw [hsg] at hs
          simp only [AO.sg, Option.some.injEq, Sg.arr.injEq] at hs
          obtain ⟨rfl, rfl⟩ := hs
          have hget : ∀ j, get (froze st.hp id) j = if j = id then some (.fro sz' es) else get st.hp j := fun j => by simp [froze, ho, get_setL]
          exact ⟨_, _, _, hk, hr.freeze ho, fun b h => .inl h, sgKeep_same hget ho rfl, view_of_ref hr.heap (.inl ⟨t, ho⟩) rfl (h2 rfl) (fun b h => .inl h) (fun hc => .inr ⟨hc, rfl⟩)⟩
        | fro sz' es =>
          obtain ⟨rfl, hk⟩ := h
          have hsg := sg_of_get ho
          rw [hsg] at hs
          simp only [AO.sg, Option.some.injEq, Sg.arr.injEq] at hs
          obtain ⟨rfl, rfl⟩ := hs
          have hob := hr.heap.obj id _ ho
          exact ⟨_, st.hp, F, hk, hr, fun b h => h, rfl, view_of_ref hr.heap (.inr ho) rfl (h2 rfl) (fun b h => h) (fun hc => (hob.2.2.2 hc).1)⟩
  | nref id n =>
    simp only at h
    split at h
    case h_2 => exact h.elim
    rename_i t e sz kk rows ho
    obtain ⟨rfl, hk⟩ := h
    cases hd with
    | nref _ _ sz2 m k2 _ hs hN hv h2 =>
      have hs2 := sg_of_get ho
      rw [hs] at hs2
      simp only [AO.sg, Option.some.injEq, Sg.nst.injEq] at hs2
      obtain ⟨rfl, rfl, rfl⟩ := hs2
      exact ⟨_, _, _, hk, hr.freezeN ho, fun b h => .inl h, sgKeep_same (get_setL _ _ _) ho rfl, view_of_nref hr.heap ho (h2 rfl)⟩
  | _ => exact h.elim
theorem pursD_sound : ∀ (ds : List D) {st : St} {F : Nat → Prop} (vs : List Value), Rel c st a w F M → DRl F w M (sg st.hp) ds vs → ∀ {k : List Pd → Hp → Prop}, pursD st.hp ds k →
    ∃ xs h' F', k xs h' ∧ Rel c { st with hp := h' } a w F' M ∧ (∀ b, F b → F' b) ∧ sg h' = sg st.hp ∧ xs.length = vs.length ∧ ∀ (i : Nat) x, xs[i]? = some x → PR F' w x (vs.getD i undef)
  | [], st, F, vs, hr, hd, k, h => ⟨[], st.hp, F, h, hr, fun _ h => h, rfl, by have := hd.1; simpa using this.symm, fun i x hx => by simp at hx⟩
  | d :: ds, st, F, vs, hr, hd, k, h => by
    cases vs with
    | nil => have := hd.1; simp at this
    | cons v vs =>
      simp only [pursD] at h
      have hd0 : DR F w M (sg st.hp) d v := by simpa [List.getD] using hd.2 0 d rfl
      obtain ⟨x, h1, F1, hk, hr1, hF1, hs1, hx⟩ := purD_sound hr hd0 h
      have hd1 : DRl F1 w M (sg h1) ds vs := by
        refine ⟨by have := hd.1; simpa using this, fun i e he => ?_⟩
        have := hd.2 (i + 1) e (by simpa using he)
        rw [hs1]
        have h3 : DR F w M (sg st.hp) e (vs.getD i undef) := by simpa [List.getD] using this
        exact h3.keep (fun _ _ => rfl) hF1 (SgKeep.refl _ _)
      obtain ⟨xs, h2, F2, hk2, hr2, hF2, hs2, hl2, hx2⟩ := pursD_sound ds (st := { st with hp := h1 }) vs hr1 hd1 hk
      refine ⟨x :: xs, h2, F2, hk2, hr2, fun b hb => hF2 b (hF1 b hb), hs2.trans hs1, by simp [hl2], fun i y hy => ?_⟩
      cases i with
      | zero => simp only [List.getElem?_cons_zero, Option.some.injEq] at hy; subst hy; simpa [List.getD] using hx.keep (fun _ _ => rfl) hF2
      | succ i => simp only [List.getElem?_cons_succ] at hy; simpa [List.getD] using hx2 i y hy
end
end Go.Am
namespace Go.Am
open Go
section
variable {P : Program} {c : Ctx} {st : St} {a : Act} {w : World} {F : Nat → Prop} {M : Nat → Mb}
theorem alloc_old (w : World) (o : Obj) (b : Nat) (h : b < w.heap.size) : (w.alloc o).heap[b]? = w.heap[b]? := by
  show (w.heap.push o)[b]? = _
  rw [Array.getElem?_push, if_neg (by omega)]
theorem DR.oneCell {s : Nat → Option Sg} {d : D} {v : Value} (h : DR F w M s d v) (h1 : d.one = true) : v.oneCell' = true := by
  cases h with
  | p h => exact h.oneCell
  | agg _ _ _ _ => simp [D.one] at h1
  | tup _ _ _ _ => simp [D.one] at h1
  | cl _ _ _ _ => rfl
  | cz _ _ _ => rfl
  | ref _ _ _ _ _ _ _ _ _ hv _ => obtain ⟨_, _, _, rfl⟩ := hv; rfl
  | ptr _ _ _ => rfl
  | np => rfl
  | mv _ _ => rfl
  | nref _ _ _ _ _ _ _ _ hv _ => obtain ⟨_, _, rfl, _⟩ := hv; rfl
  | nea _ _ _ _ _ _ _ _ _ _ _ => rfl
  | nr _ _ _ _ _ _ _ _ _ _ hv _ => obtain ⟨_, _, rfl⟩ := hv; rfl
  | pe _ _ _ _ _ _ _ _ _ _ => rfl
  | ea _ _ _ _ _ _ _ _ _ hv _ => obtain ⟨_, rfl⟩ := hv; rfl
  | fn _ _ _ _ _ => rfl
  | unk _ h => exact h
  | bad _ => simp [D.one] at h1
theorem DRl.keep {F' : Nat → Prop} {w' : World} {M' : Nat → Mb} {s s' : Nat → Option Sg} {cs : List D} {vs : List Value} (h : DRl F w M s cs vs)
    (hw : ∀ b, F b → w'.heap[b]? = w.heap[b]?) (hF : ∀ b, F b → F' b) (hs : SgKeep M M' s s') : DRl F' w' M' s' cs vs :=
  ⟨h.1, fun i c hc => (h.2 i c hc).keep hw hF hs⟩
def upM (M : Nat → Mb) (q : Nat) (m : Mb) : Nat → Mb := fun j => if j = q then m else M j
theorem get_new (h : Hp) (q : Nat) (o : AO) (j : Nat) : get ((q, o) :: h) j = if j = q then some o else get h j := by
  rw [get_cons]
  by_cases e : j = q
  · simp [e]
  · rw [if_neg e, if_neg (Ne.symm e)]
theorem Rel.newBox (hr : Rel c st a w F M) {q : Nat} {cs : List D} {vs : Array Value} (t ty : TypeId) (hty : tyOr ty t = t) (hn : get st.hp q = none) (hd : DRl F w M (sg st.hp) cs vs.toList) (h1 : cs.all D.one = true) (hx : Exa ty cs vs) :
    Rel c { st with hp := (q, .box cs ty) :: st.hp } a (w.alloc (.cells vs t)) F (upM M q ⟨w.heap.size, 0, []⟩) ∧
    DR F (w.alloc (.cells vs t)) (upM M q ⟨w.heap.size, 0, []⟩) (sg ((q, .box cs ty) :: st.hp)) (.ptr q 0) (.pointer (some ⟨w.heap.size, 0, none⟩)) := by
  have hget := get_new st.hp q (.box cs ty)
  have hM : ∀ j, j ≠ q → upM M q ⟨w.heap.size, 0, []⟩ j = M j := fun j hj => by simp [upM, hj]
  have hMq : upM M q ⟨w.heap.size, 0, []⟩ q = ⟨w.heap.size, 0, []⟩ := by simp [upM]
  have hsk := sgKeep_new hget hM hn
  have hold : ∀ b, b < w.heap.size → (w.alloc (.cells vs t)).heap[b]? = w.heap[b]? := fun b hb => alloc_old w _ b hb
  refine ⟨hr.change hget hM hsk rfl rfl rfl (by simp) (fun b hb _ => hold b hb) ?_ (fun b hb => .inr (by have : b = _ := hb; rw [this, hMq]; exact Nat.le_refl _)), ?_⟩
  · rw [hMq]
    refine ⟨fun hF => Nat.lt_irrefl _ (hr.keep.Fl _ hF), vs, t, by rw [hty]; exact heap_alloc_new w _, by have := hd.1; simpa using this, fun j d hj => ?_, hx⟩
    have h2 := hd.2 j d hj
    have h3 : vs.toList.getD j undef = vs.getD j undef := by simp [List.getD, Array.getD_eq_getD_getElem?]
    rw [h3] at h2
    exact ⟨h2.keep (fun b hb => hold b (hr.keep.Fl b hb)) (fun _ h => h) hsk, h2.oneCell (List.all_eq_true.1 h1 d (List.mem_of_getElem? hj))⟩
  · have := DR.ptr (F := F) (w := w.alloc (.cells vs t)) (M := upM M q ⟨w.heap.size, 0, []⟩) (s := sg ((q, .box cs ty) :: st.hp)) q 0 (by rw [sg_change hget]; simp [AO.sg])
    rwa [hMq] at this
theorem run_zeroValue' {t : TypeId} {i : TypeInfo} {z : Value} (hi : P.info? t = some i) (hz : i.zero = some z) (w : World) : (zeroValue t).run P w = .ok z w := by
  simp [zeroValue, typeInfo, hi, hz]
theorem stored_sound {s : Nat → Option Sg} {d : D} {v : Value} (h : DR F w M s d v) {cs : List D} (hs : d.stored = some cs) : cs = d.cells ∧ cs.all D.one = true ∧ DRl F w M s cs v.cells.toList := by
  unfold D.stored at hs
  split at hs
  · rename_i h1; cases hs; exact ⟨rfl, h1, h.cells (.inl h1)⟩
  · cases hs
theorem Rel.newArrM (hr : Rel c st a w F M) {q cap sz : Nat} {es : List (List Pd)} {vs : Array Value} {e : TypeId} {w' : World} (hn : get st.hp q = none)
    (hw : RowH w' w.heap.size e vs) (hws : w'.heap.size = w.heap.size + 1) (hold : ∀ b, b < w.heap.size → w'.heap[b]? = w.heap[b]?) (hos : w'.os = w.os) (htape : w'.tape = w.tape) (hout : w'.output = w.output)
    (hsz : 0 < sz) (hc : es.length ≤ cap) (hm : cap ≤ maxLen) (hl : ∀ (i : Nat) x, es[i]? = some x → x.length = sz) (hv : vs.size = cap * sz)
    (hp : ∀ (i : Nat) x (j : Nat) y, es[i]? = some x → x[j]? = some y → PR F w y (vs.getD (i * sz + j) undef)) :
    Rel c { st with hp := (q, .arr e sz es) :: st.hp } a w' F (upM M q ⟨w.heap.size, cap, []⟩) ∧
    DR F w' (upM M q ⟨w.heap.size, cap, []⟩) (sg ((q, .arr e sz es) :: st.hp)) (.ref q 0 es.length es.length) (.slice (some ⟨w.heap.size, 0, none⟩) es.length cap) := by
  have hget := get_new st.hp q (.arr e sz es)
  have hM : ∀ j, j ≠ q → upM M q ⟨w.heap.size, cap, []⟩ j = M j := fun j hj => by simp [upM, hj]
  have hMq : upM M q ⟨w.heap.size, cap, []⟩ q = ⟨w.heap.size, cap, []⟩ := by simp [upM]
  have hsk := sgKeep_new hget hM hn
  have hs : sg ((q, .arr e sz es) :: st.hp) q = some (.arr sz es.length) := by rw [sg_change hget]; simp [AO.sg]
  refine ⟨hr.change hget hM hsk hos htape hout (by rw [hws]; exact Nat.le_succ _) (fun b hb _ => hold b hb) ?_ (fun b hb => .inr (by have : b = _ := hb.2; rw [this, hMq]; exact Nat.le_refl _)), ?_⟩
  · rw [hMq]
    refine ⟨hsz, hc, hm, hl, fun _ => ⟨fun hF => Nat.lt_irrefl _ (hr.keep.Fl _ hF), vs, hw, hv, fun i x j y hx hy => ?_⟩⟩
    exact (hp i x j y hx hy).keep (fun b hb => hold b (hr.keep.Fl b hb)) (fun _ h => h)
  · refine .ref q 0 es.length es.length sz es.length _ hs (Nat.le_refl _) ⟨_, _, _, rfl⟩ (fun _ => ⟨_, cap, rfl, by omega, hc, by rw [hMq]; exact Nat.zero_add _, .inr (by rw [hMq]; simp)⟩)
theorem Rel.newArr (hr : Rel c st a w F M) {q cap sz : Nat} {es : List (List Pd)} {vs : Array Value} {e : TypeId} {w' : World} (hn : get st.hp q = none)
    (hw : w'.heap = (w.alloc (.cells vs e)).heap) (hos : w'.os = w.os) (htape : w'.tape = w.tape) (hout : w'.output = w.output)
    (hsz : 0 < sz) (hc : es.length ≤ cap) (hm : cap ≤ maxLen) (hl : ∀ (i : Nat) x, es[i]? = some x → x.length = sz) (hv : vs.size = cap * sz)
    (hp : ∀ (i : Nat) x (j : Nat) y, es[i]? = some x → x[j]? = some y → PR F w y (vs.getD (i * sz + j) undef)) :
    Rel c { st with hp := (q, .arr e sz es) :: st.hp } a w' F (upM M q ⟨w.heap.size, cap, []⟩) ∧
    DR F w' (upM M q ⟨w.heap.size, cap, []⟩) (sg ((q, .arr e sz es) :: st.hp)) (.ref q 0 es.length es.length) (.slice (some ⟨w.heap.size, 0, none⟩) es.length cap) :=
  hr.newArrM hn (.of0 (by rw [hw]; exact heap_alloc_new w _)) (by rw [hw]; simp) (fun b hb => by rw [hw]; exact alloc_old w _ b hb) hos htape hout hsz hc hm hl hv hp
theorem chunk_length {α : Type} (sz : Nat) : ∀ (n : Nat) (l : List α), (chunk sz n l).length = n
  | 0, _ => rfl
  | n + 1, l => by simp [chunk, chunk_length sz n]
theorem chunk_get {α : Type} (sz : Nat) : ∀ (n : Nat) (l : List α) (i : Nat), (chunk sz n l)[i]? = if i < n then some ((l.drop (i * sz)).take sz) else none
  | 0, _, i => by simp [chunk]
  | n + 1, l, 0 => by simp [chunk]
  | n + 1, l, i + 1 => by
    simp only [chunk, List.getElem?_cons_succ, chunk_get sz n, List.drop_drop]
    by_cases h : i < n
    · rw [if_pos h, if_pos (by omega)]
      congr 3
      rw [Nat.add_mul]; omega
    · rw [if_neg h, if_neg (by omega)]
theorem keepT_or (ty t : TypeId) (cs : List D) : tyOr (keepT ty cs) (tyOr ty t) = tyOr ty t := by
  cases ty with
  | zero => simp [keepT, tyOr]
  | succ n =>
    simp only [keepT, tyOr]
    split <;> simp_all
theorem keepT_exa (ty : TypeId) (cs : List D) (row : Array Value) : Exa (keepT ty cs) cs row := by
  intro h h1
  cases ty with
  | zero => exact (h rfl).elim
  | succ n => simp [keepT, h1] at h
theorem Rel.storeBox (hr : Rel c st a w F M) {id off : Nat} {bs cs : List D} {ty : TypeId} {vs : List Value} (ho : get st.hp id = some (.box bs ty)) (hd : DRl F w M (sg st.hp) cs vs) (h1 : cs.all D.one = true)
    (hl : off + cs.length ≤ bs.length) :
    ∃ w', (storeCells ⟨(M id).blk, off, none⟩ vs).run P w = .ok () w' ∧ Rel c { st with hp := setL st.hp id (.box (bs.take off ++ cs ++ bs.drop (off + cs.length)) (keepT ty (bs.take off ++ cs ++ bs.drop (off + cs.length)))) } a w' F M := by
  obtain ⟨hnF, row, t, hrow, hsize, hcells⟩ := hr.heap.obj id _ ho
  have hvl : vs.length = cs.length := hd.1
  have hone : ∀ v ∈ vs, v.oneCell' = true := fun v hv => by
    obtain ⟨i, hi⟩ := List.mem_iff_getElem?.1 hv
    have hlt := (List.getElem?_eq_some_iff.1 hi).1
    have hc : cs[i]? = some (cs[i]'(by omega)) := List.getElem?_eq_getElem (by omega)
    have := (hd.2 i _ hc).oneCell (List.all_eq_true.1 h1 _ (List.mem_of_getElem? hc))
    rwa [List.getD_eq_getElem?_getD, hi] at this
  have hst := run_storeCells_at P (M id).blk off (tyOr ty t) vs 0 row w hrow (by omega) hone
  simp only [Nat.add_zero] at hst
  refine ⟨_, hst, ?_⟩
  have hget : ∀ j, get (setL st.hp id (.box (bs.take off ++ cs ++ bs.drop (off + cs.length)) (keepT ty (bs.take off ++ cs ++ bs.drop (off + cs.length))))) j = if j = id then some (.box (bs.take off ++ cs ++ bs.drop (off + cs.length)) (keepT ty (bs.take off ++ cs ++ bs.drop (off + cs.length)))) else get st.hp j := get_setL _ _ _
  have hsg := sgKeep_same hget ho rfl
  refine hr.change (M' := M) hget (fun _ _ => rfl) (by rw [hsg]; exact SgKeep.refl _ _) rfl rfl rfl (by simp) (fun b hb hne => setRow_other w _ b _ (hne _ ho)) ?_ (fun b hb => .inl ⟨_, ho, hb⟩)
  have hkeep : ∀ {d v}, DR F w M (sg st.hp) d v → DR F (w.setRow (M id).blk (row.toList.take off ++ vs ++ row.toList.drop (off + vs.length)).toArray) M (sg (setL st.hp id (.box (bs.take off ++ cs ++ bs.drop (off + cs.length)) (keepT ty (bs.take off ++ cs ++ bs.drop (off + cs.length)))))) d v := by
    intro d v h
    rw [hsg]
    exact h.keep (fun b hb => setRow_other w _ b _ (fun e => hnF (e ▸ hb))) (fun _ h => h) (SgKeep.refl _ _)
  refine ⟨hnF, _, tyOr ty t, by rw [keepT_or]; exact setRow_heap w _ _ _ (tyOr ty t) (0, 0) hrow, ?_, fun j d hj => ?_, keepT_exa _ _ _⟩
  · simp [hvl, hsize]
  · have hrd : DRl F w M (sg st.hp) bs row.toList := ⟨by simpa using hsize, fun i e he => by have := (hcells.1 i e he).1; simpa [List.getD, Array.getD_eq_getD_getElem?] using this⟩
    have hall := ((hrd.take off).append hd).append (hrd.drop (off + cs.length))
    have hdj := hall.2 j d hj
    have e1 : ((row.toList.take off ++ vs ++ row.toList.drop (off + vs.length)).toArray).getD j undef = (row.toList.take off ++ vs ++ row.toList.drop (off + cs.length)).getD j undef := by
      rw [hvl]; simp [List.getD, Array.getD_eq_getD_getElem?]
    rw [e1]
    refine ⟨hkeep hdj, ?_⟩
    have hrow1 : ∀ v ∈ row.toList, v.oneCell' = true := fun v hv => by
      obtain ⟨i, hi⟩ := List.mem_iff_getElem?.1 hv
      have hlt := (List.getElem?_eq_some_iff.1 hi).1
      simp only [Array.length_toList] at hlt
      have := (hcells.1 i _ (List.getElem?_eq_getElem (by omega))).2
      have e2 : row[i]? = some v := by simpa using hi
      rwa [Array.getD_eq_getD_getElem?, e2] at this
    have hlt : j < (row.toList.take off ++ vs ++ row.toList.drop (off + cs.length)).length := by rw [hall.1]; exact (List.getElem?_eq_some_iff.1 hj).1
    rw [List.getD_eq_getElem?_getD, List.getElem?_eq_getElem hlt]
    have hmem : (row.toList.take off ++ vs ++ row.toList.drop (off + cs.length))[j] ∈ row.toList.take off ++ vs ++ row.toList.drop (off + cs.length) := List.getElem_mem hlt
    rw [List.mem_append, List.mem_append] at hmem
    simp only [Option.getD_some]
    rcases hmem with (hmem | hmem) | hmem
    · exact hrow1 _ (List.mem_of_mem_take hmem)
    · exact hone _ hmem
    · exact hrow1 _ (List.mem_of_mem_drop hmem)
theorem Rel.storeArr (hr : Rel c st a w F M) {id i q sz : Nat} {e : TypeId} {es : List (List Pd)} {xs : List Pd} {vs : List Value} (ho : get st.hp id = some (.arr e sz es)) (hi : i < es.length)
    (hl : xs.length = vs.length) (hx : ∀ (j : Nat) x, xs[j]? = some x → PR F w x (vs.getD j undef)) (hq : q + xs.length ≤ sz) :
    ∃ w', (storeCells ⟨(M id).blk, i * sz + q, none⟩ vs).run P w = .ok () w' ∧
      Rel c { st with hp := setL st.hp id (.arr e sz (es.set i ((es.getD i []).take q ++ xs ++ (es.getD i []).drop (q + xs.length)))) } a w' F M := by
  obtain ⟨h1, h2, h2', h3, h4⟩ := hr.heap.obj id _ ho
  have hcap : (M id).cap ≠ 0 := by omega
  obtain ⟨hnF, row, hrow, hsize, hcells⟩ := h4 hcap
  have hej : es[i]? = some (es.getD i []) := by simp [List.getD, hi]
  have hlen := h3 i _ hej
  have hone : ∀ v ∈ vs, v.oneCell' = true := fun v hv => by
    obtain ⟨j, hj⟩ := List.mem_iff_getElem?.1 hv
    have hlt := (List.getElem?_eq_some_iff.1 hj).1
    have := (hx j _ (List.getElem?_eq_getElem (by omega))).oneCell
    rwa [List.getD_eq_getElem?_getD, hj] at this
  have hfit : i * sz + sz ≤ row.size := by
    have h5 : (i + 1) * sz ≤ (M id).cap * sz := Nat.mul_le_mul_right _ (by omega)
    rw [Nat.add_mul] at h5
    omega
  have hst := run_storeCells_row P (M id).blk (i * sz + q) e vs 0 row w hrow (by omega) hone
  simp only [Nat.add_zero] at hst
  refine ⟨_, hst, ?_⟩
  have hget : ∀ j, get (setL st.hp id (.arr e sz (es.set i ((es.getD i []).take q ++ xs ++ (es.getD i []).drop (q + xs.length))))) j = if j = id then some (.arr e sz (es.set i ((es.getD i []).take q ++ xs ++ (es.getD i []).drop (q + xs.length)))) else get st.hp j := get_setL _ _ _
  have hsg := sgKeep_same hget ho (by simp [AO.sg])
  refine hr.change (M' := M) hget (fun _ _ => rfl) (by rw [hsg]; exact SgKeep.refl _ _) rfl rfl rfl (by simp) (fun b hb hne => setRow_other w _ b _ (fun e => hne _ ho ⟨hcap, e⟩)) ?_ (fun b hb => .inl ⟨_, ho, hb⟩)
  have hnl : ((es.getD i []).take q ++ xs ++ (es.getD i []).drop (q + xs.length)).length = sz := by
    rw [List.length_append, List.length_append, List.length_take, List.length_drop]; omega
  refine ⟨h1, by simpa using h2, h2', fun k x hk => ?_, fun _ => ⟨hnF, _, hrow.set (by simp; omega), by simp; omega, fun k x j y hk hy => ?_⟩⟩
  · rw [List.getElem?_set] at hk
    by_cases e1 : i = k
    · rw [if_pos e1, if_pos (by omega)] at hk
      simp only [Option.some.injEq] at hk; rw [← hk]; exact hnl
    · rw [if_neg e1] at hk
      exact h3 k x hk
  · have hkeep : ∀ {x v}, PR F w x v → PR F (w.setRow (M id).blk (row.toList.take (i * sz + q) ++ vs ++ row.toList.drop (i * sz + q + vs.length)).toArray) x v :=
      fun h => h.keep (fun b hb => setRow_other w _ b _ (fun e => hnF (e ▸ hb))) (fun _ h => h)
    have hval : ∀ p, ((row.toList.take (i * sz + q) ++ vs ++ row.toList.drop (i * sz + q + vs.length)).toArray).getD p undef =
        if p < i * sz + q then row.getD p undef else if p < i * sz + q + vs.length then vs.getD (p - (i * sz + q)) undef else row.getD p undef := by
      intro p
      have hA : (row.toList.take (i * sz + q)).length = i * sz + q := by simp; omega
      rw [Array.getD_eq_getD_getElem?, Array.getD_eq_getD_getElem?, List.getD_eq_getElem?_getD]
      simp only [List.getElem?_toArray]
      by_cases e1 : p < i * sz + q
      · rw [if_pos e1, List.append_assoc, List.getElem?_append_left (by omega), List.getElem?_take, if_pos e1]; simp
      · rw [if_neg e1]
        by_cases e2 : p < i * sz + q + vs.length
        · rw [if_pos e2, List.append_assoc, List.getElem?_append_right (by omega), hA, List.getElem?_append_left (by omega)]
        · rw [if_neg e2, List.getElem?_append_right (by simp; omega), List.getElem?_drop]
          simp only [List.length_append, hA]
          rw [show i * sz + q + vs.length + (p - (i * sz + q + vs.length)) = p from by omega]
          simp
    rw [hval]
    rw [List.getElem?_set] at hk
    by_cases e1 : i = k
    · subst e1
      rw [if_pos rfl, if_pos hi] at hk
      simp only [Option.some.injEq] at hk
      subst hk
      rw [List.append_assoc, List.getElem?_append] at hy
      have hA : ((es.getD i []).take q).length = q := by rw [List.length_take]; omega
      rw [hA] at hy
      split at hy
      · rename_i hlt
        rw [if_pos (by omega)]
        rw [List.getElem?_take, if_pos hlt] at hy
        exact hkeep (hcells i _ j y hej hy)
      · rename_i hge
        rw [if_neg (by omega)]
        rw [List.getElem?_append] at hy
        split at hy
        · rename_i hlt
          rw [if_pos (by omega)]
          have := hx _ y hy
          rw [show i * sz + j - (i * sz + q) = j - q from by omega]
          exact hkeep this
        · rename_i hge2
          rw [if_neg (by omega)]
          rw [List.getElem?_drop] at hy
          have := hcells i _ _ y hej hy
          rw [show i * sz + (q + xs.length + (j - q - xs.length)) = i * sz + j from by omega] at this
          exact hkeep this
    · rw [if_neg e1] at hk
      have hxl := h3 k x hk
      have hjl := (List.getElem?_eq_some_iff.1 hy).1
      have := hkeep (hcells k x j y hk hy)
      rcases Nat.lt_or_ge k i with hki | hki
      · have h5 : (k + 1) * sz ≤ i * sz := Nat.mul_le_mul_right _ (by omega)
        rw [Nat.add_mul] at h5
        rw [if_pos (by omega)]
        exact this
      · have h5 : (i + 1) * sz ≤ k * sz := Nat.mul_le_mul_right _ (by omega)
        rw [Nat.add_mul] at h5
        rw [if_neg (by omega), if_neg (by omega)]
        exact this
end
end Go.Am
namespace Go.Am
open Go
section
variable {P : Program} {c : Ctx} {st : St} {a : Act} {w : World} {F : Nat → Prop} {M : Nat → Mb}
theorem Rel.morph (hr : Rel c st a w F M) {hp' : Hp} {M' : Nat → Mb} (hsg : SgKeep M M' (sg st.hp) (sg hp'))
    (hobj : ∀ j o, get hp' j = some o → (get st.hp j = some o ∧ M' j = M j) ∨ ObjR F w M' (sg hp') (M' j) o)
    (hown : ∀ j o b, get hp' j = some o → o.owns (M' j) b → Owned M st.hp b)
    (hinj : ∀ j o j' o' b, get hp' j = some o → get hp' j' = some o' → o.owns (M' j) b → o'.owns (M' j') b → j = j') : Rel c { st with hp := hp' } a w F M' := by
  constructor
  · intro t d ht
    exact (hr.env t d ht).keep (fun _ _ => rfl) (fun _ h => h) hsg
  · exact hr.size
  · exact hr.defers
  · refine ⟨fun j o hj => ?_, fun j o j' o' b h1 h2 h3 h4 => hinj j o j' o' b h1 h2 h3 h4⟩
    rcases hobj j o hj with ⟨h1, h2⟩ | h1
    · rw [h2]
      exact (hr.heap.obj j o h1).keep (fun _ _ => rfl) (fun _ h => h) hsg (fun b hb => ⟨rfl, hr.heap.notF ⟨j, o, h1, hb⟩⟩)
    · exact h1
  · have hk := hr.keep
    refine ⟨hk.os, hk.tape, hk.output, hk.size, hk.old, hk.F0, hk.Fn, hk.Fl, ?_, hk.sgk.trans hsg, hk.s0b⟩
    rintro b ⟨j, o, h1, h2⟩
    exact hk.own b (hown j o b h1 h2)
theorem xs_set {l : List (Nat × Nat)} {i j : Nat} {x y : Nat × Nat} (h : (l.set i x)[j]? = some y) : (i = j ∧ y = x) ∨ (i ≠ j ∧ l[j]? = some y) := by
  rw [List.getElem?_set] at h
  split at h
  · rename_i e
    split at h
    · simp only [Option.some.injEq] at h; exact .inl ⟨e, h.symm⟩
    · cases h
  · rename_i e; exact .inr ⟨e, h⟩
theorem Rel.lend (hr : Rel c st a w F M) {id i q : Nat} {t e : TypeId} {sz k : Nat} {rows : List (List (List Pd))} {r : List (List Pd)} (hg : get st.hp id = some (.nst t e sz k rows none)) (hi : rows[i]? = some r)
    (hq : get st.hp q = none) : ∃ bc, (M id).xs[i]? = some bc ∧
      SgKeep M (fun j => if j = q then ⟨bc.1, bc.2, []⟩ else if j = id then { (M id) with xs := (M id).xs.set i (0, 0) } else M j) (sg st.hp) (sg ((q, AO.arr e sz r) :: setL st.hp id (.nst t e sz (k + 1) rows (some i)))) ∧
      Rel c { st with hp := (q, .arr e sz r) :: setL st.hp id (.nst t e sz (k + 1) rows (some i)) } a w F (fun j => if j = q then ⟨bc.1, bc.2, []⟩ else if j = id then { (M id) with xs := (M id).xs.set i (0, 0) } else M j) := by
  have hn : NstR F w (M id) t e sz rows none := hr.heap.obj id _ hg
  have hlt : i < rows.length := (List.getElem?_eq_some_iff.1 hi).1
  have hltx : i < (M id).xs.length := by rw [hn.xl]; exact hlt
  obtain ⟨bc, hbc⟩ : ∃ bc, (M id).xs[i]? = some bc := ⟨_, List.getElem?_eq_getElem hltx⟩
  have hqid : q ≠ id := fun e => by rw [e, hg] at hq; cases hq
  refine ⟨bc, hbc, ?_⟩
  generalize hM' : (fun j => if j = q then (⟨bc.1, bc.2, []⟩ : Mb) else if j = id then { (M id) with xs := (M id).xs.set i (0, 0) } else M j) = M'
  have hMq : M' q = ⟨bc.1, bc.2, []⟩ := by rw [← hM']; simp
  have hMid : M' id = { (M id) with xs := (M id).xs.set i (0, 0) } := by rw [← hM']; simp [Ne.symm hqid]
  have hMj : ∀ j, j ≠ q → j ≠ id → M' j = M j := fun j h1 h2 => by rw [← hM']; simp [h1, h2]
  have hget : ∀ j, get ((q, AO.arr e sz r) :: setL st.hp id (.nst t e sz (k + 1) rows (some i))) j = if j = q then some (.arr e sz r) else if j = id then some (.nst t e sz (k + 1) rows (some i)) else get st.hp j := by
    intro j
    rw [get_cons, get_setL]
    by_cases h : q = j
    · subst h; simp
    · rw [if_neg h, if_neg (Ne.symm h)]
  have hsgn : sg st.hp id = some (.nst sz rows.length k) := by simp [sg, hg, AO.sg]
  have hsk : SgKeep M M' (sg st.hp) (sg ((q, AO.arr e sz r) :: setL st.hp id (.nst t e sz (k + 1) rows (some i)))) := by
    have hne : ∀ j s, sg st.hp j = some s → j ≠ q := fun j s hs e => by rw [e] at hs; simp [sg, hq] at hs
    refine ⟨fun j hj => ?_, fun j s2 n2 hj => ?_, fun j s2 n2 k2 hj => ?_⟩
    · have h1 := hne j _ hj
      have h2 : j ≠ id := fun e => by rw [e, hsgn] at hj; cases hj
      refine ⟨?_, by rw [hMj j h1 h2]⟩
      unfold sg at hj ⊢; rw [hget, if_neg h1, if_neg h2]; exact hj
    · have h1 := hne j _ hj
      have h2 : j ≠ id := fun e => by rw [e, hsgn] at hj; cases hj
      refine ⟨n2, ?_, Nat.le_refl _, fun _ => hMj j h1 h2⟩
      unfold sg at hj ⊢; rw [hget, if_neg h1, if_neg h2]; exact hj
    · have h1 := hne j _ hj
      by_cases h2 : j = id
      · subst h2
        rw [hsgn] at hj
        simp only [Option.some.injEq, Sg.nst.injEq] at hj
        obtain ⟨rfl, rfl, rfl⟩ := hj
        refine ⟨_, k + 1, ?_, Nat.le_refl _, Nat.le_succ _, fun _ => by rw [hMid]; exact ⟨rfl, rfl⟩, fun h => by omega⟩
        unfold sg; rw [hget, if_neg h1, if_pos rfl]; rfl
      · refine ⟨n2, k2, ?_, Nat.le_refl _, Nat.le_refl _, fun _ => by rw [hMj j h1 h2]; exact ⟨rfl, rfl⟩, fun _ => by rw [hMj j h1 h2]⟩
        unfold sg at hj ⊢; rw [hget, if_neg h1, if_neg h2]; exact hj
  have hArr : ArrR F w ⟨bc.1, bc.2, []⟩ e sz r := hn.rows i r bc hi hbc (by simp)
  have hN' : NstR F w (M' id) t e sz rows (some i) := by
    rw [hMid]
    refine ⟨hn.pos, by simp [hn.xl], hn.le, hn.max, fun hc => ?_, fun j r' b' h1 h2 h3 => ?_, fun j b' h1 h2 => ?_, fun j1 j2 b1 b2 h1 h2 h3 h4 h5 => ?_, fun j b' h1 h2 h3 => ?_⟩
    · obtain ⟨g1, row, g2, g3, g4⟩ := hn.outer hc
      refine ⟨g1, row, g2, g3, fun j r' b' h1 h2 h3 => ?_⟩
      rcases xs_set h2 with ⟨h4, _⟩ | ⟨_, h4⟩
      · exact (h3 (by rw [h4])).elim
      · exact g4 j r' b' h1 h4 (by simp)
    · rcases xs_set h2 with ⟨h4, _⟩ | ⟨_, h4⟩
      · exact (h3 (by rw [h4])).elim
      · exact hn.rows j r' b' h1 h4 (by simp)
    · rcases xs_set h2 with ⟨_, h4⟩ | ⟨h4, _⟩
      · rw [h4]
      · exact (h4 (Option.some.inj h1)).elim
    · rcases xs_set h1 with ⟨_, e1⟩ | ⟨_, e1⟩
      · rw [e1] at h4; exact (h4 rfl).elim
      · rcases xs_set h2 with ⟨_, e2⟩ | ⟨_, e2⟩
        · rw [e2] at h5; exact (h5 rfl).elim
        · exact hn.dis j1 j2 b1 b2 e1 e2 h3 h4 h5
    · rcases xs_set h1 with ⟨_, e1⟩ | ⟨_, e1⟩
      · rw [e1] at h2; exact (h2 rfl).elim
      · exact hn.out j b' e1 h2 h3
  have ownId : ∀ b, NstOwns (M' id) b → NstOwns (M id) b ∧ ¬ (bc.2 ≠ 0 ∧ b = bc.1) := by
    intro b hb
    rw [hMid] at hb
    rcases hb with ⟨h1, h2⟩ | ⟨j, b', h1, h2, h3⟩
    · exact ⟨.inl ⟨h1, h2⟩, fun h3 => hn.out i bc hbc h3.1 h1 (h3.2.symm.trans h2)⟩
    · rcases xs_set h1 with ⟨_, e1⟩ | ⟨e0, e1⟩
      · rw [e1] at h2; exact (h2 rfl).elim
      · exact ⟨.inr ⟨j, b', e1, h2, h3⟩, fun h4 => hn.dis i j bc b' hbc e1 e0 h4.1 h2 (h4.2.symm.trans h3)⟩
  have ownQ : ∀ b, (AO.arr e sz r).owns (M' q) b → bc.2 ≠ 0 ∧ b = bc.1 := fun b hb => by rw [hMq] at hb; exact hb
  refine ⟨hsk, hr.morph hsk (fun j o hj => ?_) (fun j o b hj hb => ?_) (fun j o j' o' b hj hj' hb hb' => ?_)⟩
  · rw [hget] at hj
    split at hj
    · rename_i h1; subst h1; cases hj; right; rw [hMq]; exact hArr
    · split at hj
      · rename_i h2; subst h2; cases hj; exact .inr hN'
      · rename_i h1 h2; exact .inl ⟨hj, hMj j h1 h2⟩
  · rw [hget] at hj
    split at hj
    · rename_i h1; subst h1; cases hj
      exact ⟨id, _, hg, .inr ⟨i, bc, hbc, ownQ b hb⟩⟩
    · split at hj
      · rename_i h2; subst h2; cases hj
        exact ⟨j, _, hg, (ownId b hb).1⟩
      · rename_i h1 h2
        rw [hMj j h1 h2] at hb
        exact ⟨j, o, hj, hb⟩
  · rw [hget] at hj hj'
    have old : ∀ j o, j ≠ q → j ≠ id → get st.hp j = some o → o.owns (M' j) b → NstOwns (M id) b → False := fun j o h1 h2 h3 h4 h5 => by
      rw [hMj j h1 h2] at h4
      exact h2 (hr.heap.inj j o id _ b h3 hg h4 h5)
    split at hj
    · rename_i h1; subst h1; cases hj
      have hbq := ownQ b hb
      split at hj'
      · rename_i h1'; exact h1'.symm
      · split at hj'
        · rename_i h2'; subst h2'; cases hj'; exact ((ownId b hb').2 hbq).elim
        · rename_i h1' h2'; exact (old j' o' h1' h2' hj' hb' (.inr ⟨i, bc, hbc, hbq⟩)).elim
    · rename_i h1
      split at hj
      · rename_i h2; subst h2; cases hj
        split at hj'
        · rename_i h1'; subst h1'; cases hj'; exact ((ownId b hb).2 (ownQ b hb')).elim
        · split at hj'
          · rename_i h2'; exact h2'.symm
          · rename_i h1' h2'; exact (old j' o' h1' h2' hj' hb' (ownId b hb).1).elim
      · rename_i h2
        split at hj'
        · rename_i h1'; subst h1'; cases hj'; exact (old j o h1 h2 hj hb (.inr ⟨i, bc, hbc, ownQ b hb'⟩)).elim
        · split at hj'
          · rename_i h2'; subst h2'; cases hj'; exact (old j o h1 h2 hj hb (ownId b hb').1).elim
          · rename_i h1' h2'
            rw [hMj j h1 h2] at hb
            rw [hMj j' h1' h2'] at hb'
            exact hr.heap.inj j o j' o' b hj hj' hb hb'
theorem get_setL_same {hp : Hp} {id : Nat} {o : AO} (h : get hp id = some o) (j : Nat) : get (setL hp id o) j = get hp j := by
  rw [get_setL]; split
  · rename_i e; rw [e, h]
  · rfl
theorem Rel.drop (hr : Rel c st a w F M) {id i : Nat} {t e : TypeId} {sz k : Nat} {rows : List (List (List Pd))} (hg : get st.hp id = some (.nst t e sz k rows none)) (hi : i < rows.length) :
    Rel c { st with hp := setL st.hp id (.nst t e sz (k + 1) rows (some i)) } a w F (fun j => if j = id then { (M id) with xs := (M id).xs.set i (0, 0) } else M j) := by
  have hn : NstR F w (M id) t e sz rows none := hr.heap.obj id _ hg
  generalize hM' : (fun j => if j = id then { (M id) with xs := (M id).xs.set i (0, 0) } else M j) = M'
  have hMid : M' id = { (M id) with xs := (M id).xs.set i (0, 0) } := by rw [← hM']; simp
  have hMj : ∀ j, j ≠ id → M' j = M j := fun j h => by rw [← hM']; simp [h]
  have hget : ∀ j, get (setL st.hp id (.nst t e sz (k + 1) rows (some i))) j = if j = id then some (.nst t e sz (k + 1) rows (some i)) else get st.hp j := get_setL _ _ _
  have hsgn : sg st.hp id = some (.nst sz rows.length k) := by simp [sg, hg, AO.sg]
  have hsk : SgKeep M M' (sg st.hp) (sg (setL st.hp id (.nst t e sz (k + 1) rows (some i)))) := by
    refine ⟨fun j hj => ?_, fun j s2 n2 hj => ?_, fun j s2 n2 k2 hj => ?_⟩
    · have h2 : j ≠ id := fun e => by rw [e, hsgn] at hj; cases hj
      refine ⟨?_, by rw [hMj j h2]⟩
      unfold sg at hj ⊢; rw [hget, if_neg h2]; exact hj
    · have h2 : j ≠ id := fun e => by rw [e, hsgn] at hj; cases hj
      refine ⟨n2, ?_, Nat.le_refl _, fun _ => hMj j h2⟩
      unfold sg at hj ⊢; rw [hget, if_neg h2]; exact hj
    · by_cases h2 : j = id
      · subst h2
        rw [hsgn] at hj
        simp only [Option.some.injEq, Sg.nst.injEq] at hj
        obtain ⟨rfl, rfl, rfl⟩ := hj
        refine ⟨_, k + 1, ?_, Nat.le_refl _, Nat.le_succ _, fun _ => by rw [hMid]; exact ⟨rfl, rfl⟩, fun h => by omega⟩
        unfold sg; rw [hget, if_pos rfl]; rfl
      · refine ⟨n2, k2, ?_, Nat.le_refl _, Nat.le_refl _, fun _ => by rw [hMj j h2]; exact ⟨rfl, rfl⟩, fun _ => by rw [hMj j h2]⟩
        unfold sg at hj ⊢; rw [hget, if_neg h2]; exact hj
  have hN' : NstR F w (M' id) t e sz rows (some i) := by
    rw [hMid]
    refine ⟨hn.pos, by simp [hn.xl], hn.le, hn.max, fun hc => ?_, fun j r' b' h1 h2 h3 => ?_, fun j b' h1 h2 => ?_, fun j1 j2 b1 b2 h1 h2 h3 h4 h5 => ?_, fun j b' h1 h2 h3 => ?_⟩
    · obtain ⟨g1, row, g2, g3, g4⟩ := hn.outer hc
      refine ⟨g1, row, g2, g3, fun j r' b' h1 h2 h3 => ?_⟩
      rcases xs_set h2 with ⟨h4, _⟩ | ⟨_, h4⟩
      · exact (h3 (by rw [h4])).elim
      · exact g4 j r' b' h1 h4 (by simp)
    · rcases xs_set h2 with ⟨h4, _⟩ | ⟨_, h4⟩
      · exact (h3 (by rw [h4])).elim
      · exact hn.rows j r' b' h1 h4 (by simp)
    · rcases xs_set h2 with ⟨_, h4⟩ | ⟨h4, _⟩
      · rw [h4]
      · exact (h4 (Option.some.inj h1)).elim
    · rcases xs_set h1 with ⟨_, e1⟩ | ⟨_, e1⟩
      · rw [e1] at h4; exact (h4 rfl).elim
      · rcases xs_set h2 with ⟨_, e2⟩ | ⟨_, e2⟩
        · rw [e2] at h5; exact (h5 rfl).elim
        · exact hn.dis j1 j2 b1 b2 e1 e2 h3 h4 h5
    · rcases xs_set h1 with ⟨_, e1⟩ | ⟨_, e1⟩
      · rw [e1] at h2; exact (h2 rfl).elim
      · exact hn.out j b' e1 h2 h3
  have ownId : ∀ b, NstOwns (M' id) b → NstOwns (M id) b := by
    intro b hb
    rw [hMid] at hb
    rcases hb with ⟨h1, h2⟩ | ⟨j, b', h1, h2, h3⟩
    · exact .inl ⟨h1, h2⟩
    · rcases xs_set h1 with ⟨_, e1⟩ | ⟨e0, e1⟩
      · rw [e1] at h2; exact (h2 rfl).elim
      · exact .inr ⟨j, b', e1, h2, h3⟩
  refine hr.morph hsk (fun j o hj => ?_) (fun j o b hj hb => ?_) (fun j o j' o' b hj hj' hb hb' => ?_)
  · rw [hget] at hj
    split at hj
    · rename_i h2; subst h2; cases hj; exact .inr hN'
    · rename_i h2; exact .inl ⟨hj, hMj j h2⟩
  · rw [hget] at hj
    split at hj
    · rename_i h2; subst h2; cases hj; exact ⟨j, _, hg, ownId b hb⟩
    · rename_i h2; rw [hMj j h2] at hb; exact ⟨j, o, hj, hb⟩
  · rw [hget] at hj hj'
    have old : ∀ j o, j ≠ id → get st.hp j = some o → o.owns (M' j) b → NstOwns (M' id) b → False := fun j o h2 h3 h4 h5 => by
      rw [hMj j h2] at h4
      exact h2 (hr.heap.inj j o id _ b h3 hg h4 (ownId b h5))
    split at hj
    · rename_i h2; subst h2; cases hj
      split at hj'
      · rename_i h2'; exact h2'.symm
      · rename_i h2'; exact (old j' o' h2' hj' hb' hb).elim
    · rename_i h2
      split at hj'
      · rename_i h2'; subst h2'; cases hj'; exact (old j o h2 hj hb hb').elim
      · rename_i h2'
        rw [hMj j h2] at hb
        rw [hMj j' h2'] at hb'
        exact hr.heap.inj j o j' o' b hj hj' hb hb'
theorem Rel.storeRow (hr : Rel c st a w F M) {id i : Nat} {t e : TypeId} {sz k : Nat} {rows : List (List (List Pd))} (hg : get st.hp id = some (.nst t e sz k rows (some i))) (hi : i < rows.length) (v : Value) (h1 : v.oneCell' = true) :
    ∃ w', (storeCells ⟨(M id).blk, i, none⟩ [v]).run P w = .ok () w' ∧ Rel c st a w' F M ∧ ∃ row, w'.heap[(M id).blk]? = some (.cells row t (0, 0)) ∧ row.size = (M id).cap ∧ row.getD i undef = v := by
  have hn : NstR F w (M id) t e sz rows (some i) := hr.heap.obj id _ hg
  have hcap : (M id).cap ≠ 0 := by have := hn.le; omega
  obtain ⟨hnF, row, hrow, hsize, hcells⟩ := hn.outer hcap
  have hlt : i < row.size := by have := hn.le; omega
  have hst := run_storeCells_at P (M id).blk i t [v] 0 row w hrow (by simp; omega) (by simpa using h1)
  simp only [Nat.add_zero, List.length_cons, List.length_nil, Nat.zero_add] at hst
  have hval : ∀ p, ((row.toList.take i ++ [v] ++ row.toList.drop (i + 1)).toArray).getD p undef = if p = i then v else row.getD p undef := by
    intro p
    have e1 : row.toList.take i ++ [v] ++ row.toList.drop (i + 1) = row.toList.set i v := by
      rw [List.set_eq_take_append_cons_drop, if_pos (by simpa using hlt)]; simp
    rw [e1]
    simp only [Array.getD_eq_getD_getElem?, List.getElem?_toArray, List.getElem?_set]
    by_cases e2 : i = p
    · subst e2; simp [hlt]
    · rw [if_neg e2, if_neg (Ne.symm e2)]; simp
  have hsz : ((row.toList.take i ++ [v] ++ row.toList.drop (i + 1)).toArray).size = (M id).cap := by
    simp; omega
  have hget := get_setL_same hg
  refine ⟨_, hst, ?_, _, setRow_heap w _ _ _ t (0, 0) hrow, hsz, by rw [hval, if_pos rfl]⟩
  have hh : ∀ j, get st.hp j = if j = id then some (.nst t e sz k rows (some i)) else get st.hp j := fun j => by split <;> simp_all
  have hch := hr.change (M' := M) (hp' := st.hp) (w' := w.setRow (M id).blk (row.toList.take i ++ [v] ++ row.toList.drop (i + 1)).toArray) hh (fun _ _ => rfl) (SgKeep.refl _ _) rfl rfl rfl (by simp)
    (fun b hb hne => setRow_other w _ b _ (fun e => hne _ hg (.inl ⟨hcap, e⟩))) ?_ (fun b hb => .inl ⟨_, hg, hb⟩)
  · exact hch
  · refine ⟨hn.pos, hn.xl, hn.le, hn.max, fun _ => ⟨hnF, _, setRow_heap w _ _ _ t (0, 0) hrow, hsz, fun j r bc h2 h3 h4 => ?_⟩, fun j r bc h2 h3 h4 => ?_, hn.lent, hn.dis, hn.out⟩
    · obtain ⟨ad, h5, h6⟩ := hcells j r bc h2 h3 h4
      have : j ≠ i := fun e => h4 (by rw [e])
      exact ⟨ad, by rw [hval, if_neg this]; exact h5, h6⟩
    · refine (hn.rows j r bc h2 h3 h4).keep (fun b hb => setRow_other w _ b _ (fun e => hnF (e ▸ hb))) (fun _ h => h) (fun hc => ⟨setRow_other w _ _ _ (hn.out j bc h3 hc hcap), ?_⟩)
      exact ((hn.rows j r bc h2 h3 h4).2.2.2.2 hc).1
theorem Rel.fill (hr : Rel c st a w F M) {id i q : Nat} {t e : TypeId} {sz k : Nat} {rows : List (List (List Pd))} {es : List (List Pd)} (hg : get st.hp id = some (.nst t e sz k rows (some i))) (hi : i < rows.length)
    (hq : get st.hp q = some (.arr e sz es)) (hrow : ∃ row, w.heap[(M id).blk]? = some (.cells row t (0, 0)) ∧ ∃ ad, row.getD i undef = .slice ad es.length (M q).cap ∧ ((M q).cap = 0 ∨ ad = some ⟨(M q).blk, 0, none⟩)) :
    Rel c { st with hp := setL (setL st.hp id (.nst t e sz (k + 1) (rows.set i es) none)) q (.sem (deadO (.arr sz (es.length + 1)))) } a w F (fun j => if j = id then { (M id) with xs := (M id).xs.set i ((M q).blk, (M q).cap) } else M j) := by
  have hn : NstR F w (M id) t e sz rows (some i) := hr.heap.obj id _ hg
  have hA : ArrR F w (M q) e sz es := hr.heap.obj q _ hq
  have hqid : q ≠ id := fun e => by rw [e, hg] at hq; cases hq
  generalize hM' : (fun j => if j = id then { (M id) with xs := (M id).xs.set i ((M q).blk, (M q).cap) } else M j) = M'
  have hMid : M' id = { (M id) with xs := (M id).xs.set i ((M q).blk, (M q).cap) } := by rw [← hM']; simp
  have hMj : ∀ j, j ≠ id → M' j = M j := fun j h => by rw [← hM']; simp [h]
  have hget : ∀ j, get (setL (setL st.hp id (.nst t e sz (k + 1) (rows.set i es) none)) q (.sem (deadO (.arr sz (es.length + 1))))) j =
      if j = q then some (.sem (deadO (.arr sz (es.length + 1)))) else if j = id then some (.nst t e sz (k + 1) (rows.set i es) none) else get st.hp j := fun j => by rw [get_setL, get_setL]
  have hsgn : sg st.hp id = some (.nst sz rows.length k) := by simp [sg, hg, AO.sg]
  have hsgq : sg st.hp q = some (.arr sz es.length) := by simp [sg, hq, AO.sg]
  have hsk : SgKeep M M' (sg st.hp) (sg (setL (setL st.hp id (.nst t e sz (k + 1) (rows.set i es) none)) q (.sem (deadO (.arr sz (es.length + 1)))))) := by
    refine ⟨fun j hj => ?_, fun j s2 n2 hj => ?_, fun j s2 n2 k2 hj => ?_⟩
    · have h1 : j ≠ q := fun e => by rw [e, hsgq] at hj; cases hj
      have h2 : j ≠ id := fun e => by rw [e, hsgn] at hj; cases hj
      refine ⟨?_, by rw [hMj j h2]⟩
      unfold sg at hj ⊢; rw [hget, if_neg h1, if_neg h2]; exact hj
    · have h2 : j ≠ id := fun e => by rw [e, hsgn] at hj; cases hj
      by_cases h1 : j = q
      · subst h1
        rw [hsgq] at hj
        simp only [Option.some.injEq, Sg.arr.injEq] at hj
        obtain ⟨rfl, rfl⟩ := hj
        refine ⟨es.length + 1, ?_, Nat.le_succ _, fun h => by omega⟩
        unfold sg; rw [hget, if_pos rfl]; rfl
      · refine ⟨n2, ?_, Nat.le_refl _, fun _ => hMj j h2⟩
        unfold sg at hj ⊢; rw [hget, if_neg h1, if_neg h2]; exact hj
    · have h1 : j ≠ q := fun e => by rw [e, hsgq] at hj; cases hj
      by_cases h2 : j = id
      · subst h2
        rw [hsgn] at hj
        simp only [Option.some.injEq, Sg.nst.injEq] at hj
        obtain ⟨rfl, rfl, rfl⟩ := hj
        refine ⟨_, k + 1, ?_, Nat.le_refl _, Nat.le_succ _, fun _ => by rw [hMid]; exact ⟨rfl, rfl⟩, fun h => by omega⟩
        unfold sg; rw [hget, if_neg h1, if_pos rfl]; simp [AO.sg]
      · refine ⟨n2, k2, ?_, Nat.le_refl _, Nat.le_refl _, fun _ => by rw [hMj j h2]; exact ⟨rfl, rfl⟩, fun _ => by rw [hMj j h2]⟩
        unfold sg at hj ⊢; rw [hget, if_neg h1, if_neg h2]; exact hj
  have hltx : i < (M id).xs.length := by rw [hn.xl]; exact hi
  have hne : ∀ b, (M q).cap ≠ 0 → b = (M q).blk → ¬ NstOwns (M id) b := fun b h1 h2 h3 => hqid (hr.heap.inj q _ id _ b hq hg ⟨h1, h2⟩ h3)
  have rset : ∀ {j r'}, (rows.set i es)[j]? = some r' → (i = j ∧ r' = es) ∨ (i ≠ j ∧ rows[j]? = some r') := by
    intro j r' h
    by_cases e : i = j
    · subst e
      rw [List.getElem?_set_self hi] at h
      exact .inl ⟨rfl, (Option.some.inj h).symm⟩
    · rw [List.getElem?_set_ne e] at h
      exact .inr ⟨e, h⟩
  have hN' : NstR F w (M' id) t e sz (rows.set i es) none := by
    rw [hMid]
    refine ⟨hn.pos, by simp [hn.xl], by simpa using hn.le, hn.max, fun hc => ?_, fun j r' b' h1 h2 h3 => ?_, fun j b' h1 h2 => (by cases h1), fun j1 j2 b1 b2 h1 h2 h3 h4 h5 => ?_, fun j b' h1 h2 h3 => ?_⟩
    · obtain ⟨g1, row, g2, g3, g4⟩ := hn.outer hc
      refine ⟨g1, row, g2, g3, fun j r' b' h1 h2 h3 => ?_⟩
      rcases rset h1 with ⟨rfl, rfl⟩ | ⟨e0, e1⟩
      · rcases xs_set h2 with ⟨_, rfl⟩ | ⟨h4, _⟩
        · obtain ⟨row2, g5, ad, g6, g7⟩ := hrow
          rw [g2] at g5
          cases g5
          exact ⟨ad, g6, g7⟩
        · exact (h4 rfl).elim
      · rcases xs_set h2 with ⟨h4, _⟩ | ⟨_, h4⟩
        · exact (e0 h4).elim
        · exact g4 j r' b' e1 h4 (fun h => e0 (Option.some.inj h))
    · rcases rset h1 with ⟨rfl, rfl⟩ | ⟨e0, e1⟩
      · rcases xs_set h2 with ⟨_, rfl⟩ | ⟨h4, _⟩
        · exact hA
        · exact (h4 rfl).elim
      · rcases xs_set h2 with ⟨h4, _⟩ | ⟨_, h4⟩
        · exact (e0 h4).elim
        · exact hn.rows j r' b' e1 h4 (fun h => e0 (Option.some.inj h))
    · rcases xs_set h1 with ⟨d1, e1⟩ | ⟨d1, e1⟩
      · rcases xs_set h2 with ⟨d2, e2⟩ | ⟨d2, e2⟩
        · exact (h3 (d1.symm.trans d2)).elim
        · intro h6; subst e1; exact hne _ h4 rfl (.inr ⟨j2, b2, e2, h5, h6⟩)
      · rcases xs_set h2 with ⟨d2, e2⟩ | ⟨d2, e2⟩
        · intro h6; subst e2; exact hne _ h5 rfl (.inr ⟨j1, b1, e1, h4, h6.symm⟩)
        · exact hn.dis j1 j2 b1 b2 e1 e2 h3 h4 h5
    · rcases xs_set h1 with ⟨d1, e1⟩ | ⟨d1, e1⟩
      · intro h6; subst e1; exact hne _ h2 rfl (.inl ⟨h3, h6⟩)
      · exact hn.out j b' e1 h2 h3
  have ownId : ∀ b, NstOwns (M' id) b → NstOwns (M id) b ∨ ((M q).cap ≠ 0 ∧ b = (M q).blk) := by
    intro b hb
    rw [hMid] at hb
    rcases hb with ⟨h1, h2⟩ | ⟨j, b', h1, h2, h3⟩
    · exact .inl (.inl ⟨h1, h2⟩)
    · rcases xs_set h1 with ⟨_, e1⟩ | ⟨_, e1⟩
      · subst e1; exact .inr ⟨h2, h3⟩
      · exact .inl (.inr ⟨j, b', e1, h2, h3⟩)
  refine hr.morph hsk (fun j o hj => ?_) (fun j o b hj hb => ?_) (fun j o j' o' b hj hj' hb hb' => ?_)
  · rw [hget] at hj
    split at hj
    · cases hj; exact .inr trivial
    · split at hj
      · rename_i h2; subst h2; cases hj; exact .inr hN'
      · rename_i h1 h2; exact .inl ⟨hj, hMj j h2⟩
  · rw [hget] at hj
    split at hj
    · cases hj; exact hb.elim
    · split at hj
      · rename_i h2; subst h2; cases hj
        rcases ownId b hb with h3 | h3
        · exact ⟨j, _, hg, h3⟩
        · exact ⟨q, _, hq, h3⟩
      · rename_i h1 h2
        rw [hMj j h2] at hb
        exact ⟨j, o, hj, hb⟩
  · rw [hget] at hj hj'
    have old : ∀ j o, j ≠ q → j ≠ id → get st.hp j = some o → o.owns (M' j) b → NstOwns (M' id) b → False := fun j o h1 h2 h3 h4 h5 => by
      rw [hMj j h2] at h4
      rcases ownId b h5 with h6 | h6
      · exact h2 (hr.heap.inj j o id _ b h3 hg h4 h6)
      · exact h1 (hr.heap.inj j o q _ b h3 hq h4 h6)
    split at hj
    · cases hj; exact hb.elim
    · rename_i h1
      split at hj'
      · cases hj'; exact hb'.elim
      · rename_i h1'
        split at hj
        · rename_i h2; subst h2; cases hj
          split at hj'
          · rename_i h2'; exact h2'.symm
          · rename_i h2'; exact (old j' o' h1' h2' hj' hb' hb).elim
        · rename_i h2
          split at hj'
          · rename_i h2'; subst h2'; cases hj'; exact (old j o h1 h2 hj hb hb').elim
          · rename_i h2'
            rw [hMj j h2] at hb
            rw [hMj j' h2'] at hb'
            exact hr.heap.inj j o j' o' b hj hj' hb hb'
end
end Go.Am
namespace Go.Am
open Go
section
variable {P : Program} {c : Ctx} {st : St} {a : Act} {w : World} {F : Nat → Prop} {M : Nat → Mb}
theorem run_append_in {t t2 ty e : TypeId} {u2 : TypeDesc} {i : TypeInfo} (ht : P.underlying t = some (.slice e)) (ht2 : P.underlying t2 = some u2) (hni : ∀ k, u2 ≠ .int k) (hi : P.info? e = some i)
    {base : Option Addr} {n cap m : Nat} {vx : Value} {news : Array Value} {w' : World} (hlen : (Builtin.lenOf vx).run P w = .ok m w) (hf : (Builtin.firstCells i.size m vx).run P w = .ok news w)
    (hroom : n + m ≤ cap) (hst : ∀ ad, base = some ad → (storeCells (ad.add (n * i.size)) news.toList).run P w = .ok () w') (hnone : base = none → w' = w) :
    (Builtin.append_ #[t, t2] ty #[.slice base n cap, vx]).run P w = .ok (.slice base (n + m) cap) w' := by
  have hz : (match u2 with | .int _ => true | _ => false) = false := by cases u2 <;> first | rfl | exact (hni _ rfl).elim
  cases base with
  | none =>
    obtain rfl := hnone rfl
    simp [Builtin.append_, run_underlying ht, run_underlying ht2, hz, run_sizeOf' hi, hlen, hroom, hf]
  | some ad =>
    simp [Builtin.append_, run_underlying ht, run_underlying ht2, hz, run_sizeOf' hi, hlen, hroom, hf, hst ad rfl]
theorem run_append_out {t t2 ty e : TypeId} {u2 : TypeDesc} {i : TypeInfo} {z : Value} (ht : P.underlying t = some (.slice e)) (ht2 : P.underlying t2 = some u2) (hni : ∀ k, u2 ≠ .int k) (hi : P.info? e = some i)
    (hz : i.zero = some z) {base : Option Addr} {n cap m : Nat} {vx : Value} {news olds : Array Value} (hlen : (Builtin.lenOf vx).run P w = .ok m w)
    (hf : (Builtin.firstCells i.size m vx).run P w.drew = .ok news w.drew) (hfo : (Builtin.firstCells i.size n (.slice base n cap)).run P w.drew = .ok olds w.drew)
    (hroom : cap < n + m) (h63 : n + m ≤ 140737488355328) (hb : (n + m) * i.bytes ≤ 140737488355328) :
    (Builtin.append_ #[t, t2] ty #[.slice base n cap, vx]).run P w =
      .ok (.slice (some ⟨w.heap.size, 0, none⟩) (n + m) (grownCap w (n + m) cap e)) (w.drew.alloc (.cells (olds ++ news ++ Builtin.zeroCells z.cells (grownCap w (n + m) cap e - (n + m))) e)) := by
  have hz' : (match u2 with | .int _ => true | _ => false) = false := by cases u2 <;> first | rfl | exact (hni _ rfl).elim
  have hn : ¬ (n + m ≤ cap) := by omega
  have h63' : ¬ (9223372036854775807 < ((n : Int) + (m : Int))) := by omega
  have h48' : ¬ (281474976710656 < Builtin.nextslicecap (n + m) cap * i.bytes) := by
    have := growslice_fits hroom hb
    omega
  simp [Builtin.append_, run_underlying ht, run_underlying ht2, hz', run_sizeOf' hi, hlen, hn, h63', h48', typeInfo, hi, Question.forced, hf, hfo, zeroValue, hz, newRow, grownCap]
structure Src (P : Program) (w : World) (F : Nat → Prop) (sz : Nat) (vx : Value) (ys : List (List Pd)) (news : List Value) : Prop where
  len : ∀ w1 : World, (Builtin.lenOf vx).run P w1 = .ok ys.length w1
  cells : ∀ w1 : World, w1.heap = w.heap → (Builtin.firstCells sz ys.length vx).run P w1 = .ok news.toArray w1
  pre : ∀ n, n ≤ ys.length → ∀ w1 : World, w1.heap = w.heap → (Builtin.firstCells sz n vx).run P w1 = .ok (news.take (n * sz)).toArray w1
  size : news.length = ys.length * sz
  data : ∀ (i : Nat) y (j : Nat) x, ys[i]? = some y → y[j]? = some x → PR F w x (news.getD (i * sz + j) undef)
theorem src_of_row {es : List (List Pd)} {ad : Option Addr} {cap sz : Nat} (hsz : ∀ y ∈ es, y.length = sz)
    (h : es ≠ [] → ∃ b off row t fr, ad = some ⟨b, off, none⟩ ∧ w.heap[b]? = some (.cells row t fr) ∧ (off + es.length * sz ≤ row.size) ∧
      ∀ (i : Nat) e (j : Nat) c, es[i]? = some e → e[j]? = some c → PR F w c (row.getD (off + i * sz + j) undef)) : ∃ news, Src P w F sz (.slice ad es.length cap) es news := by
  by_cases h0 : es = []
  · subst h0
    exact ⟨[], ⟨fun w1 => by simp [Builtin.lenOf], fun w1 _ => by cases ad <;> simp [Builtin.firstCells, loadCells, loadCellsFrom], fun n hn w1 _ => by
      obtain rfl : n = 0 := by simpa using hn
      cases ad <;> simp [Builtin.firstCells, loadCells, loadCellsFrom], by simp, fun i y j x hy _ => by simp at hy⟩⟩
  · obtain ⟨b, off, row, t, fr, rfl, hh, hfit, hp⟩ := h h0
    have hlen : ((row.toList.drop off).take (es.length * sz)).length = es.length * sz := by simp; omega
    refine ⟨(row.toList.drop off).take (es.length * sz), ⟨fun w1 => by simp [Builtin.lenOf], fun w1 hw1 => ?_, fun n hn w1 hw1 => ?_, hlen, fun i y j x hy hx => ?_⟩⟩
    · refine run_firstCells_some (P := P) w1 sz es.length ⟨b, off, none⟩ es.length cap _ hlen (fun j v hv => ?_)
      rw [Addr.add_lit, cell_of_row w1 b (off + j) row t fr (by rw [hw1]; exact hh)]
      rw [List.getElem?_take] at hv
      split at hv
      · simpa using hv
      · cases hv
    · refine run_firstCells_some (P := P) w1 sz n ⟨b, off, none⟩ es.length cap _ (by rw [List.length_take, hlen]; exact Nat.min_eq_left (Nat.mul_le_mul_right _ hn)) (fun j v hv => ?_)
      rw [Addr.add_lit, cell_of_row w1 b (off + j) row t fr (by rw [hw1]; exact hh)]
      rw [List.getElem?_take] at hv
      split at hv
      · rw [List.getElem?_take] at hv
        split at hv
        · simpa using hv
        · cases hv
      · cases hv
    · have := hp i y j x hy hx
      have hlt : i * sz + j < es.length * sz := by
        have h1 := (List.getElem?_eq_some_iff.1 hy).1
        have h2 := (List.getElem?_eq_some_iff.1 hx).1
        exact row_lt h1 (Nat.le_refl _) (by have := hsz y (List.mem_of_getElem? hy); omega)
      rw [List.getD_eq_getElem?_getD, List.getElem?_take, if_pos hlt, List.getElem?_drop]
      rwa [Array.getD_eq_getD_getElem?, Nat.add_assoc, ← Array.getElem?_toList] at this
theorem src_of_sl {es : List (List Pd)} {v : Value} (h : PR F w (.sl es) v) {sz : Nat} (hsz : ∀ y ∈ es, y.length = sz) (hpos : 0 < sz) : ∃ news, Src P w F sz v es news := by
  cases h with
  | sl0 ad cap => exact src_of_row (es := []) hsz (fun h => (h rfl).elim)
  | sl _ b off cap sz' row t fr hF hh hc hs hi hp =>
    refine src_of_row hsz (fun h0 => ?_)
    have hpos' : 0 < es.length := List.length_pos_iff.2 h0
    have e0 : es[0]? = some es[0] := List.getElem?_eq_getElem hpos'
    have hz : sz' = sz := (hs 0 _ e0).symm.trans (hsz _ (List.getElem_mem hpos'))
    subst hz
    refine ⟨b, off, row, t, fr, rfl, hh, ?_, hp⟩
    have el : es[es.length - 1]? = some es[es.length - 1] := List.getElem?_eq_getElem (by omega)
    have hl := hs _ _ el
    have := hi _ _ (sz' - 1) _ el (List.getElem?_eq_getElem (by omega))
    have e2 : es.length * sz' = (es.length - 1) * sz' + sz' := by rw [← Nat.succ_mul]; congr 1; omega
    omega
theorem src_of_str (l : List UInt8) {sz : Nat} (hsz : ∀ y ∈ encB l, y.length = sz) : Src P w F sz (.string ⟨l.toArray⟩) (encB l) (l.map fun b => Value.int .u8 b.toNat) := by
  have hlen : (encB l).length = l.length := by simp [encB]
  have hs : l.length * sz = l.length := by
    cases l with
    | nil => simp
    | cons b r => have := hsz [Pd.int .u8 b.toNat] (by simp [encB]); simp at this; subst this; simp
  refine ⟨fun w1 => by simp [Builtin.lenOf, hlen, size_str], fun w1 _ => ?_, fun n hn w1 _ => ?_, by simp [hlen, hs], fun i y j x hy hx => ?_⟩
  · simp only [Builtin.firstCells, hlen, Sem.run_pure]
    congr 1
    apply Array.ext'
    simp
  · have hns : n * sz = n := by
      cases l with
      | nil => simp [encB] at hn; simp [hn]
      | cons b r => have := hsz [Pd.int .u8 b.toNat] (by simp [encB]); simp at this; subst this; simp
    simp only [Builtin.firstCells, hns, Sem.run_pure]
    congr 1
    apply Array.ext'
    simp [List.map_take]
  · simp only [encB, List.getElem?_map] at hy
    cases hb : l[i]? with
    | none => rw [hb] at hy; cases hy
    | some b =>
      rw [hb] at hy
      simp only [Option.map_some, Option.some.injEq] at hy
      subst hy
      cases j with
      | succ j => simp at hx
      | zero =>
        simp only [List.getElem?_cons_zero, Option.some.injEq] at hx
        subst hx
        have hz : sz = 1 := by
          have := hsz [Pd.int .u8 b.toNat] (by simp only [encB, List.mem_map]; exact ⟨b, List.mem_of_getElem? hb, rfl⟩)
          simpa using this.symm
        subst hz
        simp only [Nat.mul_one, Nat.add_zero]
        rw [List.getD_eq_getElem?_getD, List.getElem?_map, hb]
        exact .int _ _
theorem mem_take_drop {α : Type} {x : α} {l : List α} {n m : Nat} (h : x ∈ (l.drop n).take m) : x ∈ l := List.mem_of_mem_drop (List.mem_of_mem_take h)
theorem src_of_ref (hr : HR F w M st.hp) {id off len sz : Nat} {es : List (List Pd)} {v : Value} (hg : (∃ t, get st.hp id = some (.arr t sz es)) ∨ get st.hp id = some (.fro sz es))
    (h : refOK (M id) sz es.length off len v) : ∃ news, Src P w F sz v ((es.drop off).take len) news := by
  obtain ⟨ad, cap, rfl, h1, h2, h3, h4⟩ := h
  obtain ⟨h5, h6, h7, h8⟩ := hr.row hg
  have hlen : ((es.drop off).take len).length = len := by simp; omega
  have hget : ∀ (i : Nat) e, ((es.drop off).take len)[i]? = some e → es[off + i]? = some e := fun i e he => by
    rw [List.getElem?_take] at he
    split at he
    · rwa [List.getElem?_drop] at he
    · cases he
  have key := src_of_row (P := P) (w := w) (F := F) (es := (es.drop off).take len) (ad := ad) (cap := cap) (sz := sz) (fun y hy => by
    obtain ⟨i, hi⟩ := List.mem_iff_getElem?.1 (mem_take_drop hy)
    exact h7 i y hi) (fun h0 => by
    have hl0 : 0 < len := by
      rcases Nat.eq_zero_or_pos len with h | h
      · subst h; simp at h0
      · exact h
    have h9 := h4.resolve_left (by omega)
    subst h9
    obtain ⟨row, t, fr, h10, h11, h12⟩ := h8 (by omega)
    refine ⟨_, _, row, t, fr, rfl, h10, ?_, fun i e j x he hx => ?_⟩
    · rw [hlen, h11, ← Nat.add_mul]
      exact Nat.mul_le_mul_right _ (by omega)
    · have := h12 _ e j x (hget i e he) hx
      rwa [Nat.add_mul] at this)
  rw [hlen] at key
  exact key
theorem srcD_sound (hr : Rel c st a w F M) {d : D} {v : Value} (hd : DR F w M (sg st.hp) d v) {k : List (List Pd) → Prop} (h : srcD st.hp d k) :
    ∃ ys, k ys ∧ ∀ sz, 0 < sz → (∀ y ∈ ys, y.length = sz) → ∃ news, Src P w F sz v ys news := by
  have ref : ∀ {id off len N sz' n} {es : List (List Pd)}, ((∃ t, get st.hp id = some (.arr t sz' es)) ∨ get st.hp id = some (.fro sz' es)) → sg st.hp id = some (.arr sz' es.length) → N = es.length →
      DR F w M (sg st.hp) (.ref id off len N) v → n = len → ∀ sz, 0 < sz → (∀ y ∈ (es.drop off).take len, y.length = sz) → ∃ news, Src P w F sz v ((es.drop off).take len) news := by
    intro id off len N sz' n es hg hsg hN hd _ sz hpos hsz
    cases hd with
    | ref _ _ _ _ sz2 n2 _ hs hN2 hv h2 =>
      rw [hsg] at hs
      simp only [Option.some.injEq, Sg.arr.injEq] at hs
      obtain ⟨rfl, rfl⟩ := hs
      have hok := h2 hN
      by_cases h0 : (es.drop off).take len = []
      · obtain ⟨ad, cap, rfl, h3, _⟩ := hok
        rw [h0]
        have : len = 0 := by
          have := congrArg List.length h0
          simp at this
          omega
        subst this
        exact src_of_row (es := []) (by simp) (fun h => (h rfl).elim)
      · obtain ⟨y, hy⟩ := List.exists_mem_of_ne_nil _ h0
        have e1 := hsz y hy
        obtain ⟨i, hi⟩ := List.mem_iff_getElem?.1 (mem_take_drop hy)
        have e2 := (hr.heap.row hg).2.2.1 i y hi
        have : sz' = sz := by omega
        subst this
        exact src_of_ref hr.heap hg hok
  unfold srcD at h
  split at h
  · rename_i ys
    cases hd with | p hx => exact ⟨ys, h, fun sz hpos hsz => src_of_sl hx hsz hpos⟩
  · rename_i l
    cases hd with | p hx => cases hx; exact ⟨_, h, fun sz _ hsz => ⟨_, src_of_str l hsz⟩⟩
  · rename_i ys
    cases hd with | cl _ ad hx _ => exact ⟨ys, h, fun sz hpos hsz => src_of_sl hx hsz hpos⟩
  · rename_i id off len N
    split at h
    · rename_i t sz' es ho
      exact ⟨_, h.2, ref (n := len) (.inl ⟨t, ho⟩) (sg_of_get ho) h.1 hd rfl⟩
    · rename_i sz' es ho
      exact ⟨_, h.2, ref (n := len) (.inr ho) (sg_of_get ho) h.1 hd rfl⟩
    · exact h.elim
  · exact h.elim
theorem zeroCells_size (z : Array Value) (n : Nat) : (Builtin.zeroCells z n).size = n * z.size := by simp [Builtin.zeroCells]
theorem rows_append {es ys : List (List Pd)} {sz : Nat} {olds news rest : List Value} (hol : olds.length = es.length * sz) (hnl : news.length = ys.length * sz)
    (hes : ∀ (i : Nat) e, es[i]? = some e → e.length = sz) (hys : ∀ (i : Nat) e, ys[i]? = some e → e.length = sz)
    (ho : ∀ (i : Nat) y (j : Nat) x, es[i]? = some y → y[j]? = some x → PR F w x (olds.getD (i * sz + j) undef))
    (hn : ∀ (i : Nat) y (j : Nat) x, ys[i]? = some y → y[j]? = some x → PR F w x (news.getD (i * sz + j) undef)) (i : Nat) (y : List Pd) (j : Nat) (x : Pd)
    (hy : (es ++ ys)[i]? = some y) (hx : y[j]? = some x) : PR F w x ((olds ++ news ++ rest).getD (i * sz + j) undef) := by
  have hj := (List.getElem?_eq_some_iff.1 hx).1
  rw [List.getElem?_append] at hy
  rw [List.append_assoc, List.getD_eq_getElem?_getD]
  split at hy
  · rename_i hlt
    have := row_lt hlt (Nat.le_refl _) (show j < sz by have := hes i y hy; omega)
    rw [List.getElem?_append_left (by omega), ← List.getD_eq_getElem?_getD]
    exact ho i y j x hy hx
  · rename_i hge
    have hlt := (List.getElem?_eq_some_iff.1 hy).1
    have h1 := row_lt hlt (Nat.le_refl _) (show j < sz by have := hys _ y hy; omega)
    have h2 : es.length * sz ≤ i * sz := Nat.mul_le_mul_right _ (by omega)
    have h3 : i * sz + j - es.length * sz = (i - es.length) * sz + j := by rw [Nat.sub_mul]; omega
    rw [List.getElem?_append_right (by omega), hol, h3, List.getElem?_append_left (by omega), ← List.getD_eq_getElem?_getD]
    exact hn _ y j x hy hx
theorem ofV_cells_length (v : Value) : (ofV v).cells.length = v.cells.size := by
  have hl : ∀ l : List Value, (ofVs l).length = l.length := fun l => by
    induction l with
    | nil => rfl
    | cons v r ih => simp [ofVs, ih]
  cases v with
  | agg cs => simp [ofV, D.cells, Value.cells, hl]
  | slice ad l q => cases ad <;> (try cases l) <;> (try cases q) <;> simp [ofV, D.cells, Value.cells]
  | pointer q => cases q <;> simp [ofV, D.cells, Value.cells]
  | _ => simp [ofV, D.cells, Value.cells]
theorem Rel.newEmpty (hr : Rel c st a w F M) {q sz : Nat} {e : TypeId} (hn : get st.hp q = none) (hsz : 0 < sz) :
    Rel c { st with hp := (q, .arr e sz []) :: st.hp } a w F (upM M q ⟨0, 0, []⟩) ∧ ∀ ad, DR F w (upM M q ⟨0, 0, []⟩) (sg ((q, .arr e sz []) :: st.hp)) (.ref q 0 0 0) (.slice ad 0 0) := by
  have hget := get_new st.hp q (.arr e sz [])
  have hM : ∀ j, j ≠ q → upM M q ⟨0, 0, []⟩ j = M j := fun j hj => by simp [upM, hj]
  have hMq : upM M q ⟨0, 0, []⟩ q = ⟨0, 0, []⟩ := by simp [upM]
  have hsk := sgKeep_new hget hM hn
  refine ⟨hr.change hget hM hsk rfl rfl rfl (Nat.le_refl _) (fun b hb _ => rfl) ?_ (fun b h => ?_), fun ad => ?_⟩
  · rw [hMq]; exact ⟨hsz, by simp, by simp, by simp, fun h => (h rfl).elim⟩
  · rw [hMq] at h; exact (h.1 rfl).elim
  · exact .ref q 0 0 0 sz 0 _ (by rw [sg_change hget]; simp [AO.sg]) (Nat.le_refl _) ⟨_, _, _, rfl⟩ (fun _ => ⟨ad, 0, rfl, by omega, by omega, by rw [hMq], .inl rfl⟩)
theorem appD_sound0 (hr : Rel c st a w F M) {q t t2 ty : TypeId} {s x : D} {vs vx : Value} (hs : DR F w M (sg st.hp) s vs) (hx : DR F w M (sg st.hp) x vx) {k : D → Hp → Prop} (hnr : ∀ id i len kk, s ≠ .nr id i len kk)
    (h : appD P st.hp q t t2 s x k) : ∃ d h' v w' M', k d h' ∧ Rel c { st with hp := h' } a w' F M' ∧ DR F w' M' (sg h') d v ∧ (Builtin.append_ #[t, t2] ty #[vs, vx]).run P w = .ok v w' := by
  unfold appD at h
  split at h
  case h_2 => exact h.elim
  rename_i _ _ _ _ e z0 ti2 h1 h2
  obtain ⟨i1, u1, z1, hi1, hu1, hz1, e1⟩ := tiOf_some h1
  simp only [TI.mk.injEq] at e1
  obtain rfl := TK.of_slice e1.2.2.1.symm
  obtain ⟨i2, u2, z2, hi2, hu2, hz2, rfl⟩ := tiOf_some h2
  obtain ⟨hk2, h⟩ := h
  have hni : ∀ k, u2 ≠ .int k := by rintro k rfl; simp [TK.of] at hk2
  split at h
  case h_2 => exact h.elim
  rename_i ti h3
  obtain ⟨i, u, z, hi, hu, hz, rfl⟩ := tiOf_some h3
  obtain ⟨ys, h', hsrc⟩ := srcD_sound (P := P) hr hx h
  clear h
  obtain ⟨hys, hpos, hzl, h⟩ := h'
  simp only at hpos hzl hys
  rw [ofV_cells_length] at hzl
  obtain ⟨news, hnews⟩ := hsrc i.size hpos hys
  have hys' : ∀ (j : Nat) e, ys[j]? = some e → e.length = i.size := fun j e he => hys e (List.mem_of_getElem? he)
  have gr : ∀ {n cap : Nat}, n + ys.length ≤ 140737488355328 → n + ys.length ≤ grownCap w (n + ys.length) cap e ∧ grownCap w (n + ys.length) cap e ≤ maxLen :=
    fun hle => ⟨grownCap_ge w _ _ _, grownCap_le_maxLen w _ _ _ (by unfold maxLen; omega)⟩
  split at h
  · rename_i es
    obtain ⟨hn, hor, hes, hby, hle, hk⟩ := h
    simp only at hes hby
    cases hs with
    | cl _ ad hp _ =>
      obtain ⟨olds, holds⟩ := src_of_sl (P := P) hp hes hpos
      by_cases hy0 : ys = []
      · subst hy0
        obtain rfl : es = [] := by rcases hor with h | h <;> first | exact h | exact (h rfl).elim
        have hnl : news = [] := List.eq_nil_of_length_eq_zero (by simpa using hnews.size)
        subst hnl
        obtain ⟨hr', hd'⟩ := hr.newEmpty (e := e) hn hpos
        have hrun := run_append_in (P := P) (w := w) (ty := ty) (w' := w) hu1 hu2 hni hi (base := ad) (n := 0) (cap := 0) (hnews.len w) (hnews.cells w rfl) (by simp) (fun ad' _ => rfl) (fun _ => rfl)
        exact ⟨_, _, _, w, _, hk, hr', hd' ad, hrun⟩
      · have hyl : 0 < ys.length := List.length_pos_iff.2 hy0
        have hrun := run_append_out (P := P) (w := w) (ty := ty) hu1 hu2 hni hi hz (base := ad) (n := es.length) (cap := es.length) (hnews.len w) (hnews.cells w.drew rfl)
          (by have := holds.cells w.drew rfl; exact this) (by omega) hle hby
        obtain ⟨hg1, hg2⟩ := gr (n := es.length) (cap := es.length) hle
        have hlen : (es ++ ys).length = es.length + ys.length := by simp
        obtain ⟨hr', hd'⟩ := hr.newArr (q := q) (cap := grownCap w (es.length + ys.length) es.length e) (sz := i.size) (es := es ++ ys) (e := e)
          (vs := olds.toArray ++ news.toArray ++ Builtin.zeroCells z.cells (grownCap w (es.length + ys.length) es.length e - (es.length + ys.length)))
          (w' := w.drew.alloc (.cells (olds.toArray ++ news.toArray ++ Builtin.zeroCells z.cells (grownCap w (es.length + ys.length) es.length e - (es.length + ys.length))) e))
          hn rfl rfl rfl rfl hpos (by omega) hg2 (fun j x hj => by
            rw [List.getElem?_append] at hj
            split at hj
            · exact hes x (List.mem_of_getElem? hj)
            · exact hys' _ x hj) (by
            simp only [Array.size_append, List.size_toArray, zeroCells_size, hzl, holds.size, hnews.size, ← Nat.add_mul]
            congr 1; omega) (fun j y p x hy hx => by
            have := rows_append (rest := (Builtin.zeroCells z.cells (grownCap w (es.length + ys.length) es.length e - (es.length + ys.length))).toList) holds.size hnews.size
              (fun j e he => hes e (List.mem_of_getElem? he)) hys' holds.data hnews.data j y p x hy hx
            simpa [List.getD, Array.getD_eq_getD_getElem?, ← Array.getElem?_toList] using this)
        rw [hlen] at hd'
        exact ⟨_, _, _, _, _, hk, hr', by rw [hlen]; exact hd', hrun⟩
  · rename_i es
    cases hbe : ys.isEmpty with
    | true =>
      obtain ⟨hes, hk⟩ := h.1 hbe
      obtain rfl : ys = [] := by simpa using hbe
      have hnl : news = [] := List.eq_nil_of_length_eq_zero (by simpa using hnews.size)
      subst hnl
      cases hs with
      | cz _ ad hp =>
        have hrun := run_append_in (P := P) (w := w) (ty := ty) (w' := w) hu1 hu2 hni hi (base := ad) (n := es.length) (cap := es.length) (hnews.len w) (hnews.cells w rfl) (by simp) (fun ad' _ => rfl) (fun _ => rfl)
        exact ⟨_, _, _, w, M, hk, hr, .cz es ad hp, hrun⟩
    | false =>
    obtain ⟨hn, hes, hby, hle, hk⟩ := h.2 hbe
    have hy0 : ys ≠ [] := by rintro rfl; cases hbe
    simp only at hes hby
    cases hs with
    | cz _ ad hp =>
      obtain ⟨olds, holds⟩ := src_of_sl (P := P) hp hes hpos
      have hyl : 0 < ys.length := List.length_pos_iff.2 hy0
      have hrun := run_append_out (P := P) (w := w) (ty := ty) hu1 hu2 hni hi hz (base := ad) (n := es.length) (cap := es.length) (hnews.len w) (hnews.cells w.drew rfl)
        (by have := holds.cells w.drew rfl; exact this) (by omega) hle hby
      obtain ⟨hg1, hg2⟩ := gr (n := es.length) (cap := es.length) hle
      have hlen : (es ++ ys).length = es.length + ys.length := by simp
      obtain ⟨hr', hd'⟩ := hr.newArr (q := q) (cap := grownCap w (es.length + ys.length) es.length e) (sz := i.size) (es := es ++ ys) (e := e)
        (vs := olds.toArray ++ news.toArray ++ Builtin.zeroCells z.cells (grownCap w (es.length + ys.length) es.length e - (es.length + ys.length)))
        (w' := w.drew.alloc (.cells (olds.toArray ++ news.toArray ++ Builtin.zeroCells z.cells (grownCap w (es.length + ys.length) es.length e - (es.length + ys.length))) e))
        hn rfl rfl rfl rfl hpos (by omega) hg2 (fun j x hj => by
          rw [List.getElem?_append] at hj
          split at hj
          · exact hes x (List.mem_of_getElem? hj)
          · exact hys' _ x hj) (by
          simp only [Array.size_append, List.size_toArray, zeroCells_size, hzl, holds.size, hnews.size, ← Nat.add_mul]
          congr 1; omega) (fun j y p x hy hx => by
          have := rows_append (rest := (Builtin.zeroCells z.cells (grownCap w (es.length + ys.length) es.length e - (es.length + ys.length))).toList) holds.size hnews.size
            (fun j e he => hes e (List.mem_of_getElem? he)) hys' holds.data hnews.data j y p x hy hx
          simpa [List.getD, Array.getD_eq_getD_getElem?, ← Array.getElem?_toList] using this)
      rw [hlen] at hd'
      exact ⟨_, _, _, _, _, hk, hr', by rw [hlen]; exact hd', hrun⟩
  · rename_i id off len N
    split at h
    case h_2 => exact h.elim
    rename_i e' sz es ho
    obtain ⟨rfl, rfl, rfl, rfl, rfl, hby, hle, hk⟩ := h
    simp only at hby
    have hob := hr.heap.obj id _ ho
    obtain ⟨_, hcl, hcm, hes, hblk⟩ := hob
    simp only at hes hcl
    cases hs with
    | ref _ _ _ _ sz2 n2 _ hsg hN2 hv h2 =>
      rw [sg_of_get ho] at hsg
      simp only [AO.sg, Option.some.injEq, Sg.arr.injEq] at hsg
      obtain ⟨rfl, rfl⟩ := hsg
      obtain ⟨ad, cap, rfl, h5, h6, h7, h8⟩ := h2 rfl
      simp only [Nat.zero_add] at h7
      subst h7
      have hlen : (es ++ ys).length = es.length + ys.length := by simp
      have hall : ∀ (j : Nat) x, (es ++ ys)[j]? = some x → x.length = i.size := fun j x hj => by
        rw [List.getElem?_append] at hj
        split at hj
        · exact hes j x hj
        · exact hys' _ x hj
      have hget : ∀ j, get (setL st.hp id (.arr e' i.size (es ++ ys))) j = if j = id then some (.arr e' i.size (es ++ ys)) else get st.hp j := get_setL _ _ _
      have hsg' : sg (setL st.hp id (.arr e' i.size (es ++ ys))) id = some (.arr i.size (es ++ ys).length) := by rw [sg_change hget]; simp [AO.sg]
      by_cases hroom : es.length + ys.length ≤ (M id).cap
      ·
        have hsk : SgKeep M M (sg st.hp) (sg (setL st.hp id (.arr e' i.size (es ++ ys)))) := by
          refine ⟨fun j hj => ?_, fun j s2 n2 hj => ?_, fun j s2 n2 k2 hj => ?_⟩
          · have e2 : j ≠ id := fun e2 => by rw [e2, sg_of_get ho] at hj; simp [AO.sg] at hj
            rw [sg_change hget, if_neg e2]; exact ⟨hj, rfl⟩
          · by_cases e2 : j = id
            · subst e2
              rw [sg_of_get ho] at hj
              simp only [AO.sg, Option.some.injEq, Sg.arr.injEq] at hj
              obtain ⟨rfl, rfl⟩ := hj
              exact ⟨_, hsg', by omega, fun _ => rfl⟩
            · rw [sg_change hget, if_neg e2]; exact ⟨n2, hj, Nat.le_refl _, fun _ => rfl⟩
          · have e2 : j ≠ id := fun e2 => by rw [e2, sg_of_get ho] at hj; simp [AO.sg] at hj
            rw [sg_change hget, if_neg e2]; exact ⟨n2, k2, hj, Nat.le_refl _, Nat.le_refl _, fun _ => ⟨rfl, rfl⟩, fun _ => rfl⟩
        have hdr : ∀ w', DR F w' M (sg (setL st.hp id (.arr e' i.size (es ++ ys)))) (.ref id 0 (es ++ ys).length (es ++ ys).length) (.slice ad (es.length + ys.length) (M id).cap) := fun w' => by
          rw [hlen] at hsg' ⊢
          exact .ref id 0 _ _ i.size _ _ hsg' (Nat.le_refl _) ⟨_, _, _, rfl⟩ (fun _ => ⟨ad, _, rfl, by omega, hroom, by omega, h8⟩)
        by_cases hc0 : (M id).cap = 0
        · have hy0 : ys = [] := List.eq_nil_of_length_eq_zero (by omega)
          subst hy0
          have hnl : news = [] := List.eq_nil_of_length_eq_zero (by simpa using hnews.size)
          subst hnl
          have hrun := run_append_in (P := P) (w := w) (ty := ty) (w' := w) hu1 hu2 hni hi (base := ad) (n := es.length) (hnews.len w) (hnews.cells w rfl) hroom (fun ad' _ => rfl) (fun _ => rfl)
          refine ⟨_, _, _, w, M, hk, hr.change (M' := M) hget (fun _ _ => rfl) hsk rfl rfl rfl (Nat.le_refl _) (fun b hb _ => rfl) ⟨hpos, by omega, hcm, hall, fun h => (h hc0).elim⟩ (fun b h => (h.1 hc0).elim), hdr w, hrun⟩
        · obtain rfl := h8.resolve_left hc0
          obtain ⟨hnF, row, hrow, hsize, hcells⟩ := hblk hc0
          have hfit : es.length * i.size + ys.length * i.size ≤ row.size := by rw [hsize, ← Nat.add_mul]; exact Nat.mul_le_mul_right _ hroom
          have hone : ∀ v ∈ news, v.oneCell' = true := fun v hv => by
            obtain ⟨p, hp⟩ := List.mem_iff_getElem?.1 hv
            have hlt := (List.getElem?_eq_some_iff.1 hp).1
            have hs := hnews.size
            have hdiv : p / i.size < ys.length := Nat.div_lt_of_lt_mul (by rw [Nat.mul_comm]; omega)
            have hy : ys[p / i.size]? = some ys[p / i.size] := List.getElem?_eq_getElem hdiv
            have hmod : p % i.size < (ys[p / i.size]).length := by rw [hys' _ _ hy]; exact Nat.mod_lt _ hpos
            have := (hnews.data _ _ _ _ hy (List.getElem?_eq_getElem hmod)).oneCell
            rwa [Nat.mul_comm, Nat.div_add_mod, List.getD_eq_getElem?_getD, hp] at this
          have hst := run_storeCells_row P (M id).blk (es.length * i.size) e' news 0 row w hrow (by have := hnews.size; omega) hone
          simp only [Nat.add_zero] at hst
          have hrun := run_append_in (P := P) (w := w) (ty := ty) hu1 hu2 hni hi (base := some ⟨(M id).blk, 0 * i.size, none⟩) (n := es.length) (hnews.len w) (hnews.cells w rfl) hroom
            (fun ad' e3 => by cases e3; rw [Addr.add_lit]; simp only [Nat.zero_mul, Nat.zero_add]; exact hst) (fun e3 => by cases e3)
          refine ⟨_, _, _, (w.setRow (M id).blk (row.toList.take (es.length * i.size) ++ news ++ row.toList.drop (es.length * i.size + news.length)).toArray), M, hk, hr.change (M' := M) (w' := (w.setRow (M id).blk (row.toList.take (es.length * i.size) ++ news ++ row.toList.drop (es.length * i.size + news.length)).toArray)) hget (fun _ _ => rfl) hsk rfl rfl rfl (by simp) (fun b hb hne => setRow_other w _ b _ (fun e => hne _ ho ⟨hc0, e⟩)) ?_ (fun b hb => .inl ⟨_, ho, hb⟩), hdr _, hrun⟩
          have hkeep : ∀ {x v}, PR F w x v → PR F (w.setRow (M id).blk (row.toList.take (es.length * i.size) ++ news ++ row.toList.drop (es.length * i.size + news.length)).toArray) x v :=
            fun h => h.keep (fun b hb => setRow_other w _ b _ (fun e => hnF (e ▸ hb))) (fun _ h => h)
          have hol : (row.toList.take (es.length * i.size)).length = es.length * i.size := by simp; omega
          refine ⟨hpos, by omega, hcm, hall, fun _ => ⟨hnF, _, hrow.set ?_, ?_, fun j y p x hy hx => ?_⟩⟩
          · have h12 := hnews.size
            have h13 : (row.toList.take (es.length * i.size) ++ news ++ row.toList.drop (es.length * i.size + news.length)).length = row.size := by
              simp only [List.length_append, List.length_take, List.length_drop, Array.length_toList]; omega
            exact h13
          · have h12 := hnews.size
            have h13 : (row.toList.take (es.length * i.size) ++ news ++ row.toList.drop (es.length * i.size + news.length)).length = row.size := by
              simp only [List.length_append, List.length_take, List.length_drop, Array.length_toList]; omega
            exact h13.trans hsize
          · have := rows_append (F := F) (w := w) (rest := row.toList.drop (es.length * i.size + news.length)) hol hnews.size hes hys' (fun j y p x hy hx => by
              have h9 := hcells j y p x hy hx
              have hlt := row_lt (List.getElem?_eq_some_iff.1 hy).1 (Nat.le_refl _) (show p < i.size by have := (List.getElem?_eq_some_iff.1 hx).1; have := hes j y hy; omega)
              rw [List.getD_eq_getElem?_getD, List.getElem?_take, if_pos hlt]
              rwa [Array.getD_eq_getD_getElem?, ← Array.getElem?_toList] at h9) hnews.data j y p x hy hx
            have h10 := hkeep this
            rw [Array.getD_eq_getD_getElem?, List.getElem?_toArray]
            rwa [List.getD_eq_getElem?_getD] at h10
      ·
        have hyl : 0 < ys.length := by omega
        have hrefok : refOK (M id) i.size es.length 0 es.length (.slice ad es.length (M id).cap) := ⟨ad, _, rfl, by omega, h6, by omega, h8⟩
        obtain ⟨olds, holds⟩ := src_of_ref (P := P) hr.heap (.inl ⟨e', ho⟩) hrefok
        have hview : (es.drop 0).take es.length = es := by simp
        rw [hview] at holds
        have hrun := run_append_out (P := P) (w := w) (ty := ty) hu1 hu2 hni hi hz (base := ad) (n := es.length) (cap := (M id).cap) (hnews.len w) (hnews.cells w.drew rfl)
          (by have := holds.cells w.drew rfl; exact this) (by omega) hle hby
        obtain ⟨hg1, hg2⟩ := gr (n := es.length) (cap := (M id).cap) hle
        have hM : ∀ j, j ≠ id → upM M id ⟨w.heap.size, grownCap w (es.length + ys.length) (M id).cap e', []⟩ j = M j := fun j hj => by simp [upM, hj]
        have hMq : upM M id ⟨w.heap.size, grownCap w (es.length + ys.length) (M id).cap e', []⟩ id = ⟨w.heap.size, grownCap w (es.length + ys.length) (M id).cap e', []⟩ := by simp [upM]
        have hsk : SgKeep M (upM M id ⟨w.heap.size, grownCap w (es.length + ys.length) (M id).cap e', []⟩) (sg st.hp) (sg (setL st.hp id (.arr e' i.size (es ++ ys)))) := by
          refine ⟨fun j hj => ?_, fun j s2 n2 hj => ?_, fun j s2 n2 k2 hj => ?_⟩
          · have e2 : j ≠ id := fun e2 => by rw [e2, sg_of_get ho] at hj; simp [AO.sg] at hj
            rw [sg_change hget, if_neg e2, hM j e2]; exact ⟨hj, rfl⟩
          · by_cases e2 : j = id
            · subst e2
              rw [sg_of_get ho] at hj
              simp only [AO.sg, Option.some.injEq, Sg.arr.injEq] at hj
              obtain ⟨rfl, rfl⟩ := hj
              exact ⟨_, hsg', by omega, fun h => by omega⟩
            · rw [sg_change hget, if_neg e2, hM j e2]; exact ⟨n2, hj, Nat.le_refl _, fun _ => rfl⟩
          · have e2 : j ≠ id := fun e2 => by rw [e2, sg_of_get ho] at hj; simp [AO.sg] at hj
            rw [sg_change hget, if_neg e2, hM j e2]; exact ⟨n2, k2, hj, Nat.le_refl _, Nat.le_refl _, fun _ => ⟨rfl, rfl⟩, fun _ => rfl⟩
        refine ⟨_, _, _, (w.drew.alloc (.cells (olds.toArray ++ news.toArray ++ Builtin.zeroCells z.cells (grownCap w (es.length + ys.length) (M id).cap e' - (es.length + ys.length))) e')), _, hk, hr.change (w' := (w.drew.alloc (.cells (olds.toArray ++ news.toArray ++ Builtin.zeroCells z.cells (grownCap w (es.length + ys.length) (M id).cap e' - (es.length + ys.length))) e'))) hget hM hsk rfl rfl rfl (by simp) (fun b hb _ => alloc_old w.drew _ b hb) ?_ (fun b hb => .inr (by have : b = _ := hb.2; rw [this, hMq]; exact Nat.le_refl _)), ?_, hrun⟩
        · rw [hMq]
          refine ⟨hpos, by simp; omega, hg2, hall, fun _ => ⟨fun hF => Nat.lt_irrefl _ (hr.keep.Fl _ hF), _, .of0 (heap_alloc_new w.drew _), ?_, fun j y p x hy hx => ?_⟩⟩
          · simp only [Array.size_append, List.size_toArray, zeroCells_size, hzl, holds.size, hnews.size, ← Nat.add_mul]
            congr 1; omega
          · have := rows_append (F := F) (w := w) (rest := (Builtin.zeroCells z.cells (grownCap w (es.length + ys.length) (M id).cap e' - (es.length + ys.length))).toList) holds.size hnews.size
              hes hys' holds.data hnews.data j y p x hy hx
            have h11 : PR F w x ((olds.toArray ++ news.toArray ++ Builtin.zeroCells z.cells (grownCap w (es.length + ys.length) (M id).cap e' - (es.length + ys.length))).getD (j * i.size + p) undef) := by
              simpa [List.getD, Array.getD_eq_getD_getElem?, ← Array.getElem?_toList] using this
            exact h11.keep (fun b hb => alloc_old w.drew _ b (hr.keep.Fl b hb)) (fun _ h => h)
        · rw [hlen] at hsg' ⊢
          exact .ref id 0 _ _ i.size _ _ hsg' (Nat.le_refl _) ⟨_, _, _, rfl⟩ (fun _ => ⟨_, _, rfl, by omega, hg1, by rw [hMq]; exact Nat.zero_add _, .inr (by rw [hMq]; simp)⟩)
  · exact (hnr _ _ _ _ rfl).elim
  · exact h.elim
theorem copyD_sound (hr : Rel c st a w F M) {t t2 ty : TypeId} {s x : D} {vs vx : Value} (hs : DR F w M (sg st.hp) s vs) (hx : DR F w M (sg st.hp) x vx) {k : D → Hp → Prop}
    (h : copyD P st.hp t s x k) : ∃ d h' v w' M', k d h' ∧ Rel c { st with hp := h' } a w' F M' ∧ DR F w' M' (sg h') d v ∧ (Builtin.copy_ #[t, t2] ty #[vs, vx]).run P w = .ok v w' := by
  unfold copyD at h
  split at h
  case h_2 => exact h.elim
  rename_i _ _ _ e z0 h1
  obtain ⟨i1, u1, z1, hi1, hu1, hz1, e1⟩ := tiOf_some h1
  simp only [TI.mk.injEq] at e1
  obtain rfl := TK.of_slice e1.2.2.1.symm
  split at h
  case h_2 => exact h.elim
  rename_i ti h3
  obtain ⟨i, u, z, hi, hu, hz, rfl⟩ := tiOf_some h3
  obtain ⟨ys, h', hsrc⟩ := srcD_sound (P := P) hr hx h
  clear h
  obtain ⟨hys, hpos, h⟩ := h'
  simp only at hpos hys
  obtain ⟨news, hnews⟩ := hsrc i.size hpos hys
  have hys' : ∀ (j : Nat) e, ys[j]? = some e → e.length = i.size := fun j e he => hys e (List.mem_of_getElem? he)
  split at h
  case h_2 => exact h.elim
  rename_i id off len N
  split at h
  case h_2 => exact h.elim
  rename_i e' sz es ho
  obtain ⟨rfl, hle, rfl, hk⟩ := h
  have hob := hr.heap.obj id _ ho
  obtain ⟨_, hcl, hcm, hes, hblk⟩ := hob
  simp only at hes hcl
  cases hs with
  | ref _ _ _ _ sz2 n2 _ hsg hN2 hv h2 =>
    rw [sg_of_get ho] at hsg
    simp only [AO.sg, Option.some.injEq, Sg.arr.injEq] at hsg
    obtain ⟨rfl, rfl⟩ := hsg
    obtain ⟨ad, cap, rfl, h5, h6, h7, h8⟩ := h2 rfl
    generalize hm : min len ys.length = m at hk
    have hml : m ≤ len := by omega
    have hmy : m ≤ ys.length := by omega
    have htk : ys.take len = ys.take m := by
      rcases Nat.le_total len ys.length with h9 | h9
      · rw [show m = len by omega]
      · rw [List.take_of_length_le h9, List.take_of_length_le (by omega)]
    rw [htk] at hk
    have hnl : (es.take off ++ ys.take m ++ es.drop (off + m)).length = es.length := by simp; omega
    have hget : ∀ j, get (setL st.hp id (.arr e' i.size (es.take off ++ ys.take m ++ es.drop (off + m)))) j = if j = id then some (.arr e' i.size (es.take off ++ ys.take m ++ es.drop (off + m))) else get st.hp j := get_setL _ _ _
    have hsg1 : sg (setL st.hp id (.arr e' i.size (es.take off ++ ys.take m ++ es.drop (off + m)))) = sg st.hp := sgKeep_same hget ho (by simp only [AO.sg, hnl])
    have hsk : SgKeep M M (sg st.hp) (sg (setL st.hp id (.arr e' i.size (es.take off ++ ys.take m ++ es.drop (off + m))))) := by rw [hsg1]; exact SgKeep.refl _ _
    have hall : ∀ (j : Nat) x, (es.take off ++ ys.take m ++ es.drop (off + m))[j]? = some x → x.length = i.size := fun j x hj => by
      have hmem := List.mem_of_getElem? hj
      rcases List.mem_append.1 hmem with h9 | h9
      · rcases List.mem_append.1 h9 with h10 | h10
        · obtain ⟨q, hq⟩ := List.mem_iff_getElem?.1 (List.mem_of_mem_take h10); exact hes q x hq
        · exact hys x (List.mem_of_mem_take h10)
      · obtain ⟨q, hq⟩ := List.mem_iff_getElem?.1 (List.mem_of_mem_drop h9); exact hes q x hq
    have hlenrun : ∀ w1 : World, (Builtin.lenOf vx).run P w1 = .ok ys.length w1 := hnews.len
    have hmin : Nat.min ys.length len = m := by rw [← hm]; exact Nat.min_comm _ _
    have hpre := hnews.pre m hmy w rfl
    by_cases hc0 : m = 0
    · subst hc0
      have hnew0 : es.take off ++ ys.take 0 ++ es.drop (off + 0) = es := by simp
      refine ⟨_, _, _, w, M, hk, hr.change (M' := M) hget (fun _ _ => rfl) hsk rfl rfl rfl (Nat.le_refl _) (fun b hb _ => rfl) ?_ (fun b hb => .inl ⟨_, ho, hb⟩), .p (.int .i64 _), ?_⟩
      · have h10 := hr.heap.obj id _ ho
        rw [← hsg1] at h10
        have h11 : (AO.arr e' i.size (es.take off ++ ys.take 0 ++ es.drop (off + 0))) = AO.arr e' i.size es := by rw [hnew0]
        exact h11 ▸ h10
      · cases ad <;> simp [Builtin.copy_, run_underlying hu1, hlenrun, sizeOf, typeInfo, hi, hmin, hpre, storeCells, goInt]
    · have hcap0 : (M id).cap ≠ 0 := by omega
      obtain rfl := h8.resolve_left (by omega)
      obtain ⟨hnF, row, hrow, hsize, hcells⟩ := hblk hcap0
      simp only at hsize hcells
      have hnsz := hnews.size
      have hvl : (news.take (m * i.size)).length = m * i.size := by rw [List.length_take, hnsz]; exact Nat.min_eq_left (Nat.mul_le_mul_right _ hmy)
      have hfit : off * i.size + m * i.size ≤ row.size := by rw [hsize, ← Nat.add_mul]; exact Nat.mul_le_mul_right _ (by omega)
      have hone : ∀ v ∈ news.take (m * i.size), v.oneCell' = true := fun v hv => by
        obtain ⟨p, hp⟩ := List.mem_iff_getElem?.1 (List.mem_of_mem_take hv)
        have hlt := (List.getElem?_eq_some_iff.1 hp).1
        have hdiv : p / i.size < ys.length := Nat.div_lt_of_lt_mul (by rw [Nat.mul_comm]; omega)
        have hy : ys[p / i.size]? = some ys[p / i.size] := List.getElem?_eq_getElem hdiv
        have hmod : p % i.size < (ys[p / i.size]).length := by rw [hys' _ _ hy]; exact Nat.mod_lt _ hpos
        have := (hnews.data _ _ _ _ hy (List.getElem?_eq_getElem hmod)).oneCell
        rwa [Nat.mul_comm, Nat.div_add_mod, List.getD_eq_getElem?_getD, hp] at this
      have hst := run_storeCells_row P (M id).blk (off * i.size) e' (news.take (m * i.size)) 0 row w hrow (by rw [hvl]; omega) hone
      simp only [Nat.add_zero, hvl] at hst
      have hkeep : ∀ {x v}, PR F w x v → PR F (w.setRow (M id).blk (row.toList.take (off * i.size) ++ news.take (m * i.size) ++ row.toList.drop (off * i.size + m * i.size)).toArray) x v :=
        fun h => h.keep (fun b hb => setRow_other w _ b _ (fun e => hnF (e ▸ hb))) (fun _ h => h)
      refine ⟨_, _, _, (w.setRow (M id).blk (row.toList.take (off * i.size) ++ news.take (m * i.size) ++ row.toList.drop (off * i.size + m * i.size)).toArray), M, hk,
        hr.change (M' := M) (w' := (w.setRow (M id).blk (row.toList.take (off * i.size) ++ news.take (m * i.size) ++ row.toList.drop (off * i.size + m * i.size)).toArray)) hget (fun _ _ => rfl) hsk rfl rfl rfl (by simp) (fun b hb hne => setRow_other w _ b _ (fun e => hne _ ho ⟨hcap0, e⟩)) ?_ (fun b hb => .inl ⟨_, ho, hb⟩), .p (.int .i64 _), ?_⟩
      · have hol : (row.toList.take (off * i.size)).length = off * i.size := by simp; omega
        refine ⟨hpos, by omega, hcm, hall, fun _ => ⟨hnF, _, hrow.set ?_, ?_, fun j y p x hy hx => ?_⟩⟩
        · have h13 : (row.toList.take (off * i.size) ++ news.take (m * i.size) ++ row.toList.drop (off * i.size + m * i.size)).length = row.size := by
            simp only [List.length_append, hol, hvl, List.length_drop, Array.length_toList]; omega
          exact h13
        · have h13 : (row.toList.take (off * i.size) ++ news.take (m * i.size) ++ row.toList.drop (off * i.size + m * i.size)).length = row.size := by
            simp only [List.length_append, hol, hvl, List.length_drop, Array.length_toList]; omega
          exact h13.trans hsize
        · have hp : p < i.size := by have := (List.getElem?_eq_some_iff.1 hx).1; have := hall j y hy; omega
          have h20 : PR F w x ((row.toList.take (off * i.size) ++ news.take (m * i.size) ++ row.toList.drop (off * i.size + m * i.size)).getD (j * i.size + p) undef) := by
            rw [List.getD_eq_getElem?_getD]
            rcases Nat.lt_or_ge j off with h9 | h9
            · have h10 : j * i.size + p < off * i.size := row_lt h9 (Nat.le_refl _) hp
              have hy2 : es[j]? = some y := by
                rw [List.getElem?_append_left (by simp; omega), List.getElem?_append_left (by simp; omega), List.getElem?_take, if_pos h9] at hy; exact hy
              rw [List.getElem?_append_left (by rw [List.length_append, hol]; omega), List.getElem?_append_left (by rw [hol]; exact h10), List.getElem?_take, if_pos h10]
              have := hcells j y p x hy2 hx
              rwa [Array.getD_eq_getD_getElem?, ← Array.getElem?_toList] at this
            · rcases Nat.lt_or_ge j (off + m) with h11 | h11
              · obtain ⟨q, rfl⟩ : ∃ q, j = off + q := ⟨j - off, by omega⟩
                have hq : q < m := by omega
                have h10 : q * i.size + p < m * i.size := row_lt hq (Nat.le_refl _) hp
                have hy2 : ys[q]? = some y := by
                  rw [List.getElem?_append_left (by simp; omega), List.getElem?_append_right (by simp; omega), List.getElem?_take] at hy
                  have e9 : off + q - (es.take off).length = q := by simp; omega
                  rw [e9, if_pos hq] at hy; exact hy
                have e8 : (off + q) * i.size + p = off * i.size + (q * i.size + p) := by rw [Nat.add_mul]; omega
                rw [e8, List.getElem?_append_left (by rw [List.length_append, hol, hvl]; omega), List.getElem?_append_right (by rw [hol]; omega), hol, Nat.add_sub_cancel_left, List.getElem?_take, if_pos h10]
                have := hnews.data q y p x hy2 hx
                rwa [List.getD_eq_getElem?_getD] at this
              · obtain ⟨q, rfl⟩ : ∃ q, j = off + m + q := ⟨j - (off + m), by omega⟩
                have hy2 : es[off + m + q]? = some y := by
                  have e9 : (es.take off ++ ys.take m).length = off + m := by simp; omega
                  rw [List.getElem?_append_right (by rw [e9]; omega), e9, Nat.add_sub_cancel_left, List.getElem?_drop] at hy; exact hy
                have e8 : (off + m + q) * i.size + p = off * i.size + m * i.size + (q * i.size + p) := by rw [Nat.add_mul, Nat.add_mul]; omega
                rw [e8, List.getElem?_append_right (by rw [List.length_append, hol, hvl]; omega), List.length_append, hol, hvl, Nat.add_sub_cancel_left, List.getElem?_drop, ← e8]
                have := hcells _ y p x hy2 hx
                rwa [Array.getD_eq_getD_getElem?, ← Array.getElem?_toList] at this
          have h10 := hkeep h20
          rw [Array.getD_eq_getD_getElem?, List.getElem?_toArray]
          rwa [List.getD_eq_getElem?_getD] at h10
      · simp [Builtin.copy_, run_underlying hu1, hlenrun, sizeOf, typeInfo, hi, hmin, hpre, hst, goInt]
theorem srcD_some {h : Hp} {x : D} {k : List (List Pd) → Prop} (hh : srcD h x k) : ∃ ys, k ys := by
  unfold srcD at hh
  split at hh
  · exact ⟨_, hh⟩
  · exact ⟨_, hh⟩
  · exact ⟨_, hh⟩
  · split at hh
    · exact ⟨_, hh.2⟩
    · exact ⟨_, hh.2⟩
    · exact hh.elim
  · exact hh.elim
theorem srcD_monoH {h h' : Hp} {x : D} {k k' : List (List Pd) → Prop} (hg : ∀ j o, get h j = some o → (∃ t sz es, o = .arr t sz es) ∨ (∃ sz es, o = .fro sz es) → get h' j = some o) (hk : ∀ ys, k ys → k' ys) (hh : srcD h x k) : srcD h' x k' := by
  unfold srcD at hh ⊢
  split at hh
  · exact hk _ hh
  · exact hk _ hh
  · exact hk _ hh
  · split at hh
    · rename_i h1; rw [hg _ _ h1 (.inl ⟨_, _, _, rfl⟩)]; exact ⟨hh.1, hk _ hh.2⟩
    · rename_i h1; rw [hg _ _ h1 (.inr ⟨_, _, rfl⟩)]; exact ⟨hh.1, hk _ hh.2⟩
    · exact hh.elim
  · exact hh.elim
theorem appD_sound (hr : Rel c st a w F M) {q t t2 ty : TypeId} {s x : D} {vs vx : Value} (hs : DR F w M (sg st.hp) s vs) (hx : DR F w M (sg st.hp) x vx) {k : D → Hp → Prop}
    (h : appD P st.hp q t t2 s x k) : ∃ d h' v w' M', k d h' ∧ Rel c { st with hp := h' } a w' F M' ∧ DR F w' M' (sg h') d v ∧ (Builtin.append_ #[t, t2] ty #[vs, vx]).run P w = .ok v w' := by
  by_cases hnr : ∀ id i len kk, s ≠ .nr id i len kk
  · exact appD_sound0 hr hs hx hnr h
  · have : ∃ id i len kk, s = .nr id i len kk := by
      cases s with
      | nr id i len kk => exact ⟨id, i, len, kk, rfl⟩
      | _ => exact (hnr (fun _ _ _ _ => by simp)).elim
    obtain ⟨id, i, len, kk, rfl⟩ := this
    have hcase : ∃ t3 e' sz k2 rows, get st.hp id = some (.nst t3 e' sz k2 rows none) ∧ kk = k2 ∧ len = (rows.getD i []).length ∧ i < rows.length ∧ get st.hp q = none := by
      have h0 := h
      unfold appD at h0
      split at h0
      case h_2 => exact h0.elim
      obtain ⟨_, h0⟩ := h0
      split at h0
      case h_2 => exact h0.elim
      obtain ⟨ys, _, _, _, h1⟩ := srcD_some h0
      simp only at h1
      split at h1
      · rename_i t3 e' sz k2 rows hg
        exact ⟨t3, e', sz, k2, rows, hg, h1.1.2.2⟩
      · exact h1.elim
    obtain ⟨t3, e', sz, k2, rows, hg, rfl, rfl, hi, hq⟩ := hcase
    have hir : rows[i]? = some (rows.getD i []) := by simp [List.getD, hi]
    obtain ⟨bc, hbc, hsk, hr1⟩ := hr.lend hg hir hq
    generalize hM1 : (fun j => if j = q then (⟨bc.1, bc.2, []⟩ : Mb) else if j = id then { (M id) with xs := (M id).xs.set i (0, 0) } else M j) = M1 at hsk hr1
    have hqid : q ≠ id := fun e => by rw [e, hg] at hq; cases hq
    have hsgq : sg ((q, AO.arr e' sz (rows.getD i [])) :: setL st.hp id (.nst t3 e' sz (kk + 1) rows (some i))) q = some (.arr sz (rows.getD i []).length) := by simp [sg, get_cons, AO.sg]
    have hs1 : DR F w M1 (sg ((q, AO.arr e' sz (rows.getD i [])) :: setL st.hp id (.nst t3 e' sz (kk + 1) rows (some i)))) (.ref q 0 (rows.getD i []).length (rows.getD i []).length) vs := by
      cases hs with
      | nr _ _ _ _ sz2 m k3 _ hs2 hN hv hl =>
        have hs3 := sg_of_get hg
        rw [hs2] at hs3
        simp only [AO.sg, Option.some.injEq, Sg.nst.injEq] at hs3
        obtain ⟨_, _, rfl⟩ := hs3
        obtain ⟨bc2, g1, g2, ad, g3, g4⟩ := hl rfl
        rw [hbc] at g1
        cases g1
        refine .ref q 0 _ _ sz _ vs hsgq (Nat.le_refl _) ⟨_, _, _, g3⟩ (fun _ => ⟨ad, bc.2, g3, by omega, g2, by rw [← hM1]; simp, ?_⟩)
        rw [← hM1]
        simpa using g4
    have hx1 := hx.keep (w' := w) (fun _ _ => rfl) (fun _ h => h) hsk
    have hget1 : get ((q, AO.arr e' sz (rows.getD i [])) :: setL st.hp id (.nst t3 e' sz (kk + 1) rows (some i))) q = some (.arr e' sz (rows.getD i [])) := by simp [get_cons]
    have hset1 : ∀ es, setL ((q, AO.arr e' sz (rows.getD i [])) :: setL st.hp id (.nst t3 e' sz (kk + 1) rows (some i))) q (.arr e' sz es) = (q, .arr e' sz es) :: setL st.hp id (.nst t3 e' sz (kk + 1) rows (some i)) := fun es => by simp [setL]
    refine appD_sound0 (s := .ref q 0 (rows.getD i []).length (rows.getD i []).length) (q := q) hr1 hs1 hx1 (fun _ _ _ _ => by simp) ?_
    unfold appD at h ⊢
    split at h
    case h_2 => exact h.elim
    rename_i ht1 ht2
    try simp only [ht1, ht2]
    obtain ⟨hk2, h⟩ := h
    refine ⟨hk2, ?_⟩
    split at h
    case h_2 => exact h.elim
    refine srcD_monoH (fun j o hj ho => ?_) (fun ys hys => ?_) h
    · have h1 : j ≠ q := fun e => by rw [e, hq] at hj; cases hj
      have h2 : j ≠ id := fun e => by
        rw [e, hg] at hj; cases hj
        rcases ho with ⟨_, _, _, h3⟩ | ⟨_, _, h3⟩ <;> cases h3
      rw [get_cons, if_neg (Ne.symm h1), get_setL, if_neg h2]; exact hj
    · obtain ⟨y1, y2, y3, hys⟩ := hys
      simp only at hys
      rw [hg] at hys
      obtain ⟨⟨y4, y5, _⟩, y6, y7, y8⟩ := hys
      refine ⟨y1, y2, y3, ?_⟩
      simp only [hget1]
      subst y4
      refine ⟨trivial, trivial, trivial, rfl, y5, y6, y7, ?_⟩
      rw [hset1]
      exact y8
end
end Go.Am
namespace Go.Am
open Go
section
variable {P : Program} {c : Ctx} {st : St} {a : Act} {w : World} {F : Nat → Prop} {M : Nat → Mb}
theorem purD_nil {d : D} {k : Pd → Hp → Prop} (h : purD [] d k) : ∃ x, k x [] ∧ ∀ (F : Nat → Prop) (w : World) (M : Nat → Mb) (s : Nat → Option Sg) v, DR F w M s d v → PR F w x v := by
  cases d with
  | p x => exact ⟨x, h, fun F w M s v hd => by cases hd with | p hx => exact hx⟩
  | cl es => exact ⟨_, h, fun F w M s v hd => by cases hd with | cl _ ad hx _ => exact hx⟩
  | cz es => exact ⟨_, h, fun F w M s v hd => by cases hd with | cz _ ad hx => exact hx⟩
  | _ => simp [purD, get] at h
theorem pursD_nil : ∀ {ds : List D} {k : List Pd → Hp → Prop}, pursD [] ds k → ∃ xs, k xs [] ∧ xs.length = ds.length ∧
    ∀ (F : Nat → Prop) (w : World) (M : Nat → Mb) (s : Nat → Option Sg) (vs : List Value), DRl F w M s ds vs → ∀ (i : Nat) x, xs[i]? = some x → PR F w x (vs.getD i undef)
  | [], k, h => ⟨[], h, rfl, fun _ _ _ _ _ _ i x hx => by simp at hx⟩
  | d :: ds, k, h => by
    obtain ⟨x, h1, h2⟩ := purD_nil h
    obtain ⟨xs, h3, h4, h5⟩ := pursD_nil h1
    refine ⟨x :: xs, h3, by simp [h4], fun F w M s vs hd i y hy => ?_⟩
    cases vs with
    | nil => have := hd.1; simp at this
    | cons v vs =>
      cases i with
      | zero =>
        simp only [List.getElem?_cons_zero, Option.some.injEq] at hy
        subst hy
        have := hd.2 0 d rfl
        exact h2 F w M s _ (by simpa [List.getD] using this)
      | succ i =>
        simp only [List.getElem?_cons_succ] at hy
        have := h5 F w M s vs ⟨by have := hd.1; simpa using this, fun i e he => by have := hd.2 (i + 1) e (by simpa using he); simpa [List.getD] using this⟩ i y hy
        simpa [List.getD] using this
def MOut (P : Program) (c : Ctx) (st : St) (a : Act) (w : World) (F : Nat → Prop) (o : Oper) (k : D → Hp → Prop) : Prop :=
  ∃ d h' v w' F' M', k d h' ∧ Rel c { st with hp := h' } a w' F' M' ∧ (∀ b, F b → F' b) ∧ DR F' w' M' (sg h') d v ∧
    ((execOp a.eval o).run P w = .ok (.value v) w' ∨ (v = undef ∧ (execOp a.eval o).run P w = .ok .skip w'))
theorem setL_setL (hp : Hp) (id : Nat) (o o' : AO) : setL (setL hp id o) id o' = setL hp id o' := by
  induction hp with
  | nil => simp [setL]
  | cons p r ih =>
    obtain ⟨j, x⟩ := p
    by_cases h : j = id
    · subst h; simp [setL]
    · simp [setL, h, ih]
theorem nstStore_sound (hr : Rel c st a w F M) {id i n : Nat} {d : D} {vx vd : Value} (hx : DR F w M (sg st.hp) (.nea id i n) vx) (hd : DR F w M (sg st.hp) d vd) {k : Hp → Prop} (h : nstStore st.hp id i n d k) :
    ∃ h' w' M' ad, k h' ∧ Rel c { st with hp := h' } a w' F M' ∧ vx = .pointer (some ad) ∧ (storeCells ad vd.cells.toList).run P w = .ok () w' := by
  unfold nstStore at h
  split at h
  case h_2 => exact h.elim
  rename_i q off len N
  split at h
  case h_2 => exact h.elim
  rename_i e2 sz2 es t e sz k2 rows hole hq hg
  obtain ⟨⟨rfl, rfl, rfl, rfl, rfl, rfl, hh⟩, hk⟩ := h
  have hqid : q ≠ id := fun e => by rw [e, hg] at hq; cases hq
  cases hx with
  | nea _ _ _ sz1 m1 k1 b hs hN hi hb =>
    rw [sg_of_get hg] at hs
    simp only [AO.sg, Option.some.injEq, Sg.nst.injEq] at hs
    obtain ⟨rfl, rfl, rfl⟩ := hs
    obtain ⟨rfl, hcap⟩ := hb rfl
    cases hd with
    | ref _ _ _ _ sz3 n3 _ hs2 hN2 hv2 hl2 =>
      rw [sg_of_get hq] at hs2
      simp only [AO.sg, Option.some.injEq, Sg.arr.injEq] at hs2
      obtain ⟨rfl, rfl⟩ := hs2
      obtain ⟨ad, cp, rfl, _, hcl, hoc, hor⟩ := hl2 rfl
      rw [Nat.zero_add] at hoc
      subst hoc
      have hcells : (Value.slice ad es.length (M q).cap).cells.toList = [Value.slice ad es.length (M q).cap] := rfl
      rw [hcells]
      have fin : ∀ {hp1 : Hp} {M1 : Nat → Mb} {k1 : Nat}, Rel c { st with hp := hp1 } a w F M1 → get hp1 id = some (.nst t e2 sz2 k1 rows (some i)) → get hp1 q = some (.arr e2 sz2 es) → M1 q = M q → (M1 id).blk = (M id).blk →
          ∃ w' M', Rel c { st with hp := setL (setL hp1 id (.nst t e2 sz2 (k1 + 1) (rows.set i es) none)) q (.sem (deadO (.arr sz2 (es.length + 1)))) } a w' F M' ∧ (storeCells ⟨(M id).blk, i, none⟩ [Value.slice ad es.length (M q).cap]).run P w = .ok () w' := by
        intro hp1 M1 k1 hr1 hg1 hq1 hMq hMid
        obtain ⟨w', h1, h2, row, h3, h4, h5⟩ := hr1.storeRow (P := P) hg1 hi (Value.slice ad es.length (M q).cap) rfl
        have h6 := h2.fill hg1 hi hq1 ⟨row, h3, ad, by rw [hMq]; exact h5, by rw [hMq]; simpa using hor⟩
        rw [hMid] at h1
        exact ⟨w', _, h6, h1⟩
      rcases hh with rfl | rfl
      · have hr1 := hr.drop hg hi
        obtain ⟨w', M', h1, h2⟩ := fin hr1 (by rw [get_setL, if_pos rfl]) (by rw [get_setL, if_neg hqid]; exact hq) (by simp [hqid]) (by simp)
        rw [setL_setL] at h1
        exact ⟨_, w', M', _, hk, h1, rfl, h2⟩
      · obtain ⟨w', M', h1, h2⟩ := fin hr hg hq rfl rfl
        exact ⟨_, w', M', _, hk, h1, rfl, h2⟩
theorem storeD_sound (hr : Rel c st a w F M) {t : TypeId} {x d : D} {vx vd : Value} (hx : DR F w M (sg st.hp) x vx) (hd : DR F w M (sg st.hp) d vd) {k : Hp → Prop} (h : storeD P st.hp t x d k) :
    ∃ h' w' F' M', k h' ∧ Rel c { st with hp := h' } a w' F' M' ∧ (∀ b, F b → F' b) ∧ (Instr.storeAt t vx vd).run P w = .ok () w' := by
  unfold storeD at h
  split at h
  case h_2 => exact h.elim
  rename_i ti ht
  obtain ⟨i, u, z, hi, hu, hz, rfl⟩ := tiOf_some ht
  split at h
  case h_2 => exact h.elim
  rename_i cs hst
  obtain ⟨hcs, h1, hdl⟩ := stored_sound hd hst
  obtain ⟨hlen, h⟩ := h
  simp only at hlen
  have hvs : vd.cells.size = i.size := by have := hdl.1; simp at this; omega
  have run : ∀ {ad w'}, vx = .pointer (some ad) → (storeCells ad vd.cells.toList).run P w = .ok () w' → (Instr.storeAt t vx vd).run P w = .ok () w' := by
    rintro ad w' rfl h3
    simp [Instr.storeAt, Instr.sureAddr, storeVar, run_sizeOf' hi, hvs, h3]
  split at h
  · rename_i id off
    split at h
    case h_2 => exact h.elim
    rename_i bs ho
    obtain ⟨hle, hk⟩ := h
    cases hx with
    | ptr _ _ hs =>
      obtain ⟨w', h3, h4⟩ := hr.storeBox (P := P) ho hdl h1 hle
      exact ⟨_, w', F, M, hk, h4, fun _ h => h, run rfl h3⟩
  · rename_i id j q N
    obtain ⟨xs, h', F', hk', hr', hF', hs', hl', hxs⟩ := pursD_sound cs vd.cells.toList hr hdl h
    split at hk'
    case h_2 => exact hk'.elim
    rename_i e sz es ho
    obtain ⟨hN, hq, hk⟩ := hk'
    cases hx with
    | ea _ _ _ _ sz2 n2 _ hs hN2 hv h2 =>
      have ho' := sg_of_get ho
      rw [hs', hs] at ho'
      simp only [AO.sg, Option.some.injEq, Sg.arr.injEq] at ho'
      obtain ⟨rfl, rfl⟩ := ho'
      obtain ⟨rfl, hlt⟩ := h2 hN
      obtain ⟨w', h3, h4⟩ := hr'.storeArr (P := P) ho hlt hl' hxs hq
      exact ⟨_, w', F', M, hk, h4, hF', run rfl h3⟩
  · obtain ⟨h', w', M', ad, hk, hr', rfl, h3⟩ := nstStore_sound (P := P) hr hx hd h
    exact ⟨h', w', F, M', hk, hr', fun _ h => h, run rfl h3⟩
  · exact h.elim
theorem fill_repl (hr : Rel c st a w F M) (place : Nat → Option (Nat × Nat)) {parts : List (Nat × Operand)} {n : Nat} {vs : Array Value} (hn : vs.size = n) {cs : List D}
    (h : fillD place (List.replicate n .bad) (parts.map fun q => (q.1, ev st q.2)) = some cs) :
    ∃ vs', Instr.fill place vs (parts.map fun q => (q.1, a.eval q.2)) = some vs' ∧ DRl F w M (sg st.hp) cs vs'.toList :=
  fill_sound hr place parts _ vs cs ⟨by simp [hn], fun i d hd => by
    rw [List.getElem?_replicate] at hd
    split at hd
    · cases hd; exact .bad _
    · cases hd⟩ h
theorem npT_or (t : TypeId) (cs : List D) : tyOr (npT t cs) t = t := by
  unfold tyOr npT
  split <;> split <;> simp_all
theorem ofV_nil {v : Value} (h : ofV v = .cl []) : v = .slice none 0 0 := by
  unfold ofV at h
  split at h <;> first | rfl | cases h
theorem ofVs_get : ∀ (l : List Value) (j : Nat), (ofVs l)[j]? = (l[j]?).map ofV
  | [], j => by simp [ofVs]
  | v :: r, 0 => by simp [ofVs]
  | v :: r, j + 1 => by simp [ofVs, ofVs_get r j]
theorem cells_nil (z : Value) {j : Nat} (h : (ofV z).cells[j]? = some (.cl [])) : z.cells.getD j undef = .slice none 0 0 := by
  have one : ∀ v : Value, [ofV v][j]? = some (.cl []) → (#[v] : Array Value).getD j undef = .slice none 0 0 := by
    intro v hv
    cases j with
    | zero => simp only [List.getElem?_cons_zero, Option.some.injEq] at hv; rw [ofV_nil hv]; rfl
    | succ j => simp at hv
  cases z with
  | agg cs =>
    simp only [ofV, D.cells] at h
    rw [ofVs_get] at h
    cases hc : cs.toList[j]? with
    | none => rw [hc] at h; cases h
    | some v =>
      rw [hc] at h
      simp only [Option.map_some, Option.some.injEq] at h
      rw [ofV_nil h] at hc
      simp only [Value.cells]
      rw [Array.getElem?_toList] at hc
      rw [Array.getD_eq_getD_getElem?, hc]; rfl
  | slice a l c =>
    refine one _ ?_
    have : (ofV (.slice a l c)).cells = [ofV (.slice a l c)] := by
      unfold ofV
      split <;> first | rfl | (rename_i h0; cases h0)
    rwa [this] at h
  | pointer a =>
    refine one _ ?_
    cases a <;> exact h
  | _ => exact one _ h
theorem sameBits_fit {kk : KK} {key : Pd} (hf : kk.fit key = true) : Instr.sameBits 10000 key.val key.val = true := by
  cases kk <;> cases key <;> simp [KK.fit] at hf <;> simp [Instr.sameBits, Pd.val, MapKept.bytes_beq]
theorem Rel.newMap (hr : Rel c st a w F M) {q : Nat} (hn : get st.hp q = none) :
    Rel c { st with hp := (q, .mp []) :: st.hp } a (w.alloc (.map #[] 0)) F (upM M q ⟨w.heap.size, 0, []⟩) ∧
    DR F (w.alloc (.map #[] 0)) (upM M q ⟨w.heap.size, 0, []⟩) (sg ((q, .mp []) :: st.hp)) (.mv q) (.map (some w.heap.size)) := by
  have hget := get_new st.hp q (.mp [])
  have hM : ∀ j, j ≠ q → upM M q ⟨w.heap.size, 0, []⟩ j = M j := fun j hj => by simp [upM, hj]
  have hMq : upM M q ⟨w.heap.size, 0, []⟩ q = ⟨w.heap.size, 0, []⟩ := by simp [upM]
  have hsk := sgKeep_new hget hM hn
  have hold : ∀ b, b < w.heap.size → (w.alloc (.map #[] 0)).heap[b]? = w.heap[b]? := fun b hb => alloc_old w _ b hb
  refine ⟨hr.change hget hM hsk rfl rfl rfl (by simp) (fun b hb _ => hold b hb) ?_ (fun b hb => .inr (by have : b = _ := hb; rw [this, hMq]; exact Nat.le_refl _)), ?_⟩
  · rw [hMq]
    refine ⟨fun hF => Nat.lt_irrefl _ (hr.keep.Fl _ hF), ⟨#[], 0, heap_alloc_new w _, rfl⟩, by simp⟩
  · have := DR.mv (F := F) (w := w.alloc (.map #[] 0)) (M := upM M q ⟨w.heap.size, 0, []⟩) (s := sg ((q, .mp []) :: st.hp)) q (by rw [sg_change hget]; simp [AO.sg])
    rwa [hMq] at this
theorem mapUpD_sound (hr : Rel c st a w F M) {t : TypeId} {m i x : D} {k : Hp → Prop} (h : mapUpD P st.hp t m i x k) {vm vi vx : Value} (hm : DR F w M (sg st.hp) m vm) (hi : DR F w M (sg st.hp) i vi) (hx : DR F w M (sg st.hp) x vx) :
    ∃ h' w', k h' ∧ Rel c { st with hp := h' } a w' F M ∧ (Instr.mapUpdate t vm vi vx).run P w = .ok () w' := by
  unfold mapUpD at h
  split at h
  case h_2 => exact h.elim
  rename_i _ _ _ _ kk z id key y hmo
  obtain ⟨kt, e, d, ii, zv, hu, hk, hd, hi2, hz, rfl, hzf⟩ := mapOf_some hmo
  split at h
  case h_2 => exact h.elim
  rename_i l hg
  obtain ⟨⟨hf, hft, hyf⟩, hkk⟩ := h
  obtain ⟨hnF, ⟨es, clock, hb, hes⟩, hfl⟩ := hr.heap.obj id _ hg
  have hget : ∀ j, get (setL st.hp id (.mp (mset key y l))) j = if j = id then some (.mp (mset key y l)) else get st.hp j := get_setL _ _ _
  have hsg := sgKeep_same hget hg rfl
  cases hm with
  | mv _ hs =>
    cases hi with
    | p hi =>
      have hvi : vi = key.val := by cases hi <;> first | rfl | (cases kk <;> simp [KK.fit] at hf)
      subst hvi
      cases hx with
      | p hx =>
        have hvx : vx = y.val := by cases hx <;> first | rfl | simp [Pd.flat] at hyf
        subst hvx
        have hc : ∀ b, (Instr.checkKey b 10000 kt key.val).run P w = .ok () w := fun b => MapKept.run_checkKey hk (isKey_fit hd hf) b 9999
        have hch : ∀ (es' : Array MapEntry) (clock' : Nat), es'.toList.map (fun e => (e.key, e.val)) = (mset key y l).map (fun p => (p.1.val, p.2.val)) → (∀ p ∈ mset key y l, p.2.flat = true) →
            Rel c { st with hp := setL st.hp id (.mp (mset key y l)) } a { w with heap := w.heap.setIfInBounds (M id).blk (.map es' clock') } F M := by
          intro es' clock' h1 h2
          have hset := MapKept.heap_set (o' := .map es' clock') hb
          refine hr.change (M' := M) hget (fun _ _ => rfl) (by rw [hsg]; exact SgKeep.refl _ _) rfl rfl rfl (by simp) (fun b hb2 hne => hset.2 b (hne _ hg)) ⟨hnF, ⟨es', clock', hset.1, h1⟩, h2⟩ (fun b hb2 => .inl ⟨_, hg, hb2⟩)
        have hfl2 : ∀ p ∈ mset key y l, p.2.flat = true := by
          clear hch hget hsg hkk hes hg hft
          induction l with
          | nil => intro p hp; simp [mset] at hp; subst hp; exact hyf
          | cons q r ih =>
            intro p hp
            simp only [mset] at hp
            split at hp
            · rcases List.mem_cons.1 hp with rfl | hp
              · exact hyf
              · exact hfl p (by simp [hp])
            · rcases List.mem_cons.1 hp with rfl | hp
              · exact hfl _ (by simp)
              · exact ih (fun p hp => hfl p (by simp [hp])) p hp
        rcases mfind_sound hd hf es.toList l 0 hes hft with ⟨v, j, g1, g2, g3, ⟨e0, g4, g5⟩, g6⟩ | ⟨g1, g2, g3⟩
        · refine ⟨_, _, hkk, hch (es.modify j fun e => { e with key := key.val, val := y.val }) clock (by rw [Array.toList_modify]; exact g6 y) hfl2, ?_⟩
          have h4 : es[j]? = some e0 := by simpa using g4
          simp [Instr.mapUpdate, run_underlying hu, MapKept.run_getObj_map hb, hc, MapKept.run_findKey hk g2, Result.andThen, h4, g5, Instr.keyThatStays, sameBits_fit hf, MapKept.run_setObj_map _ hb]
        · refine ⟨_, _, hkk, hch (es.push { key := key.val, val := y.val, born := clock }) (clock + 1) (by simp [g3 y, hes]) hfl2, ?_⟩
          simp [Instr.mapUpdate, run_underlying hu, MapKept.run_getObj_map hb, hc, MapKept.run_findKey hk g2, Result.andThen, MapKept.run_setObj_map _ hb]
theorem mOp_sound (hr : Rel c st a w F M) {o : Oper} {q : Nat} {k : D → Hp → Prop} (h : mOp P st q o.op k) : MOut P c st a w F o k := by
  unfold mOp at h
  split at h
  ·
    rename_i t ho
    split at h
    case h_2 => exact h.elim
    rename_i ti ht
    obtain ⟨i, u, z, hi, hu, hz, rfl⟩ := tiOf_some ht
    split at h
    case h_2 => exact h.elim
    rename_i cs hst
    obtain ⟨hcs, h1, hdl⟩ := stored_sound (ofV_sound F w M (sg st.hp) z) hst
    obtain ⟨hn, hk⟩ := h
    obtain ⟨h2, h3⟩ := hr.newBox t (npT t cs) (npT_or t cs) hn hdl h1 (fun _ _ j hj => cells_nil z (hcs ▸ hj))
    refine ⟨_, _, _, _, F, _, hk, h2, fun _ h => h, h3, .inl ?_⟩
    simp [execOp, ho, Instr.alloc, run_zeroValue' hi hz, newVar, newRow]
  ·
    rename_i t x ho
    split at h
    case h_2 => exact h.elim
    rename_i cs hst
    obtain ⟨hcs, h1, hdl⟩ := stored_sound (ev_sound hr x) hst
    obtain ⟨hn, hk⟩ := h
    obtain ⟨h2, h3⟩ := hr.newBox t 0 rfl hn hdl h1 (Exa.zero _ _)
    refine ⟨_, _, _, _, F, _, hk, h2, fun _ h => h, h3, .inl ?_⟩
    simp [execOp, ho, Instr.box, newVar, newRow]
  ·
    rename_i t x y ho
    obtain ⟨h', w', F', M', hk, h2, hF, h3⟩ := storeD_sound hr (ev_sound hr x) (ev_sound hr y) h
    refine ⟨_, h', undef, w', F', M', hk, h2, hF, .tup [] #[] rfl (fun i d hd => by simp at hd), .inr ⟨rfl, ?_⟩⟩
    simp [execOp, ho, h3]
  ·
    rename_i t ho
    obtain ⟨hn, hk⟩ := h
    obtain ⟨h2, h3⟩ := hr.newMap hn
    refine ⟨_, _, _, _, F, _, hk, h2, fun _ h => h, h3, .inl ?_⟩
    simp [execOp, ho, Instr.makeMap]
  ·
    rename_i t m i x ho
    obtain ⟨h', w', hk, h2, h3⟩ := mapUpD_sound hr h (ev_sound hr m) (ev_sound hr i) (ev_sound hr x)
    refine ⟨_, h', undef, w', F, M, hk, h2, fun _ h => h, .tup [] #[] rfl (fun i d hd => by simp at hd), .inr ⟨rfl, ?_⟩⟩
    simp [execOp, ho, h3]
  ·
    rename_i t n parts ho
    split at h
    case h_2 => exact h.elim
    rename_i _ _ e z0 ht
    obtain ⟨i1, u1, z1, hi1, hu1, hz1, e1⟩ := tiOf_some ht
    simp only [TI.mk.injEq] at e1
    obtain rfl := TK.of_slice e1.2.2.1.symm
    split at h
    case h_2 => exact h.elim
    rename_i ti hte
    obtain ⟨i, u, z, hi, hu, hz, rfl⟩ := tiOf_some hte
    obtain ⟨hpos, hmax, h⟩ := h
    simp only at hpos hmax h
    split at h
    case h_2 => exact h.elim
    rename_i cs hf
    obtain ⟨vs', hf', hdl⟩ := fill_repl hr _ (vs := (Array.range (n * i.size)).map ((if n * i.size = 0 then #[] else z.cells)[· % (if n * i.size = 0 then #[] else z.cells).size]!)) (by simp) hf
    obtain ⟨xs, h', F', ⟨hn, hk⟩, hr', hF', hs', hl', hxs⟩ := pursD_sound cs vs'.toList hr hdl h
    have hfl : cs.length = n * i.size := by
      have : ∀ (ps : List (Nat × D)) (c0 c1 : List D), fillD (fun j => some (j * i.size, i.size)) c0 ps = some c1 → c1.length = c0.length := by
        intro ps
        induction ps with
        | nil => intro c0 c1 h; simp [fillD] at h; rw [h]
        | cons p ps ih =>
          intro c0 c1 h
          obtain ⟨j, d⟩ := p
          simp only [fillD] at h
          split at h
          · rename_i hc
            rw [ih _ _ h]; simp; omega
          · cases h
      have := this _ _ _ hf
      simpa using this
    have hvl : vs'.size = n * i.size := by have := hdl.1; simp at this; omega
    have hxl : xs.length = n * i.size := by simp at hl'; omega
    obtain ⟨h2, h3⟩ := hr'.newArr (q := q) (cap := n) (sz := i.size) (es := chunk i.size n xs) (e := e) (vs := vs') (w' := w.alloc (.cells vs' e)) hn rfl rfl rfl rfl hpos (by rw [chunk_length]; exact Nat.le_refl _)
      (by unfold maxLen; have : n ≤ n * i.size := Nat.le_mul_of_pos_right _ hpos; omega) (fun j x hj => by
        rw [chunk_get] at hj
        split at hj
        · rename_i hlt
          cases hj
          have := row_lt (j := i.size - 1) hlt (Nat.le_refl _) (show i.size - 1 < i.size by omega)
          simp; omega
        · cases hj) hvl (fun j x p y hj hp => by
        rw [chunk_get] at hj
        split at hj
        · cases hj
          rw [List.getElem?_take] at hp
          split at hp
          · rw [List.getElem?_drop] at hp
            have := hxs _ y hp
            rwa [List.getD_eq_getElem?_getD, Array.getElem?_toList, ← Array.getD_eq_getD_getElem?] at this
          · cases hp
        · cases hj)
    rw [chunk_length] at h3
    refine ⟨_, _, _, _, F', _, hk, h2, hF', h3, .inl ?_⟩
    have hpm : (parts.map fun (i, x) => (i, a.eval x)).toList = parts.toList.map fun q => (q.1, a.eval q.2) := by simp
    have hnl : ¬ (16777216 < n * i.size) := by omega
    simp only [execOp, ho, Instr.buildSlice, Sem.run_bind, run_underlying hu1, Result.andThen_ok, run_sizeOf' hi]
    by_cases h0 : n * i.size = 0
    · have e0 : ∀ g : Nat → Value, (Array.range 0).map g = #[] := fun g => by simp [Array.range_zero']
      simp only [h0, if_true, e0] at hf' ⊢
      simp [hpm, hf', newRow, e0]
    · simp only [h0, if_false] at hf' ⊢
      simp [hnl, run_zeroValue' hi hz, hpm, hf', newRow]
  ·
    rename_i t l m ho
    split at h
    case h_2 => exact h.elim
    rename_i _ _ e z0 k1 l' k2 m' ht hl hm
    obtain ⟨i1, u1, z1, hi1, hu1, hz1, e1⟩ := tiOf_some ht
    simp only [TI.mk.injEq] at e1
    obtain rfl := TK.of_slice e1.2.2.1.symm
    split at h
    case h_2 => exact h.elim
    rename_i ti hte
    obtain ⟨i, u, z, hi, hu, hz, rfl⟩ := tiOf_some hte
    obtain ⟨hpos, hn, ⟨h0, hlm, hby, hle⟩, hzl, h⟩ := h
    simp only at hpos hby hzl
    obtain ⟨zs, hk, hzs, hzd⟩ := pursD_nil h
    have hl' := ev_sound hr l
    have hm' := ev_sound hr m
    rw [hl] at hl'
    rw [hm] at hm'
    generalize hvl : a.eval l = vl at hl'
    generalize hvm : a.eval m = vm at hm'
    cases hl' with | p hl' => cases hl'; cases hm' with | p hm' =>
      cases hm'
      have hrun := run_make (P := P) w t e i z hu1 hi hz k1 k2 l' m' h0 hlm (by rw [Int.mul_comm]; omega) (by omega)
      rw [ofV_cells_length] at hzl
      have hz0 : DRl F w M (sg st.hp) (ofV z).cells z.cells.toList := by
        have : (ofV z).cells.all D.one = true ∨ ∃ cs, ofV z = .agg cs := by
          cases hzz : ofV z with
          | agg cs => exact .inr ⟨cs, rfl⟩
          | tup cs => rw [hzz] at h; simp [D.cells, pursD, purD] at h
          | bad => rw [hzz] at h; simp [D.cells, pursD, purD] at h
          | _ => left; simp [D.cells, D.one]
        exact (ofV_sound F w M (sg st.hp) z).cells this
      have hz1' := hzd F w M (sg st.hp) _ hz0
      have hzsl : zs.length = i.size := by rw [hzs, ofV_cells_length]; exact hzl
      obtain ⟨h2, h3⟩ := hr.newArr (q := q) (cap := m'.toNat) (sz := i.size) (es := List.replicate l'.toNat zs) (e := e) (vs := madeCells z.cells (m'.toNat * i.size))
        (w' := w.alloc (.cells (madeCells z.cells (m'.toNat * i.size)) e)) hn rfl rfl rfl rfl hpos (by simp; omega) (by unfold maxLen; omega)
        (fun j x hj => by rw [List.getElem?_replicate] at hj; split at hj <;> cases hj; exact hzsl) (size_madeCells _ _) (fun j x p y hj hp => by
          rw [List.getElem?_replicate] at hj
          split at hj
          · rename_i hlt
            cases hj
            have h5 := hz1' p y hp
            have h6 := (List.getElem?_eq_some_iff.1 hp).1
            have h7 := row_lt (j := p) (sz := i.size) (show j < m'.toNat by omega) (Nat.le_refl _) (by omega)
            have h8 : (j * i.size + p) % z.cells.size = p := by rw [hzl, Nat.mul_comm, Nat.mul_add_mod]; exact Nat.mod_eq_of_lt (by omega)
            have h9 : (madeCells z.cells (m'.toNat * i.size)).getD (j * i.size + p) undef = z.cells[(j * i.size + p) % z.cells.size]! := by
              simp [madeCells, Array.getD_eq_getD_getElem?, h7]
            rw [h9, h8]
            have h10 : p < z.cells.size := by omega
            rw [List.getD_eq_getElem?_getD, Array.getElem?_toList, Array.getElem?_eq_getElem h10] at h5
            rw [getElem!_pos z.cells p h10]
            exact h5
          · cases hj)
      rw [List.length_replicate] at h3
      refine ⟨_, _, _, _, F, _, hk, h2, fun _ h => h, h3, .inl ?_⟩
      simp only [execOp, ho, hvl, hvm, Sem.run_bind, hrun, Result.andThen_ok, Sem.run_pure]
  · exact h.elim
end
end Go.Am
end
