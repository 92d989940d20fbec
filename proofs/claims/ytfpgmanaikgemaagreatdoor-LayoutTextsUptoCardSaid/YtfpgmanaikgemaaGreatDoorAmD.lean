/- The abstract machine over the kit's weakest preconditions, part AmD. -/
import Derived.Lib.ConvBytes
import Derived.Lib.OthersKept
import Derived.ScopeJumps
import Derived.Laws.IdiomStrings
import Derived.Laws.BytesString
import Derived.Lib.LaidTab
import Derived.Lib.ItoaNum
import Derived.Sort.Grow
import Derived.Deep.Draws
import Derived.Below
import Derived.LaidSub
import Derived.Test.YtfpgmanaikgemaaGreatDoorAmC
set_option linter.unusedVariables false
set_option linter.unusedSimpArgs false
/- The abstract machine, thirty-sixth part: readings of a plain type, by their cells; how much they hold. -/
namespace Go.Am
open Go Go.ChangeShapes Go.RowKit

def wtF (p : Field → List Pd → Prop) : List Field → List Pd → Prop
  | [], cs => cs = []
  | f :: r, cs => ∃ a b, cs = a ++ b ∧ p f a ∧ wtF p r b

/-- Cells of a plain type. -/
def wtP (P : Program) : Nat → TypeId → List Pd → Prop
  | 0, _, _ => False
  | n + 1, t, cs => match P.underlying t with
    | some .bool => ∃ b, cs = [.bool b]
    | some (.int k) => ∃ v, cs = [.int k v] ∧ (Lit.int k v).wf = true
    | some .string => ∃ l, cs = [.str l]
    | some (.slice e) => ∃ es, cs = [.sl es] ∧ ∀ y ∈ es, wtP P n e y
    | some (.struct fs) => wtF (fun f => wtP P n f.type) fs.toList cs
    | some (.array k e) => ∃ es : List (List Pd), cs = es.flatten ∧ es.length = k ∧ ∀ y ∈ es, wtP P n e y
    | _ => False

mutual
/-- How many values and letters. -/
def pdB : Pd → Nat
  | .int _ _ => 1
  | .bool _ => 1
  | .str l => l.length + 1
  | .sl es => pdBs es + 1
def pdBl : List Pd → Nat
  | [] => 0
  | x :: r => pdB x + pdBl r
def pdBs : List (List Pd) → Nat
  | [] => 0
  | x :: r => pdBl x + pdBs r
end
theorem pdBl_append (a b : List Pd) : pdBl (a ++ b) = pdBl a + pdBl b := by
  induction a with
  | nil => simp [pdBl]
  | cons x r ih => simp only [List.cons_append, pdBl, ih]; omega

section
variable {H : Type} {enc : TypeId × Value → H} {P : Program} {w : World} {spare : Nat → Bool} {held : Bool}

theorem wtF_flat {p : Field → List Pd → Prop} : ∀ (fs : List Field) (xs : List (DataW H × List MemPlace)), xs.length = fs.length → (∀ (i : Nat) f x, fs[i]? = some f → xs[i]? = some x → p f (flatD x.1)) → wtF p fs (flatA (xs.map (·.1)))
  | [], xs, hl, _ => by
    have : xs = [] := List.eq_nil_of_length_eq_zero hl
    subst this
    rfl
  | f :: r, xs, hl, h => by
    cases xs with
    | nil => simp at hl
    | cons x xs => exact ⟨flatD x.1, flatA (xs.map (·.1)), rfl, h 0 f x rfl rfl, wtF_flat r xs (by simpa using hl) fun i g y hg hy => h (i + 1) g y (by simpa using hg) (by simpa using hy)⟩

theorem flatA_flat : ∀ (xs : List (DataW H × List MemPlace)), flatA (xs.map (·.1)) = (xs.map fun x => flatD x.1).flatten
  | [] => rfl
  | x :: r => by simp only [List.map_cons, flatA, List.flatten_cons, flatA_flat r]

theorem trod_wt : ∀ (m : Nat) (t : TypeId), plainB P m t = true → ∀ (fuel : Nat) (cs : List Value) (x : DataW H × List MemPlace),
    DataW.trod enc P w 0 spare held fuel t cs = some x → wtP P m t (flatD x.1) := by
  intro m
  induction m with
  | zero => intro t h; simp [plainB] at h
  | succ m ih =>
    intro t ht fuel cs x h
    simp only [plainB] at ht
    simp only [wtP]
    split at ht
    · rename_i hu
      obtain ⟨b, rfl, rfl⟩ := DataW.trod_bool hu h
      rw [hu]; exact ⟨b, rfl⟩
    · rename_i k hu
      obtain ⟨n, rfl, rfl, hw⟩ := DataW.trod_int hu h
      rw [hu]; exact ⟨n, rfl, hw⟩
    · rename_i hu
      obtain ⟨s, rfl, rfl, _⟩ := DataW.trod_string hu h
      rw [hu]; exact ⟨_, rfl⟩
    · rename_i e hu
      simp only [Bool.and_eq_true, decide_eq_true_eq] at ht
      obtain ⟨hk, hpe⟩ := ht
      rw [hu]
      rcases DataW.trod_slice hu h with ⟨rfl, rfl⟩ | ⟨a, len, cap, elems, rest, n, rfl, rfl, rfl, hb, hl, hc, hel, hget, _, _⟩
      · exact ⟨[], rfl, by simp⟩
      · refine ⟨elems.map fun x => flatD x.1, by simp only [flatD, flatE_map], fun y hy => ?_⟩
        obtain ⟨z, hz, rfl⟩ := List.mem_map.1 hy
        obtain ⟨i, hi, rfl⟩ := List.mem_iff_getElem.1 hz
        have := hget i (by omega)
        rw [List.getElem?_eq_getElem hi] at this
        obtain ⟨cs', h1, h2⟩ := Option.bind_eq_some_iff.1 this
        exact ih e hpe _ _ _ h2
    · rename_i fs hu
      simp only [Bool.and_eq_true, decide_eq_true_eq] at ht
      rw [hu]
      obtain ⟨xs, n, rfl, rfl, hl, hxl, hget⟩ := DataW.trod_struct hu h
      simp only [flatD]
      refine wtF_flat fs.toList xs (by simpa using hxl) fun i f x hf hx => ?_
      have h1 := hget i f (by simpa using hf)
      rw [hx] at h1
      exact ih f.type (List.all_eq_true.1 ht.2 f (List.mem_of_getElem? hf)) _ _ _ h1
    · rename_i k e hu
      simp only [Bool.and_eq_true, decide_eq_true_eq] at ht
      rw [hu]
      obtain ⟨xs, n, rfl, rfl, hl, hxl, hget⟩ := DataW.trod_array hu h
      refine ⟨xs.map fun x => flatD x.1, by simp only [flatD, flatA_flat], by simpa using hxl, fun y hy => ?_⟩
      obtain ⟨z, hz, rfl⟩ := List.mem_map.1 hy
      obtain ⟨i, hi, rfl⟩ := List.mem_iff_getElem.1 hz
      have h1 := hget i (by omega)
      rw [List.getElem?_eq_getElem hi] at h1
      exact ih e ht.2 _ _ _ h1
    · cases ht

/-- A parameter's reading is of its type. -/
theorem top_wt {W : World} {t : TypeId} {v : Value} {d : DataW H} {ps : List MemPlace} {sp : Nat → Bool} (ht : topB P t = true) (h : DataW.Trod enc P W 0 sp held t v d ps) : wtP P 30 t (flatD d) := by
  unfold topB at ht
  simp only [Bool.and_eq_true] at ht
  obtain ⟨fuel, hf⟩ := h
  exact trod_wt 30 t ht.1 _ _ _ hf

theorem tops_wt {W : World} {sp : Nat → Bool} : ∀ {ts : List TypeId} {vs : List Value} {ds : List (DataW H)} {ps : List MemPlace}, (ts.all (topB P)) = true → DataW.TrodAll enc P W 0 sp held ts vs ds ps →
    ds.length = ts.length ∧ ∀ (i : Nat) t d, ts[i]? = some t → ds[i]? = some d → wtP P 30 t (flatD d)
  | [], vs, ds, ps, _, h => by
    obtain ⟨rfl, rfl, _⟩ := trodAll_nil h
    exact ⟨rfl, fun i t d h => by simp at h⟩
  | t :: ts, vs, ds, ps, ht, h => by
    obtain ⟨v, vs', d, ds', p, q, rfl, rfl, _, h1, h2⟩ := trodAll_cons h
    simp only [List.all_cons, Bool.and_eq_true] at ht
    obtain ⟨h3, h4⟩ := tops_wt ht.2 h2
    refine ⟨by simp [h3], fun i t' d' hi hd => ?_⟩
    cases i with
    | zero => simp only [List.getElem?_cons_zero, Option.some.injEq] at hi hd; subst hi hd; exact top_wt ht.1 h1
    | succ i => simp only [List.getElem?_cons_succ] at hi hd; exact h4 i t' d' hi hd
end

section
variable {P : Program} {n : Nat} {t : TypeId} {cs : List Pd}
theorem wt_int {k : IntKind} (hu : P.underlying t = some (.int k)) (h : wtP P n t cs) : ∃ v, cs = [.int k v] ∧ (Lit.int k v).wf = true := by
  cases n with
  | zero => exact h.elim
  | succ n => simpa only [wtP, hu] using h
theorem wt_bool (hu : P.underlying t = some .bool) (h : wtP P n t cs) : ∃ b, cs = [.bool b] := by
  cases n with
  | zero => exact h.elim
  | succ n => simpa only [wtP, hu] using h
theorem wt_str (hu : P.underlying t = some .string) (h : wtP P n t cs) : ∃ l, cs = [.str l] := by
  cases n with
  | zero => exact h.elim
  | succ n => simpa only [wtP, hu] using h
theorem wt_sl {e : TypeId} (hu : P.underlying t = some (.slice e)) (h : wtP P n t cs) : ∃ m es, cs = [.sl es] ∧ ∀ y ∈ es, wtP P m e y := by
  cases n with
  | zero => exact h.elim
  | succ n =>
    simp only [wtP, hu] at h
    exact ⟨n, h⟩
theorem wt_st {fs : Array Field} (hu : P.underlying t = some (.struct fs)) (h : wtP P n t cs) : ∃ m, wtF (fun f => wtP P m f.type) fs.toList cs := by
  cases n with
  | zero => exact h.elim
  | succ n =>
    simp only [wtP, hu] at h
    exact ⟨n, h⟩
theorem wt_ar {k : Nat} {e : TypeId} (hu : P.underlying t = some (.array k e)) (h : wtP P n t cs) : ∃ m, ∃ es : List (List Pd), cs = es.flatten ∧ es.length = k ∧ ∀ y ∈ es, wtP P m e y := by
  cases n with
  | zero => exact h.elim
  | succ n =>
    simp only [wtP, hu] at h
    exact ⟨n, h⟩
theorem dec_map {α : Type} (enc : α → List Pd) : ∀ (es : List (List Pd)), (∀ y ∈ es, ∃ x, y = enc x) → ∃ l : List α, es = l.map enc
  | [], _ => ⟨[], rfl⟩
  | y :: r, h => by
    obtain ⟨x, hx⟩ := h y (by simp)
    obtain ⟨l, hl⟩ := dec_map enc r fun z hz => h z (by simp [hz])
    exact ⟨x :: l, by simp [hx, hl]⟩
theorem pdBs_map {α : Type} (enc : α → List Pd) (h1 : ∀ x, 1 ≤ pdBl (enc x)) : ∀ (l : List α), l.length ≤ pdBs (l.map enc) ∧ ∀ x ∈ l, pdBl (enc x) ≤ pdBs (l.map enc)
  | [] => ⟨Nat.zero_le _, by simp⟩
  | y :: r => by
    obtain ⟨h2, h3⟩ := pdBs_map enc h1 r
    have h4 := h1 y
    simp only [List.map_cons, pdBs, List.length_cons]
    refine ⟨by omega, fun x hx => ?_⟩
    rcases List.mem_cons.1 hx with rfl | hx
    · omega
    · have := h3 x hx; omega
end
end Go.Am

/- The abstract machine, thirty-third part: operations by hand: a string's iterator, a string's bytes; what is said otherwise ahead of an operation. -/
namespace Go.Am
open Go

section
variable {P : Program} {ops rest : List Oper} {k : Kt} {st : St} {o : Oper}

theorem Af_sem (h : SemOp P o (O P true ops rest k) st) : Af P true ops rest k o st .fail := ⟨rfl, h⟩

/-- The state is said otherwise ahead of an operation. -/
theorem Af_wk {st1 : St} (hw : Wk st st1) (h : Do P true ops rest k o st1) : Af P true ops rest k o st .fail := by
  refine Af_sem fun c a w F M Q hr => ?_
  obtain ⟨F1, M1, hr1⟩ := hw c a w F M hr
  exact wDo_sound hr1 h Q

/-- A new block that is never written again. -/
theorem Rel.newF {c : Ctx} {a : Act} {w w' : World} {F : Nat → Prop} {M : Nat → Mb} (hr : Rel c st a w F M) (hos : w'.os = w.os) (htape : w'.tape = w.tape) (hout : w'.output = w.output)
    (hsz : w'.heap.size = w.heap.size + 1) (hold : ∀ b, b < w.heap.size → w'.heap[b]? = w.heap[b]?) : Rel c st a w' (fun b => F b ∨ b = w.heap.size) M := by
  have hF : ∀ b, F b → w'.heap[b]? = w.heap[b]? := fun b hb => hold b (hr.keep.Fl b hb)
  have hs := SgKeep.refl M (sg st.hp)
  refine ⟨fun t d ht => (hr.env t d ht).keep hF (fun _ h => .inl h) hs, hr.size, hr.defers, ⟨fun id x hx => ?_, hr.heap.inj⟩, ?_⟩
  · refine (hr.heap.obj id x hx).keep hF (fun _ h => .inl h) hs fun b hown => ?_
    have hlt := hr.heap.lt ⟨id, x, hx, hown⟩
    refine ⟨hold _ hlt, ?_⟩
    rintro (h | h)
    · exact hr.heap.notF ⟨id, x, hx, hown⟩ h
    · omega
  · have hk := hr.keep
    refine ⟨hos.trans hk.os, htape.trans hk.tape, hout.trans hk.output, by have := hk.size; omega, fun b hb hO => ?_, fun b hb => .inl (hk.F0 b hb), fun b hb => ?_, fun b hb => ?_, hk.own, hk.sgk, hk.s0b⟩
    · rw [hold b (Nat.lt_of_lt_of_le hb hk.size)]; exact hk.old b hb hO
    · rcases hb with hb | rfl
      · exact hk.Fn b hb
      · exact .inr (.inr hk.size)
    · rcases hb with hb | rfl
      · have := hk.Fl b hb; omega
      · omega

/-- The bytes of a string. -/
theorem Af_bytes {s d e : TypeId} {x : Operand} {z0 z1 z2 : D} {n0 n1 n2 n3 b2 : Nat} {l : List UInt8} (ho : o.op = .convert s d x) (hs : tiOf P s = some ⟨n0, n1, .string, z0⟩) (hd : tiOf P d = some ⟨n2, n3, .slice e, z1⟩) (he : tiOf P e = some ⟨1, b2, .int .u8, z2⟩)
    (hx : ev st x = .p (.str l)) (h : O P true ops rest k (st.put o.dst (.p (.sl (encB l))))) : Af P true ops rest k o st .fail := by
  refine Af_sem fun c a w F M Q hr => ?_
  obtain ⟨_, u1, _, _, hu1, _, e1⟩ := tiOf_some hs
  obtain ⟨_, u2, _, _, hu2, _, e2⟩ := tiOf_some hd
  obtain ⟨_, u3, _, _, hu3, _, e3⟩ := tiOf_some he
  simp only [TI.mk.injEq] at e1 e2 e3
  obtain rfl := TK.of_string e1.2.2.1.symm
  obtain rfl := TK.of_slice e2.2.2.1.symm
  obtain rfl := TK.of_int e3.2.2.1.symm
  have hv := ev_sound hr x
  rw [hx] at hv
  generalize hvx : a.eval x = v at hv
  cases hv with | p hv => cases hv with | str =>
  have hrun := Lib.run_convert_string_bytes (P := P) w s d e ⟨l.toArray⟩ hu1 hu2 hu3
  have hr' : Rel c st a (Lib.bytesWorld w e ⟨l.toArray⟩) (fun b => F b ∨ b = w.heap.size) M := hr.newF rfl rfl rfl (Lib.bytesWorld_size _ _ _) (fun b hb => Lib.bytesWorld_at_old _ _ _ b hb)
  unfold Oper.wp
  have hex : (execOp a.eval o).run P w = .ok (.value (.slice (some ⟨w.heap.size, 0, none⟩) (⟨l.toArray⟩ : ByteArray).size (grownCap w (⟨l.toArray⟩ : ByteArray).size 0 e))) (Lib.bytesWorld w e ⟨l.toArray⟩) := by
    simp only [execOp, ho, hvx]
    simp [hrun]
  rw [hex]
  refine ⟨_, _, _, h, hr'.put ?_ o.dst⟩
  have hlen : (⟨l.toArray⟩ : ByteArray).size = (encB l).length := by simp [encB, size_str]
  rw [hlen]
  refine .p (.sl (encB l) w.heap.size 0 _ 1 _ e _ (.inr rfl) (Lib.bytesWorld_at_new _ _ _) (by have := grownCap_ge w (encB l).length 0 e; exact this) (fun i y hy => ?_) (fun i y j q hy hq => ?_) (fun i y j q hy hq => ?_))
  · simp only [encB, List.getElem?_map] at hy
    cases hb : l[i]? with
    | none => rw [hb] at hy; cases hy
    | some b => rw [hb] at hy; cases hy; rfl
  · simp only [encB, List.getElem?_map] at hy
    cases hb : l[i]? with
    | none => rw [hb] at hy; cases hy
    | some b =>
      rw [hb] at hy; cases hy
      have hlt := (List.getElem?_eq_some_iff.1 hb).1
      cases j with
      | succ j => simp at hq
      | zero => simp [Lib.bytesCells]; omega
  · simp only [encB, List.getElem?_map] at hy
    cases hb : l[i]? with
    | none => rw [hb] at hy; cases hy
    | some b =>
      rw [hb] at hy; cases hy
      have hlt := (List.getElem?_eq_some_iff.1 hb).1
      cases j with
      | succ j => simp at hq
      | zero =>
        simp only [List.getElem?_cons_zero, Option.some.injEq] at hq
        subst hq
        have : (Lib.bytesCells w e ⟨l.toArray⟩).getD (0 + i * 1 + 0) undef = .int .u8 b.toNat := by
          rw [Array.getD_eq_getD_getElem?]
          simp [Lib.bytesCells, Array.getElem?_append, hlt]
          have := (List.getElem?_eq_some_iff.1 hb).2
          rw [this]
        rw [this]
        exact .int _ _

/-- An iterator over a string. -/
theorem Af_range {t : TypeId} {x : Operand} {q : Nat} {n0 n1 : Nat} {z0 : D} {l : List UInt8} (ho : o.op = .range t x) (hq : o.dst = some q) (ht : tiOf P t = some ⟨n0, n1, .string, z0⟩) (hx : ev st x = .p (.str l)) (hn : get st.hp q = none)
    (h : O P true ops rest k (({ st with hp := (q, .iter l 0) :: st.hp } : St).put (some q) (.ptr q 0))) : Af P true ops rest k o st .fail := by
  refine Af_sem fun c a w F M Q hr => ?_
  obtain ⟨_, u1, _, _, hu1, _, e1⟩ := tiOf_some ht
  simp only [TI.mk.injEq] at e1
  obtain rfl := TK.of_string e1.2.2.1.symm
  have hv := ev_sound hr x
  rw [hx] at hv
  generalize hvx : a.eval x = v at hv
  cases hv with | p hv => cases hv with | str =>
  have hget := get_new st.hp q (.iter l 0)
  have hM : ∀ j, j ≠ q → upM M q ⟨w.heap.size, 0, []⟩ j = M j := fun j hj => by simp [upM, hj]
  have hMq : upM M q ⟨w.heap.size, 0, []⟩ q = ⟨w.heap.size, 0, []⟩ := by simp [upM]
  have hsk := sgKeep_new hget hM hn
  have hold : ∀ b, b < w.heap.size → (w.iter ⟨l.toArray⟩ 0).heap[b]? = w.heap[b]? := fun b hb => alloc_old w _ b hb
  have hr' : Rel c { st with hp := (q, .iter l 0) :: st.hp } a (w.iter ⟨l.toArray⟩ 0) F (upM M q ⟨w.heap.size, 0, []⟩) := by
    refine hr.change hget hM hsk rfl rfl rfl (by simp [World.iter]) (fun b hb _ => hold b hb) ?_ (fun b hb => .inr (by have : b = _ := hb; rw [this, hMq]; exact Nat.le_refl _))
    rw [hMq]
    exact ⟨fun hF => Nat.lt_irrefl _ (hr.keep.Fl _ hF), World.iter_heap _ _ _⟩
  unfold Oper.wp
  have hex : (execOp a.eval o).run P w = .ok (.value (.pointer (some ⟨w.heap.size, 0, none⟩))) (w.iter ⟨l.toArray⟩ 0) := by
    simp only [execOp, ho, hvx]
    simp [run_range_string w t ⟨l.toArray⟩ hu1]
  rw [hex]
  rw [← hq] at h
  refine ⟨_, _, _, h, hr'.put ?_ o.dst⟩
  have := DR.ptr (F := F) (w := w.iter ⟨l.toArray⟩ 0) (M := upM M q ⟨w.heap.size, 0, []⟩) (s := sg ((q, .iter l 0) :: st.hp)) q 0 (by rw [sg_change hget]; simp [AO.sg])
  rwa [hMq] at this

/-- The next sign of a string of plain ones. -/
theorem Af_next {it : Operand} {id : Nat} {l : List UInt8} {pos : Nat} (ho : o.op = .next it true) (hx : ev st it = .ptr id 0) (hg : get st.hp id = some (.iter l pos)) (ha : ∀ b ∈ l, b.toNat < 128)
    (h1 : ∀ (hlt : pos < l.length), O P true ops rest k (({ st with hp := setL st.hp id (.iter l (pos + 1)) } : St).put o.dst (.tup [.p (.bool true), .p (.int .i64 pos), .p (.int .i32 (l[pos]).toNat)])))
    (h2 : ¬ pos < l.length → O P true ops rest k (st.put o.dst (.tup [.p (.bool false)]))) : Af P true ops rest k o st .fail := by
  refine Af_sem fun c a w F M Q hr => ?_
  have hv := ev_sound hr it
  rw [hx] at hv
  generalize hvx : a.eval it = v at hv
  cases hv with
  | ptr _ _ hs =>
    obtain ⟨hnF, hblk⟩ := hr.heap.obj id _ hg
    unfold Oper.wp
    by_cases hlt : pos < l.length
    · have hlt' : pos < (⟨l.toArray⟩ : ByteArray).size := by rw [size_str]; exact hlt
      have hb : ((⟨l.toArray⟩ : ByteArray)[pos]'hlt') = l[pos] := by simp [ByteArray.getElem_eq_getElem_data]
      have hrun := Go.Lib.run_next_ascii_at (P := P) w (M id).blk ⟨l.toArray⟩ pos o.type hblk hlt' (by rw [hb]; exact ha _ (List.getElem_mem hlt))
      have hex : (execOp a.eval o).run P w = .ok (.value (.tuple #[.bool true, .int .i64 pos, .int .i32 (l[pos]).toNat])) (w.iterAt (M id).blk ⟨l.toArray⟩ (pos + 1)) := by
        simp only [execOp, ho, hvx]
        simp [hrun, hb]
      rw [hex]
      have hlt2 : (M id).blk < w.heap.size := (Array.getElem?_eq_some_iff.1 hblk).1
      have hget : ∀ j, get (setL st.hp id (.iter l (pos + 1))) j = if j = id then some (.iter l (pos + 1)) else get st.hp j := get_setL _ _ _
      have hsg := sgKeep_same hget hg rfl
      have hr' : Rel c { st with hp := setL st.hp id (.iter l (pos + 1)) } a (w.iterAt (M id).blk ⟨l.toArray⟩ (pos + 1)) F M := by
        refine hr.change (M' := M) hget (fun _ _ => rfl) (by rw [hsg]; exact SgKeep.refl _ _) rfl rfl rfl (by simp [World.iterAt]) (fun b hb hne => ?_) ⟨hnF, Go.Lib.iterAt_heap w _ _ _ _ hblk⟩ (fun b hb => .inl ⟨_, hg, hb⟩)
        have : b ≠ (M id).blk := hne _ hg
        simp [World.iterAt, Array.getElem?_setIfInBounds, Ne.symm this]
      refine ⟨_, _, _, h1 hlt, hr'.put ?_ o.dst⟩
      refine .tup _ _ rfl fun i d hd => ?_
      match i, hd with
      | 0, hd => simp only [List.getElem?_cons_zero, Option.some.injEq] at hd; subst hd; exact .p (.bool true)
      | 1, hd => simp only [List.getElem?_cons_succ, List.getElem?_cons_zero, Option.some.injEq] at hd; subst hd; exact .p (.int _ _)
      | 2, hd => simp only [List.getElem?_cons_succ, List.getElem?_cons_zero, Option.some.injEq] at hd; subst hd; exact .p (.int _ _)
      | i + 3, hd => simp at hd
    · have hrun := Go.Lib.run_next_end_at (P := P) w (M id).blk ⟨l.toArray⟩ pos o.type hblk (by rw [size_str]; exact hlt)
      have hex : (execOp a.eval o).run P w = .ok (.value (.tuple #[.bool false])) w := by
        simp only [execOp, ho, hvx]
        simp [hrun]
      rw [hex]
      refine ⟨_, _, _, h2 hlt, hr.put ?_ o.dst⟩
      refine .tup _ _ rfl fun i d hd => ?_
      match i, hd with
      | 0, hd => simp only [List.getElem?_cons_zero, Option.some.injEq] at hd; subst hd; exact .p (.bool false)
      | i + 1, hd => simp at hd
end
end Go.Am

/- The abstract machine, thirty-fourth part: a variable that is never written again, and a slice of it. -/
namespace Go.Am
open Go

/-- A variable that is never written again: from here on pure data; no other value names it. -/
theorem Wk.seal {st : St} {t id : Nat} {ty : TypeId} {xs : List Pd} {env1 : List (Nat × D)} {hp1 : Hp} (ht : get st.env t = some (.ptr id 0)) (ho : get st.hp id = some (.box (xs.map .p) ty)) (h1 : get hp1 id = none) (hl : Le st ⟨env1, hp1, st.n⟩) :
    Wk st ⟨(t, .pe xs) :: env1, hp1, st.n⟩ := by
  intro c a w F M hr
  have hr1 := hr.forget hl
  obtain ⟨hnF, row, _, hrow, hsz, hcells⟩ := hr.heap.obj id _ ho
  have hown : Owned M st.hp (M id).blk := ⟨id, _, ho, rfl⟩
  have hLH : LeH st.hp hp1 := hl.2.2.1
  have hs := SgKeep.refl M (sg hp1)
  refine ⟨fun b => F b ∨ b = (M id).blk, M, ⟨fun q d hq => ?_, hr1.size, hr1.defers, ⟨fun j o hj => ?_, hr1.heap.inj⟩, ?_⟩⟩
  · rw [get_cons] at hq
    split at hq
    · rename_i e
      subst e
      cases hq
      have hv := hr.env _ _ ht
      generalize a.tmps.getD t undef = v at hv
      cases hv with
      | ptr _ _ _ =>
        refine .pe xs (M id).blk 0 row _ (0, 0) (.inr rfl) hrow (fun j x hx => ?_) (fun j x hx => ?_)
        · have := (List.getElem?_eq_some_iff.1 hx).1
          simp at hsz; omega
        · have := (hcells.1 j (.p x) (by simp [hx])).1
          rw [Nat.zero_add]
          cases this with | p hp => exact hp.keep (fun _ _ => rfl) (fun _ h => .inl h)
    · exact (hr1.env q d hq).keep (fun _ _ => rfl) (fun _ h => .inl h) hs
  · refine (hr1.heap.obj j o hj).keep (fun _ _ => rfl) (fun _ h => .inl h) hs fun b ho2 => ⟨rfl, ?_⟩
    rintro (h | h)
    · exact hr1.heap.notF ⟨j, o, hj, ho2⟩ h
    · have := hr.heap.inj j o id _ b (hLH.spec j o hj) ho ho2 h
      subst this
      simp only at hj
      rw [h1] at hj
      cases hj
  · have hk := hr1.keep
    refine ⟨hk.os, hk.tape, hk.output, hk.size, hk.old, fun b hb => .inl (hk.F0 b hb), fun b hb => ?_, fun b hb => ?_, hk.own, hk.sgk, hk.s0b⟩
    · rcases hb with hb | rfl
      · exact hk.Fn b hb
      · exact .inr (hr.keep.own _ hown)
    · rcases hb with hb | rfl
      · exact hk.Fl b hb
      · exact (Array.getElem?_eq_some_iff.1 hrow).1

section
variable {P : Program} {ops rest : List Oper} {k : Kt} {st : St} {o : Oper}

/-- A slice of an array that is never written again. -/
theorem Af_sliceArr {t e : TypeId} {x lo : Operand} {z0 : D} {n0 n1 n : Nat} {ti : TI} {xs : List Pd} {kd : IntKind} {L : Nat} (ho : o.op = .slice t x (some lo) none none) (ht : tiOf P t = some ⟨n0, n1, .array n e, z0⟩) (he : tiOf P e = some ti)
    (hx : ev st x = .pe xs) (hlo : ev st lo = .p (.int kd (L : Nat))) (hL : L < n) (hxs : xs.length = n * ti.size) (hsz : 0 < ti.size)
    (h : O P true ops rest k (st.put o.dst (.p (.sl ((chunk ti.size n xs).drop L))))) : Af P true ops rest k o st .fail := by
  refine Af_sem fun c a w F M Q hr => ?_
  obtain ⟨_, u1, _, _, hu1, _, e1⟩ := tiOf_some ht
  simp only [TI.mk.injEq] at e1
  obtain rfl := TK.of_array e1.2.2.1.symm
  obtain ⟨i2, u2, z2, hi2, hu2, _, rfl⟩ := tiOf_some he
  simp only at hxs hsz h
  have hv := ev_sound hr x
  rw [hx] at hv
  generalize hvx : a.eval x = v at hv
  have hvl := ev_sound hr lo
  rw [hlo] at hvl
  generalize hvlo : a.eval lo = vl at hvl
  cases hvl with | p hvl => cases hvl with | int =>
  cases hv with
  | pe _ b off row ty fr hF hh hi hp =>
    unfold Oper.wp
    have hex : (execOp a.eval o).run P w = .ok (.value (.slice (some ⟨b, off + L * i2.size, none⟩) (n - L) (n - L))) w := by
      have hne : ¬ n = L := by omega
      simp only [execOp, ho, hvx, hvlo, Option.map_some, Option.map_none]
      simp [Instr.sliceAt, Instr.sureAddr, Instr.sliceBounds, Instr.sliceBound, asIntOf, run_underlying hu1, run_sizeOf' hi2, hne, Addr.add_lit]
      omega
    rw [hex]
    refine ⟨_, _, _, h, hr.put ?_ o.dst⟩
    have hlen : ((chunk i2.size n xs).drop L).length = n - L := by rw [List.length_drop, chunk_length]
    have hget : ∀ (i : Nat) y, ((chunk i2.size n xs).drop L)[i]? = some y → L + i < n ∧ y = (xs.drop ((L + i) * i2.size)).take i2.size := by
      intro i y hy
      rw [List.getElem?_drop, chunk_get] at hy
      split at hy
      · rename_i hlt; cases hy; exact ⟨hlt, rfl⟩
      · cases hy
    have hcell : ∀ (i : Nat) y (j : Nat) q, ((chunk i2.size n xs).drop L)[i]? = some y → y[j]? = some q → xs[(L + i) * i2.size + j]? = some q := by
      intro i y j q hy hq
      obtain ⟨_, rfl⟩ := hget i y hy
      rw [List.getElem?_take] at hq
      split at hq
      · rw [List.getElem?_drop] at hq; exact hq
      · cases hq
    have hadd : ∀ i j, off + L * i2.size + i * i2.size + j = off + ((L + i) * i2.size + j) := fun i j => by rw [Nat.add_mul]; omega
    rw [← hlen]
    refine .p (.sl _ b (off + L * i2.size) _ i2.size row ty fr hF hh (Nat.le_refl _) (fun i y hy => ?_) (fun i y j q hy hq => ?_) (fun i y j q hy hq => ?_))
    · obtain ⟨hlt, rfl⟩ := hget i y hy
      rw [List.length_take, List.length_drop, hxs]
      have : (L + i + 1) * i2.size ≤ n * i2.size := Nat.mul_le_mul_right _ hlt
      rw [Nat.add_mul] at this
      omega
    · rw [hadd]; exact hi _ _ (hcell i y j q hy hq)
    · rw [hadd]; exact hp _ _ (hcell i y j q hy hq)
end
end Go.Am

/- The abstract machine, thirty-fifth part: nil slices in boxes taken for arrays of the call's own. -/
namespace Go.Am
open Go

/-- A nil slice in a variable's cell, taken for an array of the call's own. -/
theorem Wk.nilBox {st : St} {id j q sz : Nat} {cs : List D} {ty : TypeId} (e : TypeId) (hb : get st.hp id = some (.box cs ty)) (hj : cs[j]? = some (.cl [])) (hq : get st.hp q = none) (hs : 0 < sz) :
    Wk st ⟨st.env, (q, .arr e sz []) :: setL st.hp id (.box (cs.set j (.ref q 0 0 0)) ty), st.n⟩ := by
  intro c a w F M hr
  obtain ⟨hr1, h1⟩ := hr.newEmpty (e := e) hq hs
  have hne : id ≠ q := fun h => by subst h; rw [hq] at hb; cases hb
  have hb1 : get ((q, AO.arr e sz []) :: st.hp) id = some (.box cs ty) := by rw [get_cons, if_neg (Ne.symm hne)]; exact hb
  have hget : ∀ i, get ((q, AO.arr e sz []) :: setL st.hp id (.box (cs.set j (.ref q 0 0 0)) ty)) i = if i = id then some (.box (cs.set j (.ref q 0 0 0)) ty) else get ((q, AO.arr e sz []) :: st.hp) i := by
    intro i
    simp only [get_cons, get_setL]
    by_cases e1 : i = id
    · subst e1; simp [Ne.symm hne]
    · by_cases e2 : q = i
      · subst e2; simp [e1]
      · simp [e1, e2]
  have hsg := sgKeep_same hget hb1 rfl
  have hobj := hr1.heap.obj id _ hb1
  obtain ⟨hnF, row, t, hrow, hsz, hcells⟩ := hobj
  refine ⟨F, upM M q ⟨0, 0, []⟩, ?_⟩
  refine hr1.change (st := ⟨st.env, (q, AO.arr e sz []) :: st.hp, st.n⟩) hget (fun _ _ => rfl) (by rw [hsg]; exact SgKeep.refl _ _) rfl rfl rfl (Nat.le_refl _) (fun _ _ _ => rfl) ?_ (fun b hb => .inl ⟨_, hb1, hb⟩)
  refine ⟨hnF, row, t, hrow, by simpa using hsz, fun i d hd => ?_, fun h5 h6 i hi => ?_⟩
  rotate_left
  · refine hcells.2 h5 ?_ i ?_
    · obtain ⟨x, hx, hn⟩ := List.any_eq_true.1 h6
      rcases List.mem_or_eq_of_mem_set hx with h7 | rfl
      · exact List.any_eq_true.2 ⟨x, h7, hn⟩
      · cases hn
    · by_cases e1 : i = j
      · subst e1
        rw [List.getElem?_set_self (List.getElem?_eq_some_iff.1 hj).1] at hi
        cases hi
      · rwa [List.getElem?_set_ne (Ne.symm e1)] at hi
  rw [hsg]
  by_cases e1 : i = j
  · subst e1
    have hlt := (List.getElem?_eq_some_iff.1 hj).1
    rw [List.getElem?_set_self hlt] at hd
    cases hd
    have h2 := hcells.1 i _ hj
    refine ⟨?_, h2.2⟩
    have h3 := h2.1
    generalize row.getD i undef = v at h3
    cases h3 with | cl _ ad _ => exact h1 ad
  · rw [List.getElem?_set_ne (Ne.symm e1)] at hd
    exact hcells.1 i d hd

/-- A slice of the call's own, taken for pure data from here on. -/
theorem Wk.pure {st : St} {t id sz : Nat} {e : TypeId} {es : List (List Pd)} (ht : get st.env t = some (.ref id 0 es.length es.length)) (ho : get st.hp id = some (.arr e sz es)) :
    Wk st ⟨(t, .p (.sl es)) :: st.env, setL st.hp id (.fro sz es), st.n⟩ := by
  intro c a w F M hr
  have hd := hr.env _ _ ht
  obtain ⟨x, h', F', ⟨rfl, rfl⟩, hr', hF, hs, hp⟩ := purD_sound hr hd (k := fun x h' => x = .sl es ∧ h' = setL st.hp id (.fro sz es)) (by simp [purD, ho, froze])
  refine ⟨F', M, ⟨fun j d hj => ?_, hr'.size, hr'.defers, hr'.heap, hr'.keep⟩⟩
  rw [get_cons] at hj
  split at hj
  · rename_i e1
    subst e1
    cases hj
    exact .p hp
  · exact hr'.env j d hj

theorem decB_encB (l : List UInt8) : decB (encB l) = some l := by
  induction l with
  | nil => rfl
  | cons b r ih =>
    simp only [encB] at ih
    simp [encB, decB, ih]
attribute [go_sem] decB_encB decB
theorem renL_mapp (ρ : Nat → Option Nat) (xs : List Pd) : renL ρ (xs.map D.p) = xs.map D.p := by
  induction xs with
  | nil => rfl
  | cons x r ih => simp [renL, D.ren, ih]
theorem mapp_one (xs : List Pd) : (xs.map D.p).all D.one = true := by
  induction xs with
  | nil => rfl
  | cons x r ih => simp [D.one]
theorem idsL_mapp (xs : List Pd) : idsL (xs.map D.p) = [] := by
  induction xs with
  | nil => rfl
  | cons x r ih => simp [idsL, D.ids, ih]
/-- A region that draws its order, over the heap as it is. -/
theorem X_any0 {P : Program} {l : List Oper} {id : Nat} {p : List (Nat × Nat)} {k : Kt} {st : St} (hm : P.follows .mixedOrders = true) (hB : planB l p = true) (hle : LeH st.hp st.hp) (h : G P l st.hp p k st) :
    X P (.region id l.toArray true) k st := X_any st.hp hm hB hle h
attribute [go_sem] renL_mapp mapp_one idsL_mapp List.length_map
end Go.Am

/- The abstract machine, thirty-seventh part: scopes with labels. -/
namespace Go.Am
open Go

/-- Where a goto leads, with fuel. -/
def jmp (P : Program) (c : Code) (Q : Exit → Act → World → Prop) : Nat → Exit → Act → World → Prop
  | 0, .goto _, _, _ => False
  | n + 1, .goto l, a, w => ∃ rest, findLabel c l = some rest ∧ rest.wp P (jmp P c Q n) a w
  | _, .normal, a, w => Q .normal a w
  | _, .exit id, a, w => Q (.exit id) a w
  | _, .ret, a, w => Q .ret a w
  | _, .panic ch, a, w => Q (.panic ch) a w
  | _, .outgrown, a, w => Q .outgrown a w

theorem wp_scope_jmp {P : Program} {a : Act} {w : World} {Q : Exit → Act → World → Prop} {c : Code} (n : Nat) (first : c.wp P (jmp P c Q n) a w) : (Code.scope c).wp P Q a w := by
  intro b k cs
  have key : ∀ n (c1 : Code) a w, c1.wp P (jmp P c Q n) a w → ∃ e a' w', Q e a' w' ∧ Arrives P (lone (b.at a (.code c1 :: .inScope c :: k)) cs w) b k cs e a' w' := by
    intro n
    induction n with
    | zero =>
      intro c1 a w h
      obtain ⟨e, a₁, w₁, hq, harr⟩ := h b (.inScope c :: k) cs
      cases e with
      | normal => exact ⟨.normal, a₁, w₁, hq, Steps.trans harr (.one step_inScope)⟩
      | exit id => exact ⟨.exit id, a₁, w₁, hq, fun k' hk => harr k' (by simp [exitTo, hk])⟩
      | goto l' => exact hq.elim
      | ret => exact ⟨_, a₁, w₁, hq, harr⟩
      | panic ch => exact ⟨_, a₁, w₁, hq, harr⟩
      | outgrown => exact ⟨_, a₁, w₁, hq, harr⟩
    | succ n ih =>
      intro c1 a w h
      obtain ⟨e, a₁, w₁, hq, harr⟩ := h b (.inScope c :: k) cs
      cases e with
      | normal => exact ⟨.normal, a₁, w₁, hq, Steps.trans harr (.one step_inScope)⟩
      | exit id => exact ⟨.exit id, a₁, w₁, hq, fun k' hk => harr k' (by simp [exitTo, hk])⟩
      | goto l' =>
        obtain ⟨rest, hf, hx⟩ := hq
        have hg : gotoIn l' (.inScope c :: k) = some (.code rest :: .inScope c :: k) := by simp [gotoIn, hf]
        obtain ⟨e₂, a₂, w₂, hq₂, harr₂⟩ := ih rest a₁ w₁ hx
        exact ⟨e₂, a₂, w₂, hq₂, .of_steps (harr _ hg) harr₂⟩
      | ret => exact ⟨_, a₁, w₁, hq, harr⟩
      | panic ch => exact ⟨_, a₁, w₁, hq, harr⟩
      | outgrown => exact ⟨_, a₁, w₁, hq, harr⟩
  obtain ⟨e, a', w', hq, harr⟩ := key n c a w first
  exact ⟨e, a', w', hq, .of_steps (.one step_scope) harr⟩

/-- What stands behind the code of a scope: its own labels, with fuel; else the rest. -/
def scQ (P : Program) (x : Code) (k : Kt) : Nat → Exit → St → Prop
  | 0, .goto _, _ => False
  | n + 1, .goto l, st => ∃ st1 rest, Wk st st1 ∧ findLabel x l = some rest ∧ wA P rest (scQ P x k n) st1
  | _, .normal, st => J P k .normal st
  | _, .exit id, st => J P k (.exit id) st
  | _, .ret, st => J P k .ret st
  | _, .panic ch, st => J P k (.panic ch) st
  | _, .outgrown, st => J P k .outgrown st
/-- A jump. -/
def Jm (P : Program) (x : Code) (k : Kt) (n l : Nat) (st : St) : Prop := scQ P x k n (.goto l) st

section
variable {P : Program} {st : St} {x : Code} {k : Kt}
theorem scQ_jmp {c : Ctx} : ∀ (n : Nat) (e : Exit) (a : Act) (w : World), QC c (scQ P x k n) e a w → jmp P x (QC c (k.sem P)) n e a w
  | 0, .goto _, _, _, ⟨_, _, _, h, _⟩ => h.elim
  | n + 1, .goto l, a, w, ⟨st, F, M, ⟨st1, rest, hw, hf, hx⟩, hr⟩ => by
    obtain ⟨F1, M1, hr1⟩ := hw c a w F M hr
    exact ⟨rest, hf, Code.wp_mono (scQ_jmp n) (wA_sound rest hr1 hx)⟩
  | 0, .normal, _, _, h => h
  | 0, .exit _, _, _, h => h
  | 0, .ret, _, _, h => h
  | 0, .panic _, _, _, h => h
  | 0, .outgrown, _, _, h => h
  | _ + 1, .normal, _, _, h => h
  | _ + 1, .exit _, _, _, h => h
  | _ + 1, .ret, _, _, h => h
  | _ + 1, .panic _, _, _, h => h
  | _ + 1, .outgrown, _, _, h => h
theorem X_scope (n : Nat) (h : X P x (.user (scQ P x k n)) st) : X P (.scope x) k st :=
  fun c a w F M hr => wp_scope_jmp n (Code.wp_mono (scQ_jmp n) (wA_sound x hr h))

theorem J_sc_goto (n l : Nat) : J P (.user (scQ P x k n)) (.goto l) st = Jm P x k n l st := nd rfl
theorem J_sc_normal (n : Nat) : J P (.user (scQ P x k n)) .normal st = J P k .normal st := by cases n <;> rfl
theorem J_sc_ret (n : Nat) : J P (.user (scQ P x k n)) .ret st = J P k .ret st := by cases n <;> rfl
theorem J_sc_exit (n i : Nat) : J P (.user (scQ P x k n)) (.exit i) st = J P k (.exit i) st := by cases n <;> rfl

/-- A SCOPE, by an invariant at its labels and a measure: 'none' is its beginning. -/
theorem X_scope_inv {β : Type} (lab : β → Nat) (S : β → St) (I : β → Prop) (μ : β → Nat) (N : Nat)
    (h0 : ∀ n, (∀ b' st', I b' → μ b' < N → Wk st' (S b') → Jm P x k n (lab b') st') → X P x (.user (scQ P x k n)) st)
    (hs : ∀ b n, I b → (∀ b' st', I b' → μ b' < μ b → Wk st' (S b') → Jm P x k n (lab b') st') → ∃ rest, findLabel x (lab b) = some rest ∧ X P rest (.user (scQ P x k n)) (S b)) : X P (.scope x) k st := by
  have key : ∀ n b st', I b → μ b < n → Wk st' (S b) → Jm P x k n (lab b) st' := by
    intro n
    induction n with
    | zero => intro b _ _ h; exact (Nat.not_lt_zero _ h).elim
    | succ n ih =>
      intro b st' hb hm hw
      obtain ⟨rest, hf, hx⟩ := hs b n hb fun b' st'' hb' hlt hwk => ih b' st'' hb' (by omega) hwk
      exact ⟨S b, rest, hw, hf, hx⟩
  exact X_scope N (h0 N fun b' st' hb' hlt hw => key N b' st' hb' hlt hw)
end
attribute [go_sem] J_sc_goto J_sc_normal J_sc_ret J_sc_exit
end Go.Am

/- The abstract machine, thirty-eighth part: bytes of the call's own as a string. -/
namespace Go.Am
open Go

section
variable {P : Program} {ops rest : List Oper} {k : Kt} {st : St} {o : Oper}
/-- A string out of bytes. -/
theorem Af_str {s d e : TypeId} {x : Operand} {z0 z1 z2 : D} {n0 n1 n2 n3 b2 : Nat} {l : List UInt8} {id : Nat} {t : TypeId} (ho : o.op = .convert s d x) (hs : tiOf P s = some ⟨n0, n1, .slice e, z0⟩) (hd : tiOf P d = some ⟨n2, n3, .string, z1⟩) (he : tiOf P e = some ⟨1, b2, .int .u8, z2⟩)
    (hx : ev st x = .ref id 0 l.length l.length) (hg : get st.hp id = some (.arr t 1 (encB l))) (h : O P true ops rest k (st.put o.dst (.p (.str l)))) : Af P true ops rest k o st .fail := by
  refine Af_sem fun c a w F M Q hr => ?_
  obtain ⟨_, u1, _, _, hu1, _, e1⟩ := tiOf_some hs
  obtain ⟨_, u2, _, _, hu2, _, e2⟩ := tiOf_some hd
  obtain ⟨_, u3, _, _, hu3, _, e3⟩ := tiOf_some he
  simp only [TI.mk.injEq] at e1 e2 e3
  obtain rfl := TK.of_slice e1.2.2.1.symm
  obtain rfl := TK.of_string e2.2.2.1.symm
  obtain rfl := TK.of_int e3.2.2.1.symm
  have hv := ev_sound hr x
  rw [hx] at hv
  generalize hvx : a.eval x = v at hv
  have hlen : (encB l).length = l.length := by simp [encB]
  have hrun : (convert s d v).run P w = .ok (.string ⟨l.toArray⟩) w := by
    cases hv with
    | ref _ _ _ _ sz n _ hsg hN hv2 hok =>
      have hsn : sg st.hp id = some (.arr 1 l.length) := by simp [sg, hg, AO.sg, hlen]
      rw [hsn] at hsg
      simp only [Option.some.injEq, Sg.arr.injEq] at hsg
      obtain ⟨rfl, rfl⟩ := hsg
      obtain ⟨ad, cap, rfl, h1, h2, h3, h4⟩ := hok rfl
      obtain ⟨h5, h6, h7, h8, h9⟩ := hr.heap.obj id _ hg
      by_cases hc : cap = 0
      · have hl0 : l = [] := List.eq_nil_of_length_eq_zero (by omega)
        subst hl0
        cases ad with
        | none =>
          rw [run_convert_bytes_string w s d e none _ cap hu1 hu3 hu2]
          simp [Conv.bytesToString]
          rfl
        | some ad => exact run_convert_bytes_back w s d e ad cap [] hu1 hu3 hu2 (fun j hj => by simp at hj)
      · obtain rfl := h4.resolve_left hc
        obtain ⟨_, row, hrow, hsz, hcells⟩ := h9 (by omega)
        refine run_convert_bytes_back w s d e _ cap l hu1 hu3 hu2 fun j hj => ?_
        have hp := hcells j [.int .u8 (l[j]).toNat] 0 (.int .u8 (l[j]).toNat) (by simp [encB, hj]) rfl
        have hlt : j < row.size := by omega
        have hcell : w.cell? ((⟨(M id).blk, 0 * 1, none⟩ : Addr).add j) = row[j]? := by
          rw [Addr.add_lit]; simp [World.cell?, hrow]
        rw [hcell]
        simp only [Nat.mul_one, Nat.add_zero] at hp
        rw [Array.getD_eq_getD_getElem?, Array.getElem?_eq_getElem hlt] at hp
        rw [Array.getElem?_eq_getElem hlt]
        simp only [Option.getD_some] at hp
        generalize row[j] = y at hp
        cases hp
        rfl
  unfold Oper.wp
  have hex : (execOp a.eval o).run P w = .ok (.value (.string ⟨l.toArray⟩)) w := by
    simp only [execOp, ho, hvx]
    simp [hrun]
  rw [hex]
  exact ⟨_, _, _, h, hr.put (.p (.str l)) o.dst⟩
end
end Go.Am

/- The abstract machine, thirty-ninth part: contracts beside what is known of package-level variables. -/
namespace Go.Am
open Go

theorem get_app (h e : Hp) (j : Nat) : get (h ++ e) j = match get h j with | some o => some o | none => get e j := by
  induction h with
  | nil => rfl
  | cons x r ih =>
    obtain ⟨k, o⟩ := x
    simp only [List.cons_append, get_cons]
    split
    · rfl
    · exact ih

/-- A contract, beside what is known of a variable. -/
theorem ACalls.glob {P : Program} {f : FuncId} {args : List D} {h : Hp} {R : Hp → D → Prop} {id g : Nat} {cs : List Pd} (hc : ACalls P f args h R) (hid : base ≤ id) (hn : get h id = none)
    (hids : ((idsL args ++ hpIds h).all fun i => (get h i).isSome) = true) (hRn : ∀ h1 r, R h1 r → get h1 id = none) :
    ACalls P f args (h ++ [(id, .glob g cs)]) fun h' r => ∃ h1, R h1 r ∧ h' = h1 ++ [(id, .glob g cs)] := by
  intro vs w F M hHR hFl hsb hd
  have hget : ∀ j o, get h j = some o → get (h ++ [(id, AO.glob g cs)]) j = some o := fun j o ho => by rw [get_app, ho]
  have hgl : get (h ++ [(id, AO.glob g cs)]) id = some (.glob g cs) := by rw [get_app, hn]; simp [get_cons]
  have hpres : ∀ i, i ∈ idsL args ++ hpIds h → ∃ o, get h i = some o := fun i hi => Option.isSome_iff_exists.1 (List.all_eq_true.1 hids i hi)
  let ρ : Nat → Option Nat := fun i => if (get h i).isSome then some i else none
  have hρ : ∀ i j, ρ i = some j → sg (h ++ [(id, AO.glob g cs)]) i ≠ none → M j = M i ∧ sg h j = sg (h ++ [(id, AO.glob g cs)]) i := by
    intro i j hj _
    simp only [ρ] at hj
    split at hj
    · rename_i hs
      simp only [Option.some.injEq] at hj
      subst hj
      obtain ⟨o, ho⟩ := Option.isSome_iff_exists.1 hs
      exact ⟨rfl, by simp [sg, ho, hget _ _ ho]⟩
    · cases hj
  have hid' : ∀ i, (∃ o, get h i = some o) → ρ i = some i := fun i ⟨o, ho⟩ => by simp [ρ, ho]
  have hHR1 : HR F w M h := by
    constructor
    · intro i o ho
      have := (hHR.obj i o (hget i o ho)).ren (M' := M) hρ
      rwa [AO.ren_id (fun j hj => hid' j (hpres j (List.mem_append_right _ (hpIds_mem ho hj))))] at this
    · intro i o i' o' b ho ho' hown hown'
      exact hHR.inj i o i' o' b (hget _ _ ho) (hget _ _ ho') hown hown'
  have hd1 : DRl F w M (sg h) args vs.toList := by
    refine ⟨hd.1, fun i d hi => ?_⟩
    have := (hd.2 i d hi).ren (M' := M) hρ
    rwa [ren_id (fun j hj => hid' j (hpres j (List.mem_append_left _ ?_)))] at this
    clear this
    have hmem : ∀ (l : List D) (i : Nat), l[i]? = some d → j ∈ idsL l := by
      intro l
      induction l with
      | nil => intro i hi; simp at hi
      | cons x r ih =>
        intro i hi
        simp only [idsL, List.mem_append]
        cases i with
        | zero => simp only [List.getElem?_cons_zero, Option.some.injEq] at hi; subst hi; exact .inl hj
        | succ i => exact .inr (ih i (by simpa using hi))
    exact hmem args i hi
  have hownA : ∀ b, Owned M (h ++ [(id, AO.glob g cs)]) b ↔ Owned M h b := by
    intro b
    constructor
    · rintro ⟨i, o, ho, hown⟩
      rw [get_app] at ho
      cases hg : get h i with
      | some o2 => rw [hg] at ho; cases ho; exact ⟨i, _, hg, hown⟩
      | none =>
        rw [hg] at ho
        simp only [get_cons] at ho
        split at ho
        · cases ho; exact hown.elim
        · simp [get] at ho
    · rintro ⟨i, o, ho, hown⟩
      exact ⟨i, o, hget _ _ ho, hown⟩
  refine (hc vs w F M hHR1 hFl (fun i hi => hsb i (by
    unfold sg at hi ⊢
    cases hg : get h i with
    | none => rw [hg] at hi; exact (hi rfl).elim
    | some o => rw [hget _ _ hg]; simp)) hd1).mono ?_
  rintro e w' ⟨v, h1, r, F', M', rfl, hR, hHR', hDR', hK⟩
  have hn1 := hRn h1 r hR
  have hkeepF : ∀ b, F b → w'.heap[b]? = w.heap[b]? := fun b hb => hK.old b (hFl b hb) (fun ho => hHR1.notF ho hb)
  let M2 : Nat → Mb := fun i => if i = id then M id else M' i
  have hM2 : ∀ i, i ≠ id → M2 i = M' i := fun i hi => by simp [M2, hi]
  have hne : ∀ i o, get h1 i = some o → i ≠ id := fun i o ho e => by subst e; rw [hn1] at ho; cases ho
  have hget1 : ∀ j o, get h1 j = some o → get (h1 ++ [(id, AO.glob g cs)]) j = some o := fun j o ho => by rw [get_app, ho]
  have hgl1 : get (h1 ++ [(id, AO.glob g cs)]) id = some (.glob g cs) := by rw [get_app, hn1]; simp [get_cons]
  have hinv1 : ∀ j o, get (h1 ++ [(id, AO.glob g cs)]) j = some o → get h1 j = some o ∨ (j = id ∧ o = .glob g cs) := by
    intro j o ho
    rw [get_app] at ho
    cases hg : get h1 j with
    | some o2 => rw [hg] at ho; exact .inl ho
    | none =>
      rw [hg] at ho
      simp only [get_cons] at ho
      split at ho
      · rename_i e; cases ho; exact .inr ⟨e.symm, rfl⟩
      · simp [get] at ho
  have hsg1 : ∀ i s, sg h1 i = some s → sg (h1 ++ [(id, AO.glob g cs)]) i = some s ∧ M2 i = M' i := by
    intro i s hs
    unfold sg at hs ⊢
    cases hg : get h1 i with
    | none => rw [hg] at hs; cases hs
    | some o => rw [hg] at hs; rw [hget1 _ _ hg]; exact ⟨hs, hM2 i (hne i o hg)⟩
  have hsk1 : SgKeep M' M2 (sg h1) (sg (h1 ++ [(id, AO.glob g cs)])) :=
    ⟨fun i hi => ⟨(hsg1 i _ hi).1, by rw [(hsg1 i _ hi).2]⟩, fun i sz n hi => ⟨n, (hsg1 i _ hi).1, Nat.le_refl _, fun _ => (hsg1 i _ hi).2⟩⟩
  refine ⟨v, h1 ++ [(id, .glob g cs)], r, F', M2, rfl, ⟨h1, hR, rfl⟩, ⟨fun j o ho => ?_, fun i o i' o' b ho ho' hown hown' => ?_⟩, hDR'.keep (fun _ _ => rfl) (fun _ h => h) hsk1, ?_⟩
  · rcases hinv1 j o ho with h2 | ⟨rfl, rfl⟩
    · have h3 := hHR'.obj j o h2
      rw [hM2 j (hne j o h2)]
      exact h3.keep (fun _ _ => rfl) (fun _ h => h) hsk1 (fun b hown => ⟨rfl, hHR'.notF ⟨j, o, h2, hown⟩⟩)
    · obtain ⟨h4, row, t, fr, h5, h7, h6⟩ := hHR.obj j _ hgl
      exact ⟨hK.F0 _ h4, row, t, fr, by rw [hkeepF _ h4]; exact h5, h7, fun q c hq => (h6 q c hq).keep hkeepF hK.F0⟩
  · rcases hinv1 i o ho with h2 | ⟨rfl, rfl⟩
    · rcases hinv1 i' o' ho' with h3 | ⟨rfl, rfl⟩
      · rw [hM2 i (hne i o h2)] at hown
        rw [hM2 i' (hne i' o' h3)] at hown'
        exact hHR'.inj i o i' o' b h2 h3 hown hown'
      · exact hown'.elim
    · exact hown.elim
  · refine ⟨hK.os, hK.tape, hK.output, hK.size, fun b hb hO => hK.old b hb (fun h2 => hO ((hownA b).2 h2)), hK.F0, fun b hb => ?_, hK.Fl, ?_, ?_, hsb⟩
    · rcases hK.Fn b hb with h2 | h2 | h2
      · exact .inl h2
      · exact .inr (.inl ((hownA b).2 h2))
      · exact .inr (.inr h2)
    · rintro b ⟨i, o, ho, hown⟩
      rcases hinv1 i o ho with h2 | ⟨rfl, rfl⟩
      · rw [hM2 i (hne i o h2)] at hown
        rcases hK.own _ ⟨i, o, h2, hown⟩ with h3 | h3
        · exact .inl ((hownA _).2 h3)
        · exact .inr h3
      · exact hown.elim
    · have hsk := hK.sgk
      refine ⟨fun i hi => ?_, fun i sz n hi => ?_⟩
      · by_cases e : i = id
        · subst e; exact ⟨by simp [sg, hgl1, AO.sg], by simp [M2]⟩
        · have hi2 : sg (h ++ [(id, AO.glob g cs)]) i = some .box := hi
          have hi' : sg h i = some .box := by
            clear hi
            unfold sg at hi2 ⊢
            rw [get_app] at hi2
            cases hg : get h i with
            | some o => rw [hg] at hi2; exact hi2
            | none => rw [hg] at hi2; simp [get_cons, get, Ne.symm e] at hi2
          obtain ⟨h2, h3⟩ := hsk.1 i hi'
          exact ⟨(hsg1 i _ h2).1, by rw [(hsg1 i _ h2).2]; exact h3⟩
      · have e : i ≠ id := by rintro rfl; simp [sg, hgl, AO.sg] at hi
        have hi2 : sg (h ++ [(id, AO.glob g cs)]) i = some (.arr sz n) := hi
        have hi' : sg h i = some (.arr sz n) := by
          clear hi
          unfold sg at hi2 ⊢
          rw [get_app] at hi2
          cases hg : get h i with
          | some o => rw [hg] at hi2; exact hi2
          | none => rw [hg] at hi2; simp [get_cons, get, Ne.symm e] at hi2
        obtain ⟨n', h2, h3, h4⟩ := hsk.2 i sz n hi'
        exact ⟨n', (hsg1 i _ h2).1, h3, fun e2 => by rw [(hsg1 i _ h2).2]; exact h4 e2⟩
end Go.Am

/- The abstract machine, fortieth part: what a listed table is as a ghost; strconv.Itoa; a law's statement out of a contract beside such a table. -/
namespace Go.Am
open Go Go.ChangeShapes Go.RowKit

section
variable {P : Program} {w : World} {F : Nat → Prop} {M : Nat → Mb} {s : Nat → Option Sg} {m : Mb}
def tabC (k : IntKind) (zs : List Int) : List Pd := zs.map fun z => .int k z

theorem tab_glob {name : String} {k : IntKind} {zs : List Int} {g : Nat} (hg : P.globalNamed name = some g) (hF : F g) (h : Lib.TabIs P w name k zs) : ObjR F w M s m (.glob g (tabC k zs)) := by
  unfold Lib.TabIs World.var? at h
  rw [hg] at h
  simp only [Option.bind_some] at h
  split at h
  · rename_i cs t fr hc
    cases h
    refine ⟨hF, _, t, fr, hc, by simp [tabC], fun j c hj => ?_⟩
    simp only [tabC, List.getElem?_map, Option.map_eq_some_iff] at hj
    obtain ⟨z, hz, rfl⟩ := hj
    rw [Array.getD_eq_getD_getElem?]
    simp only [List.getElem?_toArray, List.getElem?_map, hz, Option.map_some, Option.getD_some]
    exact .int k z
  · cases h

theorem glob_tab {name : String} {k : IntKind} {zs : List Int} {g : Nat} (hg : P.globalNamed name = some g) (h : ObjR F w M s m (.glob g (tabC k zs))) : Lib.TabIs P w name k zs := by
  obtain ⟨_, row, t, fr, h1, h2, h3⟩ := h
  unfold Lib.TabIs World.var?
  rw [hg]
  simp only [Option.bind_some, h1, Option.some.injEq]
  apply Array.ext_getElem?
  intro j
  by_cases hj : j < zs.length
  · have h4 := h3 j (.int k zs[j]) (by simp [tabC, hj])
    have hlt : j < row.size := by rw [h2]; simpa [tabC] using hj
    rw [Array.getD_eq_getD_getElem?, Array.getElem?_eq_getElem hlt] at h4
    rw [Array.getElem?_eq_getElem hlt]
    simp only [Option.getD_some] at h4
    simp only [List.getElem?_toArray, List.getElem?_map, List.getElem?_eq_getElem hj, Option.map_some]
    generalize row[j] = y at h4
    cases h4
    rfl
  · have hlt : ¬ j < row.size := by rw [h2]; simpa [tabC] using hj
    rw [Array.getElem?_eq_none (by omega)]
    simp only [List.getElem?_toArray, List.getElem?_map, List.getElem?_eq_none (Nat.le_of_not_lt hj), Option.map_none]

/-- A contract of the kit that reads a table and leaves only new blocks. -/
theorem ACalls_tab {name : String} {k : IntKind} {zs : List Int} {g f : Nat} {args : List D} {out : List UInt8} (hg : P.globalNamed name = some g) (hent : Enters P f)
    (hc : ∀ (vs : Array Value) w F M, DRl F w M (sg [(base, AO.glob g (tabC k zs))]) args vs.toList → Lib.TabIs P w name k zs → Calls P f vs w fun e w' => e = .returned (.string ⟨out.toArray⟩) ∧ ∃ n os, w' = Sort.grow (w.drewN n) os) :
    ACalls P f args [(base, .glob g (tabC k zs))] fun h r => h = [(base, .glob g (tabC k zs))] ∧ r = .p (.str out) := by
  intro vs w F M hHR hFl hsb hd
  have ho := hHR.obj base (.glob g (tabC k zs)) rfl
  refine .inl ⟨hent vs w, (hc vs w F M hd (glob_tab hg ho)).mono ?_⟩
  rintro e w' ⟨rfl, n, os, rfl⟩
  have hold : ∀ b, b < w.heap.size → (Sort.grow (w.drewN n) os).heap[b]? = w.heap[b]? := fun b hb => by
    simp [Sort.grow, World.drewN, Array.getElem?_append, hb]
  have hno : ∀ b, ¬ Owned M [(base, AO.glob g (tabC k zs))] b := by
    rintro b ⟨i, o, h1, h2⟩
    rw [get_cons] at h1
    split at h1
    · cases h1; exact h2
    · simp [get] at h1
  refine ⟨_, _, _, F, M, rfl, ⟨rfl, rfl⟩, hHR.keep (fun b hb => hold b (hFl b hb)) (fun b hb => (hno b hb).elim), .p (.str out), ⟨rfl, rfl, rfl, ?_, fun b hb _ => hold b hb, fun _ h => h, fun _ h => .inl h, ?_, fun b hb => (hno b hb).elim, SgKeep.refl _ _, hsb⟩⟩
  · simp [Sort.grow, World.drewN]
  · intro b hb
    have := hFl b hb
    simp [Sort.grow, World.drewN]
    omega

/-- strconv.Itoa, beside its table. -/
theorem ACalls_itoa {g f : Nat} (hg : P.globalNamed "internal/strconv.uint64pow10" = some g) (hent : Enters P f)
    (hc : ∀ (n : Int) (w : World), -9223372036854775808 ≤ n → n ≤ 9223372036854775807 → Lib.TabIs P w "internal/strconv.uint64pow10" .u64 Lib.pow10Tab →
      Calls P f #[.int .i64 n] w fun e w' => e = .returned (.string ⟨(Lib.itoa n).toArray⟩) ∧ ∃ k os, w' = Sort.grow (w.drewN k) os)
    (n : Int) (h0 : -9223372036854775808 ≤ n) (h1 : n ≤ 9223372036854775807) :
    ACalls P f [.p (.int .i64 n)] [(base, .glob g (tabC .u64 Lib.pow10Tab))] fun h r => h = [(base, .glob g (tabC .u64 Lib.pow10Tab))] ∧ r = .p (.str (Lib.itoa n)) := by
  refine ACalls_tab hg hent fun vs w F M hd ht => ?_
  have hl := hd.1
  have h2 := hd.2 0 _ rfl
  obtain ⟨v, rfl⟩ : ∃ v, vs = #[v] := by
    obtain ⟨l⟩ := vs
    match l, hl with
    | [v], _ => exact ⟨v, rfl⟩
  have e : v = .int .i64 n := by
    simp only [List.getD_cons_zero] at h2
    cases h2 with | p h => cases h; rfl
  subst e
  exact hc n w h0 h1 ht
end

section
variable {H : Type} {enc : TypeId × Value → H} {P : Program} {W : World}
/-- A LAW's CALL beside a listed table: its contract, over whatever arguments read so. -/
theorem law_callsG {bs : Nat} {f : FuncId} {fn : Func} {s : ChangeSpec} {args : Array Value} {ds gs : List (DataW H)} {before : List MemPlace} {tb : TypeId} {g : Nat} {cs : List Pd}
    (hval : ∀ (j : Nat) t v, fn.params[j]? = some t → args[j]? = some v → Value.okWide P W .any bs t v)
    (hW : DataW.Whole enc P fn.params.toList s.vars false W args.toList ds gs before) (hv : s.vars = [])
    (ht : fn.params.toList.all (topB P) = true) (hres : fn.resultTypes = #[tb]) (htb : P.underlying tb = some .bool)
    (hs : s.fn H ds = { results := [.lit (.bool true)], args := ds })
    (hent : Enters P f) (hgl : ∀ (M : Nat → Mb) s m, ObjR (fun b => b < W.heap.size) W M s m (.glob g cs))
    (hc : ACalls P f (ds.map argD) [(base, .glob g cs)] fun h r => h = [(base, .glob g cs)] ∧ r = .p (.bool true)) :
    Calls P f args W fun e W' => ∃ v, e = .returned v ∧ s.post enc P fn false true false false W args v W' := by
  have hW0 := hW
  obtain ⟨p, q, hA, hV, rfl, hfz, hnd⟩ := hW
  rw [hv] at hV
  obtain ⟨rfl, rfl⟩ := trodVars_none hV
  have hlt : ∀ x ∈ p, x.block < W.heap.size := fun x hx => hW0.lt x (by simp [hx])
  have hget : ∀ i o, get [(base, AO.glob g cs)] i = some o → i = base ∧ o = .glob g cs := by
    intro i o h1
    rw [get_cons] at h1
    split at h1
    · rename_i e; cases h1; exact ⟨e.symm, rfl⟩
    · simp [get] at h1
  have hno : ∀ (M : Nat → Mb) b, ¬ Owned M [(base, AO.glob g cs)] b := by
    rintro M b ⟨i, o, h1, h2⟩
    obtain ⟨_, rfl⟩ := hget i o h1
    exact h2
  have hruns := (hc args W (fun b => b < W.heap.size) (fun _ => ⟨0, 0, []⟩) ⟨fun id o h => by obtain ⟨_, rfl⟩ := hget id o h; exact hgl _ _ _, fun id o id' o' b h _ h2 => by obtain ⟨_, rfl⟩ := hget id o h; exact h2.elim⟩ (fun _ h => h)
    (fun id h => by
      unfold sg at h
      cases h1 : get [(base, AO.glob g cs)] id with
      | none => rw [h1] at h; exact (h rfl).elim
      | some o => obtain ⟨rfl, _⟩ := hget id o h1; exact Nat.le_refl _)
    (args_sound ht (fun j t v h1 h2 => hval j t v (by simpa using h1) (by simpa using h2)) hA))
  have hcalls := hruns.resolve_right (fun ⟨v, w', h1, _⟩ => by rw [hent] at h1; cases h1)
  refine hcalls.2.mono ?_
  rintro e W' ⟨v, h', r, F', M', rfl, ⟨rfl, rfl⟩, _, hd, hk⟩
  obtain rfl : v = .bool true := by cases hd with | p hd => cases hd; rfl
  have hold : ∀ b, b < W.heap.size → W'.heap[b]? = W.heap[b]? := fun b hb => hk.old b hb (hno _ b)
  refine ⟨_, rfl, ds, [], p ++ [], [], p, [], by simpa using hW0, ?_, ?_, ?_, keptBut_old hk.os hk.output hold _, fun h => by cases h⟩
  · rw [List.append_nil, hs, hres]
    exact trodAll_cons_mk (shut_bool htb _) trodAll_mk0
  · rw [List.append_nil, hs]
    exact args_back hold ht hA (fun x hx => by simpa using hlt x hx) hlt
  · rw [List.append_nil, hs, hv]
    rfl
end
end Go.Am

/- The abstract machine, forty-first part: the library's contracts as contracts of the machine. -/
namespace Go.Am
open Go Go.ChangeShapes Go.RowKit

section
variable {P : Program}
/-- A contract of the library whose answer is pure, and that leaves all old blocks as they were. -/
theorem ACalls_below {f : FuncId} {args : List D} {h : Hp} {out : Pd} (hent : Enters P f)
    (hc : ∀ (vs : Array Value) w F M, HR F w M h → (∀ b, F b → b < w.heap.size) → DRl F w M (sg h) args vs.toList →
      Calls P f vs w fun e w' => ∃ v, e = .returned v ∧ PR (fun _ => False) w' out v ∧ Below w.heap.size w w') :
    ACalls P f args h fun h' r => h' = h ∧ r = .p out := by
  intro vs w F M hHR hFl hsb hd
  refine .inl ⟨hent vs w, (hc vs w F M hHR hFl hd).mono ?_⟩
  rintro e w' ⟨v, rfl, hp, hb⟩
  have hold : ∀ b, b < w.heap.size → w'.heap[b]? = w.heap[b]? := hb.block
  refine ⟨_, _, _, F, M, rfl, ⟨rfl, rfl⟩, hHR.keep (fun b hb => hold b (hFl b hb)) (fun b hb => hold b (hHR.lt hb)), .p (hp.keep (fun _ h => h.elim) (fun _ h => h.elim)), ⟨hb.os, hb.tape, hb.output, hb.size, fun b hb _ => hold b hb, fun _ h => h, fun _ h => .inl h, ?_, fun b hb => .inl hb, SgKeep.refl _ _, hsb⟩⟩
  intro b hb2
  exact Nat.lt_of_lt_of_le (hFl b hb2) hb.size
theorem dr_str {F : Nat → Prop} {w : World} {M : Nat → Mb} {s : Nat → Option Sg} {l : List UInt8} {v : Value} (h : DR F w M s (.p (.str l)) v) : v = .string ⟨l.toArray⟩ := by
  cases h with | p h => cases h; rfl
theorem dr_int {F : Nat → Prop} {w : World} {M : Nat → Mb} {s : Nat → Option Sg} {k : IntKind} {n : Int} {v : Value} (h : DR F w M s (.p (.int k n)) v) : v = .int k n := by
  cases h with | p h => cases h; rfl
theorem drl_two {F : Nat → Prop} {w : World} {M : Nat → Mb} {s : Nat → Option Sg} {x y : D} {vs : Array Value} (h : DRl F w M s [x, y] vs.toList) : ∃ a b, vs = #[a, b] ∧ DR F w M s x a ∧ DR F w M s y b := by
  have hl := h.1
  obtain ⟨a, b, rfl⟩ : ∃ a b, vs = #[a, b] := by
    obtain ⟨l⟩ := vs
    match l, hl with
    | [a, b], _ => exact ⟨a, b, rfl⟩
  exact ⟨a, b, rfl, h.2 0 _ rfl, h.2 1 _ rfl⟩
theorem tab_lt {w : World} {name : String} {k : IntKind} {zs : List Int} {g : Nat} (hg : P.globalNamed name = some g) (h : Lib.TabIs P w name k zs) : g < w.heap.size := by
  unfold Lib.TabIs World.var? at h
  rw [hg] at h
  simp only [Option.bind_some] at h
  split at h
  · rename_i cs t fr hc
    exact (Array.getElem?_eq_some_iff.1 hc).1
  · cases h
/-- A listed table, wherever it stands on the list. -/
theorem tab_of_laid {W : World} {name : String} {k : IntKind} {zs : List Int} {l : List (String × DataW Unit)} {keep : String × DataW Unit → Bool} {g : Nat} {t e : TypeId} {n : Nat} (h : laidMetH P l W) (hk : l.filter keep = [(name, Lib.tabData k zs)])
    (hh : (Lib.tabData k zs : DataW Unit).handleName? = none)
    (hg : P.globalNamed name = some g) (hty : (P.globals[g]?).map (·.type) = some t) (ht : P.underlying t = some (.array n e)) (he : P.underlying e = some (.int k)) (hce : P.cellsOf e = 1) (hct : P.cellsOf t = n) : Lib.TabIs P W name k zs := by
  have h1 := h.filter keep
  rw [hk] at h1
  unfold laidMetH at h1
  simp only [List.filter_cons, hh, Option.isSome_none, Bool.false_eq_true, if_false, List.filter_nil] at h1
  exact Lib.tabIs_of_head hg hty ht he hce hct h1
end
end Go.Am

/- The abstract machine: laws whose parameters are structs or arrays, too. -/
namespace Go.Am
open Go Go.ChangeShapes Go.RowKit

/-- Is the type of more than one cell by its making: a struct, an array? -/
def aggB (P : Program) (t : TypeId) : Bool := match P.underlying t with
  | some (.struct _) => true
  | some (.array _ _) => true
  | _ => false

/-- An argument, by its type. -/
def argT {H : Type} (P : Program) (t : TypeId) (d : DataW H) : D := if aggB P t then .agg ((flatD d).map .p) else argD d

section
variable {H : Type} {enc : TypeId × Value → H} {P : Program} {W : World}

theorem argT_sound {t : TypeId} {v : Value} {d : DataW H} {ps : List MemPlace} {sp : Nat → Bool} {M : Nat → Mb} {s : Nat → Option Sg} (ht : plainB P 30 t = true) {bs : Nat} (hok : Value.okWide P W .any bs t v)
    (h : DataW.Trod enc P W 0 sp true t v d ps) : DR (fun b => b < W.heap.size) W M s (argT P t d) v := by
  unfold argT
  split
  · rename_i ha
    obtain ⟨fuel, hf⟩ := h
    have h1 := trodP (F := fun b => b < W.heap.size) (fun _ h => h) 30 t ht _ _ _ hf
    obtain ⟨cs, rfl⟩ : ∃ cs, v = .agg cs := by
      unfold aggB at ha
      unfold Value.okWide Cell.okWide Cell.ok at hok
      cases hu : P.underlying t with
      | none => rw [hu] at ha; cases ha
      | some u =>
        rw [hu] at ha hok
        cases u <;> simp at ha
        all_goals
          cases v with
          | agg cs => exact ⟨cs, rfl⟩
          | _ => simp at hok
    refine .agg _ cs (by simpa [Value.cells] using h1.1.symm) fun i c hc => ?_
    rw [List.getElem?_map] at hc
    cases hx : (flatD d)[i]? with
    | none => rw [hx] at hc; cases hc
    | some x =>
      rw [hx] at hc
      cases hc
      have := h1.2 i x hx
      simp only [Value.cells] at this
      rw [List.getD_eq_getElem?_getD, Array.getElem?_toList] at this
      rw [Array.getD_eq_getD_getElem?]
      exact .p this
  · rename_i ha
    refine arg_sound ?_ hok h
    unfold topB
    unfold aggB at ha
    rw [ht, Bool.true_and]
    split <;> simp_all

theorem argsT_sound {bs : Nat} {sp : Nat → Bool} {M : Nat → Mb} {s : Nat → Option Sg} : ∀ {ts : List TypeId} {vs : List Value} {ds : List (DataW H)} {ps : List MemPlace}, (ts.all (plainB P 30)) = true →
    (∀ (j : Nat) t v, ts[j]? = some t → vs[j]? = some v → Value.okWide P W .any bs t v) → DataW.TrodAll enc P W 0 sp true ts vs ds ps → DRl (fun b => b < W.heap.size) W M s (List.zipWith (argT P) ts ds) vs
  | [], vs, ds, ps, _, _, h => by
    obtain ⟨rfl, rfl, _⟩ := trodAll_nil h
    exact ⟨rfl, fun i d hd => by simp at hd⟩
  | t :: ts, vs, ds, ps, ht, hok, h => by
    obtain ⟨v, vs', d, ds', p, q, rfl, rfl, _, h1, h2⟩ := trodAll_cons h
    simp only [List.all_cons, Bool.and_eq_true] at ht
    have h3 := argT_sound (M := M) (s := s) ht.1 (hok 0 t v rfl rfl) h1
    have h4 := argsT_sound (M := M) (s := s) ht.2 (fun j t v h5 h6 => hok (j + 1) t v (by simpa using h5) (by simpa using h6)) h2
    refine ⟨by simp only [List.zipWith_cons_cons, List.length_cons, h4.1], fun i x hx => ?_⟩
    cases i with
    | zero => simp only [List.zipWith_cons_cons, List.getElem?_cons_zero, Option.some.injEq] at hx; subst hx; simpa [List.getD] using h3
    | succ i => simp only [List.zipWith_cons_cons, List.getElem?_cons_succ] at hx; simpa [List.getD] using h4.2 i x hx

theorem argsT_back {W' : World} {sp : Nat → Bool} (hW : ∀ b, b < W.heap.size → W'.heap[b]? = W.heap[b]?) : ∀ {ts : List TypeId} {vs : List Value} {ds : List (DataW H)} {ps : List MemPlace}, (ts.all (plainB P 30)) = true →
    DataW.TrodAll enc P W 0 (fun _ => true) true ts vs ds ps → (∀ p ∈ ps, sp p.block = true) → (∀ p ∈ ps, p.block < W.heap.size) → DataW.TrodAll enc P W' 0 sp true ts vs ds ps
  | [], vs, ds, ps, _, h, _, _ => by
    obtain ⟨rfl, rfl, rfl⟩ := trodAll_nil h
    exact trodAll_mk0
  | t :: ts, vs, ds, ps, ht, h, hsp, hlt => by
    obtain ⟨v, vs', d, ds', p, q, rfl, rfl, rfl, ⟨n, h1⟩, h2⟩ := trodAll_cons h
    simp only [List.all_cons, Bool.and_eq_true] at ht
    have h3 := trodSp 30 t ht.1 n _ _ h1 (sp := sp) (fun p hp => hsp p (by simp [hp]))
    have h4 := DataW.trod_carry n t _ _ h3 (w' := W') (fun p hp => by
      have := hW p.block (hlt p (by simp [hp]))
      cases p with
      | cell b o => simp only [MemPlace.block] at this; simp [World.sameAt, World.cell?, this]
      | map b => exact this)
    exact trodAll_cons_mk ⟨n, h4⟩ (argsT_back hW ht.2 h2 (fun p hp => hsp p (by simp [hp])) (fun p hp => hlt p (by simp [hp])))

theorem topsT_wt {held : Bool} {W : World} {sp : Nat → Bool} : ∀ {ts : List TypeId} {vs : List Value} {ds : List (DataW H)} {ps : List MemPlace}, (ts.all (plainB P 30)) = true → DataW.TrodAll enc P W 0 sp held ts vs ds ps →
    ds.length = ts.length ∧ ∀ (i : Nat) t d, ts[i]? = some t → ds[i]? = some d → wtP P 30 t (flatD d)
  | [], vs, ds, ps, _, h => by
    obtain ⟨rfl, rfl, _⟩ := trodAll_nil h
    exact ⟨rfl, fun i t d h => by simp at h⟩
  | t :: ts, vs, ds, ps, ht, h => by
    obtain ⟨v, vs', d, ds', p, q, rfl, rfl, _, ⟨n, h1⟩, h2⟩ := trodAll_cons h
    simp only [List.all_cons, Bool.and_eq_true] at ht
    obtain ⟨h3, h4⟩ := topsT_wt ht.2 h2
    refine ⟨by simp [h3], fun i t' d' hi hd => ?_⟩
    cases i with
    | zero => simp only [List.getElem?_cons_zero, Option.some.injEq] at hi hd; subst hi hd; exact trod_wt 30 _ ht.1 _ _ _ h1
    | succ i => simp only [List.getElem?_cons_succ] at hi hd; exact h4 i t' d' hi hd

theorem get_mem {α : Type} : ∀ {h : List (Nat × α)} {i : Nat} {o : α}, get h i = some o → (i, o) ∈ h
  | [], i, o, h => by simp [get] at h
  | (k, x) :: r, i, o, h => by
    simp only [get] at h
    split at h
    · rename_i e; cases h; subst e; simp
    · exact List.mem_cons_of_mem _ (get_mem h)

/-- A LAW's CALL, its parameters of any plain type, beside a table or without. -/
theorem law_callsT {bs : Nat} {f : FuncId} {fn : Func} {s : ChangeSpec} {args : Array Value} {ds gs : List (DataW H)} {before : List MemPlace} {tb : TypeId} (tabs : List (Nat × List Pd))
    (hval : ∀ (j : Nat) t v, fn.params[j]? = some t → args[j]? = some v → Value.okWide P W .any bs t v)
    (hW : DataW.Whole enc P fn.params.toList s.vars false W args.toList ds gs before) (hv : s.vars = [])
    (ht : fn.params.toList.all (plainB P 30) = true) (hres : fn.resultTypes = #[tb]) (htb : P.underlying tb = some .bool)
    (hs : s.fn H ds = { results := [.lit (.bool true)], args := ds })
    (hent : Enters P f) (hgl : ∀ x ∈ tabs, ∀ (M : Nat → Mb) s m, ObjR (fun b => b < W.heap.size) W M s m (.glob x.1 x.2)) (h : Hp) (hh : h = tabs.mapIdx fun i x => (base + i, AO.glob x.1 x.2))
    (hc : ACalls P f (List.zipWith (argT P) fn.params.toList ds) h fun h' r => r = .p (.bool true)) :
    Calls P f args W fun e W' => ∃ v, e = .returned v ∧ s.post enc P fn false true false false W args v W' := by
  have hW0 := hW
  obtain ⟨p, q, hA, hV, rfl, hfz, hnd⟩ := hW
  rw [hv] at hV
  obtain ⟨rfl, rfl⟩ := trodVars_none hV
  have hlt : ∀ x ∈ p, x.block < W.heap.size := fun x hx => hW0.lt x (by simp [hx])
  have hget : ∀ i o, get h i = some o → base ≤ i ∧ ∃ x ∈ tabs, o = .glob x.1 x.2 := by
    intro i o h1
    have h2 := get_mem h1
    rw [hh, List.mem_mapIdx] at h2
    obtain ⟨j, hj, e⟩ := h2
    simp only [Prod.mk.injEq] at e
    obtain ⟨rfl, rfl⟩ := e
    exact ⟨Nat.le_add_right _ _, _, List.getElem_mem _, rfl⟩
  have hno : ∀ (M : Nat → Mb) b, ¬ Owned M h b := by
    rintro M b ⟨i, o, h1, h2⟩
    obtain ⟨_, x, _, rfl⟩ := hget i o h1
    exact h2
  have hruns := (hc args W (fun b => b < W.heap.size) (fun _ => ⟨0, 0, []⟩) ⟨fun id o h => by obtain ⟨_, x, hx, rfl⟩ := hget id o h; exact hgl x hx _ _ _, fun id o id' o' b h _ h2 => by obtain ⟨_, x, _, rfl⟩ := hget id o h; exact h2.elim⟩ (fun _ h => h)
    (fun id h1 => by
      unfold sg at h1
      cases h2 : get h id with
      | none => rw [h2] at h1; exact (h1 rfl).elim
      | some o => exact (hget id o h2).1)
    (argsT_sound ht (fun j t v h1 h2 => hval j t v (by simpa using h1) (by simpa using h2)) hA))
  have hcalls := hruns.resolve_right (fun ⟨v, w', h1, _⟩ => by rw [hent] at h1; cases h1)
  refine hcalls.2.mono ?_
  rintro e W' ⟨v, h', r, F', M', rfl, rfl, _, hd, hk⟩
  obtain rfl : v = .bool true := by cases hd with | p hd => cases hd; rfl
  have hold : ∀ b, b < W.heap.size → W'.heap[b]? = W.heap[b]? := fun b hb => hk.old b hb (hno _ b)
  refine ⟨_, rfl, ds, [], p ++ [], [], p, [], by simpa using hW0, ?_, ?_, ?_, keptBut_old hk.os hk.output hold _, fun h => by cases h⟩
  · rw [List.append_nil, hs, hres]
    exact trodAll_cons_mk (shut_bool htb _) trodAll_mk0
  · rw [List.append_nil, hs]
    exact argsT_back hold ht hA (fun x hx => by simpa using hlt x hx) hlt
  · rw [List.append_nil, hs, hv]
    rfl
end
end Go.Am

/- The abstract machine: strings.Builder: its contracts, out of what its functions do to the world. -/
namespace Go.Am
open Go

section
variable {P : Program} {c : Ctx} {st : St} {a : Act} {w w' : World} {F : Nat → Prop} {M : Nat → Mb} {s : Nat → Option Sg}

/-- Rows of the class F stay as they are, up to what is frozen of them. -/
def Fz (F : Nat → Prop) (w w' : World) : Prop := ∀ b row t fr, F b → w.heap[b]? = some (.cells row t fr) → ∃ fr', w'.heap[b]? = some (.cells row t fr')

theorem PR.fz {x : Pd} {v : Value} (h : PR F w x v) (hs : Fz F w w') : PR F w' x v := by
  induction h with
  | int k n => exact .int k n
  | bool b => exact .bool b
  | str l => exact .str l
  | sl0 a cap => exact .sl0 a cap
  | sl es b off cap sz row t fr hb hh hc hz hi hp ih =>
    obtain ⟨fr', h'⟩ := hs b row t fr hb hh
    exact .sl es b off cap sz row t fr' hb h' hc hz hi ih

theorem DR.fz {d : D} {v : Value} (h : DR F w M s d v) (hs : Fz F w w') : DR F w' M s d v := by
  induction h with
  | p h => exact .p (h.fz hs)
  | agg cs vs hl _ ih => exact .agg cs vs hl ih
  | tup cs vs hl _ ih => exact .tup cs vs hl ih
  | cl es a h => exact .cl es a (h.fz hs)
  | ref id off len N sz n v h1 hN hv h2 => exact .ref id off len N sz n v h1 hN hv h2
  | ptr id off h1 => exact .ptr id off h1
  | pe cs b off row t fr hb hh hi hp =>
    obtain ⟨fr', h'⟩ := hs b row t fr hb hh
    exact .pe cs b off row t fr' hb h' hi (fun j x hx => (hp j x hx).fz hs)
  | ea id i c N sz n v h1 hN hv h2 => exact .ea id i c N sz n v h1 hN hv h2
  | fn f cap vs hl _ ih => exact .fn f cap vs hl ih
  | np => exact .np
  | mv id h1 => exact .mv id h1
  | bad v => exact .bad v

theorem ObjR.fz {m : Mb} {o : AO} (h : ObjR F w M s m o) (hs : Fz F w w') (hn : ∀ b, ¬ F b → w'.heap[b]? = w.heap[b]?) : ObjR F w' M s m o := by
  cases o with
  | box cs ty =>
    obtain ⟨h1, row, t, h2, h3, h4⟩ := h
    exact ⟨h1, row, t, by rw [hn _ h1]; exact h2, h3, fun j d hd => ⟨(h4.1 j d hd).1.fz hs, (h4.1 j d hd).2⟩, h4.2⟩
  | arr t sz es =>
    obtain ⟨h1, h2, h2', h3, h4⟩ := h
    refine ⟨h1, h2, h2', h3, fun hc => ?_⟩
    obtain ⟨h5, row, h6, h7, h8⟩ := h4 hc
    exact ⟨h5, row, by rw [hn _ h5]; exact h6, h7, fun i e j x he hj => (h8 i e j x he hj).fz hs⟩
  | fro sz es =>
    obtain ⟨h1, h2, h3, h4⟩ := h
    refine ⟨h1, h2, h3, fun hc => ?_⟩
    obtain ⟨h5, row, t, fr, h6, h7, h8⟩ := h4 hc
    obtain ⟨fr', h'⟩ := hs _ row t fr h5 h6
    exact ⟨h5, row, t, fr', h', h7, fun i e j x he hj => (h8 i e j x he hj).fz hs⟩
  | iter l pos =>
    obtain ⟨h1, h2⟩ := h
    exact ⟨h1, by rw [hn _ h1]; exact h2⟩
  | glob g cs =>
    obtain ⟨h1, row, t, fr, h2, h4, h3⟩ := h
    obtain ⟨fr', h'⟩ := hs _ row t fr h1 h2
    exact ⟨h1, row, t, fr', h', h4, fun j x hx => (h3 j x hx).fz hs⟩
  | sem o => exact o.froz h hs hn

theorem Rel.fz (hr : Rel c st a w F M) (hs : Fz F w w') (hn : ∀ b, ¬ F b → w'.heap[b]? = w.heap[b]?) (hos : w'.os = w.os) (htape : w'.tape = w.tape) (hout : w'.output = w.output) (hsize : w'.heap.size = w.heap.size)
    (hold : ∀ b, b < c.w0.heap.size → ¬ c.O0 b → w'.heap[b]? = w.heap[b]?) : Rel c st a w' F M := by
  have hk := hr.keep
  exact ⟨fun t d ht => (hr.env t d ht).fz hs, hr.size, hr.defers, ⟨fun id o ho => (hr.heap.obj id o ho).fz hs hn, hr.heap.inj⟩,
    ⟨hos.trans hk.os, htape.trans hk.tape, hout.trans hk.output, by rw [hsize]; exact hk.size, fun b hb hO => (hold b hb hO).trans (hk.old b hb hO), hk.F0, hk.Fn, fun b hb => by rw [hsize]; exact hk.Fl b hb, hk.own, hk.sgk, hk.s0b⟩⟩

theorem freeze_heap (w : World) (g n b : Nat) : (w.freeze ⟨g, 0, none⟩ n).heap[b]? = if b = g ∧ n ≠ 0 then (w.heap[b]?).map (fun | .cells c elem (lo, hi) => .cells c elem (if lo == hi then (0, 0 + n) else (min lo 0, max hi (0 + n))) | o => o) else w.heap[b]? := by
  unfold World.freeze
  by_cases hn : n = 0
  · rw [if_pos hn, if_neg (by simp [hn])]
  · rw [if_neg hn]
    simp only [Array.getElem?_modify]
    by_cases hb : g = b
    · subst hb
      rw [if_pos rfl, if_pos ⟨rfl, hn⟩]
      cases w.heap[g]? with
      | none => rfl
      | some o => cases o <;> rfl
    · rw [if_neg hb, if_neg (fun h => hb h.1.symm)]

theorem drl_one {F : Nat → Prop} {w : World} {M : Nat → Mb} {s : Nat → Option Sg} {x : D} {vs : Array Value} (h : DRl F w M s [x] vs.toList) : ∃ v, vs = #[v] ∧ DR F w M s x v := by
  have hl := h.1
  obtain ⟨v, rfl⟩ : ∃ v, vs = #[v] := by
    obtain ⟨l⟩ := vs
    match l, hl with
    | [v], _ => exact ⟨v, rfl⟩
  exact ⟨v, rfl, h.2 0 _ rfl⟩
theorem dr_ptr {id off : Nat} {v : Value} (h : DR F w M s (.ptr id off) v) : v = .pointer (some ⟨(M id).blk, off, none⟩) := by cases h; rfl
theorem row_two {row : Array Value} (h : row.size = 2) : ∃ p v, row = #[p, v] := by
  obtain ⟨l⟩ := row
  match l, h with
  | [p, v], _ => exact ⟨p, v, rfl⟩

/-- A contract whose function leaves the world as it is. -/
theorem ACalls_stay {f : FuncId} {args : List D} {h : Hp} {r : D} (hent : Enters P f) (hc : ∀ (vs : Array Value) w F M, HR F w M h → DRl F w M (sg h) args vs.toList → ∃ v, DR F w M (sg h) r v ∧ Calls P f vs w fun e w' => e = .returned v ∧ w' = w) :
    ACalls P f args h fun h' r' => h' = h ∧ r' = r := by
  intro vs w F M hHR hFl hsb hd
  obtain ⟨v, hv, hcl⟩ := hc vs w F M hHR hd
  refine .inl ⟨hent vs w, hcl.mono ?_⟩
  rintro e w' ⟨rfl, rfl⟩
  exact ⟨v, h, r, F, M, rfl, ⟨rfl, rfl⟩, hHR, hv, ⟨rfl, rfl, rfl, Nat.le_refl _, fun _ _ _ => rfl, fun _ h => h, fun _ h => .inl h, hFl, fun _ h => .inl h, SgKeep.refl _ _, hsb⟩⟩

/-- copyCheck of a Builder that was written. -/
theorem ACalls_bcheck_used {f : FuncId} {h : Hp} {x : D} {T : TypeId} (hent : Enters P f) (hg : get h base = some (.box [.ptr base 0, x] T))
    (hc : ∀ (b : Nat) (w : World), w.cell? ⟨b, 0, none⟩ = some (.pointer (some ⟨b, 0, none⟩)) → Calls P f #[.pointer (some ⟨b, 0, none⟩)] w fun e w' => e = .returned (.tuple #[]) ∧ w' = w) :
    ACalls P f [.ptr base 0] h fun h' r => h' = h ∧ r = .tup [] := by
  refine ACalls_stay hent fun vs w F M hHR hd => ⟨.tuple #[], .tup [] #[] rfl (fun i d hd => by simp at hd), ?_⟩
  obtain ⟨v, rfl, hv⟩ := drl_one hd
  rw [dr_ptr hv]
  refine hc _ _ ?_
  obtain ⟨_, row, t, hrow, hsz, hcells, _⟩ := hHR.obj base _ hg
  obtain ⟨p, q, rfl⟩ := row_two hsz
  have h0 := (hcells 0 _ rfl).1
  have := dr_ptr h0
  simp only [World.cell?, hrow]
  simpa using this

/-- copyCheck of a Builder that was not written yet. -/
theorem ACalls_bcheck_fresh {f : FuncId} {x : D} {T : TypeId} (hent : Enters P f) (hT : T ≠ 0)
    (hc : ∀ (b : Nat) (w : World), w.cell? ⟨b, 0, none⟩ = some (.pointer none) → w.shape? b = some (T, 2) → w.frozen? ⟨b, 0, none⟩ = false → Calls P f #[.pointer (some ⟨b, 0, none⟩)] w fun e w' => e = .returned (.tuple #[]) ∧ w' = w.setCell ⟨b, 0, none⟩ (.pointer (some ⟨b, 0, none⟩))) :
    ACalls P f [.ptr base 0] [(base, .box [.np, .cl []] T)] fun h' r => h' = [(base, .box [.ptr base 0, .cl []] T)] ∧ r = .tup [] := by
  intro vs w F M hHR hFl hsb hd
  obtain ⟨v, rfl, hv⟩ := drl_one hd
  rw [dr_ptr hv]
  have hg : get [(base, AO.box [.np, .cl []] T)] base = some (.box [.np, .cl []] T) := rfl
  obtain ⟨hnF, row, t, hrow, hsz, hcells, hx⟩ := hHR.obj base _ hg
  obtain ⟨p, q, rfl⟩ := row_two hsz
  rw [show tyOr T t = T by simp [tyOr, hT]] at hrow
  have h0 := (hcells 0 _ rfl).1
  have hp : p = .pointer none := by
    have : (#[p, q] : Array Value).getD 0 undef = p := rfl
    rw [this] at h0
    cases h0; rfl
  subst hp
  refine .inl ⟨hent _ w, (hc _ w ?_ ?_ ?_).mono ?_⟩
  · simp [World.cell?, hrow]
  · simp [World.shape?, hrow]
  · simp [World.frozen?, hrow]
  rintro e w' ⟨rfl, rfl⟩
  have hset : w.setCell ⟨(M base).blk, 0, none⟩ (.pointer (some ⟨(M base).blk, 0, none⟩)) = w.setRow (M base).blk #[.pointer (some ⟨(M base).blk, 0, none⟩), q] := by
    unfold World.setCell World.setRow
    congr 1
    apply Array.ext_getElem?
    intro j
    simp only [Array.getElem?_modify]
    by_cases hj : (M base).blk = j
    · subst hj; rw [if_pos rfl, if_pos rfl, hrow]; rfl
    · rw [if_neg hj, if_neg hj]
  rw [hset]
  have hr0 := Rel.start (args := []) (vs := #[]) (n := 0) hHR hFl hsb ⟨rfl, fun i d hd => by simp at hd⟩ (Nat.zero_le _)
  obtain ⟨w1, hst, hr1⟩ := hr0.storeBox (P := P) (id := base) (off := 0) (cs := [.ptr base 0]) (vs := [.pointer (some ⟨(M base).blk, 0, none⟩)]) hg ⟨rfl, fun i d hd => by
    cases i with
    | zero => simp only [List.getElem?_cons_zero, Option.some.injEq] at hd; subst hd; exact .ptr base 0 rfl
    | succ i => simp at hd⟩ rfl (by simp)
  have hrun := run_storeCells_at P (M base).blk 0 T [.pointer (some ⟨(M base).blk, 0, none⟩)] 0 #[.pointer none, q] w hrow (by simp) (by simp [Value.oneCell'])
  simp only [Nat.add_zero] at hrun
  rw [hrun] at hst
  cases hst
  refine ⟨_, _, .tup [], F, M, rfl, ⟨?_, rfl⟩, hr1.heap, .tup [] #[] rfl (fun i d hd => by simp at hd), hr1.keep⟩
  cases T with
  | zero => exact (hT rfl).elim
  | succ T => simp [setL, keepT, D.isNp]

/-- What a Builder holds, as a string. -/
theorem ACalls_bstring {f : FuncId} {e T : TypeId} {l : List UInt8} {px : D} (hent : Enters P f) (hl : l ≠ [])
    (hc : ∀ (b g n cap : Nat) (p : Value) (cur : Array Value) (T : TypeId) (w : World), w.heap[b]? = some (.cells #[p, .slice (some ⟨g, 0, none⟩) n cap] T (0, 0)) → n = l.length → w.heap[g]? = some (.cells cur e (0, 0)) → n ≤ cap → cap ≤ maxLen → cur.size = cap →
      (∀ (j : Nat) (x : UInt8), l[j]? = some x → cur[j]? = some (Value.int .u8 x.toNat)) → Calls P f #[.pointer (some ⟨b, 0, none⟩)] w fun e w' => e = .returned (.string ⟨l.toArray⟩) ∧ w' = w.drew.freeze ⟨g, 0, none⟩ l.length) :
    ACalls P f [.ptr base 0] [(base, .box [px, .ref (base + 1) 0 l.length l.length] T), (base + 1, .arr e 1 (encB l))]
      fun h' r => h' = [(base, .box [px, .ref (base + 1) 0 l.length l.length] T), (base + 1, .fro 1 (encB l))] ∧ r = .p (.str l) := by
  intro vs w F M hHR hFl hsb hd
  obtain ⟨v, rfl, hv⟩ := drl_one hd
  rw [dr_ptr hv]
  have hll : l.length ≠ 0 := by simpa using hl
  have hel : (encB l).length = l.length := by simp [encB]
  have hg0 : get [(base, AO.box [px, .ref (base + 1) 0 l.length l.length] T), (base + 1, .arr e 1 (encB l))] base = some (.box [px, .ref (base + 1) 0 l.length l.length] T) := rfl
  have hg1 : get [(base, AO.box [px, .ref (base + 1) 0 l.length l.length] T), (base + 1, .arr e 1 (encB l))] (base + 1) = some (.arr e 1 (encB l)) := rfl
  obtain ⟨hnF, row, t, hrow, hsz, hcells, _⟩ := hHR.obj base _ hg0
  obtain ⟨p, q, rfl⟩ := row_two hsz
  obtain ⟨_, h2, h3, _, h5⟩ := hHR.obj (base + 1) _ hg1
  have h3' := h3
  have h6 := (hcells 1 _ rfl).1
  have e1 : (#[p, q] : Array Value).getD 1 undef = q := rfl
  rw [e1] at h6
  obtain ⟨ad, cap, rfl, h7, h8, h9, h10⟩ : refOK (M (base + 1)) 1 l.length 0 l.length q := by
    cases h6 with
    | ref _ _ _ _ sz n _ hs hN hv2 hok =>
      have hs2 : sg [(base, AO.box [px, .ref (base + 1) 0 l.length l.length] T), (base + 1, .arr e 1 (encB l))] (base + 1) = some (.arr 1 l.length) := by rw [sg, hg1]; simp [AO.sg, hel]
      rw [hs2] at hs
      simp only [Option.some.injEq, Sg.arr.injEq] at hs
      obtain ⟨rfl, rfl⟩ := hs
      exact hok rfl
  have hcap : cap ≠ 0 := fun h0 => hll (Nat.le_zero.1 (h0 ▸ h8))
  obtain rfl := h10.resolve_left hcap
  have hcap2 : (M (base + 1)).cap ≠ 0 := fun h0 => hcap ((Nat.zero_add cap).symm.trans (h9.trans h0))
  clear h7 h3
  obtain ⟨hnG, cur, hcur, hcs, hcc⟩ := h5 hcap2
  rw [Nat.zero_mul] at hrow
  refine .inl ⟨hent _ w, (hc _ _ _ _ _ cur _ w hrow rfl hcur h8 (by have := (Nat.zero_add cap).symm.trans h9; rw [this]; exact h3') (by have := (Nat.zero_add cap).symm.trans h9; rw [hcs, this, Nat.mul_one]) ?_).mono ?_⟩
  · intro j x hx
    have hlt := (List.getElem?_eq_some_iff.1 hx).1
    have h11 := hcc j [.int .u8 x.toNat] 0 (.int .u8 x.toNat) (by simp [encB, hx]) rfl
    have hlt2 : j < cur.size := by omega
    simp only [Nat.mul_one, Nat.add_zero] at h11
    rw [Array.getD_eq_getD_getElem?, Array.getElem?_eq_getElem hlt2] at h11
    rw [Array.getElem?_eq_getElem hlt2]
    simp only [Option.getD_some] at h11
    generalize cur[j] = y at h11
    cases h11; rfl
  rintro e2 w' ⟨rfl, rfl⟩
  have hr0 := Rel.start (args := []) (vs := #[]) (n := 0) hHR hFl hsb ⟨rfl, fun i d hd => by simp at hd⟩ (Nat.zero_le _)
  have hr1 := hr0.freeze hg1
  have hr2 := hr1.drew
  have hown : Owned M [(base, AO.box [px, .ref (base + 1) 0 l.length l.length] T), (base + 1, .arr e 1 (encB l))] (M (base + 1)).blk := ⟨base + 1, _, hg1, by show (M (base + 1)).cap ≠ 0; omega, rfl⟩
  have hheap : ∀ b, b ≠ (M (base + 1)).blk → (w.drew.freeze ⟨(M (base + 1)).blk, 0, none⟩ l.length).heap[b]? = w.heap[b]? := fun b hb => by
    rw [freeze_heap, if_neg (fun h => hb h.1)]; rfl
  have hr3 := hr2.fz (w' := w.drew.freeze ⟨(M (base + 1)).blk, 0, none⟩ l.length) (fun b row t fr hF hb => by
      by_cases e3 : b = (M (base + 1)).blk
      · subst e3
        rw [freeze_heap, if_pos ⟨rfl, hll⟩]
        have hb' : w.drew.heap[(M (base + 1)).blk]? = some (.cells row t fr) := hb
        rw [hb']
        obtain ⟨lo, hi⟩ := fr
        exact ⟨_, rfl⟩
      · exact ⟨fr, by rw [hheap b e3]; exact hb⟩) (fun b hF => by
      by_cases e3 : b = (M (base + 1)).blk
      · exact (hF (.inr ⟨by omega, e3⟩)).elim
      · exact hheap b e3) (by unfold World.freeze; split <;> rfl) (by unfold World.freeze; split <;> rfl) (by unfold World.freeze; split <;> rfl) (by unfold World.freeze; split <;> simp <;> rfl)
    (fun b hb hO => by
      by_cases e3 : b = (M (base + 1)).blk
      · subst e3; exact (hO hown).elim
      · exact hheap b e3)
  refine ⟨_, _, .p (.str l), _, M, rfl, ⟨?_, rfl⟩, hr3.heap, .p (.str l), hr3.keep⟩
  simp [froze, hg1, setL]

/-- A Builder that was not written yet, as a string. -/
theorem ACalls_bstring_nil {f : FuncId} {T : TypeId} (hent : Enters P f) (hT : T ≠ 0)
    (hc : ∀ (b : Nat) (p : Value) (T : TypeId) (w : World), w.heap[b]? = some (.cells #[p, .slice none 0 0] T (0, 0)) → Calls P f #[.pointer (some ⟨b, 0, none⟩)] w fun e w' => e = .returned (.string ⟨#[]⟩) ∧ w' = w.drew) :
    ACalls P f [.ptr base 0] [(base, .box [.np, .cl []] T)] fun h' r => h' = [(base, .box [.np, .cl []] T)] ∧ r = .p (.str []) := by
  intro vs w F M hHR hFl hsb hd
  obtain ⟨v, rfl, hv⟩ := drl_one hd
  rw [dr_ptr hv]
  have hg : get [(base, AO.box [.np, .cl []] T)] base = some (.box [.np, .cl []] T) := rfl
  obtain ⟨hnF, row, t, hrow, hsz, hcells, hx⟩ := hHR.obj base _ hg
  obtain ⟨p, q, rfl⟩ := row_two hsz
  have hq : q = .slice none 0 0 := hx hT rfl 1 rfl
  subst hq
  refine .inl ⟨hent _ w, (hc _ _ _ w hrow).mono ?_⟩
  rintro e w' ⟨rfl, rfl⟩
  have hr0 := Rel.start (args := []) (vs := #[]) (n := 0) hHR hFl hsb ⟨rfl, fun i d hd => by simp at hd⟩ (Nat.zero_le _)
  have hr1 := hr0.drew
  exact ⟨_, _, .p (.str []), F, M, rfl, ⟨rfl, rfl⟩, hr1.heap, .p (.str []), hr1.keep⟩
end
end Go.Am
