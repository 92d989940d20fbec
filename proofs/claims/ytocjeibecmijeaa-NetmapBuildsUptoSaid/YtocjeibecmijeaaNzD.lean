/- Texts of this proof, what it rests on, merged: part D. -/
import Derived.Lib.ConvBytes
import Derived.Lib.OthersKept
import Derived.ScopeJumps
import Derived.Laws.IdiomStrings
import Derived.Lib.LaidTab
import Derived.Lib.ItoaNum
import Derived.Sort.Grow
import Derived.Deep.Draws
import Derived.Below
import Derived.LaidSub
import Derived.Test.YtocjeibecmijeaaNzC
section
set_option linter.unusedVariables false
set_option linter.unusedSimpArgs false
namespace Go.Am
open Go Go.ChangeShapes Go.RowKit
def wtF (p : Field → List Pd → Prop) : List Field → List Pd → Prop
  | [], cs => cs = []
  | f :: r, cs => ∃ a b, cs = a ++ b ∧ p f a ∧ wtF p r b
def wtP (P : Program) : Nat → TypeId → List Pd → Prop
  | 0, _, _ => False
  | n + 1, t, cs => match P.underlying t with
    | some .bool => ∃ b, cs = [.bool b]
    | some (.int k) => ∃ v, cs = [.int k v] ∧ (Lit.int k v).wf = true
    | some .string => ∃ l, cs = [.str l]
    | some (.slice e) => ∃ es, cs = [.sl es] ∧ ∀ y ∈ es, wtP P n e y
    | some (.struct fs) => wtF (fun f => wtP P n f.type) fs.toList cs
    | some (.array k e) => ∃ es : List (List Pd), cs = es.flatten ∧ es.length = k ∧ ∀ y ∈ es, wtP P n e y
    | _ => False
mutual
def pdB : Pd → Nat
  | .int _ _ => 1
  | .bool _ => 1
  | .str l => l.length + 1
  | .sl es => pdBs es + 1
def pdBl : List Pd → Nat
  | [] => 0
  | x :: r => pdB x + pdBl r
def pdBs : List (List Pd) → Nat
  | [] => 0
  | x :: r => pdBl x + pdBs r
end
theorem pdBl_append (a b : List Pd) : pdBl (a ++ b) = pdBl a + pdBl b := by
  induction a with
  | nil => simp [pdBl]
  | cons x r ih => simp only [List.cons_append, pdBl, ih]; omega
section
variable {H : Type} {enc : TypeId × Value → H} {P : Program} {w : World} {spare : Nat → Bool} {held : Bool}
theorem wtF_flat {p : Field → List Pd → Prop} : ∀ (fs : List Field) (xs : List (DataW H × List MemPlace)), xs.length = fs.length → (∀ (i : Nat) f x, fs[i]? = some f → xs[i]? = some x → p f (flatD x.1)) → wtF p fs (flatA (xs.map (·.1)))
  | [], xs, hl, _ => by
    have : xs = [] := List.eq_nil_of_length_eq_zero hl
    subst this
    rfl
  | f :: r, xs, hl, h => by
    cases xs with
    | nil => simp at hl
    | cons x xs => exact ⟨flatD x.1, flatA (xs.map (·.1)), rfl, h 0 f x rfl rfl, wtF_flat r xs (by simpa using hl) fun i g y hg hy => h (i + 1) g y (by simpa using hg) (by simpa using hy)⟩
theorem flatA_flat : ∀ (xs : List (DataW H × List MemPlace)), flatA (xs.map (·.1)) = (xs.map fun x => flatD x.1).flatten
  | [] => rfl
  | x :: r => by simp only [List.map_cons, flatA, List.flatten_cons, flatA_flat r]
theorem trod_wt : ∀ (m : Nat) (t : TypeId), plainB P m t = true → ∀ (fuel : Nat) (cs : List Value) (x : DataW H × List MemPlace),
    DataW.trod enc P w 0 spare held fuel t cs = some x → wtP P m t (flatD x.1) := by
  intro m
  induction m with
  | zero => intro t h; simp [plainB] at h
  | succ m ih =>
    intro t ht fuel cs x h
    simp only [plainB] at ht
    simp only [wtP]
    split at ht
    · rename_i hu
      obtain ⟨b, rfl, rfl⟩ := DataW.trod_bool hu h
      rw [hu]; exact ⟨b, rfl⟩
    · rename_i k hu
      obtain ⟨n, rfl, rfl, hw⟩ := DataW.trod_int hu h
      rw [hu]; exact ⟨n, rfl, hw⟩
    · rename_i hu
      obtain ⟨s, rfl, rfl, _⟩ := DataW.trod_string hu h
      rw [hu]; exact ⟨_, rfl⟩
    · rename_i e hu
      simp only [Bool.and_eq_true, decide_eq_true_eq] at ht
      obtain ⟨hk, hpe⟩ := ht
      rw [hu]
      rcases DataW.trod_slice hu h with ⟨rfl, rfl⟩ | ⟨a, len, cap, elems, rest, n, rfl, rfl, rfl, hb, hl, hc, hel, hget, _, _⟩
      · exact ⟨[], rfl, by simp⟩
      · refine ⟨elems.map fun x => flatD x.1, by simp only [flatD, flatE_map], fun y hy => ?_⟩
        obtain ⟨z, hz, rfl⟩ := List.mem_map.1 hy
        obtain ⟨i, hi, rfl⟩ := List.mem_iff_getElem.1 hz
        have := hget i (by omega)
        rw [List.getElem?_eq_getElem hi] at this
        obtain ⟨cs', h1, h2⟩ := Option.bind_eq_some_iff.1 this
        exact ih e hpe _ _ _ h2
    · rename_i fs hu
      simp only [Bool.and_eq_true, decide_eq_true_eq] at ht
      rw [hu]
      obtain ⟨xs, n, rfl, rfl, hl, hxl, hget⟩ := DataW.trod_struct hu h
      simp only [flatD]
      refine wtF_flat fs.toList xs (by simpa using hxl) fun i f x hf hx => ?_
      have h1 := hget i f (by simpa using hf)
      rw [hx] at h1
      exact ih f.type (List.all_eq_true.1 ht.2 f (List.mem_of_getElem? hf)) _ _ _ h1
    · rename_i k e hu
      simp only [Bool.and_eq_true, decide_eq_true_eq] at ht
      rw [hu]
      obtain ⟨xs, n, rfl, rfl, hl, hxl, hget⟩ := DataW.trod_array hu h
      refine ⟨xs.map fun x => flatD x.1, by simp only [flatD, flatA_flat], by simpa using hxl, fun y hy => ?_⟩
      obtain ⟨z, hz, rfl⟩ := List.mem_map.1 hy
      obtain ⟨i, hi, rfl⟩ := List.mem_iff_getElem.1 hz
      have h1 := hget i (by omega)
      rw [List.getElem?_eq_getElem hi] at h1
      exact ih e ht.2 _ _ _ h1
    · cases ht
end
section
variable {P : Program} {n : Nat} {t : TypeId} {cs : List Pd}
theorem wt_int {k : IntKind} (hu : P.underlying t = some (.int k)) (h : wtP P n t cs) : ∃ v, cs = [.int k v] ∧ (Lit.int k v).wf = true := by
  cases n with
  | zero => exact h.elim
  | succ n => simpa only [wtP, hu] using h
theorem wt_str (hu : P.underlying t = some .string) (h : wtP P n t cs) : ∃ l, cs = [.str l] := by
  cases n with
  | zero => exact h.elim
  | succ n => simpa only [wtP, hu] using h
theorem wt_sl {e : TypeId} (hu : P.underlying t = some (.slice e)) (h : wtP P n t cs) : ∃ m es, cs = [.sl es] ∧ ∀ y ∈ es, wtP P m e y := by
  cases n with
  | zero => exact h.elim
  | succ n =>
    simp only [wtP, hu] at h
    exact ⟨n, h⟩
theorem wt_st {fs : Array Field} (hu : P.underlying t = some (.struct fs)) (h : wtP P n t cs) : ∃ m, wtF (fun f => wtP P m f.type) fs.toList cs := by
  cases n with
  | zero => exact h.elim
  | succ n =>
    simp only [wtP, hu] at h
    exact ⟨n, h⟩
theorem wt_ar {k : Nat} {e : TypeId} (hu : P.underlying t = some (.array k e)) (h : wtP P n t cs) : ∃ m, ∃ es : List (List Pd), cs = es.flatten ∧ es.length = k ∧ ∀ y ∈ es, wtP P m e y := by
  cases n with
  | zero => exact h.elim
  | succ n =>
    simp only [wtP, hu] at h
    exact ⟨n, h⟩
theorem dec_map {α : Type} (enc : α → List Pd) : ∀ (es : List (List Pd)), (∀ y ∈ es, ∃ x, y = enc x) → ∃ l : List α, es = l.map enc
  | [], _ => ⟨[], rfl⟩
  | y :: r, h => by
    obtain ⟨x, hx⟩ := h y (by simp)
    obtain ⟨l, hl⟩ := dec_map enc r fun z hz => h z (by simp [hz])
    exact ⟨x :: l, by simp [hx, hl]⟩
theorem pdBs_map {α : Type} (enc : α → List Pd) (h1 : ∀ x, 1 ≤ pdBl (enc x)) : ∀ (l : List α), l.length ≤ pdBs (l.map enc) ∧ ∀ x ∈ l, pdBl (enc x) ≤ pdBs (l.map enc)
  | [] => ⟨Nat.zero_le _, by simp⟩
  | y :: r => by
    obtain ⟨h2, h3⟩ := pdBs_map enc h1 r
    have h4 := h1 y
    simp only [List.map_cons, pdBs, List.length_cons]
    refine ⟨by omega, fun x hx => ?_⟩
    rcases List.mem_cons.1 hx with rfl | hx
    · omega
    · have := h3 x hx; omega
end
end Go.Am
namespace Go.Am
open Go
section
variable {P : Program} {ops rest : List Oper} {k : Kt} {st : St} {o : Oper}
theorem Af_sem (h : SemOp P o (O P true ops rest k) st) : Af P true ops rest k o st .fail := ⟨rfl, h⟩
theorem Af_wk {st1 : St} (hw : Wk st st1) (h : Do P true ops rest k o st1) : Af P true ops rest k o st .fail := by
  refine Af_sem fun c a w F M Q hr => ?_
  obtain ⟨F1, M1, hr1⟩ := hw c a w F M hr
  exact wDo_sound hr1 h Q
theorem Rel.newF {c : Ctx} {a : Act} {w w' : World} {F : Nat → Prop} {M : Nat → Mb} (hr : Rel c st a w F M) (hos : w'.os = w.os) (htape : w'.tape = w.tape) (hout : w'.output = w.output)
    (hsz : w'.heap.size = w.heap.size + 1) (hold : ∀ b, b < w.heap.size → w'.heap[b]? = w.heap[b]?) : Rel c st a w' (fun b => F b ∨ b = w.heap.size) M := by
  have hF : ∀ b, F b → w'.heap[b]? = w.heap[b]? := fun b hb => hold b (hr.keep.Fl b hb)
  have hs := SgKeep.refl M (sg st.hp)
  refine ⟨fun t d ht => (hr.env t d ht).keep hF (fun _ h => .inl h) hs, hr.size, hr.defers, ⟨fun id x hx => ?_, hr.heap.inj⟩, ?_⟩
  · refine (hr.heap.obj id x hx).keep hF (fun _ h => .inl h) hs fun b hown => ?_
    have hlt := hr.heap.lt ⟨id, x, hx, hown⟩
    refine ⟨hold _ hlt, ?_⟩
    rintro (h | h)
    · exact hr.heap.notF ⟨id, x, hx, hown⟩ h
    · omega
  · have hk := hr.keep
    refine ⟨hos.trans hk.os, htape.trans hk.tape, hout.trans hk.output, by have := hk.size; omega, fun b hb hO => ?_, fun b hb => .inl (hk.F0 b hb), fun b hb => ?_, fun b hb => ?_, hk.own, hk.sgk, hk.s0b⟩
    · rw [hold b (Nat.lt_of_lt_of_le hb hk.size)]; exact hk.old b hb hO
    · rcases hb with hb | rfl
      · exact hk.Fn b hb
      · exact .inr (.inr hk.size)
    · rcases hb with hb | rfl
      · have := hk.Fl b hb; omega
      · omega
theorem Af_bytes {s d e : TypeId} {x : Operand} {z0 z1 z2 : D} {n0 n1 n2 n3 b2 : Nat} {l : List UInt8} (ho : o.op = .convert s d x) (hs : tiOf P s = some ⟨n0, n1, .string, z0⟩) (hd : tiOf P d = some ⟨n2, n3, .slice e, z1⟩) (he : tiOf P e = some ⟨1, b2, .int .u8, z2⟩)
    (hx : ev st x = .p (.str l)) (h : O P true ops rest k (st.put o.dst (.p (.sl (encB l))))) : Af P true ops rest k o st .fail := by
  refine Af_sem fun c a w F M Q hr => ?_
  obtain ⟨_, u1, _, _, hu1, _, e1⟩ := tiOf_some hs
  obtain ⟨_, u2, _, _, hu2, _, e2⟩ := tiOf_some hd
  obtain ⟨_, u3, _, _, hu3, _, e3⟩ := tiOf_some he
  simp only [TI.mk.injEq] at e1 e2 e3
  obtain rfl := TK.of_string e1.2.2.1.symm
  obtain rfl := TK.of_slice e2.2.2.1.symm
  obtain rfl := TK.of_int e3.2.2.1.symm
  have hv := ev_sound hr x
  rw [hx] at hv
  generalize hvx : a.eval x = v at hv
  cases hv with | p hv => cases hv with | str =>
  have hrun := Lib.run_convert_string_bytes (P := P) w s d e ⟨l.toArray⟩ hu1 hu2 hu3
  have hr' : Rel c st a (Lib.bytesWorld w e ⟨l.toArray⟩) (fun b => F b ∨ b = w.heap.size) M := hr.newF rfl rfl rfl (Lib.bytesWorld_size _ _ _) (fun b hb => Lib.bytesWorld_at_old _ _ _ b hb)
  unfold Oper.wp
  have hex : (execOp a.eval o).run P w = .ok (.value (.slice (some ⟨w.heap.size, 0, none⟩) (⟨l.toArray⟩ : ByteArray).size (grownCap w (⟨l.toArray⟩ : ByteArray).size 0 e))) (Lib.bytesWorld w e ⟨l.toArray⟩) := by
    simp only [execOp, ho, hvx]
    simp [hrun]
  rw [hex]
  refine ⟨_, _, _, h, hr'.put ?_ o.dst⟩
  have hlen : (⟨l.toArray⟩ : ByteArray).size = (encB l).length := by simp [encB, size_str]
  rw [hlen]
  refine .p (.sl (encB l) w.heap.size 0 _ 1 _ e _ (.inr rfl) (Lib.bytesWorld_at_new _ _ _) (by have := grownCap_ge w (encB l).length 0 e; exact this) (fun i y hy => ?_) (fun i y j q hy hq => ?_) (fun i y j q hy hq => ?_))
  · simp only [encB, List.getElem?_map] at hy
    cases hb : l[i]? with
    | none => rw [hb] at hy; cases hy
    | some b => rw [hb] at hy; cases hy; rfl
  · simp only [encB, List.getElem?_map] at hy
    cases hb : l[i]? with
    | none => rw [hb] at hy; cases hy
    | some b =>
      rw [hb] at hy; cases hy
      have hlt := (List.getElem?_eq_some_iff.1 hb).1
      cases j with
      | succ j => simp at hq
      | zero => simp [Lib.bytesCells]; omega
  · simp only [encB, List.getElem?_map] at hy
    cases hb : l[i]? with
    | none => rw [hb] at hy; cases hy
    | some b =>
      rw [hb] at hy; cases hy
      have hlt := (List.getElem?_eq_some_iff.1 hb).1
      cases j with
      | succ j => simp at hq
      | zero =>
        simp only [List.getElem?_cons_zero, Option.some.injEq] at hq
        subst hq
        have : (Lib.bytesCells w e ⟨l.toArray⟩).getD (0 + i * 1 + 0) undef = .int .u8 b.toNat := by
          rw [Array.getD_eq_getD_getElem?]
          simp [Lib.bytesCells, Array.getElem?_append, hlt]
          have := (List.getElem?_eq_some_iff.1 hb).2
          rw [this]
        rw [this]
        exact .int _ _
theorem Af_range {t : TypeId} {x : Operand} {q : Nat} {n0 n1 : Nat} {z0 : D} {l : List UInt8} (ho : o.op = .range t x) (hq : o.dst = some q) (ht : tiOf P t = some ⟨n0, n1, .string, z0⟩) (hx : ev st x = .p (.str l)) (hn : get st.hp q = none)
    (h : O P true ops rest k (({ st with hp := (q, .iter l 0) :: st.hp } : St).put (some q) (.ptr q 0))) : Af P true ops rest k o st .fail := by
  refine Af_sem fun c a w F M Q hr => ?_
  obtain ⟨_, u1, _, _, hu1, _, e1⟩ := tiOf_some ht
  simp only [TI.mk.injEq] at e1
  obtain rfl := TK.of_string e1.2.2.1.symm
  have hv := ev_sound hr x
  rw [hx] at hv
  generalize hvx : a.eval x = v at hv
  cases hv with | p hv => cases hv with | str =>
  have hget := get_new st.hp q (.iter l 0)
  have hM : ∀ j, j ≠ q → upM M q ⟨w.heap.size, 0, []⟩ j = M j := fun j hj => by simp [upM, hj]
  have hMq : upM M q ⟨w.heap.size, 0, []⟩ q = ⟨w.heap.size, 0, []⟩ := by simp [upM]
  have hsk := sgKeep_new hget hM hn
  have hold : ∀ b, b < w.heap.size → (w.iter ⟨l.toArray⟩ 0).heap[b]? = w.heap[b]? := fun b hb => alloc_old w _ b hb
  have hr' : Rel c { st with hp := (q, .iter l 0) :: st.hp } a (w.iter ⟨l.toArray⟩ 0) F (upM M q ⟨w.heap.size, 0, []⟩) := by
    refine hr.change hget hM hsk rfl rfl rfl (by simp [World.iter]) (fun b hb _ => hold b hb) ?_ (fun b hb => .inr (by have : b = _ := hb; rw [this, hMq]; exact Nat.le_refl _))
    rw [hMq]
    exact ⟨fun hF => Nat.lt_irrefl _ (hr.keep.Fl _ hF), World.iter_heap _ _ _⟩
  unfold Oper.wp
  have hex : (execOp a.eval o).run P w = .ok (.value (.pointer (some ⟨w.heap.size, 0, none⟩))) (w.iter ⟨l.toArray⟩ 0) := by
    simp only [execOp, ho, hvx]
    simp [run_range_string w t ⟨l.toArray⟩ hu1]
  rw [hex]
  rw [← hq] at h
  refine ⟨_, _, _, h, hr'.put ?_ o.dst⟩
  have := DR.ptr (F := F) (w := w.iter ⟨l.toArray⟩ 0) (M := upM M q ⟨w.heap.size, 0, []⟩) (s := sg ((q, .iter l 0) :: st.hp)) q 0 (by rw [sg_change hget]; simp [AO.sg])
  rwa [hMq] at this
theorem Af_next {it : Operand} {id : Nat} {l : List UInt8} {pos : Nat} (ho : o.op = .next it true) (hx : ev st it = .ptr id 0) (hg : get st.hp id = some (.iter l pos)) (ha : ∀ b ∈ l, b.toNat < 128)
    (h1 : ∀ (hlt : pos < l.length), O P true ops rest k (({ st with hp := setL st.hp id (.iter l (pos + 1)) } : St).put o.dst (.tup [.p (.bool true), .p (.int .i64 pos), .p (.int .i32 (l[pos]).toNat)])))
    (h2 : ¬ pos < l.length → O P true ops rest k (st.put o.dst (.tup [.p (.bool false)]))) : Af P true ops rest k o st .fail := by
  refine Af_sem fun c a w F M Q hr => ?_
  have hv := ev_sound hr it
  rw [hx] at hv
  generalize hvx : a.eval it = v at hv
  cases hv with
  | ptr _ _ hs =>
    obtain ⟨hnF, hblk⟩ := hr.heap.obj id _ hg
    unfold Oper.wp
    by_cases hlt : pos < l.length
    · have hlt' : pos < (⟨l.toArray⟩ : ByteArray).size := by rw [size_str]; exact hlt
      have hb : ((⟨l.toArray⟩ : ByteArray)[pos]'hlt') = l[pos] := by simp [ByteArray.getElem_eq_getElem_data]
      have hrun := Go.Lib.run_next_ascii_at (P := P) w (M id).blk ⟨l.toArray⟩ pos o.type hblk hlt' (by rw [hb]; exact ha _ (List.getElem_mem hlt))
      have hex : (execOp a.eval o).run P w = .ok (.value (.tuple #[.bool true, .int .i64 pos, .int .i32 (l[pos]).toNat])) (w.iterAt (M id).blk ⟨l.toArray⟩ (pos + 1)) := by
        simp only [execOp, ho, hvx]
        simp [hrun, hb]
      rw [hex]
      have hlt2 : (M id).blk < w.heap.size := (Array.getElem?_eq_some_iff.1 hblk).1
      have hget : ∀ j, get (setL st.hp id (.iter l (pos + 1))) j = if j = id then some (.iter l (pos + 1)) else get st.hp j := get_setL _ _ _
      have hsg := sgKeep_same hget hg rfl
      have hr' : Rel c { st with hp := setL st.hp id (.iter l (pos + 1)) } a (w.iterAt (M id).blk ⟨l.toArray⟩ (pos + 1)) F M := by
        refine hr.change (M' := M) hget (fun _ _ => rfl) (by rw [hsg]; exact SgKeep.refl _ _) rfl rfl rfl (by simp [World.iterAt]) (fun b hb hne => ?_) ⟨hnF, Go.Lib.iterAt_heap w _ _ _ _ hblk⟩ (fun b hb => .inl ⟨_, hg, hb⟩)
        have : b ≠ (M id).blk := hne _ hg
        simp [World.iterAt, Array.getElem?_setIfInBounds, Ne.symm this]
      refine ⟨_, _, _, h1 hlt, hr'.put ?_ o.dst⟩
      refine .tup _ _ rfl fun i d hd => ?_
      match i, hd with
      | 0, hd => simp only [List.getElem?_cons_zero, Option.some.injEq] at hd; subst hd; exact .p (.bool true)
      | 1, hd => simp only [List.getElem?_cons_succ, List.getElem?_cons_zero, Option.some.injEq] at hd; subst hd; exact .p (.int _ _)
      | 2, hd => simp only [List.getElem?_cons_succ, List.getElem?_cons_zero, Option.some.injEq] at hd; subst hd; exact .p (.int _ _)
      | i + 3, hd => simp at hd
    · have hrun := Go.Lib.run_next_end_at (P := P) w (M id).blk ⟨l.toArray⟩ pos o.type hblk (by rw [size_str]; exact hlt)
      have hex : (execOp a.eval o).run P w = .ok (.value (.tuple #[.bool false])) w := by
        simp only [execOp, ho, hvx]
        simp [hrun]
      rw [hex]
      refine ⟨_, _, _, h2 hlt, hr.put ?_ o.dst⟩
      refine .tup _ _ rfl fun i d hd => ?_
      match i, hd with
      | 0, hd => simp only [List.getElem?_cons_zero, Option.some.injEq] at hd; subst hd; exact .p (.bool false)
      | i + 1, hd => simp at hd
end
end Go.Am
namespace Go.Am
open Go
section
variable {P : Program} {ops rest : List Oper} {k : Kt} {st : St} {o : Oper}
end
end Go.Am
namespace Go.Am
open Go
theorem Wk.nilBox {st : St} {id j q sz : Nat} {cs : List D} {ty : TypeId} (e : TypeId) (hb : get st.hp id = some (.box cs ty)) (hj : cs[j]? = some (.cl [])) (hq : get st.hp q = none) (hs : 0 < sz) :
    Wk st ⟨st.env, (q, .arr e sz []) :: setL st.hp id (.box (cs.set j (.ref q 0 0 0)) ty), st.n⟩ := by
  intro c a w F M hr
  obtain ⟨hr1, h1⟩ := hr.newEmpty (e := e) hq hs
  have hne : id ≠ q := fun h => by subst h; rw [hq] at hb; cases hb
  have hb1 : get ((q, AO.arr e sz []) :: st.hp) id = some (.box cs ty) := by rw [get_cons, if_neg (Ne.symm hne)]; exact hb
  have hget : ∀ i, get ((q, AO.arr e sz []) :: setL st.hp id (.box (cs.set j (.ref q 0 0 0)) ty)) i = if i = id then some (.box (cs.set j (.ref q 0 0 0)) ty) else get ((q, AO.arr e sz []) :: st.hp) i := by
    intro i
    simp only [get_cons, get_setL]
    by_cases e1 : i = id
    · subst e1; simp [Ne.symm hne]
    · by_cases e2 : q = i
      · subst e2; simp [e1]
      · simp [e1, e2]
  have hsg := sgKeep_same hget hb1 rfl
  have hobj := hr1.heap.obj id _ hb1
  obtain ⟨hnF, row, t, hrow, hsz, hcells⟩ := hobj
  refine ⟨F, upM M q ⟨0, 0, []⟩, ?_⟩
  refine hr1.change (st := ⟨st.env, (q, AO.arr e sz []) :: st.hp, st.n⟩) hget (fun _ _ => rfl) (by rw [hsg]; exact SgKeep.refl _ _) rfl rfl rfl (Nat.le_refl _) (fun _ _ _ => rfl) ?_ (fun b hb => .inl ⟨_, hb1, hb⟩)
  refine ⟨hnF, row, t, hrow, by simpa using hsz, fun i d hd => ?_, fun h5 h6 i hi => ?_⟩
  rotate_left
  · refine hcells.2 h5 ?_ i ?_
    · obtain ⟨x, hx, hn⟩ := List.any_eq_true.1 h6
      rcases List.mem_or_eq_of_mem_set hx with h7 | rfl
      · exact List.any_eq_true.2 ⟨x, h7, hn⟩
      · cases hn
    · by_cases e1 : i = j
      · subst e1
        rw [List.getElem?_set_self (List.getElem?_eq_some_iff.1 hj).1] at hi
        cases hi
      · rwa [List.getElem?_set_ne (Ne.symm e1)] at hi
  rw [hsg]
  by_cases e1 : i = j
  · subst e1
    have hlt := (List.getElem?_eq_some_iff.1 hj).1
    rw [List.getElem?_set_self hlt] at hd
    cases hd
    have h2 := hcells.1 i _ hj
    refine ⟨?_, h2.2⟩
    have h3 := h2.1
    generalize row.getD i undef = v at h3
    cases h3 with | cl _ ad _ _ => exact h1 ad
  · rw [List.getElem?_set_ne (Ne.symm e1)] at hd
    exact hcells.1 i d hd
theorem Wk.pure {st : St} {t id sz : Nat} {e : TypeId} {es : List (List Pd)} (ht : get st.env t = some (.ref id 0 es.length es.length)) (ho : get st.hp id = some (.arr e sz es)) :
    Wk st ⟨(t, .p (.sl es)) :: st.env, setL st.hp id (.fro sz es), st.n⟩ := by
  intro c a w F M hr
  have hd := hr.env _ _ ht
  obtain ⟨x, h', F', ⟨rfl, rfl⟩, hr', hF, hs, hp⟩ := purD_sound hr hd (k := fun x h' => x = .sl es ∧ h' = setL st.hp id (.fro sz es)) (by simp [purD, ho, froze])
  refine ⟨F', M, ⟨fun j d hj => ?_, hr'.size, hr'.defers, hr'.heap, hr'.keep⟩⟩
  rw [get_cons] at hj
  split at hj
  · rename_i e1
    subst e1
    cases hj
    exact .p hp
  · exact hr'.env j d hj
attribute [go_sem] decB
theorem renL_mapp (ρ : Nat → Option Nat) (xs : List Pd) : renL ρ (xs.map D.p) = xs.map D.p := by
  induction xs with
  | nil => rfl
  | cons x r ih => simp [renL, D.ren, ih]
theorem X_any0 {P : Program} {l : List Oper} {id : Nat} {p : List (Nat × Nat)} {k : Kt} {st : St} (hm : P.follows .mixedOrders = true) (hB : planB l p = true) (hle : LeH st.hp st.hp) (h : G P l st.hp p k st) :
    X P (.region id l.toArray true) k st := X_any st.hp hm hB hle h
attribute [go_sem] renL_mapp List.length_map
end Go.Am
namespace Go.Am
open Go
section
variable {P : Program} {st : St} {x : Code} {k : Kt}
end
end Go.Am
namespace Go.Am
open Go
section
variable {P : Program} {ops rest : List Oper} {k : Kt} {st : St} {o : Oper}
theorem Af_str {s d e : TypeId} {x : Operand} {z0 z1 z2 : D} {n0 n1 n2 n3 b2 : Nat} {l : List UInt8} {id : Nat} {t : TypeId} (ho : o.op = .convert s d x) (hs : tiOf P s = some ⟨n0, n1, .slice e, z0⟩) (hd : tiOf P d = some ⟨n2, n3, .string, z1⟩) (he : tiOf P e = some ⟨1, b2, .int .u8, z2⟩)
    (hx : ev st x = .ref id 0 l.length l.length) (hg : get st.hp id = some (.arr t 1 (encB l))) (h : O P true ops rest k (st.put o.dst (.p (.str l)))) : Af P true ops rest k o st .fail := by
  refine Af_sem fun c a w F M Q hr => ?_
  obtain ⟨_, u1, _, _, hu1, _, e1⟩ := tiOf_some hs
  obtain ⟨_, u2, _, _, hu2, _, e2⟩ := tiOf_some hd
  obtain ⟨_, u3, _, _, hu3, _, e3⟩ := tiOf_some he
  simp only [TI.mk.injEq] at e1 e2 e3
  obtain rfl := TK.of_slice e1.2.2.1.symm
  obtain rfl := TK.of_string e2.2.2.1.symm
  obtain rfl := TK.of_int e3.2.2.1.symm
  have hv := ev_sound hr x
  rw [hx] at hv
  generalize hvx : a.eval x = v at hv
  have hlen : (encB l).length = l.length := by simp [encB]
  have hrun : (convert s d v).run P w = .ok (.string ⟨l.toArray⟩) w := by
    cases hv with
    | ref _ _ _ _ sz n _ hsg hN hv2 hok =>
      have hsn : sg st.hp id = some (.arr 1 l.length) := by simp [sg, hg, AO.sg, hlen]
      rw [hsn] at hsg
      simp only [Option.some.injEq, Sg.arr.injEq] at hsg
      obtain ⟨rfl, rfl⟩ := hsg
      obtain ⟨ad, cap, rfl, h1, h2, h3, h4⟩ := hok rfl
      obtain ⟨h5, h6, h7, h8, h9⟩ := hr.heap.obj id _ hg
      by_cases hc : cap = 0
      · have hl0 : l = [] := List.eq_nil_of_length_eq_zero (by omega)
        subst hl0
        cases ad with
        | none =>
          rw [run_convert_bytes_string w s d e none _ cap hu1 hu3 hu2]
          simp [Conv.bytesToString]
          rfl
        | some ad => exact run_convert_bytes_back w s d e ad cap [] hu1 hu3 hu2 (fun j hj => by simp at hj)
      · obtain rfl := h4.resolve_left hc
        obtain ⟨_, row, ⟨fr, hrow, _⟩, hsz, hcells⟩ := h9 (by omega)
        refine run_convert_bytes_back w s d e _ cap l hu1 hu3 hu2 fun j hj => ?_
        have hp := hcells j [.int .u8 (l[j]).toNat] 0 (.int .u8 (l[j]).toNat) (by simp [encB, hj]) rfl
        have hlt : j < row.size := by omega
        have hcell : w.cell? ((⟨(M id).blk, 0 * 1, none⟩ : Addr).add j) = row[j]? := by
          rw [Addr.add_lit]; simp [World.cell?, hrow]
        rw [hcell]
        simp only [Nat.mul_one, Nat.add_zero] at hp
        rw [Array.getD_eq_getD_getElem?, Array.getElem?_eq_getElem hlt] at hp
        rw [Array.getElem?_eq_getElem hlt]
        simp only [Option.getD_some] at hp
        generalize row[j] = y at hp
        cases hp
        rfl
  unfold Oper.wp
  have hex : (execOp a.eval o).run P w = .ok (.value (.string ⟨l.toArray⟩)) w := by
    simp only [execOp, ho, hvx]
    simp [hrun]
  rw [hex]
  exact ⟨_, _, _, h, hr.put (.p (.str l)) o.dst⟩
end
end Go.Am
namespace Go.Am
open Go
theorem get_app (h e : Hp) (j : Nat) : get (h ++ e) j = match get h j with | some o => some o | none => get e j := by
  induction h with
  | nil => rfl
  | cons x r ih =>
    obtain ⟨k, o⟩ := x
    simp only [List.cons_append, get_cons]
    split
    · rfl
    · exact ih
theorem ACalls.glob {P : Program} {f : FuncId} {args : List D} {h : Hp} {R : Hp → D → Prop} {id g : Nat} {cs : List Pd} (hc : ACalls P f args h R) (hid : base ≤ id) (hn : get h id = none)
    (hids : ((idsL args ++ hpIds h).all fun i => (get h i).isSome) = true) (hRn : ∀ h1 r, R h1 r → get h1 id = none) :
    ACalls P f args (h ++ [(id, .glob g cs)]) fun h' r => ∃ h1, R h1 r ∧ h' = h1 ++ [(id, .glob g cs)] := by
  intro vs w F M hHR hFl hsb hd
  have hget : ∀ j o, get h j = some o → get (h ++ [(id, AO.glob g cs)]) j = some o := fun j o ho => by rw [get_app, ho]
  have hgl : get (h ++ [(id, AO.glob g cs)]) id = some (.glob g cs) := by rw [get_app, hn]; simp [get_cons]
  have hpres : ∀ i, i ∈ idsL args ++ hpIds h → ∃ o, get h i = some o := fun i hi => Option.isSome_iff_exists.1 (List.all_eq_true.1 hids i hi)
  let ρ : Nat → Option Nat := fun i => if (get h i).isSome then some i else none
  have hρ : ∀ i j, ρ i = some j → sg (h ++ [(id, AO.glob g cs)]) i ≠ none → M j = M i ∧ sg h j = sg (h ++ [(id, AO.glob g cs)]) i := by
    intro i j hj _
    simp only [ρ] at hj
    split at hj
    · rename_i hs
      simp only [Option.some.injEq] at hj
      subst hj
      obtain ⟨o, ho⟩ := Option.isSome_iff_exists.1 hs
      exact ⟨rfl, by simp [sg, ho, hget _ _ ho]⟩
    · cases hj
  have hid' : ∀ i, (∃ o, get h i = some o) → ρ i = some i := fun i ⟨o, ho⟩ => by simp [ρ, ho]
  have hHR1 : HR F w M h := by
    constructor
    · intro i o ho
      have := (hHR.obj i o (hget i o ho)).ren (M' := M) hρ
      rwa [AO.ren_id (fun j hj => hid' j (hpres j (List.mem_append_right _ (hpIds_mem ho hj))))] at this
    · intro i o i' o' b ho ho' hown hown'
      exact hHR.inj i o i' o' b (hget _ _ ho) (hget _ _ ho') hown hown'
  have hd1 : DRl F w M (sg h) args vs.toList := by
    refine ⟨hd.1, fun i d hi => ?_⟩
    have := (hd.2 i d hi).ren (M' := M) hρ
    rwa [ren_id (fun j hj => hid' j (hpres j (List.mem_append_left _ ?_)))] at this
    clear this
    have hmem : ∀ (l : List D) (i : Nat), l[i]? = some d → j ∈ idsL l := by
      intro l
      induction l with
      | nil => intro i hi; simp at hi
      | cons x r ih =>
        intro i hi
        simp only [idsL, List.mem_append]
        cases i with
        | zero => simp only [List.getElem?_cons_zero, Option.some.injEq] at hi; subst hi; exact .inl hj
        | succ i => exact .inr (ih i (by simpa using hi))
    exact hmem args i hi
  have hownA : ∀ b, Owned M (h ++ [(id, AO.glob g cs)]) b ↔ Owned M h b := by
    intro b
    constructor
    · rintro ⟨i, o, ho, hown⟩
      rw [get_app] at ho
      cases hg : get h i with
      | some o2 => rw [hg] at ho; cases ho; exact ⟨i, _, hg, hown⟩
      | none =>
        rw [hg] at ho
        simp only [get_cons] at ho
        split at ho
        · cases ho; exact hown.elim
        · simp [get] at ho
    · rintro ⟨i, o, ho, hown⟩
      exact ⟨i, o, hget _ _ ho, hown⟩
  refine (hc vs w F M hHR1 hFl (fun i hi => hsb i (by
    unfold sg at hi ⊢
    cases hg : get h i with
    | none => rw [hg] at hi; exact (hi rfl).elim
    | some o => rw [hget _ _ hg]; simp)) hd1).mono ?_
  rintro e w' ⟨v, h1, r, F', M', rfl, hR, hHR', hDR', hK⟩
  have hn1 := hRn h1 r hR
  have hkeepF : ∀ b, F b → w'.heap[b]? = w.heap[b]? := fun b hb => hK.old b (hFl b hb) (fun ho => hHR1.notF ho hb)
  let M2 : Nat → Mb := fun i => if i = id then M id else M' i
  have hM2 : ∀ i, i ≠ id → M2 i = M' i := fun i hi => by simp [M2, hi]
  have hne : ∀ i o, get h1 i = some o → i ≠ id := fun i o ho e => by subst e; rw [hn1] at ho; cases ho
  have hget1 : ∀ j o, get h1 j = some o → get (h1 ++ [(id, AO.glob g cs)]) j = some o := fun j o ho => by rw [get_app, ho]
  have hgl1 : get (h1 ++ [(id, AO.glob g cs)]) id = some (.glob g cs) := by rw [get_app, hn1]; simp [get_cons]
  have hinv1 : ∀ j o, get (h1 ++ [(id, AO.glob g cs)]) j = some o → get h1 j = some o ∨ (j = id ∧ o = .glob g cs) := by
    intro j o ho
    rw [get_app] at ho
    cases hg : get h1 j with
    | some o2 => rw [hg] at ho; exact .inl ho
    | none =>
      rw [hg] at ho
      simp only [get_cons] at ho
      split at ho
      · rename_i e; cases ho; exact .inr ⟨e.symm, rfl⟩
      · simp [get] at ho
  have hsg1 : ∀ i s, sg h1 i = some s → sg (h1 ++ [(id, AO.glob g cs)]) i = some s ∧ M2 i = M' i := by
    intro i s hs
    unfold sg at hs ⊢
    cases hg : get h1 i with
    | none => rw [hg] at hs; cases hs
    | some o => rw [hg] at hs; rw [hget1 _ _ hg]; exact ⟨hs, hM2 i (hne i o hg)⟩
  have hsk1 : SgKeep M' M2 (sg h1) (sg (h1 ++ [(id, AO.glob g cs)])) :=
    ⟨fun i hi => ⟨(hsg1 i _ hi).1, by rw [(hsg1 i _ hi).2]⟩, fun i sz n hi => ⟨n, (hsg1 i _ hi).1, Nat.le_refl _, fun _ => (hsg1 i _ hi).2⟩, fun i sz n kk hi => ⟨n, kk, (hsg1 i _ hi).1, Nat.le_refl _, Nat.le_refl _, fun _ => by rw [(hsg1 i _ hi).2]; exact ⟨rfl, rfl⟩, fun _ => by rw [(hsg1 i _ hi).2]⟩⟩
  refine ⟨v, h1 ++ [(id, .glob g cs)], r, F', M2, rfl, ⟨h1, hR, rfl⟩, ⟨fun j o ho => ?_, fun i o i' o' b ho ho' hown hown' => ?_⟩, hDR'.keep (fun _ _ => rfl) (fun _ h => h) hsk1, ?_⟩
  · rcases hinv1 j o ho with h2 | ⟨rfl, rfl⟩
    · have h3 := hHR'.obj j o h2
      rw [hM2 j (hne j o h2)]
      exact h3.keep (fun _ _ => rfl) (fun _ h => h) hsk1 (fun b hown => ⟨rfl, hHR'.notF ⟨j, o, h2, hown⟩⟩)
    · obtain ⟨h4, row, t, fr, h5, h7, h6⟩ := hHR.obj j _ hgl
      exact ⟨hK.F0 _ h4, row, t, fr, by rw [hkeepF _ h4]; exact h5, h7, fun q c hq => (h6 q c hq).keep hkeepF hK.F0⟩
  · rcases hinv1 i o ho with h2 | ⟨rfl, rfl⟩
    · rcases hinv1 i' o' ho' with h3 | ⟨rfl, rfl⟩
      · rw [hM2 i (hne i o h2)] at hown
        rw [hM2 i' (hne i' o' h3)] at hown'
        exact hHR'.inj i o i' o' b h2 h3 hown hown'
      · exact hown'.elim
    · exact hown.elim
  · refine ⟨hK.os, hK.tape, hK.output, hK.size, fun b hb hO => hK.old b hb (fun h2 => hO ((hownA b).2 h2)), hK.F0, fun b hb => ?_, hK.Fl, ?_, ?_, hsb⟩
    · rcases hK.Fn b hb with h2 | h2 | h2
      · exact .inl h2
      · exact .inr (.inl ((hownA b).2 h2))
      · exact .inr (.inr h2)
    · rintro b ⟨i, o, ho, hown⟩
      rcases hinv1 i o ho with h2 | ⟨rfl, rfl⟩
      · rw [hM2 i (hne i o h2)] at hown
        rcases hK.own _ ⟨i, o, h2, hown⟩ with h3 | h3
        · exact .inl ((hownA _).2 h3)
        · exact .inr h3
      · exact hown.elim
    · have hsk := hK.sgk
      refine ⟨fun i hi => ?_, fun i sz n hi => ?_, fun i sz n kk hi => ?_⟩
      · by_cases e : i = id
        · subst e; exact ⟨by simp [sg, hgl1, AO.sg], by simp [M2]⟩
        · have hi2 : sg (h ++ [(id, AO.glob g cs)]) i = some .box := hi
          have hi' : sg h i = some .box := by
            clear hi
            unfold sg at hi2 ⊢
            rw [get_app] at hi2
            cases hg : get h i with
            | some o => rw [hg] at hi2; exact hi2
            | none => rw [hg] at hi2; simp [get_cons, get, Ne.symm e] at hi2
          obtain ⟨h2, h3⟩ := hsk.1 i hi'
          exact ⟨(hsg1 i _ h2).1, by rw [(hsg1 i _ h2).2]; exact h3⟩
      · have e : i ≠ id := by rintro rfl; simp [sg, hgl, AO.sg] at hi
        have hi2 : sg (h ++ [(id, AO.glob g cs)]) i = some (.arr sz n) := hi
        have hi' : sg h i = some (.arr sz n) := by
          clear hi
          unfold sg at hi2 ⊢
          rw [get_app] at hi2
          cases hg : get h i with
          | some o => rw [hg] at hi2; exact hi2
          | none => rw [hg] at hi2; simp [get_cons, get, Ne.symm e] at hi2
        obtain ⟨n', h2, h3, h4⟩ := hsk.2.1 i sz n hi'
        exact ⟨n', (hsg1 i _ h2).1, h3, fun e2 => by rw [(hsg1 i _ h2).2]; exact h4 e2⟩
      · have e : i ≠ id := by rintro rfl; simp [sg, hgl, AO.sg] at hi
        have hi2 : sg (h ++ [(id, AO.glob g cs)]) i = some (.nst sz n kk) := hi
        have hi' : sg h i = some (.nst sz n kk) := by
          clear hi
          unfold sg at hi2 ⊢
          rw [get_app] at hi2
          cases hg : get h i with
          | some o => rw [hg] at hi2; exact hi2
          | none => rw [hg] at hi2; simp [get_cons, get, Ne.symm e] at hi2
        obtain ⟨n', k', h2, h3, h3', h4, h4'⟩ := hsk.2.2 i sz n kk hi'
        exact ⟨n', k', (hsg1 i _ h2).1, h3, h3', fun e2 => by rw [(hsg1 i _ h2).2]; exact h4 e2, fun e2 => by rw [(hsg1 i _ h2).2]; exact h4' e2⟩
end Go.Am
namespace Go.Am
open Go Go.ChangeShapes Go.RowKit
section
variable {P : Program} {w : World} {F : Nat → Prop} {M : Nat → Mb} {s : Nat → Option Sg} {m : Mb}
end
section
variable {H : Type} {enc : TypeId × Value → H} {P : Program} {W : World}
end
end Go.Am
namespace Go.Am
open Go Go.ChangeShapes Go.RowKit
section
variable {P : Program}
end
end Go.Am
namespace Go.Am
open Go Go.ChangeShapes Go.RowKit
def aggB (P : Program) (t : TypeId) : Bool := match P.underlying t with
  | some (.struct _) => true
  | some (.array _ _) => true
  | _ => false
def argT {H : Type} (P : Program) (t : TypeId) (d : DataW H) : D := if aggB P t then .agg ((flatD d).map .p) else argD d
section
variable {H : Type} {enc : TypeId × Value → H} {P : Program} {W : World}
theorem argT_sound {t : TypeId} {v : Value} {d : DataW H} {ps : List MemPlace} {sp : Nat → Bool} {M : Nat → Mb} {s : Nat → Option Sg} (ht : plainB P 30 t = true) {bs : Nat} (hok : Value.okWide P W .any bs t v)
    (h : DataW.Trod enc P W 0 sp true t v d ps) : DR (fun b => b < W.heap.size) W M s (argT P t d) v := by
  unfold argT
  split
  · rename_i ha
    obtain ⟨fuel, hf⟩ := h
    have h1 := trodP (F := fun b => b < W.heap.size) (fun _ h => h) 30 t ht _ _ _ hf
    obtain ⟨cs, rfl⟩ : ∃ cs, v = .agg cs := by
      unfold aggB at ha
      unfold Value.okWide Cell.okWide Cell.ok at hok
      cases hu : P.underlying t with
      | none => rw [hu] at ha; cases ha
      | some u =>
        rw [hu] at ha hok
        cases u <;> simp at ha
        all_goals
          cases v with
          | agg cs => exact ⟨cs, rfl⟩
          | _ => simp at hok
    refine .agg _ cs (by simpa [Value.cells] using h1.1.symm) fun i c hc => ?_
    rw [List.getElem?_map] at hc
    cases hx : (flatD d)[i]? with
    | none => rw [hx] at hc; cases hc
    | some x =>
      rw [hx] at hc
      cases hc
      have := h1.2 i x hx
      simp only [Value.cells] at this
      rw [List.getD_eq_getElem?_getD, Array.getElem?_toList] at this
      rw [Array.getD_eq_getD_getElem?]
      exact .p this
  · rename_i ha
    refine arg_sound ?_ hok h
    unfold topB
    unfold aggB at ha
    rw [ht, Bool.true_and]
    split <;> simp_all
theorem argsT_sound {bs : Nat} {sp : Nat → Bool} {M : Nat → Mb} {s : Nat → Option Sg} : ∀ {ts : List TypeId} {vs : List Value} {ds : List (DataW H)} {ps : List MemPlace}, (ts.all (plainB P 30)) = true →
    (∀ (j : Nat) t v, ts[j]? = some t → vs[j]? = some v → Value.okWide P W .any bs t v) → DataW.TrodAll enc P W 0 sp true ts vs ds ps → DRl (fun b => b < W.heap.size) W M s (List.zipWith (argT P) ts ds) vs
  | [], vs, ds, ps, _, _, h => by
    obtain ⟨rfl, rfl, _⟩ := trodAll_nil h
    exact ⟨rfl, fun i d hd => by simp at hd⟩
  | t :: ts, vs, ds, ps, ht, hok, h => by
    obtain ⟨v, vs', d, ds', p, q, rfl, rfl, _, h1, h2⟩ := trodAll_cons h
    simp only [List.all_cons, Bool.and_eq_true] at ht
    have h3 := argT_sound (M := M) (s := s) ht.1 (hok 0 t v rfl rfl) h1
    have h4 := argsT_sound (M := M) (s := s) ht.2 (fun j t v h5 h6 => hok (j + 1) t v (by simpa using h5) (by simpa using h6)) h2
    refine ⟨by simp only [List.zipWith_cons_cons, List.length_cons, h4.1], fun i x hx => ?_⟩
    cases i with
    | zero => simp only [List.zipWith_cons_cons, List.getElem?_cons_zero, Option.some.injEq] at hx; subst hx; simpa [List.getD] using h3
    | succ i => simp only [List.zipWith_cons_cons, List.getElem?_cons_succ] at hx; simpa [List.getD] using h4.2 i x hx
theorem argsT_back {W' : World} {sp : Nat → Bool} (hW : ∀ b, b < W.heap.size → W'.heap[b]? = W.heap[b]?) : ∀ {ts : List TypeId} {vs : List Value} {ds : List (DataW H)} {ps : List MemPlace}, (ts.all (plainB P 30)) = true →
    DataW.TrodAll enc P W 0 (fun _ => true) true ts vs ds ps → (∀ p ∈ ps, sp p.block = true) → (∀ p ∈ ps, p.block < W.heap.size) → DataW.TrodAll enc P W' 0 sp true ts vs ds ps
  | [], vs, ds, ps, _, h, _, _ => by
    obtain ⟨rfl, rfl, rfl⟩ := trodAll_nil h
    exact trodAll_mk0
  | t :: ts, vs, ds, ps, ht, h, hsp, hlt => by
    obtain ⟨v, vs', d, ds', p, q, rfl, rfl, rfl, ⟨n, h1⟩, h2⟩ := trodAll_cons h
    simp only [List.all_cons, Bool.and_eq_true] at ht
    have h3 := trodSp 30 t ht.1 n _ _ h1 (sp := sp) (fun p hp => hsp p (by simp [hp]))
    have h4 := DataW.trod_carry n t _ _ h3 (w' := W') (fun p hp => by
      have := hW p.block (hlt p (by simp [hp]))
      cases p with
      | cell b o => simp only [MemPlace.block] at this; simp [World.sameAt, World.cell?, this]
      | map b => exact this)
    exact trodAll_cons_mk ⟨n, h4⟩ (argsT_back hW ht.2 h2 (fun p hp => hsp p (by simp [hp])) (fun p hp => hlt p (by simp [hp])))
theorem topsT_wt {held : Bool} {W : World} {sp : Nat → Bool} : ∀ {ts : List TypeId} {vs : List Value} {ds : List (DataW H)} {ps : List MemPlace}, (ts.all (plainB P 30)) = true → DataW.TrodAll enc P W 0 sp held ts vs ds ps →
    ds.length = ts.length ∧ ∀ (i : Nat) t d, ts[i]? = some t → ds[i]? = some d → wtP P 30 t (flatD d)
  | [], vs, ds, ps, _, h => by
    obtain ⟨rfl, rfl, _⟩ := trodAll_nil h
    exact ⟨rfl, fun i t d h => by simp at h⟩
  | t :: ts, vs, ds, ps, ht, h => by
    obtain ⟨v, vs', d, ds', p, q, rfl, rfl, _, ⟨n, h1⟩, h2⟩ := trodAll_cons h
    simp only [List.all_cons, Bool.and_eq_true] at ht
    obtain ⟨h3, h4⟩ := topsT_wt ht.2 h2
    refine ⟨by simp [h3], fun i t' d' hi hd => ?_⟩
    cases i with
    | zero => simp only [List.getElem?_cons_zero, Option.some.injEq] at hi hd; subst hi hd; exact trod_wt 30 _ ht.1 _ _ _ h1
    | succ i => simp only [List.getElem?_cons_succ] at hi hd; exact h4 i t' d' hi hd
theorem get_mem {α : Type} : ∀ {h : List (Nat × α)} {i : Nat} {o : α}, get h i = some o → (i, o) ∈ h
  | [], i, o, h => by simp [get] at h
  | (k, x) :: r, i, o, h => by
    simp only [get] at h
    split at h
    · rename_i e; cases h; subst e; simp
    · exact List.mem_cons_of_mem _ (get_mem h)
theorem law_callsT {bs : Nat} {f : FuncId} {fn : Func} {s : ChangeSpec} {args : Array Value} {ds gs : List (DataW H)} {before : List MemPlace} {tb : TypeId} (tabs : List (Nat × List Pd))
    (hval : ∀ (j : Nat) t v, fn.params[j]? = some t → args[j]? = some v → Value.okWide P W .any bs t v)
    (hW : DataW.Whole enc P fn.params.toList s.vars false W args.toList ds gs before) (hv : s.vars = [])
    (ht : fn.params.toList.all (plainB P 30) = true) (hres : fn.resultTypes = #[tb]) (htb : P.underlying tb = some .bool)
    (hs : s.fn H ds = { results := [.lit (.bool true)], args := ds })
    (hent : Enters P f) (hgl : ∀ x ∈ tabs, ∀ (M : Nat → Mb) s m, ObjR (fun b => b < W.heap.size) W M s m (.glob x.1 x.2)) (h : Hp) (hh : h = tabs.mapIdx fun i x => (base + i, AO.glob x.1 x.2))
    (hc : ACalls P f (List.zipWith (argT P) fn.params.toList ds) h fun h' r => r = .p (.bool true)) :
    Calls P f args W fun e W' => ∃ v, e = .returned v ∧ s.post enc P fn false true false false W args v W' := by
  have hW0 := hW
  obtain ⟨p, q, hA, hV, rfl, hfz, hnd⟩ := hW
  rw [hv] at hV
  obtain ⟨rfl, rfl⟩ := trodVars_none hV
  have hlt : ∀ x ∈ p, x.block < W.heap.size := fun x hx => hW0.lt x (by simp [hx])
  have hget : ∀ i o, get h i = some o → base ≤ i ∧ ∃ x ∈ tabs, o = .glob x.1 x.2 := by
    intro i o h1
    have h2 := get_mem h1
    rw [hh, List.mem_mapIdx] at h2
    obtain ⟨j, hj, e⟩ := h2
    simp only [Prod.mk.injEq] at e
    obtain ⟨rfl, rfl⟩ := e
    exact ⟨Nat.le_add_right _ _, _, List.getElem_mem _, rfl⟩
  have hno : ∀ (M : Nat → Mb) b, ¬ Owned M h b := by
    rintro M b ⟨i, o, h1, h2⟩
    obtain ⟨_, x, _, rfl⟩ := hget i o h1
    exact h2
  have hruns := (hc args W (fun b => b < W.heap.size) (fun _ => ⟨0, 0, []⟩) ⟨fun id o h => by obtain ⟨_, x, hx, rfl⟩ := hget id o h; exact hgl x hx _ _ _, fun id o id' o' b h _ h2 => by obtain ⟨_, x, _, rfl⟩ := hget id o h; exact h2.elim⟩ (fun _ h => h)
    (fun id h1 => by
      unfold sg at h1
      cases h2 : get h id with
      | none => rw [h2] at h1; exact (h1 rfl).elim
      | some o => exact (hget id o h2).1)
    (argsT_sound ht (fun j t v h1 h2 => hval j t v (by simpa using h1) (by simpa using h2)) hA))
  have hcalls := hruns.resolve_right (fun ⟨v, w', h1, _⟩ => by rw [hent] at h1; cases h1)
  refine hcalls.2.mono ?_
  rintro e W' ⟨v, h', r, F', M', rfl, rfl, _, hd, hk⟩
  obtain rfl : v = .bool true := by cases hd with | p hd => cases hd; rfl
  have hold : ∀ b, b < W.heap.size → W'.heap[b]? = W.heap[b]? := fun b hb => hk.old b hb (hno _ b)
  refine ⟨_, rfl, ds, [], p ++ [], [], p, [], by simpa using hW0, ?_, ?_, ?_, keptBut_old hk.os hk.output hold _, fun h => by cases h⟩
  · rw [List.append_nil, hs, hres]
    exact trodAll_cons_mk (shut_bool htb _) trodAll_mk0
  · rw [List.append_nil, hs]
    exact argsT_back hold ht hA (fun x hx => by simpa using hlt x hx) hlt
  · rw [List.append_nil, hs, hv]
    rfl
end
end Go.Am
namespace Go.Am
open Go
section
variable {P : Program} {c : Ctx} {st : St} {a : Act} {w w' : World} {F : Nat → Prop} {M : Nat → Mb} {s : Nat → Option Sg}
end
end Go.Am
namespace Go.Am
open Go
section
variable {P : Program} {ops rest : List Oper} {k : Kt} {st : St} {o : Oper}
theorem Af_maplen {c : Call} {x : Operand} {id t : Nat} {l : List (Pd × Pd)} {kk : KK} {z : Pd} (ho : o.op = .call c) (hc : c.callee = .builtin .len) (ha : c.args = #[x]) (ht : c.argTypes = #[t])
    (hm : mapOf P t = some (kk, z)) (hx : ev st x = .mv id) (hg : get st.hp id = some (.mp l)) (h : O P true ops rest k (st.put o.dst (.p (.int .i64 (l.length : Nat))))) : Af P true ops rest k o st .fail := by
  refine Af_sem fun ct a w F M Q hr => ?_
  obtain ⟨kt, e, d, ii, zv, hu, hk, hd, hi2, hz, rfl, hzf⟩ := mapOf_some hm
  obtain ⟨hnF, ⟨es, clock, hb, hes⟩, hfl⟩ := hr.heap.obj id _ hg
  have hv := ev_sound hr x
  rw [hx] at hv
  generalize hvx : a.eval x = v at hv
  cases hv with
  | mv _ hs =>
    have hlen : es.size = l.length := by have := congrArg List.length hes; simpa using this
    unfold Oper.wp
    have hex : (execOp a.eval o).run P w = .ok (.value (.int .i64 (l.length : Nat))) w := by
      simp [execOp, ho, hc, ha, ht, hvx, resolve, invoke, builtin, Builtin.len_, run_underlying hu, MapKept.run_getObj_map hb, Result.andThen, goInt, hlen]
    rw [hex]
    exact ⟨_, F, M, h, hr.put (.p (.int _ _)) o.dst⟩
def mdel (k : Pd) : List (Pd × Pd) → List (Pd × Pd)
  | [] => []
  | (k', v') :: r => if Pd.same k k' = some true then r else (k', v') :: mdel k r
theorem mdel_find {kk : KK} {key : Pd} {d : TypeDesc} (hd : match kk with | .int x => d = .int x | .str => d = .string) (hf : kk.fit key = true) :
    ∀ (es : List MapEntry) (l : List (Pd × Pd)) (n : Nat), es.map (fun e => (e.key, e.val)) = l.map (fun p => (p.1.val, p.2.val)) → mfit key l →
      (∃ v i, Instr.findNow d key.val es n = some (some (n + i, v)) ∧ (es.eraseIdx i).map (fun e => (e.key, e.val)) = (mdel key l).map (fun p => (p.1.val, p.2.val))) ∨
      (Instr.findNow d key.val es n = some none ∧ mdel key l = l)
  | [], [], n, _, _ => .inr ⟨rfl, rfl⟩
  | [], _ :: _, n, h, _ => by simp at h
  | _ :: _, [], n, h, _ => by simp at h
  | e :: es, (q, v) :: l, n, h, hm => by
    simp only [List.map_cons, List.cons.injEq, Prod.mk.injEq] at h
    obtain ⟨⟨h1, h2⟩, h3⟩ := h
    unfold mfit mfind at hm
    cases hs : Pd.same key q with
    | none => rw [hs] at hm; simp at hm
    | some b =>
      have hn := Pd.same_sound hd hf hs
      cases b with
      | true => exact .inl ⟨e.val, 0, by simp [Instr.findNow, h1, hn], by simp [mdel, hs, h3]⟩
      | false =>
        rw [hs] at hm
        rcases mdel_find hd hf es l (n + 1) h3 hm with ⟨v', i, g1, g2⟩ | ⟨g1, g2⟩
        · refine .inl ⟨v', i + 1, ?_, by simp [mdel, hs, h1, h2, g2]⟩
          simp only [Instr.findNow, h1, hn, g1]; congr 3; omega
        · exact .inr ⟨by simp only [Instr.findNow, h1, hn, g1], by simp [mdel, hs, g2]⟩
theorem Af_mapdel {c : Call} {x y : Operand} {id t t2 : Nat} {l : List (Pd × Pd)} {kk : KK} {z key : Pd} (ho : o.op = .call c) (hc : c.callee = .builtin .delete) (ha : c.args = #[x, y]) (ht : c.argTypes = #[t, t2])
    (hm : mapOf P t = some (kk, z)) (hx : ev st x = .mv id) (hy : ev st y = .p key) (hf : kk.fit key = true) (hg : get st.hp id = some (.mp l)) (hft : mfit key l)
    (h : O P true ops rest k (({ st with hp := setL st.hp id (.mp (mdel key l)) } : St).put o.dst (.tup []))) : Af P true ops rest k o st .fail := by
  refine Af_sem fun ct a w F M Q hr => ?_
  obtain ⟨kt, e, d, ii, zv, hu, hk, hd, hi2, hz, rfl, hzf⟩ := mapOf_some hm
  obtain ⟨hnF, ⟨es, clock, hb, hes⟩, hfl⟩ := hr.heap.obj id _ hg
  have hv := ev_sound hr x
  rw [hx] at hv
  generalize hvx : a.eval x = v at hv
  have hv2 := ev_sound hr y
  rw [hy] at hv2
  generalize hvy : a.eval y = v2 at hv2
  have hget : ∀ j, get (setL st.hp id (.mp (mdel key l))) j = if j = id then some (.mp (mdel key l)) else get st.hp j := get_setL _ _ _
  have hsg := sgKeep_same hget hg rfl
  cases hv with
  | mv _ hs =>
    cases hv2 with
    | p hi =>
      have hvi : v2 = key.val := by cases hi <;> first | rfl | (cases kk <;> simp [KK.fit] at hf)
      subst hvi
      have hck : ∀ b, (Instr.checkKey b 10000 kt key.val).run P w = .ok () w := fun b => MapKept.run_checkKey hk (isKey_fit hd hf) b 9999
      have hfl2 : ∀ p ∈ mdel key l, p.2.flat = true := by
        clear hget hsg hes hg hft h
        induction l with
        | nil => intro p hp; simp [mdel] at hp
        | cons q r ih =>
          intro p hp
          simp only [mdel] at hp
          split at hp
          · exact hfl p (by simp [hp])
          · rcases List.mem_cons.1 hp with rfl | hp
            · exact hfl _ (by simp)
            · exact ih (fun p hp => hfl p (by simp [hp])) p hp
      have hch : ∀ (es' : Array MapEntry), es'.toList.map (fun e => (e.key, e.val)) = (mdel key l).map (fun p => (p.1.val, p.2.val)) →
          Rel ct { st with hp := setL st.hp id (.mp (mdel key l)) } a { w with heap := w.heap.setIfInBounds (M id).blk (.map es' clock) } F M := by
        intro es' h1
        have hset := MapKept.heap_set (o' := .map es' clock) hb
        refine hr.change (M' := M) hget (fun _ _ => rfl) (by rw [hsg]; exact SgKeep.refl _ _) rfl rfl rfl (by simp) (fun b hb2 hne => hset.2 b (hne _ hg)) ⟨hnF, ⟨es', clock, hset.1, h1⟩, hfl2⟩ (fun b hb2 => .inl ⟨_, hg, hb2⟩)
      unfold Oper.wp
      rcases mdel_find hd hf es.toList l 0 hes hft with ⟨v', i, g1, g2⟩ | ⟨g1, g2⟩
      · have hex : (execOp a.eval o).run P w = .ok (.value (.tuple #[])) { w with heap := w.heap.setIfInBounds (M id).blk (.map (es.eraseIdxIfInBounds i) clock) } := by
          simp [execOp, ho, hc, ha, ht, hvx, hvy, resolve, invoke, builtin, Builtin.delete_, run_underlying hu, MapKept.run_getObj_map hb, hck, MapKept.run_findKey hk g1, Result.andThen, MapKept.run_setObj_map _ hb]
        rw [hex]
        exact ⟨_, F, M, h, (hch _ (by rw [Array.toList_eraseIdxIfInBounds]; exact g2)).put (.tup [] #[] rfl (fun i d hd => by simp at hd)) o.dst⟩
      · have hex : (execOp a.eval o).run P w = .ok (.value (.tuple #[])) { w with heap := w.heap.setIfInBounds (M id).blk (.map es clock) } := by
          simp [execOp, ho, hc, ha, ht, hvx, hvy, resolve, invoke, builtin, Builtin.delete_, run_underlying hu, MapKept.run_getObj_map hb, hck, MapKept.run_findKey hk g1, Result.andThen, MapKept.run_setObj_map _ hb]
        rw [hex]
        exact ⟨_, F, M, h, (hch _ (by rw [g2]; exact hes)).put (.tup [] #[] rfl (fun i d hd => by simp at hd)) o.dst⟩
end
def mpS (m : List (List UInt8 × Int)) : List (Pd × Pd) := m.map fun p => (.str p.1, .int .i64 p.2)
def getS (m : List (List UInt8 × Int)) (k : List UInt8) : Option Int := (m.find? fun p => p.1 == k).map (·.2)
def putS (m : List (List UInt8 × Int)) (k : List UInt8) (v : Int) : List (List UInt8 × Int) := match m with
  | [] => [(k, v)]
  | p :: r => if p.1 = k then (k, v) :: r else p :: putS r k v
theorem mfind_S (k : List UInt8) : ∀ m, mfind (.str k) (mpS m) = some ((getS m k).map (.int .i64))
  | [] => rfl
  | p :: r => by
    have ih := mfind_S k r
    simp only [mpS, List.map_cons, mfind, Pd.same, getS, List.find?_cons] at ih ⊢
    by_cases h : p.1 = k
    · simp [h]
    · have h1 : (k == p.1) = false := by simpa using Ne.symm h
      have h2 : (p.1 == k) = false := by simpa using h
      rw [h1, h2]; exact ih
theorem mfit_S (k : List UInt8) (m) : mfit (.str k) (mpS m) := by unfold mfit; rw [mfind_S]; rfl
theorem mget_S (k : List UInt8) (m) : mget (.str k) (mpS m) = (getS m k).map (.int .i64) := by unfold mget; rw [mfind_S]; rfl
theorem mset_S (k : List UInt8) (v : Int) : ∀ m, mset (.str k) (.int .i64 v) (mpS m) = mpS (putS m k v)
  | [] => rfl
  | p :: r => by
    have ih := mset_S k v r
    simp only [mpS] at ih
    simp only [mpS, List.map_cons, mset, Pd.same, putS]
    by_cases h : p.1 = k
    · simp [h]
    · have h1 : (k == p.1) = false := by simpa using Ne.symm h
      simp [h1, h, ih]
theorem look_S (m) (k : List UInt8) (z : Int) (ok : Bool) : lookD (.int .i64 z) ok ((getS m k).map (.int .i64)) = if ok then .tup [.p (.int .i64 ((getS m k).getD z)), .p (.bool (getS m k).isSome)] else .p (.int .i64 ((getS m k).getD z)) := by
  unfold lookD
  cases getS m k <;> rfl
theorem mpS_len (m) : (mpS m).length = m.length := by simp [mpS]
theorem mpS_nil : mpS [] = [] := rfl
def mpB (m : List (Int × Bool)) : List (Pd × Pd) := m.map fun p => (.int .i64 p.1, .bool p.2)
def getB (m : List (Int × Bool)) (k : Int) : Option Bool := (m.find? fun p => p.1 == k).map (·.2)
def putB (m : List (Int × Bool)) (k : Int) (v : Bool) : List (Int × Bool) := match m with
  | [] => [(k, v)]
  | p :: r => if p.1 = k then (k, v) :: r else p :: putB r k v
def delB (m : List (Int × Bool)) (k : Int) : List (Int × Bool) := match m with
  | [] => []
  | p :: r => if p.1 = k then r else p :: delB r k
theorem mfind_B (k : Int) : ∀ m, mfind (.int .i64 k) (mpB m) = some ((getB m k).map .bool)
  | [] => rfl
  | p :: r => by
    have ih := mfind_B k r
    simp only [mpB, List.map_cons, mfind, Pd.same, getB, List.find?_cons] at ih ⊢
    by_cases h : p.1 = k
    · simp [h]
    · have h1 : (k == p.1) = false := by simpa using Ne.symm h
      have h2 : (p.1 == k) = false := by simpa using h
      simp only [h1, h2, if_true]; exact ih
theorem mfit_B (k : Int) (m) : mfit (.int .i64 k) (mpB m) := by unfold mfit; rw [mfind_B]; rfl
theorem mget_B (k : Int) (m) : mget (.int .i64 k) (mpB m) = (getB m k).map .bool := by unfold mget; rw [mfind_B]; rfl
theorem mset_B (k : Int) (v : Bool) : ∀ m, mset (.int .i64 k) (.bool v) (mpB m) = mpB (putB m k v)
  | [] => rfl
  | p :: r => by
    have ih := mset_B k v r
    simp only [mpB] at ih
    simp only [mpB, List.map_cons, mset, Pd.same, putB]
    by_cases h : p.1 = k
    · simp [h]
    · have h1 : (k == p.1) = false := by simpa using Ne.symm h
      simp [h1, h, ih]
theorem mdel_B (k : Int) : ∀ m, mdel (.int .i64 k) (mpB m) = mpB (delB m k)
  | [] => rfl
  | p :: r => by
    have ih := mdel_B k r
    simp only [mpB] at ih
    simp only [mpB, List.map_cons, mdel, Pd.same, delB]
    by_cases h : p.1 = k
    · simp [h]
    · have h1 : (k == p.1) = false := by simpa using Ne.symm h
      simp [h1, h, ih]
theorem look_B (m) (k : Int) (z : Bool) (ok : Bool) : lookD (.bool z) ok ((getB m k).map .bool) = if ok then .tup [.p (.bool ((getB m k).getD z)), .p (.bool (getB m k).isSome)] else .p (.bool ((getB m k).getD z)) := by
  unfold lookD
  cases getB m k <;> rfl
theorem mpB_len (m) : (mpB m).length = m.length := by simp [mpB]
theorem mpB_nil : mpB [] = [] := rfl
attribute [go_sem] lookupR mapUpR KK.fit Pd.flat mfit_S mget_S mset_S look_S mpS_len mfit_B mget_B mset_B mdel_B look_B mpB_len
end Go.Am
namespace Go.Am
open Go
def PureD (r : D) : Prop := r = .tup [] ∨ ∃ y, r = .p y
theorem PureD.dr {F : Nat → Prop} {w : World} {M M' : Nat → Mb} {s s' : Nat → Option Sg} {r : D} {v : Value} (h : PureD r) (hd : DR F w M s r v) : DR F w M' s' r v := by
  rcases h with rfl | ⟨y, rfl⟩
  · cases hd with | tup _ vs hl hc => exact .tup [] vs hl (fun i c hi => by simp at hi)
  · cases hd with | p hx => exact .p hx
theorem ACalls_row {P : Program} {f : FuncId} {ps : List Pd} {t e : TypeId} {sz k i n : Nat} {rows : List (List (List Pd))} {es : List (List Pd)} {R : Hp → D → Prop} {R' : List (List Pd) → D → Prop}
    (hi : rows[i]? = some es) (hn : n = es.length) (hc : ACalls P f (.ref 1000000 0 n n :: ps.map D.p) [(1000000, .arr e sz es)] R)
    (hR : ∀ h' r, R h' r → ∃ es', h' = [(1000000, .arr e sz es')] ∧ es'.length = n ∧ PureD r ∧ R' es' r) :
    ACalls P f (.nr 1000000 i n k :: ps.map D.p) [(1000000, .nst t e sz k rows none)] fun h' r => ∃ es', h' = [(1000000, .nst t e sz k (rows.set i es') none)] ∧ es'.length = n ∧ R' es' r := by
  subst hn
  intro vs w F M hHR hFl hsb hd
  have hg : get [(1000000, AO.nst t e sz k rows none)] 1000000 = some (.nst t e sz k rows none) := rfl
  have hN : NstR F w (M 1000000) t e sz rows none := hHR.obj 1000000 _ hg
  have hlt : i < rows.length := (List.getElem?_eq_some_iff.1 hi).1
  obtain ⟨bc, hbc⟩ : ∃ bc, (M 1000000).xs[i]? = some bc := ⟨_, List.getElem?_eq_getElem (by rw [hN.xl]; exact hlt)⟩
  obtain ⟨M1, hM1⟩ : ∃ M1 : Nat → Mb, M1 = fun _ => ⟨bc.1, bc.2, []⟩ := ⟨_, rfl⟩
  have hM1' : ∀ j, M1 j = ⟨bc.1, bc.2, []⟩ := fun j => by rw [hM1]
  have hArr : ArrR F w ⟨bc.1, bc.2, []⟩ e sz es := hN.rows i es bc hi hbc (by simp)
  have hget1 : ∀ {o : AO} {j : Nat} {o2 : AO}, get [(1000000, o)] j = some o2 → j = 1000000 ∧ o2 = o := fun {o j o2} h => by
    simp only [get_cons] at h
    split at h
    · rename_i e1; cases h; exact ⟨e1.symm, rfl⟩
    · cases h
  have hHR1 : HR F w M1 [(1000000, .arr e sz es)] := by
    refine ⟨fun j o hj => ?_, fun j o j' o' b hj hj' _ _ => ?_⟩
    · obtain ⟨rfl, rfl⟩ := hget1 hj
      rw [hM1']; exact hArr
    · rw [(hget1 hj).1, (hget1 hj').1]
  have hd0 : DR F w M (sg [(1000000, .nst t e sz k rows none)]) (.nr 1000000 i es.length k) (vs.toList.getD 0 undef) := hd.2 0 _ rfl
  have hd1 : DRl F w M1 (sg [(1000000, .arr e sz es)]) (.ref 1000000 0 es.length es.length :: ps.map D.p) vs.toList := by
    refine ⟨by have := hd.1; simpa using this, fun j d hj => ?_⟩
    cases j with
    | zero =>
      simp only [List.getElem?_cons_zero, Option.some.injEq] at hj
      subst hj
      generalize vs.toList.getD 0 undef = v at hd0
      cases hd0 with
      | nr _ _ _ _ sz2 m k3 _ hs2 hN2 hv hl =>
        have hs3 : sg [(1000000, AO.nst t e sz k rows none)] 1000000 = some (.nst sz rows.length k) := rfl
        rw [hs2] at hs3
        simp only [Option.some.injEq, Sg.nst.injEq] at hs3
        obtain ⟨_, _, rfl⟩ := hs3
        obtain ⟨bc2, g1, g2, ad, g3, g4⟩ := hl rfl
        rw [hbc] at g1
        cases g1
        exact .ref 1000000 0 _ _ sz es.length _ rfl (Nat.le_refl _) ⟨_, _, _, g3⟩ (fun _ => ⟨ad, bc.2, g3, by omega, g2, by rw [hM1']; simp, by rw [hM1']; simpa using g4⟩)
    | succ j =>
      have h2 := hd.2 (j + 1) d (by simpa using hj)
      simp only [List.getElem?_cons_succ, List.getElem?_map] at hj
      cases hp : ps[j]? with
      | none => rw [hp] at hj; cases hj
      | some p =>
        rw [hp] at hj
        simp only [Option.map_some, Option.some.injEq] at hj
        subst hj
        cases h2 with | p hx => exact .p hx
  have hsb1 : ∀ id, sg [(1000000, AO.arr e sz es)] id ≠ none → base ≤ id := by
    intro id hs
    refine hsb id ?_
    unfold sg at hs ⊢
    simp only [get_cons] at hs ⊢
    split
    · simp
    · rename_i h1; rw [if_neg h1] at hs; exact hs
  refine (hc vs w F M1 hHR1 hFl hsb1 hd1).mono fun ed w' hh => ?_
  obtain ⟨v, h', r, F', M', he, hr, hHR', hdr, hk⟩ := hh
  obtain ⟨es', rfl, hlen, hp, hR2⟩ := hR h' r hr
  have hMq : M' 1000000 = ⟨bc.1, bc.2, []⟩ := by
    obtain ⟨n', g1, g2, g3⟩ := hk.sgk.2.1 1000000 sz es.length rfl
    have : n' = es'.length := by
      have : sg [(1000000, AO.arr e sz es')] 1000000 = some (.arr sz es'.length) := rfl
      rw [this] at g1
      simp only [Option.some.injEq, Sg.arr.injEq] at g1
      exact g1.2.symm
    rw [g3 (by omega)]; exact hM1' _
  have hArr' : ArrR F' w' ⟨bc.1, bc.2, []⟩ e sz es' := by have := hHR'.obj 1000000 _ rfl; rw [hMq] at this; exact this
  have ownI : ∀ b, Owned M1 [(1000000, AO.arr e sz es)] b ↔ bc.2 ≠ 0 ∧ b = bc.1 := by
    intro b
    constructor
    · rintro ⟨j, o, h1, h2⟩
      obtain ⟨rfl, rfl⟩ := hget1 h1
      rw [hM1'] at h2; exact h2
    · intro h; exact ⟨1000000, _, rfl, by rw [hM1']; exact h⟩
  have ownO : ∀ b, Owned M [(1000000, AO.nst t e sz k rows none)] b ↔ NstOwns (M 1000000) b := by
    intro b
    constructor
    · rintro ⟨j, o, h1, h2⟩
      obtain ⟨rfl, rfl⟩ := hget1 h1
      exact h2
    · intro h; exact ⟨1000000, _, rfl, h⟩
  have ownO' : ∀ b, Owned M [(1000000, AO.nst t e sz k (rows.set i es') none)] b ↔ NstOwns (M 1000000) b := by
    intro b
    constructor
    · rintro ⟨j, o, h1, h2⟩
      obtain ⟨rfl, rfl⟩ := hget1 h1
      exact h2
    · intro h; exact ⟨1000000, _, rfl, h⟩
  have other : ∀ b, NstOwns (M 1000000) b → ¬ (bc.2 ≠ 0 ∧ b = bc.1) → w'.heap[b]? = w.heap[b]? ∧ ¬ F' b := by
    intro b h1 h2
    have hlt2 : b < w.heap.size := hN.lt h1
    refine ⟨hk.old b hlt2 (fun h3 => h2 ((ownI b).1 h3)), fun h3 => ?_⟩
    rcases hk.Fn b h3 with h4 | h4 | h4
    all_goals first
      | exact hN.notF h1 h4
      | exact h2 ((ownI b).1 h4)
      | exact absurd hlt2 (Nat.not_lt.2 h4)
  have rset : ∀ {j r'}, (rows.set i es')[j]? = some r' → (i = j ∧ r' = es') ∨ (i ≠ j ∧ rows[j]? = some r') := by
    intro j r' h
    by_cases e : i = j
    · subst e
      rw [List.getElem?_set_self hlt] at h
      exact .inl ⟨rfl, (Option.some.inj h).symm⟩
    · rw [List.getElem?_set_ne e] at h
      exact .inr ⟨e, h⟩
  have hN' : NstR F' w' (M 1000000) t e sz (rows.set i es') none := by
    refine ⟨hN.pos, by simpa using hN.xl, by simpa using hN.le, hN.max, fun hcap => ?_, fun j r' b' h1 h2 h3 => ?_, fun j b' h1 _ => (by cases h1), hN.dis, hN.out⟩
    · obtain ⟨g1, row, g2, g3, g4⟩ := hN.outer hcap
      obtain ⟨g5, g6⟩ := other (M 1000000).blk (.inl ⟨hcap, rfl⟩) (fun h => hN.out i bc hbc h.1 hcap h.2.symm)
      refine ⟨g6, row, by rw [g5]; exact g2, g3, fun j r' b' h1 h2 h3 => ?_⟩
      rcases rset h1 with ⟨rfl, rfl⟩ | ⟨_, h4⟩
      · rw [hlen]; exact g4 i es b' hi h2 (by simp)
      · exact g4 j r' b' h4 h2 (by simp)
    · rcases rset h1 with ⟨rfl, rfl⟩ | ⟨hne, h4⟩
      · rw [hbc] at h2; cases h2; exact hArr'
      · refine (hN.rows j r' b' h4 h2 (by simp)).keep (fun b hb => hk.old b (hFl b hb) (fun h => hHR1.notF h hb)) hk.F0 (fun hcc => other b'.1 (.inr ⟨j, b', h2, hcc, rfl⟩) (fun h => hN.dis i j bc b' hbc h2 hne h.1 hcc h.2.symm))
  refine ⟨v, _, r, F', M, he, ⟨es', rfl, hlen, hR2⟩, ⟨fun j o hj => ?_, fun j o j' o' b hj hj' _ _ => ?_⟩, hp.dr hdr, ?_⟩
  · obtain ⟨rfl, rfl⟩ := hget1 hj
    exact hN'
  · rw [(hget1 hj).1, (hget1 hj').1]
  · have hin : ∀ b, Owned M1 [(1000000, AO.arr e sz es)] b → Owned M [(1000000, AO.nst t e sz k rows none)] b := fun b hb => (ownO b).2 (.inr ⟨i, bc, hbc, (ownI b).1 hb⟩)
    refine ⟨hk.os, hk.tape, hk.output, hk.size, fun b h1 h2 => hk.old b h1 (fun h3 => h2 (hin b h3)), hk.F0, fun b hb => ?_, hk.Fl, fun b hb => .inl ((ownO b).2 ((ownO' b).1 hb)), ?_, hsb⟩
    · rcases hk.Fn b hb with h4 | h4 | h4
      · exact .inl h4
      · exact .inr (.inl (hin b h4))
      · exact .inr (.inr h4)
    · have : sg [(1000000, AO.nst t e sz k (rows.set i es') none)] = sg [(1000000, AO.nst t e sz k rows none)] := by
        funext j
        unfold sg
        simp only [get_cons]
        split <;> simp [AO.sg]
      show SgKeep M M (sg [(1000000, AO.nst t e sz k rows none)]) (sg [(1000000, AO.nst t e sz k (rows.set i es') none)])
      rw [this]; exact SgKeep.refl _ _
end Go.Am
namespace Go.Am
open Go
section
variable {P : Program} {c : Ctx} {st : St} {a : Act} {w : World} {F : Nat → Prop} {M : Nat → Mb}
theorem Rel.newEmptyNst (hr : Rel c st a w F M) {q sz : Nat} {e e2 : TypeId} (hn : get st.hp q = none) (hsz : 0 < sz) :
    Rel c { st with hp := (q, .nst e e2 sz 0 [] none) :: st.hp } a w F (upM M q ⟨0, 0, []⟩) ∧ ∀ ad, DR F w (upM M q ⟨0, 0, []⟩) (sg ((q, .nst e e2 sz 0 [] none) :: st.hp)) (.nref q 0) (.slice ad 0 0) := by
  have hget := get_new st.hp q (.nst e e2 sz 0 [] none)
  have hM : ∀ j, j ≠ q → upM M q ⟨0, 0, []⟩ j = M j := fun j hj => by simp [upM, hj]
  have hMq : upM M q ⟨0, 0, []⟩ q = ⟨0, 0, []⟩ := by simp [upM]
  have hsk := sgKeep_new hget hM hn
  have hno : ∀ b, ¬ NstOwns ⟨0, 0, []⟩ b := fun b h => by
    rcases h with ⟨h, _⟩ | ⟨i, bc, h1, _⟩
    · exact h rfl
    · simp at h1
  refine ⟨hr.change hget hM hsk rfl rfl rfl (Nat.le_refl _) (fun b hb _ => rfl) ?_ (fun b h => ?_), fun ad => ?_⟩
  · rw [hMq]; exact ⟨hsz, rfl, by simp, by simp, fun h => (h rfl).elim, fun i r bc h => by simp at h, fun i bc h => (by cases h), fun i j bi bj h => by simp at h, fun i bi h => by simp at h⟩
  · rw [hMq] at h; exact (hno b h).elim
  · exact .nref q 0 sz 0 0 _ (by rw [sg_change hget]; simp [AO.sg]) (Nat.le_refl _) ⟨_, _, rfl, .inl rfl⟩ (fun _ => ⟨ad, 0, rfl, by omega, by omega, by rw [hMq], .inl rfl⟩)
def nilsO (e : TypeId) : SObj where
  sg := .arr 1 1
  holds := fun F w m => ¬ F m.blk ∧ m.cap = 1 ∧ ∃ ad, w.heap[m.blk]? = some (.cells #[.slice ad 0 0] e (0, 0))
  owns := fun m b => b = m.blk
  keep := fun h hw hF ho => by
    obtain ⟨h1, h2, ad, h3⟩ := h
    obtain ⟨h4, h5⟩ := ho _ rfl
    exact ⟨h5, h2, ad, by rw [h4]; exact h3⟩
  notF := fun h hb => by cases hb; exact h.1
  lt := fun h hb => by
    cases hb
    obtain ⟨h1, h2, ad, h3⟩ := h
    exact (Array.getElem?_eq_some_iff.1 h3).1
  froz := fun h _ h2 => by
    obtain ⟨h1, h3, ad, h4⟩ := h
    exact ⟨h1, h3, ad, by rw [h2 _ h1]; exact h4⟩
theorem Rel.newNils (hr : Rel c st a w F M) {q : Nat} {e : TypeId} {ad : Option Addr} (hn : get st.hp q = none) :
    Rel c { st with hp := (q, .sem (nilsO e)) :: st.hp } a (w.alloc (.cells #[.slice ad 0 0] e)) F (upM M q ⟨w.heap.size, 1, []⟩) ∧
    DR F (w.alloc (.cells #[.slice ad 0 0] e)) (upM M q ⟨w.heap.size, 1, []⟩) (sg ((q, .sem (nilsO e)) :: st.hp)) (.ref q 0 1 1) (.slice (some ⟨w.heap.size, 0, none⟩) 1 1) := by
  have hget := get_new st.hp q (.sem (nilsO e))
  have hM : ∀ j, j ≠ q → upM M q ⟨w.heap.size, 1, []⟩ j = M j := fun j hj => by simp [upM, hj]
  have hMq : upM M q ⟨w.heap.size, 1, []⟩ q = ⟨w.heap.size, 1, []⟩ := by simp [upM]
  have hsk := sgKeep_new hget hM hn
  refine ⟨hr.change hget hM hsk rfl rfl rfl (by simp) (fun b hb _ => alloc_old w _ b hb) ?_ (fun b hb => .inr (by have : b = _ := hb; rw [this, hMq]; exact Nat.le_refl _)), ?_⟩
  · rw [hMq]
    exact ⟨fun hF => Nat.lt_irrefl _ (hr.keep.Fl _ hF), rfl, ad, heap_alloc_new w _⟩
  · exact .ref q 0 1 1 1 1 _ (by rw [sg_change hget, if_pos rfl]; rfl) (Nat.le_refl _) ⟨_, _, _, rfl⟩ (fun _ => ⟨_, 1, rfl, by omega, by omega, by rw [hMq], .inr (by rw [hMq])⟩)
theorem Rel.appNst (hr : Rel c st a w F M) {id q2 t t2 ty e e2 e3 : TypeId} {u2 : TypeDesc} {i : TypeInfo} {z : Value} {sz k N : Nat} {rows : List (List (List Pd))} {vs vx : Value}
    (hg : get st.hp id = some (.nst e e2 sz k rows none)) (hN0 : N = rows.length) (hv : DR F w M (sg st.hp) (.nref id N) vs) (hq : get st.hp q2 = some (.sem (nilsO e3))) (hx : DR F w M (sg st.hp) (.ref q2 0 1 1) vx)
    (hu1 : P.underlying t = some (.slice e)) (hu2 : P.underlying t2 = some u2) (hni : ∀ k, u2 ≠ .int k) (hi : P.info? e = some i) (hz : i.zero = some z) (hsz : i.size = 1) (hzs : z.cells.size = 1)
    (hle : N + 1 ≤ 140737488355328) (hby : (N + 1) * i.bytes ≤ 140737488355328) :
    ∃ v w' M', Rel c { st with hp := setL st.hp id (.nst e e2 sz (k + 1) (rows ++ [[]]) none) } a w' F M' ∧ DR F w' M' (sg (setL st.hp id (.nst e e2 sz (k + 1) (rows ++ [[]]) none))) (.nref id (N + 1)) v ∧
      (Builtin.append_ #[t, t2] ty #[vs, vx]).run P w = .ok v w' := by
  subst hN0
  have hn : NstR F w (M id) e e2 sz rows none := hr.heap.obj id _ hg
  obtain ⟨hqF, hqc, adn, hqh⟩ : ¬ F (M q2).blk ∧ (M q2).cap = 1 ∧ ∃ ad, w.heap[(M q2).blk]? = some (.cells #[.slice ad 0 0] e3 (0, 0)) := hr.heap.obj q2 _ hq
  have hqid : q2 ≠ id := fun e => by rw [e, hg] at hq; cases hq
  obtain ⟨cap, ad, rfl, h5, h6, h7, h8⟩ : ∃ cap ad, vs = .slice ad rows.length cap ∧ 0 + rows.length ≤ rows.length ∧ rows.length ≤ cap ∧ 0 + cap = (M id).cap ∧ (cap = 0 ∨ ad = some ⟨(M id).blk, 0 * 1, none⟩) := by
    cases hv with
    | nref _ _ sz1 m1 k1 _ hs hN hv2 h2 =>
      rw [sg_of_get hg] at hs
      simp only [AO.sg, Option.some.injEq, Sg.nst.injEq] at hs
      obtain ⟨rfl, rfl, rfl⟩ := hs
      obtain ⟨ad, cap, h3, h4⟩ := h2 rfl
      exact ⟨cap, ad, h3, h4⟩
  simp only [Nat.zero_add] at h7
  subst h7
  have hvx : vx = .slice (some ⟨(M q2).blk, 0, none⟩) 1 1 := by
    cases hx with
    | ref _ _ _ _ sz1 n1 _ hs hN hv2 h2 =>
      rw [sg_of_get hq] at hs
      simp only [AO.sg, nilsO, Option.some.injEq, Sg.arr.injEq] at hs
      obtain ⟨rfl, rfl⟩ := hs
      obtain ⟨ad2, cap2, rfl, g1, g2, g3, g4⟩ := h2 rfl
      rw [Nat.zero_add, hqc] at g3
      subst g3
      rcases g4 with g4 | g4
      · cases g4
      · rw [g4]
  subst hvx
  have hlen1 : ∀ w1 : World, (Builtin.lenOf (.slice (some ⟨(M q2).blk, 0, none⟩) 1 1)).run P w1 = .ok 1 w1 := fun w1 => by simp [Builtin.lenOf]
  have hf1 : ∀ w1 : World, w1.heap = w.heap → (Builtin.firstCells i.size 1 (.slice (some ⟨(M q2).blk, 0, none⟩) 1 1)).run P w1 = .ok #[.slice adn 0 0] w1 := fun w1 h1 => by
    have := run_firstCells_some (P := P) w1 i.size 1 ⟨(M q2).blk, 0, none⟩ 1 1 [.slice adn 0 0] (by simp [hsz]) (fun j v hj => by
      cases j with
      | zero =>
        simp only [List.getElem?_cons_zero, Option.some.injEq] at hj
        subst hj
        rw [Addr.add_lit, cell_of_row w1 (M q2).blk (0 + 0) #[.slice adn 0 0] e3 (0, 0) (by rw [h1]; exact hqh)]
        rfl
      | succ j => simp at hj)
    simpa using this
  have hget : ∀ j, get (setL st.hp id (.nst e e2 sz (k + 1) (rows ++ [[]]) none)) j = if j = id then some (.nst e e2 sz (k + 1) (rows ++ [[]]) none) else get st.hp j := get_setL _ _ _
  have hsg' : sg (setL st.hp id (.nst e e2 sz (k + 1) (rows ++ [[]]) none)) id = some (.nst sz (rows.length + 1) (k + 1)) := by rw [sg_change hget]; simp [AO.sg]
  have hsk : ∀ mb, SgKeep M (upM M id mb) (sg st.hp) (sg (setL st.hp id (.nst e e2 sz (k + 1) (rows ++ [[]]) none))) := by
    intro mb
    have hM : ∀ j, j ≠ id → upM M id mb j = M j := fun j hj => by simp [upM, hj]
    refine ⟨fun j hj => ?_, fun j s2 n2 hj => ?_, fun j s2 n2 k2 hj => ?_⟩
    · have e2 : j ≠ id := fun e2 => by rw [e2, sg_of_get hg] at hj; simp [AO.sg] at hj
      rw [sg_change hget, if_neg e2, hM j e2]; exact ⟨hj, rfl⟩
    · have e2 : j ≠ id := fun e2 => by rw [e2, sg_of_get hg] at hj; simp [AO.sg] at hj
      rw [sg_change hget, if_neg e2, hM j e2]; exact ⟨n2, hj, Nat.le_refl _, fun _ => rfl⟩
    · by_cases e2 : j = id
      · subst e2
        rw [sg_of_get hg] at hj
        simp only [AO.sg, Option.some.injEq, Sg.nst.injEq] at hj
        obtain ⟨rfl, rfl, rfl⟩ := hj
        exact ⟨_, _, hsg', by omega, by omega, fun h => by omega, fun h => by omega⟩
      · rw [sg_change hget, if_neg e2, hM j e2]; exact ⟨n2, k2, hj, Nat.le_refl _, Nat.le_refl _, fun _ => ⟨rfl, rfl⟩, fun _ => rfl⟩
  have hxs : ∀ {j : Nat} {b : Nat × Nat}, ((M id).xs ++ [(0, 0)])[j]? = some b → (M id).xs[j]? = some b ∨ (j = rows.length ∧ b = (0, 0)) := by
    intro j b h
    rw [List.getElem?_append] at h
    split at h
    · exact .inl h
    · rename_i h1
      rw [hn.xl] at h1 h
      cases hj : j - rows.length with
      | zero =>
        rw [hj] at h
        simp only [List.getElem?_cons_zero, Option.some.injEq] at h
        exact .inr ⟨by omega, h.symm⟩
      | succ m => rw [hj] at h; simp at h
  have hrs : ∀ {j : Nat} {r : List (List Pd)}, (rows ++ [[]])[j]? = some r → (rows[j]? = some r ∧ j < rows.length) ∨ (j = rows.length ∧ r = []) := by
    intro j r h
    rw [List.getElem?_append] at h
    split at h
    · rename_i h1; exact .inl ⟨h, h1⟩
    · rename_i h1
      cases hj : j - rows.length with
      | zero =>
        rw [hj] at h
        simp only [List.getElem?_cons_zero, Option.some.injEq] at h
        exact .inr ⟨by omega, h.symm⟩
      | succ m => rw [hj] at h; simp at h
  have mk : ∀ {w' : World} {b cp : Nat}, (∀ b, F b → w'.heap[b]? = w.heap[b]?) → (∀ (j : Nat) bc, (M id).xs[j]? = some bc → bc.2 ≠ 0 → w'.heap[bc.1]? = w.heap[bc.1]?) → (∀ (j : Nat) bc, (M id).xs[j]? = some bc → bc.2 ≠ 0 → cp ≠ 0 → bc.1 ≠ b) →
      rows.length + 1 ≤ cp → cp ≤ maxLen → ¬ F b → (∃ row, w'.heap[b]? = some (.cells row e (0, 0)) ∧ row.size = cp ∧ (∀ (j : Nat) r bc, rows[j]? = some r → (M id).xs[j]? = some bc → ∃ a, row.getD j undef = .slice a r.length bc.2 ∧ (bc.2 = 0 ∨ a = some ⟨bc.1, 0, none⟩)) ∧ ∃ a, row.getD rows.length undef = .slice a 0 0) →
      NstR F w' ⟨b, cp, (M id).xs ++ [(0, 0)]⟩ e e2 sz (rows ++ [[]]) none := by
    intro w' b cp hF hxo hxb hl hm hnF ⟨row, g1, g2, g3, g4⟩
    refine ⟨hn.pos, by simp [hn.xl], by simpa using hl, hm, fun _ => ⟨hnF, row, g1, g2, fun j r bc h1 h2 _ => ?_⟩, fun j r bc h1 h2 _ => ?_, fun j bc h1 _ => (by cases h1), fun j1 j2 b1 b2 h1 h2 h3 h4 h5 => ?_, fun j bi h1 h2 h3 => ?_⟩
    · rcases hrs h1 with ⟨h3, h4⟩ | ⟨rfl, rfl⟩
      · rcases hxs h2 with h5 | ⟨rfl, _⟩
        · exact g3 j r bc h3 h5
        · omega
      · rcases hxs h2 with h5 | ⟨_, rfl⟩
        · have := (List.getElem?_eq_some_iff.1 h5).1; rw [hn.xl] at this; omega
        · obtain ⟨a, h6⟩ := g4; exact ⟨a, h6, .inl rfl⟩
    · rcases hrs h1 with ⟨h3, h4⟩ | ⟨rfl, rfl⟩
      · rcases hxs h2 with h5 | ⟨rfl, _⟩
        · exact (hn.rows j r bc h3 h5 (by simp)).keep hF (fun _ h => h) (fun hc => ⟨hxo j bc h5 hc, hn.notF (.inr ⟨j, bc, h5, hc, rfl⟩)⟩)
        · omega
      · rcases hxs h2 with h5 | ⟨_, rfl⟩
        · have := (List.getElem?_eq_some_iff.1 h5).1; rw [hn.xl] at this; omega
        · exact ⟨hn.pos, by simp, by simp, by simp, fun h => (h rfl).elim⟩
    · rcases hxs h1 with h6 | ⟨_, rfl⟩
      · rcases hxs h2 with h7 | ⟨_, rfl⟩
        · exact hn.dis j1 j2 b1 b2 h6 h7 h3 h4 h5
        · exact (h5 rfl).elim
      · exact (h4 rfl).elim
    · rcases hxs h1 with h6 | ⟨_, rfl⟩
      · exact hxb j bi h6 h2 h3
      · exact (h2 rfl).elim
  have hdr : ∀ {w' : World} {b cp : Nat} {ad : Option Addr}, rows.length + 1 ≤ cp → ad = some ⟨b, 0, none⟩ → DR F w' (upM M id ⟨b, cp, (M id).xs ++ [(0, 0)]⟩) (sg (setL st.hp id (.nst e e2 sz (k + 1) (rows ++ [[]]) none))) (.nref id (rows.length + 1)) (.slice ad (rows.length + 1) cp) := by
    intro w' b cp ad h1 h2
    exact .nref id _ sz (rows.length + 1) (k + 1) _ hsg' (Nat.le_refl _) ⟨_, _, rfl, .inr ⟨_, h2⟩⟩ (fun _ => ⟨ad, cp, rfl, by omega, h1, by simp [upM], .inr (by simp [upM, h2])⟩)
  have hMid : ∀ mb, upM M id mb id = mb := fun mb => by simp [upM]
  have hMj : ∀ mb j, j ≠ id → upM M id mb j = M j := fun mb j hj => by simp [upM, hj]
  have hownx : ∀ {b' cp b : Nat}, NstOwns ⟨b', cp, (M id).xs ++ [(0, 0)]⟩ b → (cp ≠ 0 ∧ b = b') ∨ NstOwns (M id) b := by
    intro b' cp b h
    rcases h with ⟨h1, h2⟩ | ⟨j, bc, h1, h2, h3⟩
    · exact .inl ⟨h1, h2⟩
    · rcases hxs h1 with h4 | ⟨_, rfl⟩
      · exact .inr (.inr ⟨j, bc, h4, h2, h3⟩)
      · exact (h2 rfl).elim
  by_cases hroom : rows.length + 1 ≤ (M id).cap
  · have hc0 : (M id).cap ≠ 0 := by omega
    obtain rfl := h8.resolve_left hc0
    obtain ⟨hnF, row, hrow, hsize, hcells⟩ := hn.outer hc0
    have hst := run_storeCells_at P (M id).blk (rows.length * i.size) e [.slice adn 0 0] 0 row w hrow (by simp [hsz]; omega) (by intro v hv; simp at hv; subst hv; rfl)
    simp only [Nat.add_zero] at hst
    have hrun := run_append_in (P := P) (w := w) (ty := ty) hu1 hu2 hni hi (base := some ⟨(M id).blk, 0 * 1, none⟩) (n := rows.length) (hlen1 w) (hf1 w rfl) hroom
      (fun ad' e3 => by cases e3; rw [Addr.add_lit]; simp only [Nat.zero_mul, Nat.zero_add]; exact hst) (fun e3 => by cases e3)
    simp only [hsz, Nat.mul_one, List.length_cons, List.length_nil, Nat.zero_add] at hrun hst
    have hval : ∀ p, ((row.toList.take rows.length ++ [Value.slice adn 0 0] ++ row.toList.drop (rows.length + 1)).toArray).getD p undef = if p = rows.length then .slice adn 0 0 else row.getD p undef := by
      intro p
      have e1 : row.toList.take rows.length ++ [Value.slice adn 0 0] ++ row.toList.drop (rows.length + 1) = row.toList.set rows.length (.slice adn 0 0) := by
        rw [List.set_eq_take_append_cons_drop, if_pos (by simp; omega)]; simp
      rw [e1]
      simp only [Array.getD_eq_getD_getElem?, List.getElem?_toArray, List.getElem?_set]
      by_cases e2 : rows.length = p
      · subst e2
        have h9 : rows.length < row.size := by omega
        simp [h9]
      · rw [if_neg e2, if_neg (Ne.symm e2)]; simp
    have hsz2 : ((row.toList.take rows.length ++ [Value.slice adn 0 0] ++ row.toList.drop (rows.length + 1)).toArray).size = (M id).cap := by
      simp; omega
    refine ⟨_, _, upM M id ⟨(M id).blk, (M id).cap, (M id).xs ++ [(0, 0)]⟩, hr.change (w' := w.setRow (M id).blk (row.toList.take rows.length ++ [Value.slice adn 0 0] ++ row.toList.drop (rows.length + 1)).toArray) hget (hMj _) (hsk _) rfl rfl rfl (by simp)
      (fun b hb hne => setRow_other w _ b _ (fun e => hne _ hg (.inl ⟨hc0, e⟩))) ?_ (fun b hb => .inl ⟨_, hg, ?_⟩), hdr hroom rfl, hrun⟩
    · rw [hMid]
      exact mk (fun b hb => setRow_other w _ b _ (fun e => hnF (e ▸ hb))) (fun j bc h1 h2 => setRow_other w _ _ _ (hn.out j bc h1 h2 hc0)) (fun j bc h1 h2 _ => hn.out j bc h1 h2 hc0) hroom hn.max hnF
        ⟨_, setRow_heap w _ _ _ e (0, 0) hrow, hsz2, fun j r bc h1 h2 => by
          obtain ⟨a, h3, h4⟩ := hcells j r bc h1 h2 (by simp)
          have := (List.getElem?_eq_some_iff.1 h1).1
          exact ⟨a, by rw [hval, if_neg (by omega)]; exact h3, h4⟩, adn, by rw [hval, if_pos rfl]⟩
    · rw [hMid] at hb
      rcases hownx hb with ⟨_, h1⟩ | h1
      · exact .inl ⟨hc0, h1⟩
      · exact h1
  ·
    obtain ⟨olds, ho1, ho2, ho3⟩ : ∃ olds : Array Value, olds.size = rows.length ∧ (Builtin.firstCells i.size rows.length (.slice ad rows.length (M id).cap)).run P w.drew = .ok olds w.drew ∧
        ∀ (j : Nat) r bc, rows[j]? = some r → (M id).xs[j]? = some bc → ∃ a, olds.getD j undef = .slice a r.length bc.2 ∧ (bc.2 = 0 ∨ a = some ⟨bc.1, 0, none⟩) := by
      by_cases h0 : (M id).cap = 0
      · have h1 : rows = [] := List.eq_nil_of_length_eq_zero (by omega)
        subst h1
        refine ⟨#[], rfl, ?_, fun j r bc h => by simp at h⟩
        cases ad <;> simp [Builtin.firstCells, loadCells, loadCellsFrom]
      · obtain rfl := h8.resolve_left h0
        obtain ⟨hnF, row, hrow, hsize, hcells⟩ := hn.outer h0
        have hl : (row.toList.take rows.length).length = rows.length := by simp; omega
        refine ⟨(row.toList.take rows.length).toArray, by simpa using hl, ?_, fun j r bc h1 h2 => ?_⟩
        · refine run_firstCells_some (P := P) w.drew i.size rows.length ⟨(M id).blk, 0 * 1, none⟩ rows.length (M id).cap _ (by rw [hl, hsz]; omega) (fun j v hj => ?_)
          rw [Addr.add_lit, cell_of_row w.drew (M id).blk (0 * 1 + j) row e (0, 0) hrow]
          rw [List.getElem?_take] at hj
          split at hj
          · simpa using hj
          · cases hj
        · obtain ⟨a, h3, h4⟩ := hcells j r bc h1 h2 (by simp)
          have := (List.getElem?_eq_some_iff.1 h1).1
          refine ⟨a, ?_, h4⟩
          rw [← h3]
          simp [Array.getD_eq_getD_getElem?, List.getElem?_take, this]
    have hrun := run_append_out (P := P) (w := w) (ty := ty) hu1 hu2 hni hi hz (base := ad) (n := rows.length) (cap := (M id).cap) (hlen1 w) (hf1 w.drew rfl) ho2 (by omega) hle hby
    have hg1 := grownCap_ge w (rows.length + 1) (M id).cap e
    have hg2 := grownCap_le_maxLen w (rows.length + 1) (M id).cap e (by unfold maxLen; omega)
    generalize hcp : grownCap w (rows.length + 1) (M id).cap e = cp at hrun hg1 hg2
    have hnew := heap_alloc_new w.drew (.cells (olds ++ #[Value.slice adn 0 0] ++ Builtin.zeroCells z.cells (cp - (rows.length + 1))) e)
    have hold : ∀ b, b < w.heap.size → (w.drew.alloc (.cells (olds ++ #[Value.slice adn 0 0] ++ Builtin.zeroCells z.cells (cp - (rows.length + 1))) e)).heap[b]? = w.heap[b]? := fun b hb => alloc_old w.drew _ b hb
    refine ⟨_, _, upM M id ⟨w.heap.size, cp, (M id).xs ++ [(0, 0)]⟩, hr.change (w' := w.drew.alloc (.cells (olds ++ #[Value.slice adn 0 0] ++ Builtin.zeroCells z.cells (cp - (rows.length + 1))) e)) hget (hMj _) (hsk _) rfl rfl rfl (by simp)
      (fun b hb _ => hold b hb) ?_ (fun b hb => ?_), hdr hg1 rfl, hrun⟩
    · rw [hMid]
      refine mk (fun b hb => hold b (hr.keep.Fl b hb)) (fun j bc h1 h2 => hold _ (hn.lt (.inr ⟨j, bc, h1, h2, rfl⟩))) (fun j bc h1 h2 _ => Nat.ne_of_lt (hn.lt (.inr ⟨j, bc, h1, h2, rfl⟩))) hg1 hg2 (fun hF => Nat.lt_irrefl _ (hr.keep.Fl _ hF))
        ⟨_, hnew, by simp [zeroCells_size, hzs, ho1]; omega, fun j r bc h1 h2 => ?_, adn, ?_⟩
      · obtain ⟨a, h3, h4⟩ := ho3 j r bc h1 h2
        have := (List.getElem?_eq_some_iff.1 h1).1
        refine ⟨a, ?_, h4⟩
        rw [← h3]
        simp only [Array.getD_eq_getD_getElem?]
        rw [Array.getElem?_append_left (by simp; omega), Array.getElem?_append_left (by omega)]
      · simp only [Array.getD_eq_getD_getElem?]
        rw [Array.getElem?_append_left (by simp; omega), Array.getElem?_append_right (by omega), ho1]
        simp
    · rw [hMid] at hb
      rcases hownx hb with ⟨_, h1⟩ | h1
      · exact .inr (by rw [h1]; exact Nat.le_refl _)
      · exact .inl ⟨_, hg, h1⟩
end
end Go.Am
namespace Go.Am
open Go
section
variable {P : Program} {ops rest : List Oper} {k : Kt} {st : St} {o : Oper}
theorem Af_mop (hc : isCall o.op = none) (h : mOp P st (o.dst.getD 0) o.op fun d h' => O P true ops rest k (({ st with hp := h' } : St).put o.dst d)) : Af P true ops rest k o st .fail := by
  refine Af_sem fun ct a w F M Q hr => ?_
  obtain ⟨d, h', v, w', F', M', hk, hr', hF, hd, hrun⟩ := mOp_sound hr h
  unfold Oper.wp
  rcases hrun with hrun | ⟨rfl, hrun⟩
  · rw [hrun]
    exact ⟨_, F', M', hk, hr'.put hd o.dst⟩
  · rw [hrun]
    exact ⟨_, F', M', hk, hr'.put hd o.dst⟩
theorem Af_bsarr {t e e2 : TypeId} {x : Operand} {s1 b1 b2 : Nat} {z1 : D} (ho : o.op = .buildSlice t 1 #[(0, x)]) (ht : tiOf P t = some ⟨s1, b1, .slice e, z1⟩) (hte : tiOf P e = some ⟨1, b2, .slice e2, .cl []⟩)
    (hx : ev st x = .cl []) (hq : get st.hp (o.dst.getD 0) = none)
    (h : O P true ops rest k (({ st with hp := (o.dst.getD 0, .arr e 1 [[.sl []]]) :: st.hp } : St).put o.dst (.ref (o.dst.getD 0) 0 1 1))) : Af P true ops rest k o st .fail := by
  refine Af_mop (by rw [ho]; rfl) ?_
  rw [ho]
  simp only [mOp, ht, hte, List.map_cons, List.map_nil, hx]
  exact ⟨by omega, by omega, by simpa [fillD, D.cells, D.one, pursD, purD, chunk, hq] using h⟩
theorem range_one : Array.range 1 = #[0] := rfl
theorem Af_bsnil {t e e2 : TypeId} {x : Operand} {s1 b1 b2 : Nat} {z1 : D} (ho : o.op = .buildSlice t 1 #[(0, x)]) (ht : tiOf P t = some ⟨s1, b1, .slice e, z1⟩) (hte : tiOf P e = some ⟨1, b2, .slice e2, .cl []⟩)
    (hx : ev st x = .cl []) (hq : get st.hp (o.dst.getD 0) = none)
    (h : O P true ops rest k (({ st with hp := (o.dst.getD 0, .sem (nilsO e)) :: st.hp } : St).put o.dst (.ref (o.dst.getD 0) 0 1 1))) : Af P true ops rest k o st .fail := by
  refine Af_sem fun ct a w F M Q hr => ?_
  obtain ⟨i1, u1, z1', hi1, hu1, hz1, e1⟩ := tiOf_some ht
  simp only [TI.mk.injEq] at e1
  obtain rfl := TK.of_slice e1.2.2.1.symm
  obtain ⟨i, u, z, hi, hu, hz, e3⟩ := tiOf_some hte
  simp only [TI.mk.injEq] at e3
  obtain ⟨e4, e5, e6, e7⟩ := e3
  have hzv := ofV_nil e7.symm
  subst hzv
  have hx' := ev_sound hr x
  rw [hx] at hx'
  generalize hvx : a.eval x = vx at hx'
  cases hx' with
  | cl _ ad _ _ =>
    obtain ⟨h2, h3⟩ := hr.newNils (q := o.dst.getD 0) (e := e) (ad := ad) hq
    unfold Oper.wp
    have hex : (execOp a.eval o).run P w = .ok (.value (.slice (some ⟨w.heap.size, 0, none⟩) 1 1)) (w.alloc (.cells #[.slice ad 0 0] e)) := by
      simp [execOp, ho, Instr.buildSlice, run_underlying hu1, Result.andThen, run_sizeOf' hi, ← e4, run_zeroValue' hi hz, Value.cells, Instr.fill, hvx, newRow, range_one, Nat.mod_one]
    rw [hex]
    exact ⟨_, F, _, h, h2.put h3 o.dst⟩
theorem Af_nstapp {c : Call} {x y : Operand} {id q2 t t2 e e2 e3 e4 : TypeId} {s1 b1 b2 sz kk N s2 b4 : Nat} {z1 z2 : D} {rows : List (List (List Pd))} (ho : o.op = .call c) (hc : c.callee = .builtin .append) (ha : c.args = #[x, y]) (hta : c.argTypes = #[t, t2])
    (ht : tiOf P t = some ⟨s1, b1, .slice e, z1⟩) (ht2 : tiOf P t2 = some ⟨s2, b4, .slice e4, z2⟩) (hte : tiOf P e = some ⟨1, b2, .slice e2, .cl []⟩)
    (hx : ev st x = .nref id N) (hg : get st.hp id = some (.nst e e2 sz kk rows none)) (hN : N = rows.length) (hy : ev st y = .ref q2 0 1 1) (hq : get st.hp q2 = some (.sem (nilsO e3)))
    (hle : N + 1 ≤ 140737488355328) (hby : (N + 1) * b2 ≤ 140737488355328)
    (h : O P true ops rest k (({ st with hp := setL st.hp id (.nst e e2 sz (kk + 1) (rows ++ [[]]) none) } : St).put o.dst (.nref id (N + 1)))) : Af P true ops rest k o st .fail := by
  refine Af_sem fun ct a w F M Q hr => ?_
  obtain ⟨i1, u1, z1', hi1, hu1, hz1, e1⟩ := tiOf_some ht
  simp only [TI.mk.injEq] at e1
  obtain rfl := TK.of_slice e1.2.2.1.symm
  obtain ⟨i2, u2, z2', hi2, hu2, hz2, e21⟩ := tiOf_some ht2
  simp only [TI.mk.injEq] at e21
  obtain rfl := TK.of_slice e21.2.2.1.symm
  obtain ⟨i, u, z, hi, hu, hz, e31⟩ := tiOf_some hte
  simp only [TI.mk.injEq] at e31
  obtain ⟨e41, e5, e6, e7⟩ := e31
  have hzv := ofV_nil e7.symm
  subst hzv
  have hx' := ev_sound hr x
  rw [hx] at hx'
  have hy' := ev_sound hr y
  rw [hy] at hy'
  obtain ⟨v, w', M', h1, h2, h3⟩ := hr.appNst (P := P) (ty := o.type) hg hN hx' hq hy' hu1 hu2 (fun k h => by cases h) hi hz e41.symm rfl hle (by rw [← e5]; exact hby)
  unfold Oper.wp
  have hex : (execOp a.eval o).run P w = .ok (.value v) w' := by
    simp [execOp, ho, hc, ha, hta, resolve, invoke, builtin, h3, Result.andThen]
  rw [hex]
  exact ⟨_, F, M', h, h1.put h2 o.dst⟩
end
theorem Wk.nilBoxN {st : St} {id j q sz : Nat} {cs : List D} {ty : TypeId} (e e2 : TypeId) (hb : get st.hp id = some (.box cs ty)) (hj : cs[j]? = some (.cl [])) (hq : get st.hp q = none) (hs : 0 < sz) :
    Wk st ⟨st.env, (q, .nst e e2 sz 0 [] none) :: setL st.hp id (.box (cs.set j (.nref q 0)) ty), st.n⟩ := by
  intro c a w F M hr
  obtain ⟨hr1, h1⟩ := hr.newEmptyNst (e := e) (e2 := e2) hq hs
  have hne : id ≠ q := fun h => by subst h; rw [hq] at hb; cases hb
  have hb1 : get ((q, AO.nst e e2 sz 0 [] none) :: st.hp) id = some (.box cs ty) := by rw [get_cons, if_neg (Ne.symm hne)]; exact hb
  have hget : ∀ i, get ((q, AO.nst e e2 sz 0 [] none) :: setL st.hp id (.box (cs.set j (.nref q 0)) ty)) i = if i = id then some (.box (cs.set j (.nref q 0)) ty) else get ((q, AO.nst e e2 sz 0 [] none) :: st.hp) i := by
    intro i
    simp only [get_cons, get_setL]
    by_cases e1 : i = id
    · subst e1; simp [Ne.symm hne]
    · by_cases e2 : q = i
      · subst e2; simp [e1]
      · simp [e1, e2]
  have hsg := sgKeep_same hget hb1 rfl
  have hobj := hr1.heap.obj id _ hb1
  obtain ⟨hnF, row, t, hrow, hsz, hcells⟩ := hobj
  refine ⟨F, upM M q ⟨0, 0, []⟩, ?_⟩
  refine hr1.change (st := ⟨st.env, (q, AO.nst e e2 sz 0 [] none) :: st.hp, st.n⟩) hget (fun _ _ => rfl) (by rw [hsg]; exact SgKeep.refl _ _) rfl rfl rfl (Nat.le_refl _) (fun _ _ _ => rfl) ?_ (fun b hb => .inl ⟨_, hb1, hb⟩)
  refine ⟨hnF, row, t, hrow, by simpa using hsz, fun i d hd => ?_, fun h5 h6 i hi => ?_⟩
  rotate_left
  · refine hcells.2 h5 ?_ i ?_
    · obtain ⟨x, hx, hn⟩ := List.any_eq_true.1 h6
      rcases List.mem_or_eq_of_mem_set hx with h7 | rfl
      · exact List.any_eq_true.2 ⟨x, h7, hn⟩
      · cases hn
    · by_cases e1 : i = j
      · subst e1
        rw [List.getElem?_set_self (List.getElem?_eq_some_iff.1 hj).1] at hi
        cases hi
      · rwa [List.getElem?_set_ne (Ne.symm e1)] at hi
  rw [hsg]
  by_cases e1 : i = j
  · subst e1
    have hlt := (List.getElem?_eq_some_iff.1 hj).1
    rw [List.getElem?_set_self hlt] at hd
    cases hd
    have h2 := hcells.1 i _ hj
    refine ⟨?_, h2.2⟩
    have h3 := h2.1
    generalize row.getD i undef = v at h3
    cases h3 with | cl _ ad _ _ => exact h1 ad
  · rw [List.getElem?_set_ne (Ne.symm e1)] at hd
    exact hcells.1 i d hd
end Go.Am
namespace Go.Am
open Go
end Go.Am
end
section
set_option linter.unusedVariables false
set_option linter.unusedSimpArgs false
namespace Go.Am
open Go
def stale (sz n : Nat) : SObj where
  sg := .arr sz n
  holds := fun _ _ _ => True
  owns := fun _ _ => False
  keep := fun _ _ _ _ => trivial
  notF := fun _ h => h.elim
  lt := fun _ h => h.elim
  froz := fun _ _ _ => trivial
section
variable {c : Ctx} {st : St} {a : Act} {w : World} {F : Nat → Prop} {M : Nat → Mb}
theorem Rel.move (hr : Rel c st a w F M) {q q' k sz : Nat} {e : TypeId} {es : List (List Pd)} (hq : get st.hp q = some (.arr e sz es)) (hk : k ≤ es.length) (hq' : get st.hp q' = none) :
    Rel c ⟨st.env, (q', .arr e sz (es.take k)) :: setL st.hp q (.sem (stale sz (es.length + 1))), st.n⟩ a w F (upM M q' (M q)) ∧
      ∀ v, DR F w M (sg st.hp) (.ref q 0 k es.length) v → DR F w (upM M q' (M q)) (sg ((q', .arr e sz (es.take k)) :: setL st.hp q (.sem (stale sz (es.length + 1))))) (.ref q' 0 k k) v := by
  have hne : q' ≠ q := fun h => by subst h; rw [hq] at hq'; cases hq'
  have hget : ∀ i, get ((q', AO.arr e sz (es.take k)) :: setL st.hp q (.sem (stale sz (es.length + 1)))) i = if i = q' then some (.arr e sz (es.take k)) else if i = q then some (.sem (stale sz (es.length + 1))) else get st.hp i := by
    intro i
    simp only [get_cons, get_setL]
    by_cases e1 : q' = i
    · subst e1; simp
    · rw [if_neg e1, if_neg (Ne.symm e1)]
  have hMo : ∀ i, i ≠ q' → upM M q' (M q) i = M i := fun i hi => by simp [upM, hi]
  have hMq : upM M q' (M q) q' = M q := by simp [upM]
  have hlen : (es.take k).length = k := by simp; omega
  have hsgo : ∀ i, i ≠ q' → i ≠ q → sg ((q', AO.arr e sz (es.take k)) :: setL st.hp q (.sem (stale sz (es.length + 1)))) i = sg st.hp i := fun i h1 h2 => by
    simp [sg, hget, h1, h2]
  have hsgq : sg st.hp q = some (.arr sz es.length) := by simp [sg, hq, AO.sg]
  have hsgq1 : sg ((q', AO.arr e sz (es.take k)) :: setL st.hp q (.sem (stale sz (es.length + 1)))) q = some (.arr sz (es.length + 1)) := by
    unfold sg; rw [hget, if_neg (Ne.symm hne), if_pos rfl]; rfl
  have hsgn : sg ((q', AO.arr e sz (es.take k)) :: setL st.hp q (.sem (stale sz (es.length + 1)))) q' = some (.arr sz k) := by
    unfold sg; rw [hget, if_pos rfl]; simp [AO.sg, hk]
  have hsg0 : sg st.hp q' = none := by simp [sg, hq']
  have hkeep : SgKeep M (upM M q' (M q)) (sg st.hp) (sg ((q', AO.arr e sz (es.take k)) :: setL st.hp q (.sem (stale sz (es.length + 1))))) := by
    refine ⟨fun i hi => ?_, fun i s n hi => ?_, fun i s n kk hi => ?_⟩
    · have h1 : i ≠ q' := fun h => by rw [h, hsg0] at hi; cases hi
      have h2 : i ≠ q := fun h => by rw [h, hsgq] at hi; cases hi
      rw [hsgo i h1 h2, hMo i h1]; exact ⟨hi, rfl⟩
    · have h1 : i ≠ q' := fun h => by rw [h, hsg0] at hi; cases hi
      by_cases h2 : i = q
      · subst h2
        rw [hsgq] at hi
        cases hi
        exact ⟨es.length + 1, hsgq1, by omega, fun h => by omega⟩
      · rw [hsgo i h1 h2, hMo i h1]; exact ⟨n, hi, Nat.le_refl _, fun _ => rfl⟩
    · have h1 : i ≠ q' := fun h => by rw [h, hsg0] at hi; cases hi
      have h2 : i ≠ q := fun h => by rw [h, hsgq] at hi; cases hi
      rw [hsgo i h1 h2, hMo i h1]; exact ⟨n, kk, hi, Nat.le_refl _, Nat.le_refl _, fun _ => ⟨rfl, rfl⟩, fun _ => rfl⟩
  have hF : ∀ b, F b → w.heap[b]? = w.heap[b]? := fun _ _ => rfl
  have howns : ∀ i o b, get ((q', AO.arr e sz (es.take k)) :: setL st.hp q (.sem (stale sz (es.length + 1)))) i = some o → o.owns (upM M q' (M q) i) b →
      ∃ i0 o0, get st.hp i0 = some o0 ∧ o0.owns (M i0) b ∧ (i = q' → i0 = q) ∧ (i ≠ q' → i0 = i ∧ i ≠ q) := by
    intro i o b hi ho
    rw [hget] at hi
    by_cases h1 : i = q'
    · subst h1
      rw [if_pos rfl] at hi
      cases hi
      rw [hMq] at ho
      exact ⟨q, _, hq, ho, fun _ => rfl, fun h => (h rfl).elim⟩
    · rw [if_neg h1] at hi
      by_cases h2 : i = q
      · subst h2
        rw [if_pos rfl] at hi
        cases hi
        exact ho.elim
      · rw [if_neg h2] at hi
        rw [hMo i h1] at ho
        exact ⟨i, o, hi, ho, fun h => (h1 h).elim, fun _ => ⟨rfl, h2⟩⟩
  refine ⟨⟨fun t d ht => (hr.env t d ht).keep hF (fun _ h => h) hkeep, hr.size, hr.defers, ⟨fun i o hi => ?_, fun i o i' o' b hi hi' ho ho' => ?_⟩, ?_⟩, fun v hv => ?_⟩
  · rw [hget] at hi
    by_cases h1 : i = q'
    · subst h1
      rw [if_pos rfl] at hi
      cases hi
      rw [hMq]
      obtain ⟨g1, g2, g3, g4, g5⟩ := hr.heap.obj q _ hq
      refine ⟨g1, by rw [hlen]; omega, g3, fun j x hx => ?_, fun hc => ?_⟩
      · rw [List.getElem?_take] at hx
        split at hx
        · exact g4 j x hx
        · cases hx
      · obtain ⟨f1, row, f2, f3, f4⟩ := g5 hc
        refine ⟨f1, row, f2, f3, fun j x l y hx hy => ?_⟩
        rw [List.getElem?_take] at hx
        split at hx
        · exact f4 j x l y hx hy
        · cases hx
    · rw [if_neg h1] at hi
      by_cases h2 : i = q
      · subst h2
        rw [if_pos rfl] at hi
        cases hi
        exact trivial
      · rw [if_neg h2] at hi
        rw [hMo i h1]
        exact (hr.heap.obj i o hi).keep hF (fun _ h => h) hkeep (fun b hown => ⟨rfl, hr.heap.notF ⟨i, o, hi, hown⟩⟩)
  · obtain ⟨j, p, h1, h2, h3, h4⟩ := howns i o b hi ho
    obtain ⟨j', p', h1', h2', h3', h4'⟩ := howns i' o' b hi' ho'
    have hj := hr.heap.inj j p j' p' b h1 h1' h2 h2'
    by_cases e1 : i = q'
    · by_cases e2 : i' = q'
      · rw [e1, e2]
      · have := h4' e2; have := h3 e1; omega
    · by_cases e2 : i' = q'
      · have := h4 e1; have := h3' e2; omega
      · have := h4 e1; have := h4' e2; omega
  · have hk := hr.keep
    refine ⟨hk.os, hk.tape, hk.output, hk.size, hk.old, hk.F0, hk.Fn, hk.Fl, ?_, hk.sgk.trans hkeep, hk.s0b⟩
    rintro b ⟨i, o, hi, ho⟩
    obtain ⟨j, p, h1, h2, _⟩ := howns i o b hi ho
    exact hk.own _ ⟨j, p, h1, h2⟩
  · cases hv with
    | ref id off len N sz' n v hs hN hva h =>
      rw [hsgq] at hs
      cases hs
      obtain ⟨ad, cap, g1, g2, g3, g4, g5⟩ := h rfl
      refine .ref q' 0 k k sz k _ hsgn (Nat.le_refl _) hva fun _ => ?_
      rw [refOK, hMq]
      exact ⟨ad, cap, g1, by omega, g3, g4, g5⟩
end
end Go.Am
namespace Go.Am
open Go
section
variable {P : Program} {c : Ctx} {st : St} {a : Act} {w : World} {F : Nat → Prop} {M : Nat → Mb}
end
end Go.Am
namespace Go.Am
open Go
section
variable {P : Program} {ops rest : List Oper} {k : Kt} {st : St} {o : Oper}
theorem Wk.openX {id i c sz : Nat} {e : TypeId} {es : List (List Pd)} {x : Pd} (ho : get st.hp id = some (.arr e sz es)) (hi : i < es.length) (hx : (es.getD i [])[c]? = some x) :
    Wk st ⟨st.env, setL st.hp id (.arx e sz es i c (.p x)), st.n⟩ := by
  intro ct a w F M hr
  have hget : ∀ j, get (setL st.hp id (.arx e sz es i c (.p x))) j = if j = id then some (.arx e sz es i c (.p x)) else get st.hp j := get_setL _ _ _
  have hsg := sgKeep_same hget ho rfl
  obtain ⟨h1, h2, h2', h3, h4⟩ := hr.heap.obj id _ ho
  obtain ⟨hnF, row, hrow, hsize, hcells⟩ := h4 (by omega)
  have hej : es[i]? = some (es.getD i []) := by simp [List.getD, hi]
  have hp := hcells i _ c x hej hx
  have hc := (List.getElem?_eq_some_iff.1 hx).1
  have hlen := h3 i _ hej
  exact ⟨F, M, hr.change (M' := M) hget (fun _ _ => rfl) (by rw [hsg]; exact SgKeep.refl _ _) rfl rfl rfl (Nat.le_refl _) (fun _ _ _ => rfl)
    ⟨h1, h2, h2', h3, ⟨hi, by omega⟩, hnF, row, hrow, hsize, fun i' e' j c' a1 a2 _ => hcells i' e' j c' a1 a2, .p hp, hp.oneCell⟩
    (fun b hb => .inl ⟨_, ho, by simp only [AO.owns] at hb ⊢; exact ⟨by omega, hb⟩⟩)⟩
theorem Af_storeX {t : TypeId} {x y : Operand} {ti : TI} {id i c sz N : Nat} {e : TypeId} {es : List (List Pd)} {d v : D} (ho : o.op = .store t x y) (ht : tiOf P t = some ti) (h1 : ti.size = 1) (hx : ev st x = .ea id i c N)
    (hg : get st.hp id = some (.arx e sz es i c d)) (hN : N = es.length) (hy : ev st y = v) (hs : v.stored = some [v])
    (h : O P true ops rest k (({ st with hp := setL st.hp id (.arx e sz es i c v) } : St).put o.dst (.tup []))) : Af P true ops rest k o st .fail := by
  subst hN
  refine Af_sem fun ct a w F M Q hr => ?_
  obtain ⟨ii, u, z, hii, hu, hz, rfl⟩ := tiOf_some ht
  simp only at h1
  have hvx := ev_sound hr x
  have hvy := ev_sound hr y
  rw [hx] at hvx
  rw [hy] at hvy
  generalize hwx : a.eval x = vx at hvx
  generalize hwy : a.eval y = vy at hvy
  obtain ⟨hcs, hone, hdl⟩ := stored_sound hvy hs
  have hvone : v.one = true := by simpa using hone
  have hoc : vy.oneCell' = true := hvy.oneCell hvone
  have hsize : vy.cells.size = 1 := by have := hdl.1; simpa using this
  have hcell : vy.cells.toList = [vy] := by
    cases vy with
    | agg _ => cases hoc
    | tuple _ => cases hoc
    | _ => rfl
  have hb := hr.heap.obj id _ hg
  obtain ⟨row, hrow, hrs, hcells, hdr, ho1⟩ := ArxR.row hb
  have hcap : es.length ≤ (M id).cap := ArxR.le hb
  obtain ⟨hi, hc⟩ := ArxR.at_ hb
  have hnF := ArxR.nF hb
  have hlt : i * sz + c < row.size := by rw [hrs]; exact row_lt hi hcap hc
  cases hvx with
  | ea _ _ _ _ sz2 n2 _ hs2 hN2 hv2 h2 =>
    have hsgo := sg_of_get hg
    rw [hs2] at hsgo
    simp only [AO.sg, Option.some.injEq, Sg.arr.injEq] at hsgo
    obtain ⟨rfl, rfl⟩ := hsgo
    obtain ⟨rfl, _⟩ := h2 rfl
    have hst := run_storeCells_row P (M id).blk (i * sz2 + c) e [vy] 0 row w hrow (by simp; omega) (by simpa using hoc)
    simp only [Nat.add_zero] at hst
    have hget : ∀ j, get (setL st.hp id (.arx e sz2 es i c v)) j = if j = id then some (.arx e sz2 es i c v) else get st.hp j := get_setL _ _ _
    have hsg := sgKeep_same hget hg rfl
    have hval : ∀ p, ((row.toList.take (i * sz2 + c) ++ [vy] ++ row.toList.drop (i * sz2 + c + [vy].length)).toArray).getD p undef = if p = i * sz2 + c then vy else row.getD p undef := by
      intro p
      have e2 : row.toList.take (i * sz2 + c) ++ [vy] ++ row.toList.drop (i * sz2 + c + [vy].length) = row.toList.set (i * sz2 + c) vy := by
        rw [List.set_eq_take_append_cons_drop, if_pos (by simpa using hlt)]; simp
      rw [e2, Array.getD_eq_getD_getElem?, Array.getD_eq_getD_getElem?]
      simp only [List.getElem?_toArray, List.getElem?_set, Array.length_toList, Array.getElem?_toList]
      by_cases e3 : i * sz2 + c = p
      · subst e3; simp [hlt]
      · rw [if_neg e3, if_neg (Ne.symm e3)]
    have hr' : Rel ct { st with hp := setL st.hp id (.arx e sz2 es i c v) } a (w.setRow (M id).blk (row.toList.take (i * sz2 + c) ++ [vy] ++ row.toList.drop (i * sz2 + c + [vy].length)).toArray) F M := by
      refine hr.change (M' := M) hget (fun _ _ => rfl) (by rw [hsg]; exact SgKeep.refl _ _) rfl rfl rfl (by simp) (fun b hb hne => setRow_other w _ b _ (fun e => hne _ hg e)) ?_ (fun b hb => .inl ⟨_, hg, hb⟩)
      have hF : ∀ b, F b → (w.setRow (M id).blk (row.toList.take (i * sz2 + c) ++ [vy] ++ row.toList.drop (i * sz2 + c + [vy].length)).toArray).heap[b]? = w.heap[b]? :=
        fun b hb => setRow_other w _ b _ (fun e => hnF (e ▸ hb))
      refine ⟨ArxR.pos hb, hcap, ArxR.max hb, ArxR.wid hb, ⟨hi, hc⟩, hnF, _, hrow.set (by simp; omega), by simp; omega, fun i' e' j c' a1 a2 a3 => ?_, ?_, ?_⟩
      · have hw := ArxR.wid hb i' e' a1
        have hj := (List.getElem?_eq_some_iff.1 a2).1
        rw [hval, if_neg]
        · exact (hcells i' e' j c' a1 a2 a3).keep hF (fun _ h => h)
        · intro e4
          apply a3
          have e5 : i' = i := by
            rcases Nat.lt_trichotomy i' i with h5 | h5 | h5
            · have : (i' + 1) * sz2 ≤ i * sz2 := Nat.mul_le_mul_right _ (by omega)
              rw [Nat.add_mul] at this; omega
            · exact h5
            · have : (i + 1) * sz2 ≤ i' * sz2 := Nat.mul_le_mul_right _ (by omega)
              rw [Nat.add_mul] at this; omega
          subst e5
          exact ⟨rfl, by omega⟩
      · rw [hval, if_pos rfl, hsg]
        exact hvy.keep hF (fun _ h => h) (SgKeep.refl _ _)
      · rw [hval, if_pos rfl]; exact hoc
    unfold Oper.wp
    have hex : (execOp a.eval o).run P w = .ok .skip (w.setRow (M id).blk (row.toList.take (i * sz2 + c) ++ [vy] ++ row.toList.drop (i * sz2 + c + [vy].length)).toArray) := by
      have h3 : (Instr.storeAt t (.pointer (some ⟨(M id).blk, i * sz2 + c, none⟩)) vy).run P w = .ok () (w.setRow (M id).blk (row.toList.take (i * sz2 + c) ++ [vy] ++ row.toList.drop (i * sz2 + c + [vy].length)).toArray) := by
        have hst' := hst
        rw [← hcell] at hst'
        rw [← hcell]
        simp [Instr.storeAt, Instr.sureAddr, storeVar, run_sizeOf' hii, h1, hsize, hst']
      simp [execOp, ho, hwx, hwy, h3]
    rw [hex]
    exact ⟨_, F, M, h, hr'.put (.tup [] #[] rfl (fun i d hd => by simp at hd)) o.dst⟩
theorem Wk.closeX {id i c sz q sz2 : Nat} {e e2 : TypeId} {es qs : List (List Pd)} (hg : get st.hp id = some (.arx e sz es i c (.ref q 0 qs.length qs.length))) (hq : get st.hp q = some (.arr e2 sz2 qs)) :
    Wk st ⟨st.env, setL (setL st.hp q (.fro sz2 qs)) id (.arr e sz (es.set i ((es.getD i []).set c (.sl qs)))), st.n⟩ := by
  intro ct a w F M hr
  have hne : id ≠ q := fun e => by subst e; rw [hg] at hq; cases hq
  have hb := hr.heap.obj id _ hg
  obtain ⟨row, hrow, hrs, hcells, hdr, ho1⟩ := ArxR.row hb
  obtain ⟨x, h', F', ⟨rfl, rfl⟩, hr', hF, hs, hp⟩ := purD_sound hr hdr (k := fun x h' => x = .sl qs ∧ h' = setL st.hp q (.fro sz2 qs)) (by simp [purD, hq, froze])
  have hg' : get (setL st.hp q (.fro sz2 qs)) id = some (.arx e sz es i c (.ref q 0 qs.length qs.length)) := by rw [get_setL, if_neg hne]; exact hg
  have hb' := hr'.heap.obj id _ hg'
  have hget : ∀ j, get (setL (setL st.hp q (.fro sz2 qs)) id (.arr e sz (es.set i ((es.getD i []).set c (.sl qs))))) j = if j = id then some (.arr e sz (es.set i ((es.getD i []).set c (.sl qs)))) else get (setL st.hp q (.fro sz2 qs)) j := get_setL _ _ _
  have hsg := sgKeep_same hget hg' (by simp [AO.sg])
  obtain ⟨hi, hc⟩ := ArxR.at_ hb
  have hcap := ArxR.le hb
  have hej : es[i]? = some (es.getD i []) := by simp [List.getD, hi]
  have hlen := ArxR.wid hb i _ hej
  refine ⟨F', M, hr'.change (M' := M) hget (fun _ _ => rfl) (by rw [hsg]; exact SgKeep.refl _ _) rfl rfl rfl (Nat.le_refl _) (fun _ _ _ => rfl)
    ⟨ArxR.pos hb, by simpa using hcap, ArxR.max hb, fun i' e' a1 => ?_, fun _ => ⟨ArxR.nF hb', row, hrow, hrs, fun i' e' j c' a1 a2 => ?_⟩⟩ (fun b hb2 => .inl ⟨_, hg', ?_⟩)⟩
  · rw [List.getElem?_set] at a1
    by_cases e1 : i = i'
    · rw [if_pos e1, if_pos (by omega)] at a1
      simp only [Option.some.injEq] at a1; rw [← a1]; simpa using hlen
    · rw [if_neg e1] at a1; exact ArxR.wid hb i' e' a1
  · rw [List.getElem?_set] at a1
    by_cases e1 : i = i'
    · subst e1
      rw [if_pos rfl, if_pos (by omega)] at a1
      simp only [Option.some.injEq] at a1
      subst a1
      rw [List.getElem?_set] at a2
      by_cases e2 : c = j
      · subst e2
        rw [if_pos rfl, if_pos (by omega)] at a2
        simp only [Option.some.injEq] at a2
        subst a2
        exact hp
      · rw [if_neg e2] at a2
        exact (hcells i _ j c' hej a2 (fun h => e2 h.2.symm)).keep (fun _ _ => rfl) hF
    · rw [if_neg e1] at a1
      exact (hcells i' e' j c' a1 a2 (fun h => e1 h.1.symm)).keep (fun _ _ => rfl) hF
  · simp only [AO.owns] at hb2 ⊢; exact hb2.2
end
end Go.Am
end
