/- Texts of this proof, what it rests on, merged: part D. -/
import Derived.Lib.ConvBytes
import Derived.Lib.OthersKept
import Derived.ScopeJumps
import Derived.Laws.IdiomStrings
import Derived.Lib.LaidTab
import Derived.Lib.ItoaNum
import Derived.Sort.Grow
import Derived.Deep.Draws
import Derived.Below
import Derived.LaidSub
import Derived.Test.YtacfhnpmlpaojaaCyC
section
set_option linter.unusedVariables false
set_option linter.unusedSimpArgs false
namespace Go.Am
open Go Go.ChangeShapes Go.RowKit
def wtF (p : Field → List Pd → Prop) : List Field → List Pd → Prop
  | [], cs => cs = []
  | f :: r, cs => ∃ a b, cs = a ++ b ∧ p f a ∧ wtF p r b
def wtP (P : Program) : Nat → TypeId → List Pd → Prop
  | 0, _, _ => False
  | n + 1, t, cs => match P.underlying t with
    | some .bool => ∃ b, cs = [.bool b]
    | some (.int k) => ∃ v, cs = [.int k v] ∧ (Lit.int k v).wf = true
    | some .string => ∃ l, cs = [.str l]
    | some (.slice e) => ∃ es, cs = [.sl es] ∧ ∀ y ∈ es, wtP P n e y
    | some (.struct fs) => wtF (fun f => wtP P n f.type) fs.toList cs
    | some (.array k e) => ∃ es : List (List Pd), cs = es.flatten ∧ es.length = k ∧ ∀ y ∈ es, wtP P n e y
    | _ => False
mutual
def pdB : Pd → Nat
  | .int _ _ => 1
  | .bool _ => 1
  | .str l => l.length + 1
  | .sl es => pdBs es + 1
def pdBl : List Pd → Nat
  | [] => 0
  | x :: r => pdB x + pdBl r
def pdBs : List (List Pd) → Nat
  | [] => 0
  | x :: r => pdBl x + pdBs r
end
theorem pdBl_append (a b : List Pd) : pdBl (a ++ b) = pdBl a + pdBl b := by
  induction a with
  | nil => simp [pdBl]
  | cons x r ih => simp only [List.cons_append, pdBl, ih]; omega
section
variable {H : Type} {enc : TypeId × Value → H} {P : Program} {w : World} {spare : Nat → Bool} {held : Bool}
theorem wtF_flat {p : Field → List Pd → Prop} : ∀ (fs : List Field) (xs : List (DataW H × List MemPlace)), xs.length = fs.length → (∀ (i : Nat) f x, fs[i]? = some f → xs[i]? = some x → p f (flatD x.1)) → wtF p fs (flatA (xs.map (·.1)))
  | [], xs, hl, _ => by
    have : xs = [] := List.eq_nil_of_length_eq_zero hl
    subst this
    rfl
  | f :: r, xs, hl, h => by
    cases xs with
    | nil => simp at hl
    | cons x xs => exact ⟨flatD x.1, flatA (xs.map (·.1)), rfl, h 0 f x rfl rfl, wtF_flat r xs (by simpa using hl) fun i g y hg hy => h (i + 1) g y (by simpa using hg) (by simpa using hy)⟩
theorem flatA_flat : ∀ (xs : List (DataW H × List MemPlace)), flatA (xs.map (·.1)) = (xs.map fun x => flatD x.1).flatten
  | [] => rfl
  | x :: r => by simp only [List.map_cons, flatA, List.flatten_cons, flatA_flat r]
theorem trod_wt : ∀ (m : Nat) (t : TypeId), plainB P m t = true → ∀ (fuel : Nat) (cs : List Value) (x : DataW H × List MemPlace),
    DataW.trod enc P w 0 spare held fuel t cs = some x → wtP P m t (flatD x.1) := by
  intro m
  induction m with
  | zero => intro t h; simp [plainB] at h
  | succ m ih =>
    intro t ht fuel cs x h
    simp only [plainB] at ht
    simp only [wtP]
    split at ht
    · rename_i hu
      obtain ⟨b, rfl, rfl⟩ := DataW.trod_bool hu h
      rw [hu]; exact ⟨b, rfl⟩
    · rename_i k hu
      obtain ⟨n, rfl, rfl, hw⟩ := DataW.trod_int hu h
      rw [hu]; exact ⟨n, rfl, hw⟩
    · rename_i hu
      obtain ⟨s, rfl, rfl, _⟩ := DataW.trod_string hu h
      rw [hu]; exact ⟨_, rfl⟩
    · rename_i e hu
      simp only [Bool.and_eq_true, decide_eq_true_eq] at ht
      obtain ⟨hk, hpe⟩ := ht
      rw [hu]
      rcases DataW.trod_slice hu h with ⟨rfl, rfl⟩ | ⟨a, len, cap, elems, rest, n, rfl, rfl, rfl, hb, hl, hc, hel, hget, _, _⟩
      · exact ⟨[], rfl, by simp⟩
      · refine ⟨elems.map fun x => flatD x.1, by simp only [flatD, flatE_map], fun y hy => ?_⟩
        obtain ⟨z, hz, rfl⟩ := List.mem_map.1 hy
        obtain ⟨i, hi, rfl⟩ := List.mem_iff_getElem.1 hz
        have := hget i (by omega)
        rw [List.getElem?_eq_getElem hi] at this
        obtain ⟨cs', h1, h2⟩ := Option.bind_eq_some_iff.1 this
        exact ih e hpe _ _ _ h2
    · rename_i fs hu
      simp only [Bool.and_eq_true, decide_eq_true_eq] at ht
      rw [hu]
      obtain ⟨xs, n, rfl, rfl, hl, hxl, hget⟩ := DataW.trod_struct hu h
      simp only [flatD]
      refine wtF_flat fs.toList xs (by simpa using hxl) fun i f x hf hx => ?_
      have h1 := hget i f (by simpa using hf)
      rw [hx] at h1
      exact ih f.type (List.all_eq_true.1 ht.2 f (List.mem_of_getElem? hf)) _ _ _ h1
    · rename_i k e hu
      simp only [Bool.and_eq_true, decide_eq_true_eq] at ht
      rw [hu]
      obtain ⟨xs, n, rfl, rfl, hl, hxl, hget⟩ := DataW.trod_array hu h
      refine ⟨xs.map fun x => flatD x.1, by simp only [flatD, flatA_flat], by simpa using hxl, fun y hy => ?_⟩
      obtain ⟨z, hz, rfl⟩ := List.mem_map.1 hy
      obtain ⟨i, hi, rfl⟩ := List.mem_iff_getElem.1 hz
      have h1 := hget i (by omega)
      rw [List.getElem?_eq_getElem hi] at h1
      exact ih e ht.2 _ _ _ h1
    · cases ht
theorem top_wt {W : World} {t : TypeId} {v : Value} {d : DataW H} {ps : List MemPlace} {sp : Nat → Bool} (ht : topB P t = true) (h : DataW.Trod enc P W 0 sp held t v d ps) : wtP P 30 t (flatD d) := by
  unfold topB at ht
  simp only [Bool.and_eq_true] at ht
  obtain ⟨fuel, hf⟩ := h
  exact trod_wt 30 t ht.1 _ _ _ hf
theorem tops_wt {W : World} {sp : Nat → Bool} : ∀ {ts : List TypeId} {vs : List Value} {ds : List (DataW H)} {ps : List MemPlace}, (ts.all (topB P)) = true → DataW.TrodAll enc P W 0 sp held ts vs ds ps →
    ds.length = ts.length ∧ ∀ (i : Nat) t d, ts[i]? = some t → ds[i]? = some d → wtP P 30 t (flatD d)
  | [], vs, ds, ps, _, h => by
    obtain ⟨rfl, rfl, _⟩ := trodAll_nil h
    exact ⟨rfl, fun i t d h => by simp at h⟩
  | t :: ts, vs, ds, ps, ht, h => by
    obtain ⟨v, vs', d, ds', p, q, rfl, rfl, _, h1, h2⟩ := trodAll_cons h
    simp only [List.all_cons, Bool.and_eq_true] at ht
    obtain ⟨h3, h4⟩ := tops_wt ht.2 h2
    refine ⟨by simp [h3], fun i t' d' hi hd => ?_⟩
    cases i with
    | zero => simp only [List.getElem?_cons_zero, Option.some.injEq] at hi hd; subst hi hd; exact top_wt ht.1 h1
    | succ i => simp only [List.getElem?_cons_succ] at hi hd; exact h4 i t' d' hi hd
end
section
variable {P : Program} {n : Nat} {t : TypeId} {cs : List Pd}
theorem wt_int {k : IntKind} (hu : P.underlying t = some (.int k)) (h : wtP P n t cs) : ∃ v, cs = [.int k v] ∧ (Lit.int k v).wf = true := by
  cases n with
  | zero => exact h.elim
  | succ n => simpa only [wtP, hu] using h
theorem wt_bool (hu : P.underlying t = some .bool) (h : wtP P n t cs) : ∃ b, cs = [.bool b] := by
  cases n with
  | zero => exact h.elim
  | succ n => simpa only [wtP, hu] using h
theorem wt_sl {e : TypeId} (hu : P.underlying t = some (.slice e)) (h : wtP P n t cs) : ∃ m es, cs = [.sl es] ∧ ∀ y ∈ es, wtP P m e y := by
  cases n with
  | zero => exact h.elim
  | succ n =>
    simp only [wtP, hu] at h
    exact ⟨n, h⟩
theorem dec_map {α : Type} (enc : α → List Pd) : ∀ (es : List (List Pd)), (∀ y ∈ es, ∃ x, y = enc x) → ∃ l : List α, es = l.map enc
  | [], _ => ⟨[], rfl⟩
  | y :: r, h => by
    obtain ⟨x, hx⟩ := h y (by simp)
    obtain ⟨l, hl⟩ := dec_map enc r fun z hz => h z (by simp [hz])
    exact ⟨x :: l, by simp [hx, hl]⟩
theorem pdBs_map {α : Type} (enc : α → List Pd) (h1 : ∀ x, 1 ≤ pdBl (enc x)) : ∀ (l : List α), l.length ≤ pdBs (l.map enc) ∧ ∀ x ∈ l, pdBl (enc x) ≤ pdBs (l.map enc)
  | [] => ⟨Nat.zero_le _, by simp⟩
  | y :: r => by
    obtain ⟨h2, h3⟩ := pdBs_map enc h1 r
    have h4 := h1 y
    simp only [List.map_cons, pdBs, List.length_cons]
    refine ⟨by omega, fun x hx => ?_⟩
    rcases List.mem_cons.1 hx with rfl | hx
    · omega
    · have := h3 x hx; omega
end
end Go.Am
namespace Go.Am
open Go
section
variable {P : Program} {ops rest : List Oper} {k : Kt} {st : St} {o : Oper}
theorem Af_sem (h : SemOp P o (O P true ops rest k) st) : Af P true ops rest k o st .fail := ⟨rfl, h⟩
end
end Go.Am
namespace Go.Am
open Go
theorem Wk.seal {st : St} {t id : Nat} {ty : TypeId} {xs : List Pd} {env1 : List (Nat × D)} {hp1 : Hp} (ht : get st.env t = some (.ptr id 0)) (ho : get st.hp id = some (.box (xs.map .p) ty)) (h1 : get hp1 id = none) (hl : Le st ⟨env1, hp1, st.n⟩) :
    Wk st ⟨(t, .pe xs) :: env1, hp1, st.n⟩ := by
  intro c a w F M hr
  have hr1 := hr.forget hl
  obtain ⟨hnF, row, _, hrow, hsz, hcells⟩ := hr.heap.obj id _ ho
  have hown : Owned M st.hp (M id).blk := ⟨id, _, ho, rfl⟩
  have hLH : LeH st.hp hp1 := hl.2.2.1
  have hs := SgKeep.refl M (sg hp1)
  refine ⟨fun b => F b ∨ b = (M id).blk, M, ⟨fun q d hq => ?_, hr1.size, hr1.defers, ⟨fun j o hj => ?_, hr1.heap.inj⟩, ?_⟩⟩
  · rw [get_cons] at hq
    split at hq
    · rename_i e
      subst e
      cases hq
      have hv := hr.env _ _ ht
      generalize a.tmps.getD t undef = v at hv
      cases hv with
      | ptr _ _ _ =>
        refine .pe xs (M id).blk 0 row _ (0, 0) (.inr rfl) hrow (fun j x hx => ?_) (fun j x hx => ?_)
        · have := (List.getElem?_eq_some_iff.1 hx).1
          simp at hsz; omega
        · have := (hcells.1 j (.p x) (by simp [hx])).1
          rw [Nat.zero_add]
          cases this with | p hp => exact hp.keep (fun _ _ => rfl) (fun _ h => .inl h)
    · exact (hr1.env q d hq).keep (fun _ _ => rfl) (fun _ h => .inl h) hs
  · refine (hr1.heap.obj j o hj).keep (fun _ _ => rfl) (fun _ h => .inl h) hs fun b ho2 => ⟨rfl, ?_⟩
    rintro (h | h)
    · exact hr1.heap.notF ⟨j, o, hj, ho2⟩ h
    · have := hr.heap.inj j o id _ b (hLH.spec j o hj) ho ho2 h
      subst this
      simp only at hj
      rw [h1] at hj
      cases hj
  · have hk := hr1.keep
    refine ⟨hk.os, hk.tape, hk.output, hk.size, hk.old, fun b hb => .inl (hk.F0 b hb), fun b hb => ?_, fun b hb => ?_, hk.own, hk.sgk, hk.s0b⟩
    · rcases hb with hb | rfl
      · exact hk.Fn b hb
      · exact .inr (hr.keep.own _ hown)
    · rcases hb with hb | rfl
      · exact hk.Fl b hb
      · exact (Array.getElem?_eq_some_iff.1 hrow).1
section
variable {P : Program} {ops rest : List Oper} {k : Kt} {st : St} {o : Oper}
end
end Go.Am
namespace Go.Am
open Go
theorem Wk.nilBox {st : St} {id j q sz : Nat} {cs : List D} {ty : TypeId} (e : TypeId) (hb : get st.hp id = some (.box cs ty)) (hj : cs[j]? = some (.cl [])) (hq : get st.hp q = none) (hs : 0 < sz) :
    Wk st ⟨st.env, (q, .arr e sz []) :: setL st.hp id (.box (cs.set j (.ref q 0 0 0)) ty), st.n⟩ := by
  intro c a w F M hr
  obtain ⟨hr1, h1⟩ := hr.newEmpty (e := e) hq hs
  have hne : id ≠ q := fun h => by subst h; rw [hq] at hb; cases hb
  have hb1 : get ((q, AO.arr e sz []) :: st.hp) id = some (.box cs ty) := by rw [get_cons, if_neg (Ne.symm hne)]; exact hb
  have hget : ∀ i, get ((q, AO.arr e sz []) :: setL st.hp id (.box (cs.set j (.ref q 0 0 0)) ty)) i = if i = id then some (.box (cs.set j (.ref q 0 0 0)) ty) else get ((q, AO.arr e sz []) :: st.hp) i := by
    intro i
    simp only [get_cons, get_setL]
    by_cases e1 : i = id
    · subst e1; simp [Ne.symm hne]
    · by_cases e2 : q = i
      · subst e2; simp [e1]
      · simp [e1, e2]
  have hsg := sgKeep_same hget hb1 rfl
  have hobj := hr1.heap.obj id _ hb1
  obtain ⟨hnF, row, t, hrow, hsz, hcells⟩ := hobj
  refine ⟨F, upM M q ⟨0, 0, []⟩, ?_⟩
  refine hr1.change (st := ⟨st.env, (q, AO.arr e sz []) :: st.hp, st.n⟩) hget (fun _ _ => rfl) (by rw [hsg]; exact SgKeep.refl _ _) rfl rfl rfl (Nat.le_refl _) (fun _ _ _ => rfl) ?_ (fun b hb => .inl ⟨_, hb1, hb⟩)
  refine ⟨hnF, row, t, hrow, by simpa using hsz, fun i d hd => ?_, fun h5 h6 i hi => ?_⟩
  rotate_left
  · refine hcells.2 h5 ?_ i ?_
    · obtain ⟨x, hx, hn⟩ := List.any_eq_true.1 h6
      rcases List.mem_or_eq_of_mem_set hx with h7 | rfl
      · exact List.any_eq_true.2 ⟨x, h7, hn⟩
      · cases hn
    · by_cases e1 : i = j
      · subst e1
        rw [List.getElem?_set_self (List.getElem?_eq_some_iff.1 hj).1] at hi
        cases hi
      · rwa [List.getElem?_set_ne (Ne.symm e1)] at hi
  rw [hsg]
  by_cases e1 : i = j
  · subst e1
    have hlt := (List.getElem?_eq_some_iff.1 hj).1
    rw [List.getElem?_set_self hlt] at hd
    cases hd
    have h2 := hcells.1 i _ hj
    refine ⟨?_, h2.2⟩
    have h3 := h2.1
    generalize row.getD i undef = v at h3
    cases h3 with | cl _ ad _ => exact h1 ad
  · rw [List.getElem?_set_ne (Ne.symm e1)] at hd
    exact hcells.1 i d hd
theorem Wk.pure {st : St} {t id sz : Nat} {e : TypeId} {es : List (List Pd)} (ht : get st.env t = some (.ref id 0 es.length es.length)) (ho : get st.hp id = some (.arr e sz es)) :
    Wk st ⟨(t, .p (.sl es)) :: st.env, setL st.hp id (.fro sz es), st.n⟩ := by
  intro c a w F M hr
  have hd := hr.env _ _ ht
  obtain ⟨x, h', F', ⟨rfl, rfl⟩, hr', hF, hs, hp⟩ := purD_sound hr hd (k := fun x h' => x = .sl es ∧ h' = setL st.hp id (.fro sz es)) (by simp [purD, ho, froze])
  refine ⟨F', M, ⟨fun j d hj => ?_, hr'.size, hr'.defers, hr'.heap, hr'.keep⟩⟩
  rw [get_cons] at hj
  split at hj
  · rename_i e1
    subst e1
    cases hj
    exact .p hp
  · exact hr'.env j d hj
attribute [go_sem] decB
theorem X_any0 {P : Program} {l : List Oper} {id : Nat} {p : List (Nat × Nat)} {k : Kt} {st : St} (hm : P.follows .mixedOrders = true) (hB : planB l p = true) (hle : LeH st.hp st.hp) (h : G P l st.hp p k st) :
    X P (.region id l.toArray true) k st := X_any st.hp hm hB hle h
attribute [go_sem] List.length_map
end Go.Am
namespace Go.Am
open Go
def jmp (P : Program) (c : Code) (Q : Exit → Act → World → Prop) : Nat → Exit → Act → World → Prop
  | 0, .goto _, _, _ => False
  | n + 1, .goto l, a, w => ∃ rest, findLabel c l = some rest ∧ rest.wp P (jmp P c Q n) a w
  | _, .normal, a, w => Q .normal a w
  | _, .exit id, a, w => Q (.exit id) a w
  | _, .ret, a, w => Q .ret a w
  | _, .panic ch, a, w => Q (.panic ch) a w
  | _, .outgrown, a, w => Q .outgrown a w
theorem wp_scope_jmp {P : Program} {a : Act} {w : World} {Q : Exit → Act → World → Prop} {c : Code} (n : Nat) (first : c.wp P (jmp P c Q n) a w) : (Code.scope c).wp P Q a w := by
  intro b k cs
  have key : ∀ n (c1 : Code) a w, c1.wp P (jmp P c Q n) a w → ∃ e a' w', Q e a' w' ∧ Arrives P (lone (b.at a (.code c1 :: .inScope c :: k)) cs w) b k cs e a' w' := by
    intro n
    induction n with
    | zero =>
      intro c1 a w h
      obtain ⟨e, a₁, w₁, hq, harr⟩ := h b (.inScope c :: k) cs
      cases e with
      | normal => exact ⟨.normal, a₁, w₁, hq, Steps.trans harr (.one step_inScope)⟩
      | exit id => exact ⟨.exit id, a₁, w₁, hq, fun k' hk => harr k' (by simp [exitTo, hk])⟩
      | goto l' => exact hq.elim
      | ret => exact ⟨_, a₁, w₁, hq, harr⟩
      | panic ch => exact ⟨_, a₁, w₁, hq, harr⟩
      | outgrown => exact ⟨_, a₁, w₁, hq, harr⟩
    | succ n ih =>
      intro c1 a w h
      obtain ⟨e, a₁, w₁, hq, harr⟩ := h b (.inScope c :: k) cs
      cases e with
      | normal => exact ⟨.normal, a₁, w₁, hq, Steps.trans harr (.one step_inScope)⟩
      | exit id => exact ⟨.exit id, a₁, w₁, hq, fun k' hk => harr k' (by simp [exitTo, hk])⟩
      | goto l' =>
        obtain ⟨rest, hf, hx⟩ := hq
        have hg : gotoIn l' (.inScope c :: k) = some (.code rest :: .inScope c :: k) := by simp [gotoIn, hf]
        obtain ⟨e₂, a₂, w₂, hq₂, harr₂⟩ := ih rest a₁ w₁ hx
        exact ⟨e₂, a₂, w₂, hq₂, .of_steps (harr _ hg) harr₂⟩
      | ret => exact ⟨_, a₁, w₁, hq, harr⟩
      | panic ch => exact ⟨_, a₁, w₁, hq, harr⟩
      | outgrown => exact ⟨_, a₁, w₁, hq, harr⟩
  obtain ⟨e, a', w', hq, harr⟩ := key n c a w first
  exact ⟨e, a', w', hq, .of_steps (.one step_scope) harr⟩
def scQ (P : Program) (x : Code) (k : Kt) : Nat → Exit → St → Prop
  | 0, .goto _, _ => False
  | n + 1, .goto l, st => ∃ st1 rest, Wk st st1 ∧ findLabel x l = some rest ∧ wA P rest (scQ P x k n) st1
  | _, .normal, st => J P k .normal st
  | _, .exit id, st => J P k (.exit id) st
  | _, .ret, st => J P k .ret st
  | _, .panic ch, st => J P k (.panic ch) st
  | _, .outgrown, st => J P k .outgrown st
def Jm (P : Program) (x : Code) (k : Kt) (n l : Nat) (st : St) : Prop := scQ P x k n (.goto l) st
section
variable {P : Program} {st : St} {x : Code} {k : Kt}
theorem scQ_jmp {c : Ctx} : ∀ (n : Nat) (e : Exit) (a : Act) (w : World), QC c (scQ P x k n) e a w → jmp P x (QC c (k.sem P)) n e a w
  | 0, .goto _, _, _, ⟨_, _, _, h, _⟩ => h.elim
  | n + 1, .goto l, a, w, ⟨st, F, M, ⟨st1, rest, hw, hf, hx⟩, hr⟩ => by
    obtain ⟨F1, M1, hr1⟩ := hw c a w F M hr
    exact ⟨rest, hf, Code.wp_mono (scQ_jmp n) (wA_sound rest hr1 hx)⟩
  | 0, .normal, _, _, h => h
  | 0, .exit _, _, _, h => h
  | 0, .ret, _, _, h => h
  | 0, .panic _, _, _, h => h
  | 0, .outgrown, _, _, h => h
  | _ + 1, .normal, _, _, h => h
  | _ + 1, .exit _, _, _, h => h
  | _ + 1, .ret, _, _, h => h
  | _ + 1, .panic _, _, _, h => h
  | _ + 1, .outgrown, _, _, h => h
theorem X_scope (n : Nat) (h : X P x (.user (scQ P x k n)) st) : X P (.scope x) k st :=
  fun c a w F M hr => wp_scope_jmp n (Code.wp_mono (scQ_jmp n) (wA_sound x hr h))
theorem J_sc_goto (n l : Nat) : J P (.user (scQ P x k n)) (.goto l) st = Jm P x k n l st := nd rfl
theorem J_sc_normal (n : Nat) : J P (.user (scQ P x k n)) .normal st = J P k .normal st := by cases n <;> rfl
theorem X_scope_inv {β : Type} (lab : β → Nat) (S : β → St) (I : β → Prop) (μ : β → Nat) (N : Nat)
    (h0 : ∀ n, (∀ b' st', I b' → μ b' < N → Wk st' (S b') → Jm P x k n (lab b') st') → X P x (.user (scQ P x k n)) st)
    (hs : ∀ b n, I b → (∀ b' st', I b' → μ b' < μ b → Wk st' (S b') → Jm P x k n (lab b') st') → ∃ rest, findLabel x (lab b) = some rest ∧ X P rest (.user (scQ P x k n)) (S b)) : X P (.scope x) k st := by
  have key : ∀ n b st', I b → μ b < n → Wk st' (S b) → Jm P x k n (lab b) st' := by
    intro n
    induction n with
    | zero => intro b _ _ h; exact (Nat.not_lt_zero _ h).elim
    | succ n ih =>
      intro b st' hb hm hw
      obtain ⟨rest, hf, hx⟩ := hs b n hb fun b' st'' hb' hlt hwk => ih b' st'' hb' (by omega) hwk
      exact ⟨S b, rest, hw, hf, hx⟩
  exact X_scope N (h0 N fun b' st' hb' hlt hw => key N b' st' hb' hlt hw)
end
attribute [go_sem] J_sc_goto J_sc_normal
end Go.Am
namespace Go.Am
open Go
section
variable {P : Program} {ops rest : List Oper} {k : Kt} {st : St} {o : Oper}
end
end Go.Am
namespace Go.Am
open Go
theorem get_app (h e : Hp) (j : Nat) : get (h ++ e) j = match get h j with | some o => some o | none => get e j := by
  induction h with
  | nil => rfl
  | cons x r ih =>
    obtain ⟨k, o⟩ := x
    simp only [List.cons_append, get_cons]
    split
    · rfl
    · exact ih
theorem ACalls.glob {P : Program} {f : FuncId} {args : List D} {h : Hp} {R : Hp → D → Prop} {id g : Nat} {cs : List Pd} (hc : ACalls P f args h R) (hid : base ≤ id) (hn : get h id = none)
    (hids : ((idsL args ++ hpIds h).all fun i => (get h i).isSome) = true) (hRn : ∀ h1 r, R h1 r → get h1 id = none) :
    ACalls P f args (h ++ [(id, .glob g cs)]) fun h' r => ∃ h1, R h1 r ∧ h' = h1 ++ [(id, .glob g cs)] := by
  intro vs w F M hHR hFl hsb hd
  have hget : ∀ j o, get h j = some o → get (h ++ [(id, AO.glob g cs)]) j = some o := fun j o ho => by rw [get_app, ho]
  have hgl : get (h ++ [(id, AO.glob g cs)]) id = some (.glob g cs) := by rw [get_app, hn]; simp [get_cons]
  have hpres : ∀ i, i ∈ idsL args ++ hpIds h → ∃ o, get h i = some o := fun i hi => Option.isSome_iff_exists.1 (List.all_eq_true.1 hids i hi)
  let ρ : Nat → Option Nat := fun i => if (get h i).isSome then some i else none
  have hρ : ∀ i j, ρ i = some j → sg (h ++ [(id, AO.glob g cs)]) i ≠ none → M j = M i ∧ sg h j = sg (h ++ [(id, AO.glob g cs)]) i := by
    intro i j hj _
    simp only [ρ] at hj
    split at hj
    · rename_i hs
      simp only [Option.some.injEq] at hj
      subst hj
      obtain ⟨o, ho⟩ := Option.isSome_iff_exists.1 hs
      exact ⟨rfl, by simp [sg, ho, hget _ _ ho]⟩
    · cases hj
  have hid' : ∀ i, (∃ o, get h i = some o) → ρ i = some i := fun i ⟨o, ho⟩ => by simp [ρ, ho]
  have hHR1 : HR F w M h := by
    constructor
    · intro i o ho
      have := (hHR.obj i o (hget i o ho)).ren (M' := M) hρ
      rwa [AO.ren_id (fun j hj => hid' j (hpres j (List.mem_append_right _ (hpIds_mem ho hj))))] at this
    · intro i o i' o' b ho ho' hown hown'
      exact hHR.inj i o i' o' b (hget _ _ ho) (hget _ _ ho') hown hown'
  have hd1 : DRl F w M (sg h) args vs.toList := by
    refine ⟨hd.1, fun i d hi => ?_⟩
    have := (hd.2 i d hi).ren (M' := M) hρ
    rwa [ren_id (fun j hj => hid' j (hpres j (List.mem_append_left _ ?_)))] at this
    clear this
    have hmem : ∀ (l : List D) (i : Nat), l[i]? = some d → j ∈ idsL l := by
      intro l
      induction l with
      | nil => intro i hi; simp at hi
      | cons x r ih =>
        intro i hi
        simp only [idsL, List.mem_append]
        cases i with
        | zero => simp only [List.getElem?_cons_zero, Option.some.injEq] at hi; subst hi; exact .inl hj
        | succ i => exact .inr (ih i (by simpa using hi))
    exact hmem args i hi
  have hownA : ∀ b, Owned M (h ++ [(id, AO.glob g cs)]) b ↔ Owned M h b := by
    intro b
    constructor
    · rintro ⟨i, o, ho, hown⟩
      rw [get_app] at ho
      cases hg : get h i with
      | some o2 => rw [hg] at ho; cases ho; exact ⟨i, _, hg, hown⟩
      | none =>
        rw [hg] at ho
        simp only [get_cons] at ho
        split at ho
        · cases ho; exact hown.elim
        · simp [get] at ho
    · rintro ⟨i, o, ho, hown⟩
      exact ⟨i, o, hget _ _ ho, hown⟩
  refine (hc vs w F M hHR1 hFl (fun i hi => hsb i (by
    unfold sg at hi ⊢
    cases hg : get h i with
    | none => rw [hg] at hi; exact (hi rfl).elim
    | some o => rw [hget _ _ hg]; simp)) hd1).mono ?_
  rintro e w' ⟨v, h1, r, F', M', rfl, hR, hHR', hDR', hK⟩
  have hn1 := hRn h1 r hR
  have hkeepF : ∀ b, F b → w'.heap[b]? = w.heap[b]? := fun b hb => hK.old b (hFl b hb) (fun ho => hHR1.notF ho hb)
  let M2 : Nat → Mb := fun i => if i = id then M id else M' i
  have hM2 : ∀ i, i ≠ id → M2 i = M' i := fun i hi => by simp [M2, hi]
  have hne : ∀ i o, get h1 i = some o → i ≠ id := fun i o ho e => by subst e; rw [hn1] at ho; cases ho
  have hget1 : ∀ j o, get h1 j = some o → get (h1 ++ [(id, AO.glob g cs)]) j = some o := fun j o ho => by rw [get_app, ho]
  have hgl1 : get (h1 ++ [(id, AO.glob g cs)]) id = some (.glob g cs) := by rw [get_app, hn1]; simp [get_cons]
  have hinv1 : ∀ j o, get (h1 ++ [(id, AO.glob g cs)]) j = some o → get h1 j = some o ∨ (j = id ∧ o = .glob g cs) := by
    intro j o ho
    rw [get_app] at ho
    cases hg : get h1 j with
    | some o2 => rw [hg] at ho; exact .inl ho
    | none =>
      rw [hg] at ho
      simp only [get_cons] at ho
      split at ho
      · rename_i e; cases ho; exact .inr ⟨e.symm, rfl⟩
      · simp [get] at ho
  have hsg1 : ∀ i s, sg h1 i = some s → sg (h1 ++ [(id, AO.glob g cs)]) i = some s ∧ M2 i = M' i := by
    intro i s hs
    unfold sg at hs ⊢
    cases hg : get h1 i with
    | none => rw [hg] at hs; cases hs
    | some o => rw [hg] at hs; rw [hget1 _ _ hg]; exact ⟨hs, hM2 i (hne i o hg)⟩
  have hsk1 : SgKeep M' M2 (sg h1) (sg (h1 ++ [(id, AO.glob g cs)])) :=
    ⟨fun i hi => ⟨(hsg1 i _ hi).1, by rw [(hsg1 i _ hi).2]⟩, fun i sz n hi => ⟨n, (hsg1 i _ hi).1, Nat.le_refl _, fun _ => (hsg1 i _ hi).2⟩, fun i sz n kk hi => ⟨n, kk, (hsg1 i _ hi).1, Nat.le_refl _, Nat.le_refl _, fun _ => by rw [(hsg1 i _ hi).2]; exact ⟨rfl, rfl⟩, fun _ => by rw [(hsg1 i _ hi).2]⟩⟩
  refine ⟨v, h1 ++ [(id, .glob g cs)], r, F', M2, rfl, ⟨h1, hR, rfl⟩, ⟨fun j o ho => ?_, fun i o i' o' b ho ho' hown hown' => ?_⟩, hDR'.keep (fun _ _ => rfl) (fun _ h => h) hsk1, ?_⟩
  · rcases hinv1 j o ho with h2 | ⟨rfl, rfl⟩
    · have h3 := hHR'.obj j o h2
      rw [hM2 j (hne j o h2)]
      exact h3.keep (fun _ _ => rfl) (fun _ h => h) hsk1 (fun b hown => ⟨rfl, hHR'.notF ⟨j, o, h2, hown⟩⟩)
    · obtain ⟨h4, row, t, fr, h5, h7, h6⟩ := hHR.obj j _ hgl
      exact ⟨hK.F0 _ h4, row, t, fr, by rw [hkeepF _ h4]; exact h5, h7, fun q c hq => (h6 q c hq).keep hkeepF hK.F0⟩
  · rcases hinv1 i o ho with h2 | ⟨rfl, rfl⟩
    · rcases hinv1 i' o' ho' with h3 | ⟨rfl, rfl⟩
      · rw [hM2 i (hne i o h2)] at hown
        rw [hM2 i' (hne i' o' h3)] at hown'
        exact hHR'.inj i o i' o' b h2 h3 hown hown'
      · exact hown'.elim
    · exact hown.elim
  · refine ⟨hK.os, hK.tape, hK.output, hK.size, fun b hb hO => hK.old b hb (fun h2 => hO ((hownA b).2 h2)), hK.F0, fun b hb => ?_, hK.Fl, ?_, ?_, hsb⟩
    · rcases hK.Fn b hb with h2 | h2 | h2
      · exact .inl h2
      · exact .inr (.inl ((hownA b).2 h2))
      · exact .inr (.inr h2)
    · rintro b ⟨i, o, ho, hown⟩
      rcases hinv1 i o ho with h2 | ⟨rfl, rfl⟩
      · rw [hM2 i (hne i o h2)] at hown
        rcases hK.own _ ⟨i, o, h2, hown⟩ with h3 | h3
        · exact .inl ((hownA _).2 h3)
        · exact .inr h3
      · exact hown.elim
    · have hsk := hK.sgk
      refine ⟨fun i hi => ?_, fun i sz n hi => ?_, fun i sz n kk hi => ?_⟩
      · by_cases e : i = id
        · subst e; exact ⟨by simp [sg, hgl1, AO.sg], by simp [M2]⟩
        · have hi2 : sg (h ++ [(id, AO.glob g cs)]) i = some .box := hi
          have hi' : sg h i = some .box := by
            clear hi
            unfold sg at hi2 ⊢
            rw [get_app] at hi2
            cases hg : get h i with
            | some o => rw [hg] at hi2; exact hi2
            | none => rw [hg] at hi2; simp [get_cons, get, Ne.symm e] at hi2
          obtain ⟨h2, h3⟩ := hsk.1 i hi'
          exact ⟨(hsg1 i _ h2).1, by rw [(hsg1 i _ h2).2]; exact h3⟩
      · have e : i ≠ id := by rintro rfl; simp [sg, hgl, AO.sg] at hi
        have hi2 : sg (h ++ [(id, AO.glob g cs)]) i = some (.arr sz n) := hi
        have hi' : sg h i = some (.arr sz n) := by
          clear hi
          unfold sg at hi2 ⊢
          rw [get_app] at hi2
          cases hg : get h i with
          | some o => rw [hg] at hi2; exact hi2
          | none => rw [hg] at hi2; simp [get_cons, get, Ne.symm e] at hi2
        obtain ⟨n', h2, h3, h4⟩ := hsk.2.1 i sz n hi'
        exact ⟨n', (hsg1 i _ h2).1, h3, fun e2 => by rw [(hsg1 i _ h2).2]; exact h4 e2⟩
      · have e : i ≠ id := by rintro rfl; simp [sg, hgl, AO.sg] at hi
        have hi2 : sg (h ++ [(id, AO.glob g cs)]) i = some (.nst sz n kk) := hi
        have hi' : sg h i = some (.nst sz n kk) := by
          clear hi
          unfold sg at hi2 ⊢
          rw [get_app] at hi2
          cases hg : get h i with
          | some o => rw [hg] at hi2; exact hi2
          | none => rw [hg] at hi2; simp [get_cons, get, Ne.symm e] at hi2
        obtain ⟨n', k', h2, h3, h3', h4, h4'⟩ := hsk.2.2 i sz n kk hi'
        exact ⟨n', k', (hsg1 i _ h2).1, h3, h3', fun e2 => by rw [(hsg1 i _ h2).2]; exact h4 e2, fun e2 => by rw [(hsg1 i _ h2).2]; exact h4' e2⟩
end Go.Am
namespace Go.Am
open Go Go.ChangeShapes Go.RowKit
section
variable {P : Program} {w : World} {F : Nat → Prop} {M : Nat → Mb} {s : Nat → Option Sg} {m : Mb}
end
section
variable {H : Type} {enc : TypeId × Value → H} {P : Program} {W : World}
end
end Go.Am
namespace Go.Am
open Go Go.ChangeShapes Go.RowKit
section
variable {P : Program}
end
end Go.Am
namespace Go.Am
open Go Go.ChangeShapes Go.RowKit
section
variable {H : Type} {enc : TypeId × Value → H} {P : Program} {W : World}
end
end Go.Am
namespace Go.Am
open Go
section
variable {P : Program} {c : Ctx} {st : St} {a : Act} {w w' : World} {F : Nat → Prop} {M : Nat → Mb} {s : Nat → Option Sg}
theorem drl_one {F : Nat → Prop} {w : World} {M : Nat → Mb} {s : Nat → Option Sg} {x : D} {vs : Array Value} (h : DRl F w M s [x] vs.toList) : ∃ v, vs = #[v] ∧ DR F w M s x v := by
  have hl := h.1
  obtain ⟨v, rfl⟩ : ∃ v, vs = #[v] := by
    obtain ⟨l⟩ := vs
    match l, hl with
    | [v], _ => exact ⟨v, rfl⟩
  exact ⟨v, rfl, h.2 0 _ rfl⟩
end
end Go.Am
namespace Go.Am
open Go
section
variable {P : Program} {ops rest : List Oper} {k : Kt} {st : St} {o : Oper}
end
def mpS (m : List (List UInt8 × Int)) : List (Pd × Pd) := m.map fun p => (.str p.1, .int .i64 p.2)
theorem mpS_nil : mpS [] = [] := rfl
def mpB (m : List (Int × Bool)) : List (Pd × Pd) := m.map fun p => (.int .i64 p.1, .bool p.2)
theorem mpB_nil : mpB [] = [] := rfl
attribute [go_sem] lookupR mapUpR KK.fit Pd.flat
end Go.Am
namespace Go.Am
open Go
def PureD (r : D) : Prop := r = .tup [] ∨ ∃ y, r = .p y
theorem PureD.dr {F : Nat → Prop} {w : World} {M M' : Nat → Mb} {s s' : Nat → Option Sg} {r : D} {v : Value} (h : PureD r) (hd : DR F w M s r v) : DR F w M' s' r v := by
  rcases h with rfl | ⟨y, rfl⟩
  · cases hd with | tup _ vs hl hc => exact .tup [] vs hl (fun i c hi => by simp at hi)
  · cases hd with | p hx => exact .p hx
theorem ACalls_row {P : Program} {f : FuncId} {ps : List Pd} {t e : TypeId} {sz k i n : Nat} {rows : List (List (List Pd))} {es : List (List Pd)} {R : Hp → D → Prop} {R' : List (List Pd) → D → Prop}
    (hi : rows[i]? = some es) (hn : n = es.length) (hc : ACalls P f (.ref 1000000 0 n n :: ps.map D.p) [(1000000, .arr e sz es)] R)
    (hR : ∀ h' r, R h' r → ∃ es', h' = [(1000000, .arr e sz es')] ∧ es'.length = n ∧ PureD r ∧ R' es' r) :
    ACalls P f (.nr 1000000 i n k :: ps.map D.p) [(1000000, .nst t e sz k rows none)] fun h' r => ∃ es', h' = [(1000000, .nst t e sz k (rows.set i es') none)] ∧ es'.length = n ∧ R' es' r := by
  subst hn
  intro vs w F M hHR hFl hsb hd
  have hg : get [(1000000, AO.nst t e sz k rows none)] 1000000 = some (.nst t e sz k rows none) := rfl
  have hN : NstR F w (M 1000000) t e sz rows none := hHR.obj 1000000 _ hg
  have hlt : i < rows.length := (List.getElem?_eq_some_iff.1 hi).1
  obtain ⟨bc, hbc⟩ : ∃ bc, (M 1000000).xs[i]? = some bc := ⟨_, List.getElem?_eq_getElem (by rw [hN.xl]; exact hlt)⟩
  obtain ⟨M1, hM1⟩ : ∃ M1 : Nat → Mb, M1 = fun _ => ⟨bc.1, bc.2, []⟩ := ⟨_, rfl⟩
  have hM1' : ∀ j, M1 j = ⟨bc.1, bc.2, []⟩ := fun j => by rw [hM1]
  have hArr : ArrR F w ⟨bc.1, bc.2, []⟩ e sz es := hN.rows i es bc hi hbc (by simp)
  have hget1 : ∀ {o : AO} {j : Nat} {o2 : AO}, get [(1000000, o)] j = some o2 → j = 1000000 ∧ o2 = o := fun {o j o2} h => by
    simp only [get_cons] at h
    split at h
    · rename_i e1; cases h; exact ⟨e1.symm, rfl⟩
    · cases h
  have hHR1 : HR F w M1 [(1000000, .arr e sz es)] := by
    refine ⟨fun j o hj => ?_, fun j o j' o' b hj hj' _ _ => ?_⟩
    · obtain ⟨rfl, rfl⟩ := hget1 hj
      rw [hM1']; exact hArr
    · rw [(hget1 hj).1, (hget1 hj').1]
  have hd0 : DR F w M (sg [(1000000, .nst t e sz k rows none)]) (.nr 1000000 i es.length k) (vs.toList.getD 0 undef) := hd.2 0 _ rfl
  have hd1 : DRl F w M1 (sg [(1000000, .arr e sz es)]) (.ref 1000000 0 es.length es.length :: ps.map D.p) vs.toList := by
    refine ⟨by have := hd.1; simpa using this, fun j d hj => ?_⟩
    cases j with
    | zero =>
      simp only [List.getElem?_cons_zero, Option.some.injEq] at hj
      subst hj
      generalize vs.toList.getD 0 undef = v at hd0
      cases hd0 with
      | nr _ _ _ _ sz2 m k3 _ hs2 hN2 hv hl =>
        have hs3 : sg [(1000000, AO.nst t e sz k rows none)] 1000000 = some (.nst sz rows.length k) := rfl
        rw [hs2] at hs3
        simp only [Option.some.injEq, Sg.nst.injEq] at hs3
        obtain ⟨_, _, rfl⟩ := hs3
        obtain ⟨bc2, g1, g2, ad, g3, g4⟩ := hl rfl
        rw [hbc] at g1
        cases g1
        exact .ref 1000000 0 _ _ sz es.length _ rfl (Nat.le_refl _) ⟨_, _, _, g3⟩ (fun _ => ⟨ad, bc.2, g3, by omega, g2, by rw [hM1']; simp, by rw [hM1']; simpa using g4⟩)
    | succ j =>
      have h2 := hd.2 (j + 1) d (by simpa using hj)
      simp only [List.getElem?_cons_succ, List.getElem?_map] at hj
      cases hp : ps[j]? with
      | none => rw [hp] at hj; cases hj
      | some p =>
        rw [hp] at hj
        simp only [Option.map_some, Option.some.injEq] at hj
        subst hj
        cases h2 with | p hx => exact .p hx
  have hsb1 : ∀ id, sg [(1000000, AO.arr e sz es)] id ≠ none → base ≤ id := by
    intro id hs
    refine hsb id ?_
    unfold sg at hs ⊢
    simp only [get_cons] at hs ⊢
    split
    · simp
    · rename_i h1; rw [if_neg h1] at hs; exact hs
  refine (hc vs w F M1 hHR1 hFl hsb1 hd1).mono fun ed w' hh => ?_
  obtain ⟨v, h', r, F', M', he, hr, hHR', hdr, hk⟩ := hh
  obtain ⟨es', rfl, hlen, hp, hR2⟩ := hR h' r hr
  have hMq : M' 1000000 = ⟨bc.1, bc.2, []⟩ := by
    obtain ⟨n', g1, g2, g3⟩ := hk.sgk.2.1 1000000 sz es.length rfl
    have : n' = es'.length := by
      have : sg [(1000000, AO.arr e sz es')] 1000000 = some (.arr sz es'.length) := rfl
      rw [this] at g1
      simp only [Option.some.injEq, Sg.arr.injEq] at g1
      exact g1.2.symm
    rw [g3 (by omega)]; exact hM1' _
  have hArr' : ArrR F' w' ⟨bc.1, bc.2, []⟩ e sz es' := by have := hHR'.obj 1000000 _ rfl; rw [hMq] at this; exact this
  have ownI : ∀ b, Owned M1 [(1000000, AO.arr e sz es)] b ↔ bc.2 ≠ 0 ∧ b = bc.1 := by
    intro b
    constructor
    · rintro ⟨j, o, h1, h2⟩
      obtain ⟨rfl, rfl⟩ := hget1 h1
      rw [hM1'] at h2; exact h2
    · intro h; exact ⟨1000000, _, rfl, by rw [hM1']; exact h⟩
  have ownO : ∀ b, Owned M [(1000000, AO.nst t e sz k rows none)] b ↔ NstOwns (M 1000000) b := by
    intro b
    constructor
    · rintro ⟨j, o, h1, h2⟩
      obtain ⟨rfl, rfl⟩ := hget1 h1
      exact h2
    · intro h; exact ⟨1000000, _, rfl, h⟩
  have ownO' : ∀ b, Owned M [(1000000, AO.nst t e sz k (rows.set i es') none)] b ↔ NstOwns (M 1000000) b := by
    intro b
    constructor
    · rintro ⟨j, o, h1, h2⟩
      obtain ⟨rfl, rfl⟩ := hget1 h1
      exact h2
    · intro h; exact ⟨1000000, _, rfl, h⟩
  have other : ∀ b, NstOwns (M 1000000) b → ¬ (bc.2 ≠ 0 ∧ b = bc.1) → w'.heap[b]? = w.heap[b]? ∧ ¬ F' b := by
    intro b h1 h2
    have hlt2 : b < w.heap.size := hN.lt h1
    refine ⟨hk.old b hlt2 (fun h3 => h2 ((ownI b).1 h3)), fun h3 => ?_⟩
    rcases hk.Fn b h3 with h4 | h4 | h4
    all_goals first
      | exact hN.notF h1 h4
      | exact h2 ((ownI b).1 h4)
      | exact absurd hlt2 (Nat.not_lt.2 h4)
  have rset : ∀ {j r'}, (rows.set i es')[j]? = some r' → (i = j ∧ r' = es') ∨ (i ≠ j ∧ rows[j]? = some r') := by
    intro j r' h
    by_cases e : i = j
    · subst e
      rw [List.getElem?_set_self hlt] at h
      exact .inl ⟨rfl, (Option.some.inj h).symm⟩
    · rw [List.getElem?_set_ne e] at h
      exact .inr ⟨e, h⟩
  have hN' : NstR F' w' (M 1000000) t e sz (rows.set i es') none := by
    refine ⟨hN.pos, by simpa using hN.xl, by simpa using hN.le, hN.max, fun hcap => ?_, fun j r' b' h1 h2 h3 => ?_, fun j b' h1 _ => (by cases h1), hN.dis, hN.out⟩
    · obtain ⟨g1, row, g2, g3, g4⟩ := hN.outer hcap
      obtain ⟨g5, g6⟩ := other (M 1000000).blk (.inl ⟨hcap, rfl⟩) (fun h => hN.out i bc hbc h.1 hcap h.2.symm)
      refine ⟨g6, row, by rw [g5]; exact g2, g3, fun j r' b' h1 h2 h3 => ?_⟩
      rcases rset h1 with ⟨rfl, rfl⟩ | ⟨_, h4⟩
      · rw [hlen]; exact g4 i es b' hi h2 (by simp)
      · exact g4 j r' b' h4 h2 (by simp)
    · rcases rset h1 with ⟨rfl, rfl⟩ | ⟨hne, h4⟩
      · rw [hbc] at h2; cases h2; exact hArr'
      · refine (hN.rows j r' b' h4 h2 (by simp)).keep (fun b hb => hk.old b (hFl b hb) (fun h => hHR1.notF h hb)) hk.F0 (fun hcc => other b'.1 (.inr ⟨j, b', h2, hcc, rfl⟩) (fun h => hN.dis i j bc b' hbc h2 hne h.1 hcc h.2.symm))
  refine ⟨v, _, r, F', M, he, ⟨es', rfl, hlen, hR2⟩, ⟨fun j o hj => ?_, fun j o j' o' b hj hj' _ _ => ?_⟩, hp.dr hdr, ?_⟩
  · obtain ⟨rfl, rfl⟩ := hget1 hj
    exact hN'
  · rw [(hget1 hj).1, (hget1 hj').1]
  · have hin : ∀ b, Owned M1 [(1000000, AO.arr e sz es)] b → Owned M [(1000000, AO.nst t e sz k rows none)] b := fun b hb => (ownO b).2 (.inr ⟨i, bc, hbc, (ownI b).1 hb⟩)
    refine ⟨hk.os, hk.tape, hk.output, hk.size, fun b h1 h2 => hk.old b h1 (fun h3 => h2 (hin b h3)), hk.F0, fun b hb => ?_, hk.Fl, fun b hb => .inl ((ownO b).2 ((ownO' b).1 hb)), ?_, hsb⟩
    · rcases hk.Fn b hb with h4 | h4 | h4
      · exact .inl h4
      · exact .inr (.inl (hin b h4))
      · exact .inr (.inr h4)
    · have : sg [(1000000, AO.nst t e sz k (rows.set i es') none)] = sg [(1000000, AO.nst t e sz k rows none)] := by
        funext j
        unfold sg
        simp only [get_cons]
        split <;> simp [AO.sg]
      show SgKeep M M (sg [(1000000, AO.nst t e sz k rows none)]) (sg [(1000000, AO.nst t e sz k (rows.set i es') none)])
      rw [this]; exact SgKeep.refl _ _
end Go.Am
namespace Go.Am
open Go
section
variable {P : Program} {c : Ctx} {st : St} {a : Act} {w : World} {F : Nat → Prop} {M : Nat → Mb}
theorem Rel.newNst (hr : Rel c st a w F M) {q cap sz l : Nat} {vs : Array Value} {e e2 : TypeId} {w' : World} (hn : get st.hp q = none)
    (hw : w'.heap = (w.alloc (.cells vs e)).heap) (hos : w'.os = w.os) (htape : w'.tape = w.tape) (hout : w'.output = w.output)
    (hsz : 0 < sz) (hc : l ≤ cap) (hm : cap ≤ maxLen) (hv : vs.size = cap) (hp : ∀ j, j < l → ∃ ad, vs.getD j undef = .slice ad 0 0) :
    Rel c { st with hp := (q, .nst e e2 sz 0 (List.replicate l []) none) :: st.hp } a w' F (upM M q ⟨w.heap.size, cap, List.replicate l (0, 0)⟩) ∧
    DR F w' (upM M q ⟨w.heap.size, cap, List.replicate l (0, 0)⟩) (sg ((q, .nst e e2 sz 0 (List.replicate l []) none) :: st.hp)) (.nref q l) (.slice (some ⟨w.heap.size, 0, none⟩) l cap) := by
  have hget := get_new st.hp q (.nst e e2 sz 0 (List.replicate l []) none)
  have hM : ∀ j, j ≠ q → upM M q ⟨w.heap.size, cap, List.replicate l (0, 0)⟩ j = M j := fun j hj => by simp [upM, hj]
  have hMq : upM M q ⟨w.heap.size, cap, List.replicate l (0, 0)⟩ q = ⟨w.heap.size, cap, List.replicate l (0, 0)⟩ := by simp [upM]
  have hsk := sgKeep_new hget hM hn
  have hold : ∀ b, b < w.heap.size → w'.heap[b]? = w.heap[b]? := fun b hb => by rw [hw]; exact alloc_old w _ b hb
  have hs : sg ((q, .nst e e2 sz 0 (List.replicate l []) none) :: st.hp) q = some (.nst sz l 0) := by rw [sg_change hget]; simp [AO.sg]
  have hx : ∀ (i : Nat) bc, (List.replicate l ((0, 0) : Nat × Nat))[i]? = some bc → bc = (0, 0) := fun i bc h => by
    rw [List.getElem?_replicate] at h
    split at h <;> cases h
    rfl
  have hrw : ∀ (i : Nat) r, (List.replicate l ([] : List (List Pd)))[i]? = some r → r = [] ∧ i < l := fun i r h => by
    rw [List.getElem?_replicate] at h
    split at h <;> cases h
    rename_i h1
    exact ⟨rfl, h1⟩
  have hown : ∀ b, NstOwns ⟨w.heap.size, cap, List.replicate l (0, 0)⟩ b → b = w.heap.size := fun b h => by
    rcases h with ⟨_, h⟩ | ⟨i, bc, h1, h2, _⟩
    · exact h
    · rw [hx i bc h1] at h2; exact (h2 rfl).elim
  refine ⟨hr.change hget hM hsk hos htape hout (by rw [hw]; simp) (fun b hb _ => hold b hb) ?_ (fun b hb => .inr (by rw [hMq] at hb; rw [hown b hb]; exact Nat.le_refl _)), ?_⟩
  · rw [hMq]
    refine ⟨hsz, by simp, by simpa using hc, hm, fun _ => ⟨fun hF => Nat.lt_irrefl _ (hr.keep.Fl _ hF), vs, by rw [hw]; exact heap_alloc_new w _, hv, fun i r bc h1 h2 _ => ?_⟩, fun i r bc h1 h2 _ => ?_, fun i bc h1 _ => (by cases h1), fun i j bi bj h1 _ _ h2 _ => ?_, fun i bi h1 h2 _ => ?_⟩
    · obtain ⟨rfl, hil⟩ := hrw i r h1
      obtain rfl := hx i bc h2
      obtain ⟨ad, h3⟩ := hp i hil
      exact ⟨ad, h3, .inl rfl⟩
    · obtain ⟨rfl, hil⟩ := hrw i r h1
      obtain rfl := hx i bc h2
      exact ⟨hsz, by simp, by simp, by simp, fun h => (h rfl).elim⟩
    · rw [hx i bi h1] at h2; exact (h2 rfl).elim
    · rw [hx i bi h1] at h2; exact (h2 rfl).elim
  · exact .nref q l sz l 0 _ hs (Nat.le_refl _) ⟨_, _, rfl, .inr ⟨_, rfl⟩⟩ (fun _ => ⟨_, cap, rfl, by omega, hc, by simp [hMq], .inr (by simp [hMq])⟩)
end
end Go.Am
namespace Go.Am
open Go
section
variable {P : Program} {ops rest : List Oper} {k : Kt} {st : St} {o : Oper}
theorem Af_mop (hc : isCall o.op = none) (h : mOp P st (o.dst.getD 0) o.op fun d h' => O P true ops rest k (({ st with hp := h' } : St).put o.dst d)) : Af P true ops rest k o st .fail := by
  refine Af_sem fun ct a w F M Q hr => ?_
  obtain ⟨d, h', v, w', F', M', hk, hr', hF, hd, hrun⟩ := mOp_sound hr h
  unfold Oper.wp
  rcases hrun with hrun | ⟨rfl, hrun⟩
  · rw [hrun]
    exact ⟨_, F', M', hk, hr'.put hd o.dst⟩
  · rw [hrun]
    exact ⟨_, F', M', hk, hr'.put hd o.dst⟩
theorem Af_mkarr {t e e2 : TypeId} {l m : Operand} {n : Int} {k1 k2 : IntKind} {s1 b1 b2 : Nat} {z1 : D} (ho : o.op = .makeSlice t l m) (ht : tiOf P t = some ⟨s1, b1, .slice e, z1⟩) (hte : tiOf P e = some ⟨1, b2, .slice e2, .cl []⟩)
    (hl : ev st l = .p (.int k1 n)) (hm : ev st m = .p (.int k2 n)) (hq : get st.hp (o.dst.getD 0) = none) (h0 : 0 ≤ n) (hb : n * b2 ≤ 140737488355328) (hn : n ≤ 140737488355328)
    (h : O P true ops rest k (({ st with hp := (o.dst.getD 0, .arr e 1 (List.replicate n.toNat [.sl []])) :: st.hp } : St).put o.dst (.ref (o.dst.getD 0) 0 n.toNat n.toNat))) : Af P true ops rest k o st .fail := by
  refine Af_mop (by rw [ho]; rfl) ?_
  rw [ho]
  simp only [mOp, ht, hl, hm, hte]
  exact ⟨by omega, hq, ⟨h0, Int.le_refl _, hb, hn⟩, rfl, by simpa [D.cells, pursD, purD] using h⟩
theorem Af_mknst {t e e2 : TypeId} {l m : Operand} {n : Int} {k1 k2 : IntKind} {s1 b1 b2 sz : Nat} {z1 : D} (ho : o.op = .makeSlice t l m) (ht : tiOf P t = some ⟨s1, b1, .slice e, z1⟩) (hte : tiOf P e = some ⟨1, b2, .slice e2, .cl []⟩) (hsz : 0 < sz)
    (hl : ev st l = .p (.int k1 n)) (hm : ev st m = .p (.int k2 n)) (hq : get st.hp (o.dst.getD 0) = none) (h0 : 0 ≤ n) (hb : n * b2 ≤ 140737488355328) (hn : n ≤ 140737488355328)
    (h : O P true ops rest k (({ st with hp := (o.dst.getD 0, .nst e e2 sz 0 (List.replicate n.toNat []) none) :: st.hp } : St).put o.dst (.nref (o.dst.getD 0) n.toNat))) : Af P true ops rest k o st .fail := by
  refine Af_sem fun ct a w F M Q hr => ?_
  obtain ⟨i1, u1, z1', hi1, hu1, hz1, e1⟩ := tiOf_some ht
  simp only [TI.mk.injEq] at e1
  obtain rfl := TK.of_slice e1.2.2.1.symm
  obtain ⟨i, u, z, hi, hu, hz, e3⟩ := tiOf_some hte
  simp only [TI.mk.injEq] at e3
  obtain ⟨e4, e5, e6, e7⟩ := e3
  have hzv := ofV_nil e7.symm
  subst hzv
  have hl' := ev_sound hr l
  have hm' := ev_sound hr m
  rw [hl] at hl'
  rw [hm] at hm'
  generalize hvl : a.eval l = vl at hl'
  generalize hvm : a.eval m = vm at hm'
  cases hl' with | p hl' => cases hl'; cases hm' with | p hm' =>
    cases hm'
    have hrun := run_make (P := P) w t e i _ hu1 hi hz k1 k2 n n h0 (Int.le_refl _) (by rw [Int.mul_comm, ← e5]; omega) (by omega)
    rw [← e4, Nat.mul_one] at hrun
    obtain ⟨h2, h3⟩ := hr.newNst (q := o.dst.getD 0) (cap := n.toNat) (l := n.toNat) (sz := sz) (e := e) (e2 := e2) (vs := madeCells (Value.slice none 0 0).cells n.toNat) (w' := w.alloc (.cells (madeCells (Value.slice none 0 0).cells n.toNat) e))
      hq rfl rfl rfl rfl hsz (Nat.le_refl _) (by unfold maxLen; omega) (size_madeCells _ _) (fun j hj => ⟨none, by simp [madeCells, Value.cells, Array.getD_eq_getD_getElem?, hj, Nat.mod_one]⟩)
    unfold Oper.wp
    have hex : (execOp a.eval o).run P w = .ok (.value (.slice (some ⟨w.heap.size, 0, none⟩) n.toNat n.toNat)) (w.alloc (.cells (madeCells (Value.slice none 0 0).cells n.toNat) e)) := by
      simp only [execOp, ho, hvl, hvm, Sem.run_bind, hrun, Result.andThen_ok, Sem.run_pure]
    rw [hex]
    exact ⟨_, F, _, h, h2.put h3 o.dst⟩
end
end Go.Am
namespace Go.Am
open Go
theorem ACalls.seal {P : Program} {f : FuncId} {args : List D} {h : Hp} {R R' : Hp → D → Prop} (hc : ACalls P f args h R) (hR : ∀ h' r, R h' r → borD h' r fun d h2 => retD (h.map (·.1)) h2 d R') : ACalls P f args h R' := by
  intro vs w F M hHR hFl hsb hd
  refine (hc vs w F M hHR hFl hsb hd).mono ?_
  rintro e w' ⟨v, h', r, F', M', rfl, hr, hHR', hd', hk⟩
  have hrel : Rel ⟨w, F, Owned M h, M, sg h⟩ ⟨[], h', 0⟩ ⟨#[], []⟩ w' F' M' := ⟨fun t d ht => by simp [get] at ht, rfl, rfl, hHR', hk⟩
  obtain ⟨d, h2, F2, hk2, hrel2, _, _, hd2⟩ := borD_sound r hrel hd' (hR h' r hr)
  obtain ⟨h3, r2, M2, h4, h5, h6, h7⟩ := retD_sound hrel2 rfl (fun _ => Iff.rfl) hd2 hk2
  exact ⟨v, h3, r2, F2, M2, rfl, h4, h5, h6, h7⟩
end Go.Am
end
section
set_option linter.unusedVariables false
set_option linter.unusedSimpArgs false
namespace Go.Am
open Go
def stale (sz n : Nat) : SObj where
  sg := .arr sz n
  holds := fun _ _ _ => True
  owns := fun _ _ => False
  keep := fun _ _ _ _ => trivial
  notF := fun _ h => h.elim
  lt := fun _ h => h.elim
  froz := fun _ _ _ => trivial
section
variable {c : Ctx} {st : St} {a : Act} {w : World} {F : Nat → Prop} {M : Nat → Mb}
theorem Rel.move (hr : Rel c st a w F M) {q q' k sz : Nat} {e : TypeId} {es : List (List Pd)} (hq : get st.hp q = some (.arr e sz es)) (hk : k ≤ es.length) (hq' : get st.hp q' = none) :
    Rel c ⟨st.env, (q', .arr e sz (es.take k)) :: setL st.hp q (.sem (stale sz (es.length + 1))), st.n⟩ a w F (upM M q' (M q)) ∧
      ∀ v, DR F w M (sg st.hp) (.ref q 0 k es.length) v → DR F w (upM M q' (M q)) (sg ((q', .arr e sz (es.take k)) :: setL st.hp q (.sem (stale sz (es.length + 1))))) (.ref q' 0 k k) v := by
  have hne : q' ≠ q := fun h => by subst h; rw [hq] at hq'; cases hq'
  have hget : ∀ i, get ((q', AO.arr e sz (es.take k)) :: setL st.hp q (.sem (stale sz (es.length + 1)))) i = if i = q' then some (.arr e sz (es.take k)) else if i = q then some (.sem (stale sz (es.length + 1))) else get st.hp i := by
    intro i
    simp only [get_cons, get_setL]
    by_cases e1 : q' = i
    · subst e1; simp
    · rw [if_neg e1, if_neg (Ne.symm e1)]
  have hMo : ∀ i, i ≠ q' → upM M q' (M q) i = M i := fun i hi => by simp [upM, hi]
  have hMq : upM M q' (M q) q' = M q := by simp [upM]
  have hlen : (es.take k).length = k := by simp; omega
  have hsgo : ∀ i, i ≠ q' → i ≠ q → sg ((q', AO.arr e sz (es.take k)) :: setL st.hp q (.sem (stale sz (es.length + 1)))) i = sg st.hp i := fun i h1 h2 => by
    simp [sg, hget, h1, h2]
  have hsgq : sg st.hp q = some (.arr sz es.length) := by simp [sg, hq, AO.sg]
  have hsgq1 : sg ((q', AO.arr e sz (es.take k)) :: setL st.hp q (.sem (stale sz (es.length + 1)))) q = some (.arr sz (es.length + 1)) := by
    unfold sg; rw [hget, if_neg (Ne.symm hne), if_pos rfl]; rfl
  have hsgn : sg ((q', AO.arr e sz (es.take k)) :: setL st.hp q (.sem (stale sz (es.length + 1)))) q' = some (.arr sz k) := by
    unfold sg; rw [hget, if_pos rfl]; simp [AO.sg, hk]
  have hsg0 : sg st.hp q' = none := by simp [sg, hq']
  have hkeep : SgKeep M (upM M q' (M q)) (sg st.hp) (sg ((q', AO.arr e sz (es.take k)) :: setL st.hp q (.sem (stale sz (es.length + 1))))) := by
    refine ⟨fun i hi => ?_, fun i s n hi => ?_, fun i s n kk hi => ?_⟩
    · have h1 : i ≠ q' := fun h => by rw [h, hsg0] at hi; cases hi
      have h2 : i ≠ q := fun h => by rw [h, hsgq] at hi; cases hi
      rw [hsgo i h1 h2, hMo i h1]; exact ⟨hi, rfl⟩
    · have h1 : i ≠ q' := fun h => by rw [h, hsg0] at hi; cases hi
      by_cases h2 : i = q
      · subst h2
        rw [hsgq] at hi
        cases hi
        exact ⟨es.length + 1, hsgq1, by omega, fun h => by omega⟩
      · rw [hsgo i h1 h2, hMo i h1]; exact ⟨n, hi, Nat.le_refl _, fun _ => rfl⟩
    · have h1 : i ≠ q' := fun h => by rw [h, hsg0] at hi; cases hi
      have h2 : i ≠ q := fun h => by rw [h, hsgq] at hi; cases hi
      rw [hsgo i h1 h2, hMo i h1]; exact ⟨n, kk, hi, Nat.le_refl _, Nat.le_refl _, fun _ => ⟨rfl, rfl⟩, fun _ => rfl⟩
  have hF : ∀ b, F b → w.heap[b]? = w.heap[b]? := fun _ _ => rfl
  have howns : ∀ i o b, get ((q', AO.arr e sz (es.take k)) :: setL st.hp q (.sem (stale sz (es.length + 1)))) i = some o → o.owns (upM M q' (M q) i) b →
      ∃ i0 o0, get st.hp i0 = some o0 ∧ o0.owns (M i0) b ∧ (i = q' → i0 = q) ∧ (i ≠ q' → i0 = i ∧ i ≠ q) := by
    intro i o b hi ho
    rw [hget] at hi
    by_cases h1 : i = q'
    · subst h1
      rw [if_pos rfl] at hi
      cases hi
      rw [hMq] at ho
      exact ⟨q, _, hq, ho, fun _ => rfl, fun h => (h rfl).elim⟩
    · rw [if_neg h1] at hi
      by_cases h2 : i = q
      · subst h2
        rw [if_pos rfl] at hi
        cases hi
        exact ho.elim
      · rw [if_neg h2] at hi
        rw [hMo i h1] at ho
        exact ⟨i, o, hi, ho, fun h => (h1 h).elim, fun _ => ⟨rfl, h2⟩⟩
  refine ⟨⟨fun t d ht => (hr.env t d ht).keep hF (fun _ h => h) hkeep, hr.size, hr.defers, ⟨fun i o hi => ?_, fun i o i' o' b hi hi' ho ho' => ?_⟩, ?_⟩, fun v hv => ?_⟩
  · rw [hget] at hi
    by_cases h1 : i = q'
    · subst h1
      rw [if_pos rfl] at hi
      cases hi
      rw [hMq]
      obtain ⟨g1, g2, g3, g4, g5⟩ := hr.heap.obj q _ hq
      refine ⟨g1, by rw [hlen]; omega, g3, fun j x hx => ?_, fun hc => ?_⟩
      · rw [List.getElem?_take] at hx
        split at hx
        · exact g4 j x hx
        · cases hx
      · obtain ⟨f1, row, f2, f3, f4⟩ := g5 hc
        refine ⟨f1, row, f2, f3, fun j x l y hx hy => ?_⟩
        rw [List.getElem?_take] at hx
        split at hx
        · exact f4 j x l y hx hy
        · cases hx
    · rw [if_neg h1] at hi
      by_cases h2 : i = q
      · subst h2
        rw [if_pos rfl] at hi
        cases hi
        exact trivial
      · rw [if_neg h2] at hi
        rw [hMo i h1]
        exact (hr.heap.obj i o hi).keep hF (fun _ h => h) hkeep (fun b hown => ⟨rfl, hr.heap.notF ⟨i, o, hi, hown⟩⟩)
  · obtain ⟨j, p, h1, h2, h3, h4⟩ := howns i o b hi ho
    obtain ⟨j', p', h1', h2', h3', h4'⟩ := howns i' o' b hi' ho'
    have hj := hr.heap.inj j p j' p' b h1 h1' h2 h2'
    by_cases e1 : i = q'
    · by_cases e2 : i' = q'
      · rw [e1, e2]
      · have := h4' e2; have := h3 e1; omega
    · by_cases e2 : i' = q'
      · have := h4 e1; have := h3' e2; omega
      · have := h4 e1; have := h4' e2; omega
  · have hk := hr.keep
    refine ⟨hk.os, hk.tape, hk.output, hk.size, hk.old, hk.F0, hk.Fn, hk.Fl, ?_, hk.sgk.trans hkeep, hk.s0b⟩
    rintro b ⟨i, o, hi, ho⟩
    obtain ⟨j, p, h1, h2, _⟩ := howns i o b hi ho
    exact hk.own _ ⟨j, p, h1, h2⟩
  · cases hv with
    | ref id off len N sz' n v hs hN hva h =>
      rw [hsgq] at hs
      cases hs
      obtain ⟨ad, cap, g1, g2, g3, g4, g5⟩ := h rfl
      refine .ref q' 0 k k sz k _ hsgn (Nat.le_refl _) hva fun _ => ?_
      rw [refOK, hMq]
      exact ⟨ad, cap, g1, by omega, g3, g4, g5⟩
theorem Wk.moveSlot {st : St} {t q k sz : Nat} (q' : Nat) {e : TypeId} {es : List (List Pd)} (ht : get st.env t = some (.ref q 0 k es.length)) (hq : get st.hp q = some (.arr e sz es)) (hk : k ≤ es.length) (hq' : get st.hp q' = none) :
    Wk st ⟨(t, .ref q' 0 k k) :: st.env, (q', .arr e sz (es.take k)) :: setL st.hp q (.sem (stale sz (es.length + 1))), st.n⟩ := by
  intro c a w F M hr
  obtain ⟨h1, h2⟩ := hr.move hq hk hq'
  refine ⟨F, _, ⟨fun j d hj => ?_, h1.size, h1.defers, h1.heap, h1.keep⟩⟩
  rw [get_cons] at hj
  split at hj
  · rename_i e1
    subst e1
    cases hj
    exact h2 _ (hr.env _ _ ht)
  · exact h1.env j d hj
theorem Wk.moveBox {st : St} {id j q k sz : Nat} (q' : Nat) {cs : List D} {ty e : TypeId} {es : List (List Pd)} (hb : get st.hp id = some (.box cs ty)) (hj : cs[j]? = some (.ref q 0 k es.length)) (hq : get st.hp q = some (.arr e sz es))
    (hk : k ≤ es.length) (hq' : get st.hp q' = none) :
    Wk st ⟨st.env, setL ((q', .arr e sz (es.take k)) :: setL st.hp q (.sem (stale sz (es.length + 1)))) id (.box (cs.set j (.ref q' 0 k k)) ty), st.n⟩ := by
  intro c a w F M hr
  obtain ⟨hr1, h2⟩ := hr.move hq hk hq'
  have hne : id ≠ q := fun h => by subst h; rw [hq] at hb; cases hb
  have hne' : id ≠ q' := fun h => by subst h; rw [hq'] at hb; cases hb
  have hb1 : get ((q', AO.arr e sz (es.take k)) :: setL st.hp q (.sem (stale sz (es.length + 1)))) id = some (.box cs ty) := by
    rw [get_cons, if_neg (Ne.symm hne'), get_setL, if_neg hne]; exact hb
  have hget : ∀ i, get (setL ((q', AO.arr e sz (es.take k)) :: setL st.hp q (.sem (stale sz (es.length + 1)))) id (.box (cs.set j (.ref q' 0 k k)) ty)) i =
      if i = id then some (.box (cs.set j (.ref q' 0 k k)) ty) else get ((q', AO.arr e sz (es.take k)) :: setL st.hp q (.sem (stale sz (es.length + 1)))) i := fun i => by rw [get_setL]
  have hsg := sgKeep_same hget hb1 rfl
  have hold := (hr.heap.obj id _ hb)
  obtain ⟨hnF, row, t, hrow, hsz, hcells⟩ := hr1.heap.obj id _ hb1
  obtain ⟨_, row0, t0, hrow0, _, hcells0⟩ := hold
  have hMid : upM M q' (M q) id = M id := by simp [upM, hne']
  rw [hMid] at hnF hrow
  rw [hrow0] at hrow
  simp only [Option.some.injEq, Obj.cells.injEq] at hrow
  obtain ⟨rfl, hty, _⟩ := hrow
  refine ⟨F, upM M q' (M q), ?_⟩
  refine hr1.change (st := ⟨st.env, (q', AO.arr e sz (es.take k)) :: setL st.hp q (.sem (stale sz (es.length + 1))), st.n⟩) hget (fun _ _ => rfl) (by rw [hsg]; exact SgKeep.refl _ _) rfl rfl rfl (Nat.le_refl _) (fun _ _ _ => rfl) ?_ (fun b hb => .inl ⟨_, hb1, hb⟩)
  rw [hMid]
  refine ⟨hnF, row0, t0, hrow0, by simpa using hsz, fun i d hd => ?_, fun h5 h6 i hi => ?_⟩
  rotate_left
  · refine hcells0.2 h5 ?_ i ?_
    · obtain ⟨x, hx, hn⟩ := List.any_eq_true.1 h6
      rcases List.mem_or_eq_of_mem_set hx with h7 | rfl
      · exact List.any_eq_true.2 ⟨x, h7, hn⟩
      · cases hn
    · by_cases e1 : i = j
      · subst e1
        rw [List.getElem?_set_self (List.getElem?_eq_some_iff.1 hj).1] at hi
        cases hi
      · rwa [List.getElem?_set_ne (Ne.symm e1)] at hi
  rw [hsg]
  by_cases e1 : i = j
  · subst e1
    have hlt := (List.getElem?_eq_some_iff.1 hj).1
    rw [List.getElem?_set_self hlt] at hd
    cases hd
    have h3 := hcells0.1 i _ hj
    exact ⟨h2 _ h3.1, h3.2⟩
  · rw [List.getElem?_set_ne (Ne.symm e1)] at hd
    exact hcells.1 i d hd
end
end Go.Am
namespace Go.Am
open Go
section
variable {P : Program} {c : Ctx} {st : St} {a : Act} {w : World} {F : Nat → Prop} {M : Nat → Mb}
def appQD (P : Program) (h : Hp) (q : Nat) (t t2 : TypeId) (id off len N : Nat) (x : D) (k : D → Hp → Prop) : Prop :=
  match tiOf P t, tiOf P t2 with
  | some ⟨_, _, .slice e, _⟩, some ti2 => (match ti2.k with | .slice _ => True | .string => True | _ => False) ∧ match tiOf P e with
    | some ti => srcD h x fun ys => (∀ y ∈ ys, y.length = ti.size) ∧ 0 < ti.size ∧ ti.zero.cells.length = ti.size ∧ ys ≠ [] ∧ match get h id with
      | some (.arr e' sz es) => get h q = none ∧ off + len = es.length ∧ N = es.length ∧ e' = e ∧ sz = ti.size ∧ (len + ys.length) * ti.bytes ≤ 140737488355328 ∧ len + ys.length ≤ 140737488355328 ∧
          k (.ref id off (len + ys.length) (es ++ ys).length) (setL h id (.arr e sz (es ++ ys))) ∧
          k (.ref q 0 (es.drop off ++ ys).length (es.drop off ++ ys).length) ((q, .arr e sz (es.drop off ++ ys)) :: h)
      | _ => False
    | none => False
  | _, _ => False
theorem appQ_sound (hr : Rel c st a w F M) {q t t2 ty : TypeId} {id off len N : Nat} {x : D} {vs vx : Value} (hs : DR F w M (sg st.hp) (.ref id off len N) vs) (hx : DR F w M (sg st.hp) x vx) {k : D → Hp → Prop}
    (h : appQD P st.hp q t t2 id off len N x k) : ∃ d h' v w' M', k d h' ∧ Rel c { st with hp := h' } a w' F M' ∧ DR F w' M' (sg h') d v ∧ (Builtin.append_ #[t, t2] ty #[vs, vx]).run P w = .ok v w' := by
  unfold appQD at h
  split at h
  case h_2 => exact h.elim
  rename_i _ _ _ _ e z0 ti2 h1 h2
  obtain ⟨i1, u1, z1, hi1, hu1, hz1, e1⟩ := tiOf_some h1
  simp only [TI.mk.injEq] at e1
  obtain rfl := TK.of_slice e1.2.2.1.symm
  obtain ⟨i2, u2, z2, hi2, hu2, hz2, rfl⟩ := tiOf_some h2
  obtain ⟨hk2, h⟩ := h
  have hni : ∀ k, u2 ≠ .int k := by rintro k rfl; simp [TK.of] at hk2
  split at h
  case h_2 => exact h.elim
  rename_i ti h3
  obtain ⟨i, u, z, hi, hu, hz, rfl⟩ := tiOf_some h3
  obtain ⟨ys, h', hsrc⟩ := srcD_sound (P := P) hr hx h
  clear h
  obtain ⟨hys, hpos, hzl, hy0, h⟩ := h'
  simp only at hpos hzl hys
  rw [ofV_cells_length] at hzl
  obtain ⟨news, hnews⟩ := hsrc i.size hpos hys
  have hys' : ∀ (j : Nat) e, ys[j]? = some e → e.length = i.size := fun j e he => hys e (List.mem_of_getElem? he)
  have hyl : 0 < ys.length := List.length_pos_iff.2 hy0
  split at h
  case h_2 => exact h.elim
  rename_i e' sz es ho
  obtain ⟨hn, hol, rfl, rfl, rfl, hby, hle, hk1, hk3⟩ := h
  simp only at hby
  have hob := hr.heap.obj id _ ho
  obtain ⟨_, hcl, hcm, hes, hblk⟩ := hob
  simp only at hes hcl
  cases hs with
  | ref _ _ _ _ sz2 n2 _ hsg hN2 hv h2 =>
    rw [sg_of_get ho] at hsg
    simp only [AO.sg, Option.some.injEq, Sg.arr.injEq] at hsg
    obtain ⟨rfl, rfl⟩ := hsg
    have hrefok := h2 rfl
    obtain ⟨ad, cap, rfl, h5, h6, h7, h8⟩ := hrefok
    have hlen : (es ++ ys).length = es.length + ys.length := by simp
    have hall : ∀ (j : Nat) x, (es ++ ys)[j]? = some x → x.length = i.size := fun j x hj => by
      rw [List.getElem?_append] at hj
      split at hj
      · exact hes j x hj
      · exact hys' _ x hj
    have hget : ∀ j, get (setL st.hp id (.arr e' i.size (es ++ ys))) j = if j = id then some (.arr e' i.size (es ++ ys)) else get st.hp j := get_setL _ _ _
    have hsg' : sg (setL st.hp id (.arr e' i.size (es ++ ys))) id = some (.arr i.size (es ++ ys).length) := by rw [sg_change hget]; simp [AO.sg]
    by_cases hroom : len + ys.length ≤ cap
    ·
      have hsk : SgKeep M M (sg st.hp) (sg (setL st.hp id (.arr e' i.size (es ++ ys)))) := by
        refine ⟨fun j hj => ?_, fun j s2 n2 hj => ?_, fun j s2 n2 k2 hj => ?_⟩
        · have e2 : j ≠ id := fun e2 => by rw [e2, sg_of_get ho] at hj; simp [AO.sg] at hj
          rw [sg_change hget, if_neg e2]; exact ⟨hj, rfl⟩
        · by_cases e2 : j = id
          · subst e2
            rw [sg_of_get ho] at hj
            simp only [AO.sg, Option.some.injEq, Sg.arr.injEq] at hj
            obtain ⟨rfl, rfl⟩ := hj
            exact ⟨_, hsg', by omega, fun _ => rfl⟩
          · rw [sg_change hget, if_neg e2]; exact ⟨n2, hj, Nat.le_refl _, fun _ => rfl⟩
        · have e2 : j ≠ id := fun e2 => by rw [e2, sg_of_get ho] at hj; simp [AO.sg] at hj
          rw [sg_change hget, if_neg e2]; exact ⟨n2, k2, hj, Nat.le_refl _, Nat.le_refl _, fun _ => ⟨rfl, rfl⟩, fun _ => rfl⟩
      have hdr : ∀ w', DR F w' M (sg (setL st.hp id (.arr e' i.size (es ++ ys)))) (.ref id off (len + ys.length) (es ++ ys).length) (.slice ad (len + ys.length) cap) := fun w' => by
        rw [hlen] at hsg' ⊢
        exact .ref id off _ _ i.size _ _ hsg' (Nat.le_refl _) ⟨_, _, _, rfl⟩ (fun _ => ⟨ad, _, rfl, by omega, hroom, by omega, h8⟩)
      have hc0 : (M id).cap ≠ 0 := by omega
      obtain rfl := h8.resolve_left (by omega)
      obtain ⟨hnF, row, hrow, hsize, hcells⟩ := hblk hc0
      have hfit : es.length * i.size + ys.length * i.size ≤ row.size := by rw [hsize, ← Nat.add_mul]; exact Nat.mul_le_mul_right _ (by omega)
      have hone : ∀ v ∈ news, v.oneCell' = true := fun v hv => by
        obtain ⟨p, hp⟩ := List.mem_iff_getElem?.1 hv
        have hlt := (List.getElem?_eq_some_iff.1 hp).1
        have hs := hnews.size
        have hdiv : p / i.size < ys.length := Nat.div_lt_of_lt_mul (by rw [Nat.mul_comm]; omega)
        have hy : ys[p / i.size]? = some ys[p / i.size] := List.getElem?_eq_getElem hdiv
        have hmod : p % i.size < (ys[p / i.size]).length := by rw [hys' _ _ hy]; exact Nat.mod_lt _ hpos
        have := (hnews.data _ _ _ _ hy (List.getElem?_eq_getElem hmod)).oneCell
        rwa [Nat.mul_comm, Nat.div_add_mod, List.getD_eq_getElem?_getD, hp] at this
      have hst := run_storeCells_at P (M id).blk (es.length * i.size) e' news 0 row w hrow (by have := hnews.size; omega) hone
      simp only [Nat.add_zero] at hst
      have hoff : off * i.size + len * i.size = es.length * i.size := by rw [← Nat.add_mul, hol]
      have hrun := run_append_in (P := P) (w := w) (ty := ty) hu1 hu2 hni hi (base := some ⟨(M id).blk, off * i.size, none⟩) (n := len) (hnews.len w) (hnews.cells w rfl) hroom
        (fun ad' e3 => by cases e3; rw [Addr.add_lit, hoff]; exact hst) (fun e3 => by cases e3)
      refine ⟨_, _, _, (w.setRow (M id).blk (row.toList.take (es.length * i.size) ++ news ++ row.toList.drop (es.length * i.size + news.length)).toArray), M, hk1, hr.change (M' := M) (w' := (w.setRow (M id).blk (row.toList.take (es.length * i.size) ++ news ++ row.toList.drop (es.length * i.size + news.length)).toArray)) hget (fun _ _ => rfl) hsk rfl rfl rfl (by simp) (fun b hb hne => setRow_other w _ b _ (fun e => hne _ ho ⟨hc0, e⟩)) ?_ (fun b hb => .inl ⟨_, ho, hb⟩), hdr _, hrun⟩
      have hkeep : ∀ {x v}, PR F w x v → PR F (w.setRow (M id).blk (row.toList.take (es.length * i.size) ++ news ++ row.toList.drop (es.length * i.size + news.length)).toArray) x v :=
        fun h => h.keep (fun b hb => setRow_other w _ b _ (fun e => hnF (e ▸ hb))) (fun _ h => h)
      have hol : (row.toList.take (es.length * i.size)).length = es.length * i.size := by simp; omega
      refine ⟨hpos, by omega, hcm, hall, fun _ => ⟨hnF, _, setRow_heap w _ _ _ e' (0, 0) hrow, ?_, fun j y p x hy hx => ?_⟩⟩
      · have h12 := hnews.size
        have h13 : (row.toList.take (es.length * i.size) ++ news ++ row.toList.drop (es.length * i.size + news.length)).length = row.size := by
          simp only [List.length_append, List.length_take, List.length_drop, Array.length_toList]; omega
        exact h13.trans hsize
      · have := rows_append (F := F) (w := w) (rest := row.toList.drop (es.length * i.size + news.length)) hol hnews.size hes hys' (fun j y p x hy hx => by
          have h9 := hcells j y p x hy hx
          have hlt := row_lt (List.getElem?_eq_some_iff.1 hy).1 (Nat.le_refl _) (show p < i.size by have := (List.getElem?_eq_some_iff.1 hx).1; have := hes j y hy; omega)
          rw [List.getD_eq_getElem?_getD, List.getElem?_take, if_pos hlt]
          rwa [Array.getD_eq_getD_getElem?, ← Array.getElem?_toList] at h9) hnews.data j y p x hy hx
        have h10 := hkeep this
        rw [Array.getD_eq_getD_getElem?, List.getElem?_toArray]
        rwa [List.getD_eq_getElem?_getD] at h10
    ·
      obtain ⟨olds, holds⟩ := src_of_ref (P := P) hr.heap (.inl ⟨e', ho⟩) (show refOK (M id) i.size es.length off len (.slice ad len cap) from ⟨ad, cap, rfl, h5, h6, h7, h8⟩)
      have hview : (es.drop off).take len = es.drop off := by
        have : len = (es.drop off).length := by simp; omega
        rw [this]; exact List.take_length
      rw [hview] at holds
      have hdl : (es.drop off).length = len := by simp; omega
      have hes2 : ∀ (j : Nat) x, (es.drop off)[j]? = some x → x.length = i.size := fun j x hj => hes _ x (by rw [List.getElem?_drop] at hj; exact hj)
      have hlen2 : (es.drop off ++ ys).length = len + ys.length := by rw [List.length_append, hdl]
      have hle2 : len + ys.length ≤ 140737488355328 := hle
      have hby2 : (len + ys.length) * i.bytes ≤ 140737488355328 := hby
      have hrun := run_append_out (P := P) (w := w) (ty := ty) hu1 hu2 hni hi hz (base := ad) (n := len) (cap := cap) (hnews.len w) (hnews.cells w.drew rfl)
        (by have := holds.cells w.drew rfl; rw [hdl] at this; exact this) (by omega) hle2 hby2
      have hg1 : len + ys.length ≤ grownCap w (len + ys.length) cap e' := grownCap_ge w _ _ _
      have hg2 : grownCap w (len + ys.length) cap e' ≤ maxLen := grownCap_le_maxLen w _ _ _ (by unfold maxLen; omega)
      have hos : olds.length = len * i.size := by have := holds.size; rw [hdl] at this; exact this
      obtain ⟨hr', hd'⟩ := hr.newArr (q := q) (cap := grownCap w (len + ys.length) cap e') (sz := i.size) (es := es.drop off ++ ys) (e := e')
        (vs := olds.toArray ++ news.toArray ++ Builtin.zeroCells z.cells (grownCap w (len + ys.length) cap e' - (len + ys.length)))
        (w' := w.drew.alloc (.cells (olds.toArray ++ news.toArray ++ Builtin.zeroCells z.cells (grownCap w (len + ys.length) cap e' - (len + ys.length))) e'))
        hn rfl rfl rfl rfl hpos (by omega) hg2 (fun j x hj => by
          rw [List.getElem?_append] at hj
          split at hj
          · exact hes2 _ x hj
          · exact hys' _ x hj) (by
          simp only [Array.size_append, List.size_toArray, zeroCells_size, hzl, hos, hnews.size, ← Nat.add_mul]
          congr 1; omega) (fun j y p x hy hx => by
          have := rows_append (rest := (Builtin.zeroCells z.cells (grownCap w (len + ys.length) cap e' - (len + ys.length))).toList) holds.size hnews.size
            hes2 hys' holds.data hnews.data j y p x hy hx
          simpa [List.getD, Array.getD_eq_getD_getElem?, ← Array.getElem?_toList] using this)
      rw [hlen2] at hd'
      exact ⟨_, _, _, _, _, hk3, hr', by rw [hlen2]; exact hd', hrun⟩
theorem Af_appq {ops rest : List Oper} {k : Kt} {o : Oper} {cc : Call} {x y : Operand} {id off len N : Nat} {t t2 : TypeId} (ho : o.op = .call cc) (hc : cc.callee = .builtin .append) (ha : cc.args = #[x, y]) (hta : cc.argTypes = #[t, t2])
    (hx : ev st x = .ref id off len N)
    (h : appQD P st.hp (o.dst.getD 0) t t2 id off len N (ev st y) fun d h' => O P true ops rest k (({ st with hp := h' } : St).put o.dst d)) : Af P true ops rest k o st .fail := by
  refine Af_sem fun ct a w F M Q hr => ?_
  have hx' := ev_sound hr x
  rw [hx] at hx'
  have hy' := ev_sound hr y
  obtain ⟨d, h', v, w', M', h1, h2, h3, h4⟩ := appQ_sound (P := P) (ty := o.type) hr hx' hy' h
  unfold Oper.wp
  have hex : (execOp a.eval o).run P w = .ok (.value v) w' := by
    simp [execOp, ho, hc, ha, hta, resolve, invoke, builtin, h4, Result.andThen]
  rw [hex]
  exact ⟨_, F, M', h1, h2.put h3 o.dst⟩
end
end Go.Am
end
