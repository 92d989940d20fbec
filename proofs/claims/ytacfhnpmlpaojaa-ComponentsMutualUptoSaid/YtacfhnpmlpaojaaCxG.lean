/- ComponentsMutual, ComponentsOne, ComponentsOrder -/
import Derived.Test.YtacfhnpmlpaojaaRows
import Derived.ProofKit
import Derived.JoinedCond
import Derived.Test.YtacfhnpmlpaojaaCxF
section
namespace Go.Proofs.Ytacfhnpmlpaojaa
open Go.Am Go.ChangeShapes Go.WideShapes Go.ChangeAt Go.RowKit
set_option linter.unusedVariables false
set_option maxRecDepth 100000
theorem own : ownKnob Try.prog.godebug = none := by kernel_rfl
theorem bulk_append {H : Type} (l r : List (DataW H)) : Rows.uptoBulkAll (l ++ r) = Rows.uptoBulkAll l + Rows.uptoBulkAll r := by
  induction l with
  | nil => simp [Rows.uptoBulkAll]
  | cons x l ih => simp only [List.cons_append, Rows.uptoBulkAll, ih]; omega
theorem bound {H : Type} {l : List (DataW H)} (hk : Rows.uptoSmall H l = true) : Rows.uptoBulkAll l ≤ 1048576 := of_decide_eq_true hk
theorem dec_ints {n : Nat} {cs : List Pd} (h : wtP Try.prog n 24 cs) : ∃ l : List Int, cs = [.sl (encI l)] := by
  obtain ⟨m, es, rfl, hes⟩ := wt_sl Try.underlying24 h
  obtain ⟨l, rfl⟩ := dec_map (fun v : Int => [Pd.int .i64 v]) es fun y hy => by
    obtain ⟨v, h1, _⟩ := wt_int Try.underlying3 (hes y hy)
    exact ⟨v, h1⟩
  exact ⟨l, rfl⟩
end Go.Proofs.Ytacfhnpmlpaojaa
end
section
namespace Go.Am
open Go Go.Proofs
set_option maxRecDepth 100000
set_option linter.unusedVariables false
set_option linter.unusedSimpArgs false
def REp (g : List (List Int)) (V K : Nat) (w : Nat) (x : Int) : Prop := ∃ v k : Nat, (v < V ∨ v = V ∧ k < K) ∧ v < g.length ∧ k < (g.getD v []).length ∧ (g.getD v []).getD k 0 = (w : Int) ∧ x = (v : Int)
def RIn (g : List (List Int)) (V K : Nat) (b : List (List Int)) : Prop := b.length = g.length ∧ ∀ w, w < g.length → (b.getD w []).length ≤ V * 1000 + K ∧ ∀ x, x ∈ b.getD w [] ↔ REp g V K w x
theorem REp.succ {g : List (List Int)} {V K : Nat} (hV : V < g.length) (hK : K < (g.getD V []).length) (w : Nat) (x : Int) : REp g V (K + 1) w x ↔ REp g V K w x ∨ ((g.getD V []).getD K 0 = (w : Int) ∧ x = (V : Int)) := by
  constructor
  · rintro ⟨v, k, h1, h2⟩
    by_cases h3 : v = V ∧ k = K
    · obtain ⟨rfl, rfl⟩ := h3; exact .inr h2.2.2
    · exact .inl ⟨v, k, by omega, h2⟩
  · rintro (⟨v, k, h1, h2⟩ | h2)
    · exact ⟨v, k, by omega, h2⟩
    · exact ⟨V, K, by omega, hV, hK, h2⟩
theorem REp.next {g : List (List Int)} {V : Nat} (w : Nat) (x : Int) : REp g (V + 1) 0 w x ↔ REp g V (g.getD V []).length w x := by
  constructor
  · rintro ⟨v, k, h1, h2⟩
    by_cases e : v = V
    · subst e; exact ⟨v, k, .inr ⟨rfl, h2.2.1⟩, h2⟩
    · exact ⟨v, k, by omega, h2⟩
  · rintro ⟨v, k, h1, h2⟩
    exact ⟨v, k, by omega, h2⟩
theorem rev_at {g : List (List Int)} (hv : Gval g) : ∃ b, rRev_v g = some (b, 0) ∧ b.length = g.length ∧ ∀ w, w < g.length → (b.getD w []).length ≤ 100000 ∧ ∀ x, x ∈ b.getD w [] ↔ ∃ v : Nat, v < g.length ∧ (w : Int) ∈ g.getD v [] ∧ x = (v : Int) := by
  have h24 := hv.1
  have hrl : ∀ v, v < g.length → (g.getD v []).length ≤ 24 := fun v h => by have := okR_len (hv.2 v h); omega
  have hin : ∀ V b, V < g.length → RIn g V 0 b → ∃ b', loopO (rRev_L1 (V : Int) (g.getD V [])) (b, 0) = some (b', (((g.getD V []).length : Nat) : Int)) ∧ RIn g V (g.getD V []).length b' := by
    intro V b hV hI
    refine loopO_cnt (step := rRev_L1 (V : Int) (g.getD V [])) (g.getD V []).length (fun b i => (b, ((i : Nat) : Int))) (fun b => (b, (((g.getD V []).length : Nat) : Int))) (fun K b => RIn g V K b) ?_ ?_ b hI
    · intro K b hK hI
      have h1 := hrl V hV
      have h2 := okR_at (hv.2 V hV) hK
      obtain ⟨w0, e0⟩ : ∃ w0 : Nat, (g.getD V []).getD K 0 = (w0 : Int) := ⟨((g.getD V []).getD K 0).toNat, by omega⟩
      have hw0 : w0 < g.length := by omega
      have hb := (hI.2 w0 hw0).1
      try dsimp only
      rw [rRev_L1_eq, lt_c hK, cond_true, idxO_at _ K 0 hK, Option.bind_some, e0, idxO_at b w0 [] (by rw [hI.1]; exact hw0), Option.bind_some, decide_eq_true (by omega), cond_true, Int.toNat_natCast, wrap_sm (by omega)]
      refine ⟨_, rfl, by simp [hI.1], fun w hw => ?_⟩
      rw [getD_setx _ _ _ _ _ (by rw [hI.1]; exact hw0)]
      have hs := REp.succ hV hK w
      rw [e0] at hs
      by_cases e : w = w0
      · subst e
        rw [if_pos rfl]
        refine ⟨by rw [List.length_append]; simp only [List.length_cons, List.length_nil]; omega, fun x => ?_⟩
        rw [List.mem_append, (hI.2 w hw).2 x, hs, List.mem_singleton]
        simp
      · rw [if_neg e]
        refine ⟨by have := (hI.2 w hw).1; omega, fun x => ?_⟩
        rw [(hI.2 w hw).2 x, hs]
        constructor
        · exact .inl
        · rintro (h | ⟨h, _⟩)
          · exact h
          · omega
    · intro b _
      try dsimp only
      rw [rRev_L1_eq, lt_n, cond_false]
  have hout : ∃ b, loopO (rRev_L2 g) (List.replicate g.length [], 0) = some (b, ((g.length : Nat) : Int)) ∧ RIn g g.length 0 b := by
    refine loopO_cnt (step := rRev_L2 g) g.length (fun b i => (b, ((i : Nat) : Int))) (fun b => (b, ((g.length : Nat) : Int))) (fun V b => RIn g V 0 b) ?_ ?_ _ ⟨by simp, fun w hw => ?_⟩
    · intro V b hV hI
      obtain ⟨b', h1, h2⟩ := hin V b hV hI
      try dsimp only
      rw [rRev_L2_eq, lt_c hV, cond_true, idxO_at g V [] hV, Option.bind_some, h1, Option.bind_some]
      try dsimp only
      rw [wrap_sm (by omega)]
      exact ⟨b', rfl, h2.1, fun w hw => ⟨by have := (h2.2 w hw).1; have := hrl V hV; omega, fun x => by rw [(h2.2 w hw).2, REp.next]⟩⟩
    · intro b _
      try dsimp only
      rw [rRev_L2_eq, lt_n, cond_false]
    · have e : (List.replicate g.length ([] : List Int)).getD w [] = [] := by simp [List.getD, List.getElem?_replicate, hw]
      rw [e]
      refine ⟨by simp, fun x => ⟨fun h => (by cases h), ?_⟩⟩
      rintro ⟨v, k, h, _⟩
      omega
  obtain ⟨b, h1, h2⟩ := hout
  unfold rRev_v
  rw [hv.rval, Option.bind_some, cond_true, decide_eq_true (by omega), cond_true, h1, Option.bind_some]
  refine ⟨b, rfl, h2.1, fun w hw => ⟨by have := (h2.2 w hw).1; omega, fun x => ?_⟩⟩
  rw [(h2.2 w hw).2]
  constructor
  · rintro ⟨v, k, _, hvn, hk, h3, h4⟩
    exact ⟨v, hvn, by rw [← h3, getD_eq hk]; exact List.getElem_mem hk, h4⟩
  · rintro ⟨v, hvn, h3, h4⟩
    obtain ⟨k, hk, e⟩ := List.mem_iff_getElem.1 h3
    exact ⟨v, k, .inl hvn, hvn, hk, by rw [getD_eq hk, e], h4⟩
structure Rev (g b : List (List Int)) (sh : List Bool) : Prop where
  gg : Gok g sh
  gb : Gok b sh
  rv : ∀ v w : Nat, (v : Int) ∈ b.getD w [] ↔ (w : Int) ∈ g.getD v []
theorem Rch.rev {g b : List (List Int)} {sh : List Bool} (hr : ∀ v w : Nat, (v : Int) ∈ b.getD w [] → (w : Int) ∈ g.getD v []) {u w : Nat} (h : Rch b sh u w) (ho : sh.getD u false = false) : Rch g sh w u ∧ sh.getD w false = false := by
  induction h with
  | refl => exact ⟨.refl _, ho⟩
  | tail _ e ih =>
    refine ⟨?_, e.2⟩
    have e1 : Ed g sh _ _ := ⟨hr _ _ e.1, ih.2⟩
    exact ((Rch.refl _).tail e1).trans ih.1
theorem getD_out {g : List (List Int)} {v : Nat} (h : ¬ v < g.length) : g.getD v [] = [] := by rw [List.getD, List.getElem?_eq_none (by omega)]; rfl
theorem Gval.rev {g : List (List Int)} {sh : List Bool} (hv : Gval g) (hs : sh.length = g.length) : ∃ b, rRev_v g = some (b, 0) ∧ Rev g b sh := by
  obtain ⟨b, h1, h2, h3⟩ := rev_at hv
  have hg := hv.ok hs
  refine ⟨b, h1, hg, ⟨by rw [h2]; exact hv.1, by rw [h2]; exact hs, fun v k hk => ?_, fun v => ?_⟩, fun v w => ?_⟩
  · by_cases hvn : v < g.length
    · obtain ⟨u, hu, _, e⟩ := ((h3 v hvn).2 _).1 (List.getElem_mem hk)
      exact ⟨u, by rw [getD_eq hk]; exact e, by rw [h2]; exact hu⟩
    · rw [getD_out (by omega)] at hk; exact absurd hk (Nat.not_lt_zero _)
  · by_cases hvn : v < g.length
    · exact (h3 v hvn).1
    · rw [getD_out (by omega)]; simp
  · by_cases hw : w < g.length
    · rw [(h3 w hw).2]
      constructor
      · rintro ⟨u, _, h4, e⟩
        have : u = v := by omega
        rw [← this]; exact h4
      · intro h4
        refine ⟨v, ?_, h4, rfl⟩
        by_cases hvn : v < g.length
        · exact hvn
        · rw [getD_out hvn] at h4; cases h4
    · rw [getD_out (by omega)]
      constructor
      · intro h; cases h
      · intro h
        obtain ⟨w2, e, hw2⟩ := hg.mem h
        omega
def MutOk (g : List (List Int)) (sh : List Bool) : Prop := (∃ v, v < g.length ∧ sh.getD v false = false) ∧ ∀ v w, v < g.length → w < g.length → sh.getD v false = false → sh.getD w false = false → Rch g sh v w
theorem mut_at {g : List (List Int)} {sh : List Bool} (hv : Gval g) (hs : sh.length = g.length) : ∃ r, rMut_v g sh = some (r, 0) ∧ (r = true ↔ MutOk g sh) := by
  classical
  obtain ⟨b, h1, hr⟩ := hv.rev hs
  have h24 := hv.1
  have hg := hr.gg
  have hbl : b.length = g.length := by rw [← hr.gb.shl]; exact hs
  let A : Nat → Prop := fun v => ∀ w, w < g.length → sh.getD w false = false → Rch g sh v w ∧ Rch g sh w v
  have hin : ∀ v, v < g.length → sh.getD v false = false → ∃ m m' , rFound_v g sh (v : Int) = some m ∧ rFound_v b sh (v : Int) = some m' ∧ m.length = 24 ∧ m'.length = 24 ∧ loopO (rMut_L1 sh m m') 0 = some (if A v then .inl ((sh.length : Nat) : Int) else .inr (false, 0)) := by
    intro v hvn ho
    obtain ⟨m, e1, e2, e3⟩ := found_at hg v hvn
    obtain ⟨m', f1, f2, f3⟩ := found_at hr.gb v (by omega)
    refine ⟨m, m', e1, f1, e2, f2, ?_⟩
    have h := loopO_all (step := rMut_L1 sh m m') sh.length (fun i => ((i : Nat) : Int)) (.inl ((sh.length : Nat) : Int)) (.inr (false, 0)) (fun w => sh.getD w false || (m.getD w false && m'.getD w false)) ?_ ?_
    · rw [show (0 : Int) = ((0 : Nat) : Int) from rfl, h]
      congr 1
      have hiff : (∀ j, j < sh.length → (sh.getD j false || (m.getD j false && m'.getD j false)) = true) ↔ A v := by
        constructor
        · intro h w hw hwo
          have := h w (by omega)
          rw [hwo] at this
          simp only [Bool.false_or, Bool.and_eq_true] at this
          rw [e3, f3] at this
          exact ⟨this.1.2, (this.2.2.rev (fun a c => (hr.rv a c).1) ho).1⟩
        · intro h w hw
          cases c : sh.getD w false with
          | true => rfl
          | false =>
            simp only [Bool.false_or, Bool.and_eq_true]
            rw [e3, f3]
            have := h w (by omega) c
            exact ⟨⟨ho, this.1⟩, ho, (this.2.rev (g := b) (fun a c => (hr.rv c a).2) c).1⟩
      by_cases hA : A v
      · rw [if_pos (hiff.2 hA), if_pos hA]
      · rw [if_neg (fun h => hA (hiff.1 h)), if_neg hA]; rfl
    · intro w hw _
      have ea : ∀ x : List Bool, x.length = 24 → idxA 24 x (w : Int) = some (x.getD w false) := fun x hx => by
        unfold idxA; rw [if_pos hx, idxO_at x w false (by omega)]
      rw [rMut_L1_eq, lt_c hw, cond_true, idxO_at sh w false hw, Option.bind_some, ea m e2, ea m' f2]
      have ew : IntKind.i64.wrap ((w : Int) + 1) = ((w + 1 : Nat) : Int) := wrap_sm (by omega)
      cases sh.getD w false <;> cases m.getD w false <;> cases m'.getD w false <;> simp [ew]
    · intro _
      rw [rMut_L1_eq, lt_n, cond_false]
  have hstepO : ∀ v, v < sh.length → sh.getD v false = true → rMut_L2 g sh b ((v : Nat) : Int) = some (.inl ((v + 1 : Nat) : Int)) := by
    intro v hvn c
    rw [rMut_L2_eq, lt_c hvn, cond_true, idxO_at sh v false hvn, Option.bind_some, c, cond_true, wrap_sm (by omega)]
  have hstepC : ∀ v, v < sh.length → sh.getD v false = false → rMut_L2 g sh b ((v : Nat) : Int) = some (.inr (.inr (decide (A v), (0 : Int)))) := by
    intro v hvn c
    rw [rMut_L2_eq, lt_c hvn, cond_true, idxO_at sh v false hvn, Option.bind_some, c]
    obtain ⟨m, m', e1, f1, e2, f2, e3⟩ := hin v (by omega) c
    rw [cond_false, e1, Option.bind_some, f1, Option.bind_some, e2, f2, show decide (24 = 24) = true from rfl, cond_true, cond_true, e3, Option.bind_some]
    by_cases hA : A v
    · rw [if_pos hA, decide_eq_true hA]
    · rw [if_neg hA, decide_eq_false hA]
  have h := loopO_for (step := rMut_L2 g sh b) sh.length (fun i => ((i : Nat) : Int)) (.inl ((sh.length : Nat) : Int)) (fun v => if sh.getD v false = true then none else some (Sum.inr (decide (A v), (0 : Int)))) (fun i hi _ => by
    cases c : sh.getD i false
    · rw [hstepC i hi c]; simp
    · rw [hstepO i hi c]; simp) (fun _ => by rw [rMut_L2_eq, lt_n, cond_false])
  unfold rMut_v
  rw [h1, Option.bind_some]
  dsimp only
  rw [show decide ((0 : Int) = 0) = true from rfl, cond_true, hs, decide_eq_true rfl, cond_true, show (0 : Int) = ((0 : Nat) : Int) from rfl, h, Option.bind_some]
  by_cases hex : ∃ v, v < sh.length ∧ sh.getD v false = false
  · have hmin : ∀ n, (∃ v, v < n ∧ v < sh.length ∧ sh.getD v false = false) → ∃ v, v < sh.length ∧ sh.getD v false = false ∧ ∀ u, u < v → sh.getD u false = true := by
      intro n
      induction n with
      | zero => rintro ⟨v, hv, _⟩; omega
      | succ n ih =>
        rintro ⟨v, hv, hvl, hP⟩
        by_cases hx : ∃ u, u < n ∧ u < sh.length ∧ sh.getD u false = false
        · exact ih hx
        · refine ⟨v, hvl, hP, fun u hu => ?_⟩
          cases c : sh.getD u false with
          | true => rfl
          | false => exact absurd ⟨u, by omega, by omega, c⟩ hx
    obtain ⟨v0, hv0, hP0⟩ := hex
    obtain ⟨v, hvl, hvo, hm⟩ := hmin (v0 + 1) ⟨v0, by omega, hv0, hP0⟩
    rw [findSome_range _ (Sum.inr (decide (A v), (0 : Int))) sh.length v hvl (fun u hu => by rw [if_pos (hm u hu)]) (by rw [if_neg (by rw [hvo]; decide)])]
    refine ⟨decide (A v), rfl, ?_⟩
    rw [decide_eq_true_eq]
    constructor
    · intro hA
      exact ⟨⟨v, by omega, hvo⟩, fun x y hx hy hxo hyo => (hA x hx hxo).2.trans (hA y hy hyo).1⟩
    · intro hM w hw hwo
      exact ⟨hM.2 v w (by omega) hw hvo hwo, hM.2 w v hw (by omega) hwo hvo⟩
  · have : (List.range sh.length).findSome? (fun v => if sh.getD v false = true then none else some (Sum.inr (decide (A v), (0 : Int)) : Int ⊕ (Bool × Int))) = none := by
      rw [List.findSome?_eq_none_iff]
      intro x hx
      cases c : sh.getD x false with
      | true => rfl
      | false => exact absurd ⟨x, by simpa using hx, c⟩ hex
    rw [this]
    refine ⟨false, rfl, fun h => (by cases h), fun hM => ?_⟩
    obtain ⟨v, hv1, hv2⟩ := hM.1
    exact absurd ⟨v, by omega, hv2⟩ hex
theorem lawOne_at (a0 : List Int) (g : List (List Int)) (l : List Int) (a : Int) (hq : GraphQ a0 g l a) (sh : List Bool) (l' : List Int) (a' : Int) (hs' : ShutQ l a ((g.length : Nat) : Int) sh l' a') : lawOne_v a0 g l a sh l' a' = some true := by
  obtain ⟨hv, h8⟩ := made_val hq
  have hs : sh.length = g.length := by unfold ShutQ at hs'; omega
  have hg := hv.ok hs
  have hn := namesV_ok g sh
  obtain ⟨o, h1, ho⟩ := order_at hv hs (by omega)
  obtain ⟨r, h2, hr⟩ := mut_at hv hs
  generalize namesV g sh = nm at hn ho
  unfold lawOne_v
  rw [h2, Option.bind_some]
  dsimp only
  rw [h1, Option.bind_some]
  dsimp only
  rw [show decide ((0 : Int) = 0) = true from rfl, cond_true, cond_true]
  have : r = decide (((o.length : Nat) : Int) = 1) := by
    rw [Bool.eq_iff_iff, hr, decide_eq_true_eq]
    constructor
    · rintro ⟨⟨v, hvn, hvo⟩, hall⟩
      have h0 := ((hn.2 v hvn).1 hvo).1
      obtain ⟨y, ey, hy, _, hyo, hyy, _⟩ := hn.name hg hvn h0
      have hyin := ho.2 y hy hyy
      have hsame : ∀ x ∈ o, x = (y : Int) := fun x hx => by
        obtain ⟨z, rfl, hz, hzz⟩ := ho.1.mem hx
        obtain ⟨_, _, _, hzo, _⟩ := hn.name hg hz (by omega)
        have := hn.same hz hy hzo hyo (hall z y hz hy hzo hyo) (hall y z hy hz hyo hzo)
        rw [hzz, hyy] at this
        exact this
      have hnd := ho.1.nodup
      match o with
      | [] => cases hyin
      | [x] => rfl
      | x :: x2 :: r =>
        have e1 := hsame x (by simp)
        have e2 := hsame x2 (by simp)
        rw [e1, e2] at hnd
        simp at hnd
    · intro hl
      match o, hl with
      | [x], _ =>
        obtain ⟨y, rfl, hy, hyy⟩ := ho.1.mem (x := x) (by simp)
        obtain ⟨_, _, _, hyo, _⟩ := hn.name hg hy (by omega)
        refine ⟨⟨y, hy, hyo⟩, ?_⟩
        have key : ∀ v, v < g.length → sh.getD v false = false → Rch g sh v y ∧ Rch g sh y v := by
          intro v hvn hvo
          obtain ⟨z, ez, hz, _, _, hzz, _, vz, zv⟩ := hn.name hg hvn ((hn.2 v hvn).1 hvo).1
          have := ho.2 z hz hzz
          have : z = y := by simp at this; omega
          rw [← this]; exact ⟨vz, zv⟩
        exact fun v w hvn hw hvo hwo => (key v hvn hvo).1.trans (key w hw hwo).2
      | [], h => simp at h
      | _ :: _ :: _, h => simp at h; omega
  rw [this, beq_self_eq_true]
end Go.Am
end
section
namespace Go.Proofs.Ytacfhnpmlpaojaa
open Go.Am Go.ChangeShapes Go.WideShapes Go.ChangeAt Go.RowKit
set_option linter.unusedVariables false
set_option maxRecDepth 100000
theorem componentsMutual_contract (H : Type) (enc : TypeId × Value → H) (W : World) (base : Nat) (args : Array Value) (ds gs : List (DataW H)) (before : List MemPlace)
    (hval : ∀ (j : Nat) t v, Try.f7.params[j]? = some t → args[j]? = some v → Value.okWide Try.prog W .any base t v)
    (hW : DataW.Whole enc Try.prog Try.f7.params.toList Rows.componentsMutualSpec.vars false W args.toList ds gs before) (hk : Rows.uptoSmall H (ds ++ gs) = true) :
    Calls Try.prog 7 args W fun e W' => ∃ v, e = .returned v ∧ Rows.componentsMutualSpec.post enc Try.prog Try.f7 false true false false W args v W' := by
  have ht : Try.f7.params.toList.all (topB Try.prog) = true := by kernel_rfl
  have hb := bound hk
  rw [bulk_append] at hb
  obtain ⟨p, q, hA, hV, rfl, hfz, hnd⟩ := hW
  obtain ⟨hl, hwt⟩ := tops_wt ht hA
  have hl2 : ds.length = 1 := hl
  obtain ⟨d1, rfl⟩ : ∃ d1, ds = [d1] := by
    match ds, hl2 with
    | [d1], _ => exact ⟨d1, rfl⟩
  simp only [Rows.uptoBulkAll] at hb
  obtain ⟨l, h1⟩ := dec_ints (hwt 0 24 d1 rfl rfl)
  refine law_calls hval ⟨p, q, hA, hV, rfl, hfz, hnd⟩ rfl ht rfl Try.underlying4 rfl enters7 ?_
  simp only [List.map_cons, List.map_nil, argD, h1, List.getD_cons_zero]
  exact (lawMutual_vok l true (fun y1 y2 y3 hq y5 y6 y7 hs => lawMutual_at l y1 y2 y3 hq y5 y6 y7 hs)).mono fun _ _ h => h.2
theorem componentsMutual_lifted (os : Os) (started : os.Started) (H : Type) (enc : TypeId × Value → H) (F : Stop.Interp) :
    ReturnsInHanded {} Try.checked os 7 .any ((Rows.OpenSpec.upto Rows.componentsMutualSpec).pre6 enc Try.prog Try.f7 Rows.componentsMutualUptoRow.domain false) (((Rows.OpenSpec.upto Rows.componentsMutualSpec).at F).post enc Try.prog Try.f7 false true false false) := by
  refine returnsInHanded_of_cond (C := Try.checked) (s := Rows.OpenSpec.upto Rows.componentsMutualSpec) (k := Rows.uptoSmall) rfl own started (by kernel_rfl) Try.func7
    (OpenSpec.witness (enc := enc) (C := Try.checked) (s := Rows.OpenSpec.upto Rows.componentsMutualSpec) (k := Rows.uptoSmall) rfl false ⟨#[], #[.slice none 0 0], []⟩ 8 (by kernel_rfl) (by kernel_rfl) (by kernel_rfl)
      (x := ([.nil], [], [])) (by kernel_rfl) rfl (by kernel_rfl)) ?_
  intro W base args ds gs before hval hW _ hk _
  exact componentsMutual_contract H enc W base args ds gs before hval hW hk
theorem componentsMutual_proved : Rows.ComponentsMutualUptoSaid :=
  OpenClaim.holds_of_cond 7 Try.f7 rfl rfl rfl rfl rfl rfl rfl ⟨rfl, rfl, rfl, rfl, rfl⟩ rfl rfl rfl rfl rfl (by kernel_rfl) Try.func7 (by kernel_rfl)
    (of_decide_eq_true (by kernel_rfl)) (by unfold Func.isWrapper; first | (rw [if_pos (by decide +kernel)]; kernel_rfl) | (rw [if_neg (by decide +kernel)]; exact ⟨rfl, rfl⟩))
    (fun os started H enc _ F => componentsMutual_lifted os started H enc F)
theorem componentsOrder_contract (H : Type) (enc : TypeId × Value → H) (W : World) (base : Nat) (args : Array Value) (ds gs : List (DataW H)) (before : List MemPlace)
    (hval : ∀ (j : Nat) t v, Try.f4.params[j]? = some t → args[j]? = some v → Value.okWide Try.prog W .any base t v)
    (hW : DataW.Whole enc Try.prog Try.f4.params.toList Rows.componentsOrderSpec.vars false W args.toList ds gs before) (hk : Rows.uptoSmall H (ds ++ gs) = true) :
    Calls Try.prog 4 args W fun e W' => ∃ v, e = .returned v ∧ Rows.componentsOrderSpec.post enc Try.prog Try.f4 false true false false W args v W' := by
  have ht : Try.f4.params.toList.all (topB Try.prog) = true := by kernel_rfl
  have hb := bound hk
  rw [bulk_append] at hb
  obtain ⟨p, q, hA, hV, rfl, hfz, hnd⟩ := hW
  obtain ⟨hl, hwt⟩ := tops_wt ht hA
  have hl2 : ds.length = 1 := hl
  obtain ⟨d1, rfl⟩ : ∃ d1, ds = [d1] := by
    match ds, hl2 with
    | [d1], _ => exact ⟨d1, rfl⟩
  simp only [Rows.uptoBulkAll] at hb
  obtain ⟨l, h1⟩ := dec_ints (hwt 0 24 d1 rfl rfl)
  refine law_calls hval ⟨p, q, hA, hV, rfl, hfz, hnd⟩ rfl ht rfl Try.underlying4 rfl enters4 ?_
  simp only [List.map_cons, List.map_nil, argD, h1, List.getD_cons_zero]
  exact (lawOrder_vok l true (fun y1 y2 y3 hq y5 y6 y7 hs => lawOrder_at l y1 y2 y3 hq y5 y6 y7 hs)).mono fun _ _ h => h.2
theorem componentsOrder_lifted (os : Os) (started : os.Started) (H : Type) (enc : TypeId × Value → H) (F : Stop.Interp) :
    ReturnsInHanded {} Try.checked os 4 .any ((Rows.OpenSpec.upto Rows.componentsOrderSpec).pre6 enc Try.prog Try.f4 Rows.componentsOrderUptoRow.domain false) (((Rows.OpenSpec.upto Rows.componentsOrderSpec).at F).post enc Try.prog Try.f4 false true false false) := by
  refine returnsInHanded_of_cond (C := Try.checked) (s := Rows.OpenSpec.upto Rows.componentsOrderSpec) (k := Rows.uptoSmall) rfl own started (by kernel_rfl) Try.func4
    (OpenSpec.witness (enc := enc) (C := Try.checked) (s := Rows.OpenSpec.upto Rows.componentsOrderSpec) (k := Rows.uptoSmall) rfl false ⟨#[], #[.slice none 0 0], []⟩ 8 (by kernel_rfl) (by kernel_rfl) (by kernel_rfl)
      (x := ([.nil], [], [])) (by kernel_rfl) rfl (by kernel_rfl)) ?_
  intro W base args ds gs before hval hW _ hk _
  exact componentsOrder_contract H enc W base args ds gs before hval hW hk
theorem componentsOrder_proved : Rows.ComponentsOrderUptoSaid :=
  OpenClaim.holds_of_cond 4 Try.f4 rfl rfl rfl rfl rfl rfl rfl ⟨rfl, rfl, rfl, rfl, rfl⟩ rfl rfl rfl rfl rfl (by kernel_rfl) Try.func4 (by kernel_rfl)
    (of_decide_eq_true (by kernel_rfl)) (by unfold Func.isWrapper; first | (rw [if_pos (by decide +kernel)]; kernel_rfl) | (rw [if_neg (by decide +kernel)]; exact ⟨rfl, rfl⟩))
    (fun os started H enc _ F => componentsOrder_lifted os started H enc F)
theorem componentsOne_contract (H : Type) (enc : TypeId × Value → H) (W : World) (base : Nat) (args : Array Value) (ds gs : List (DataW H)) (before : List MemPlace)
    (hval : ∀ (j : Nat) t v, Try.f8.params[j]? = some t → args[j]? = some v → Value.okWide Try.prog W .any base t v)
    (hW : DataW.Whole enc Try.prog Try.f8.params.toList Rows.componentsOneSpec.vars false W args.toList ds gs before) (hk : Rows.uptoSmall H (ds ++ gs) = true) :
    Calls Try.prog 8 args W fun e W' => ∃ v, e = .returned v ∧ Rows.componentsOneSpec.post enc Try.prog Try.f8 false true false false W args v W' := by
  have ht : Try.f8.params.toList.all (topB Try.prog) = true := by kernel_rfl
  have hb := bound hk
  rw [bulk_append] at hb
  obtain ⟨p, q, hA, hV, rfl, hfz, hnd⟩ := hW
  obtain ⟨hl, hwt⟩ := tops_wt ht hA
  have hl2 : ds.length = 1 := hl
  obtain ⟨d1, rfl⟩ : ∃ d1, ds = [d1] := by
    match ds, hl2 with
    | [d1], _ => exact ⟨d1, rfl⟩
  simp only [Rows.uptoBulkAll] at hb
  obtain ⟨l, h1⟩ := dec_ints (hwt 0 24 d1 rfl rfl)
  refine law_calls hval ⟨p, q, hA, hV, rfl, hfz, hnd⟩ rfl ht rfl Try.underlying4 rfl enters8 ?_
  simp only [List.map_cons, List.map_nil, argD, h1, List.getD_cons_zero]
  exact (lawOne_vok l true (fun y1 y2 y3 hq y5 y6 y7 hs => lawOne_at l y1 y2 y3 hq y5 y6 y7 hs)).mono fun _ _ h => h.2
theorem componentsOne_lifted (os : Os) (started : os.Started) (H : Type) (enc : TypeId × Value → H) (F : Stop.Interp) :
    ReturnsInHanded {} Try.checked os 8 .any ((Rows.OpenSpec.upto Rows.componentsOneSpec).pre6 enc Try.prog Try.f8 Rows.componentsOneUptoRow.domain false) (((Rows.OpenSpec.upto Rows.componentsOneSpec).at F).post enc Try.prog Try.f8 false true false false) := by
  refine returnsInHanded_of_cond (C := Try.checked) (s := Rows.OpenSpec.upto Rows.componentsOneSpec) (k := Rows.uptoSmall) rfl own started (by kernel_rfl) Try.func8
    (OpenSpec.witness (enc := enc) (C := Try.checked) (s := Rows.OpenSpec.upto Rows.componentsOneSpec) (k := Rows.uptoSmall) rfl false ⟨#[], #[.slice none 0 0], []⟩ 8 (by kernel_rfl) (by kernel_rfl) (by kernel_rfl)
      (x := ([.nil], [], [])) (by kernel_rfl) rfl (by kernel_rfl)) ?_
  intro W base args ds gs before hval hW _ hk _
  exact componentsOne_contract H enc W base args ds gs before hval hW hk
theorem componentsOne_proved : Rows.ComponentsOneUptoSaid :=
  OpenClaim.holds_of_cond 8 Try.f8 rfl rfl rfl rfl rfl rfl rfl ⟨rfl, rfl, rfl, rfl, rfl⟩ rfl rfl rfl rfl rfl (by kernel_rfl) Try.func8 (by kernel_rfl)
    (of_decide_eq_true (by kernel_rfl)) (by unfold Func.isWrapper; first | (rw [if_pos (by decide +kernel)]; kernel_rfl) | (rw [if_neg (by decide +kernel)]; exact ⟨rfl, rfl⟩))
    (fun os started H enc _ F => componentsOne_lifted os started H enc F)
end Go.Proofs.Ytacfhnpmlpaojaa
end
