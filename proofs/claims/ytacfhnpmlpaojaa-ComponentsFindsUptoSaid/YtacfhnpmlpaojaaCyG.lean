/- ComponentsFinds -/
import Derived.Test.YtacfhnpmlpaojaaRows
import Derived.ProofKit
import Derived.JoinedCond
import Derived.Test.YtacfhnpmlpaojaaCyF
section
namespace Go.Proofs.Ytacfhnpmlpaojaa
open Go.Am Go.ChangeShapes Go.WideShapes Go.ChangeAt Go.RowKit
set_option linter.unusedVariables false
set_option maxRecDepth 100000
theorem own : ownKnob Try.prog.godebug = none := by kernel_rfl
mutual
theorem bulkD {H : Type} : ∀ d : DataW H, pdBl (flatD d) ≤ Rows.uptoBulk d
  | .lit (.int k n) => by simp [flatD, pdBl, pdB, Rows.uptoBulk]
  | .lit (.bool b) => by simp [flatD, pdBl, pdB, Rows.uptoBulk]
  | .lit (.string l) => by simp [flatD, pdBl, pdB, Rows.uptoBulk]
  | .nil => by simp [flatD, pdBl, pdB, pdBs, Rows.uptoBulk]
  | .slice elems spare => by
    have := bulkE elems
    simp only [flatD, pdBl, pdB, Rows.uptoBulk]; omega
  | .agg parts => by
    have := bulkA parts
    simp only [flatD, Rows.uptoBulk]; omega
  | .lit l => by cases l <;> simp [flatD, pdBl, pdB, Rows.uptoBulk]
  | .ptr d => by simp [flatD, pdBl]
  | .iface t d => by simp [flatD, pdBl]
  | .map entries => by simp [flatD, pdBl]
  | .held h => by simp [flatD, pdBl]
theorem bulkE {H : Type} : ∀ es : List (DataW H), pdBs (flatE es) ≤ Rows.uptoBulkAll es
  | [] => by simp [flatE, pdBs]
  | d :: r => by
    have h1 := bulkD d
    have h2 := bulkE r
    simp only [flatE, pdBs, Rows.uptoBulkAll]; omega
theorem bulkA {H : Type} : ∀ es : List (DataW H), pdBl (flatA es) ≤ Rows.uptoBulkAll es
  | [] => by simp [flatA, pdBl]
  | d :: r => by
    have h1 := bulkD d
    have h2 := bulkA r
    simp only [flatA, pdBl_append, Rows.uptoBulkAll]; omega
end
theorem bulk_append {H : Type} (l r : List (DataW H)) : Rows.uptoBulkAll (l ++ r) = Rows.uptoBulkAll l + Rows.uptoBulkAll r := by
  induction l with
  | nil => simp [Rows.uptoBulkAll]
  | cons x l ih => simp only [List.cons_append, Rows.uptoBulkAll, ih]; omega
theorem bound {H : Type} {l : List (DataW H)} (hk : Rows.uptoSmall H l = true) : Rows.uptoBulkAll l ≤ 1048576 := of_decide_eq_true hk
theorem dec_ints {n : Nat} {cs : List Pd} (h : wtP Try.prog n 24 cs) : ∃ l : List Int, cs = [.sl (Go.Am.encI l)] := by
  obtain ⟨m, es, rfl, hes⟩ := wt_sl Try.underlying24 h
  obtain ⟨l, rfl⟩ := dec_map (fun v : Int => [Pd.int .i64 v]) es fun y hy => by
    obtain ⟨v, h1, _⟩ := wt_int Try.underlying3 (hes y hy)
    exact ⟨v, h1⟩
  exact ⟨l, rfl⟩
end Go.Proofs.Ytacfhnpmlpaojaa
end
section
namespace Go.Proofs.Ytacfhnpmlpaojaa
open Go.Am Go.ChangeShapes Go.WideShapes Go.ChangeAt Go.RowKit
set_option linter.unusedVariables false
set_option maxRecDepth 100000
theorem dec_rows5 {n : Nat} {cs : List Pd} (h : wtP Try.prog n 22 cs) : ∃ l : List (List Int), cs = [.sl (Go.Am.encG l)] := by
  obtain ⟨m, es, rfl, hes⟩ := wt_sl Try.underlying22 h
  obtain ⟨l, rfl⟩ := dec_map (fun r : List Int => [Pd.sl (Go.Am.encI r)]) es fun y hy => dec_ints (hes y hy)
  exact ⟨l, rfl⟩
theorem dec_bools5 {n : Nat} {cs : List Pd} (h : wtP Try.prog n 23 cs) : ∃ l : List Bool, cs = [.sl (Go.Am.encT l)] := by
  obtain ⟨m, es, rfl, hes⟩ := wt_sl Try.underlying23 h
  obtain ⟨l, rfl⟩ := dec_map (fun v : Bool => [Pd.bool v]) es fun y hy => by
    obtain ⟨v, h1⟩ := wt_bool Try.underlying4 (hes y hy)
    exact ⟨v, h1⟩
  exact ⟨l, rfl⟩
theorem rows_small5 (l : List (List Int)) (h : pdBl [.sl (Go.Am.encG l)] ≤ 1048576) : l.length ≤ 2000000 ∧ ∀ v, v < l.length → (l.getD v []).length ≤ 2000000 := by
  simp only [pdBl, pdB] at h
  have h1 : l.length ≤ pdBs (Go.Am.encG l) ∧ ∀ x ∈ l, pdBl [Pd.sl (Go.Am.encI x)] ≤ pdBs (Go.Am.encG l) := pdBs_map (fun x : List Int => [Pd.sl (Go.Am.encI x)]) (fun x => by simp only [pdBl, pdB]; omega) l
  refine ⟨by have := h1.1; omega, fun v hv => ?_⟩
  have e : l.getD v [] = l[v] := by simp [List.getD, hv]
  rw [e]
  have h2 := h1.2 l[v] (List.getElem_mem hv)
  have h4 := (pdBs_map (fun s : Int => [Pd.int .i64 s]) (fun x => by simp [pdBl, pdB]) l[v]).1
  have h5 : Go.Am.encI l[v] = l[v].map fun s : Int => [Pd.int .i64 s] := rfl
  simp only [pdBl, pdB] at h2
  rw [h5] at h2
  omega
theorem componentsFinds_contract (H : Type) (enc : TypeId × Value → H) (W : World) (base : Nat) (args : Array Value) (ds gs : List (DataW H)) (before : List MemPlace)
    (hval : ∀ (j : Nat) t v, Try.f3.params[j]? = some t → args[j]? = some v → Value.okWide Try.prog W .any base t v)
    (hW : DataW.Whole enc Try.prog Try.f3.params.toList Rows.componentsFindsSpec.vars false W args.toList ds gs before) (hk : Rows.uptoSmall H (ds ++ gs) = true) :
    Calls Try.prog 3 args W fun e W' => ∃ v, e = .returned v ∧ Rows.componentsFindsSpec.post enc Try.prog Try.f3 false true false false W args v W' := by
  have ht : Try.f3.params.toList.all (topB Try.prog) = true := by kernel_rfl
  have hb := bound hk
  rw [bulk_append] at hb
  obtain ⟨p, q, hA, hV, rfl, hfz, hnd⟩ := hW
  obtain ⟨hl, hwt⟩ := tops_wt ht hA
  have hl2 : ds.length = 3 := hl
  obtain ⟨d1, d2, d3, rfl⟩ : ∃ d1 d2 d3, ds = [d1, d2, d3] := by
    match ds, hl2 with
    | [d1, d2, d3], _ => exact ⟨d1, d2, d3, rfl⟩
  simp only [Rows.uptoBulkAll] at hb
  obtain ⟨g, h1⟩ := dec_rows5 (hwt 0 22 d1 rfl rfl)
  obtain ⟨sh, h2⟩ := dec_bools5 (hwt 1 23 d2 rfl rfl)
  obtain ⟨l, h3⟩ := dec_ints (hwt 2 24 d3 rfl rfl)
  have hb1 := bulkD d1
  rw [h1] at hb1
  obtain ⟨hs1, hs2⟩ := rows_small5 g (by omega)
  refine law_calls hval ⟨p, q, hA, hV, rfl, hfz, hnd⟩ rfl ht rfl Try.underlying4 rfl enters3 ?_
  simp only [List.map_cons, List.map_nil, argD, h1, h2, h3, List.getD_cons_zero]
  exact (lawFinds_ok g sh l hs1 hs2).mono fun _ _ h => h.2
theorem componentsFinds_lifted (os : Os) (started : os.Started) (H : Type) (enc : TypeId × Value → H) (F : Stop.Interp) :
    ReturnsInHanded {} Try.checked os 3 .any ((Rows.OpenSpec.upto Rows.componentsFindsSpec).pre6 enc Try.prog Try.f3 Rows.componentsFindsUptoRow.domain false) (((Rows.OpenSpec.upto Rows.componentsFindsSpec).at F).post enc Try.prog Try.f3 false true false false) := by
  refine returnsInHanded_of_cond (C := Try.checked) (s := Rows.OpenSpec.upto Rows.componentsFindsSpec) (k := Rows.uptoSmall) rfl own started (by kernel_rfl) Try.func3
    (OpenSpec.witness (enc := enc) (C := Try.checked) (s := Rows.OpenSpec.upto Rows.componentsFindsSpec) (k := Rows.uptoSmall) rfl false ⟨#[], #[.slice none 0 0, .slice none 0 0, .slice none 0 0], []⟩ 8 (by kernel_rfl) (by kernel_rfl) (by kernel_rfl)
      (x := ([.nil, .nil, .nil], [], [])) (by kernel_rfl) rfl (by kernel_rfl)) ?_
  intro W base args ds gs before hval hW _ hk _
  exact componentsFinds_contract H enc W base args ds gs before hval hW hk
theorem componentsFinds_proved : Rows.ComponentsFindsUptoSaid :=
  OpenClaim.holds_of_cond 3 Try.f3 rfl rfl rfl rfl rfl rfl rfl ⟨rfl, rfl, rfl, rfl, rfl⟩ rfl rfl rfl rfl rfl (by kernel_rfl) Try.func3 (by kernel_rfl)
    (of_decide_eq_true (by kernel_rfl)) (by unfold Func.isWrapper; first | (rw [if_pos (by decide +kernel)]; kernel_rfl) | (rw [if_neg (by decide +kernel)]; exact ⟨rfl, rfl⟩))
    (fun os started H enc _ F => componentsFinds_lifted os started H enc F)
end Go.Proofs.Ytacfhnpmlpaojaa
end
