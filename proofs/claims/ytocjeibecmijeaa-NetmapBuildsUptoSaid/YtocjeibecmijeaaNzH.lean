/- NetmapBuilds: whatever the arguments of bulk at most 1048576, the law returns true and leaves its arguments as they were. -/
import Derived.Test.YtocjeibecmijeaaRows
import Derived.ProofKit
import Derived.JoinedCond
import Derived.Test.YtocjeibecmijeaaNzG
section
namespace Go.Proofs.Ytocjeibecmijeaa
open Go.Am Go.ChangeShapes Go.WideShapes Go.ChangeAt Go.RowKit
set_option linter.unusedVariables false
set_option maxRecDepth 100000
theorem own : ownKnob Try.prog.godebug = none := by kernel_rfl
mutual
theorem bulkD {H : Type} : ∀ d : DataW H, pdBl (flatD d) ≤ Rows.uptoBulk d
  | .lit (.int k n) => by simp [flatD, pdBl, pdB, Rows.uptoBulk]
  | .lit (.bool b) => by simp [flatD, pdBl, pdB, Rows.uptoBulk]
  | .lit (.string l) => by simp [flatD, pdBl, pdB, Rows.uptoBulk]
  | .nil => by simp [flatD, pdBl, pdB, pdBs, Rows.uptoBulk]
  | .slice elems spare => by
    have := bulkE elems
    simp only [flatD, pdBl, pdB, Rows.uptoBulk]; omega
  | .agg parts => by
    have := bulkA parts
    simp only [flatD, Rows.uptoBulk]; omega
  | .lit l => by cases l <;> simp [flatD, pdBl, pdB, Rows.uptoBulk]
  | .ptr d => by simp [flatD, pdBl]
  | .iface t d => by simp [flatD, pdBl]
  | .map entries => by simp [flatD, pdBl]
  | .held h => by simp [flatD, pdBl]
theorem bulkE {H : Type} : ∀ es : List (DataW H), pdBs (flatE es) ≤ Rows.uptoBulkAll es
  | [] => by simp [flatE, pdBs]
  | d :: r => by
    have h1 := bulkD d
    have h2 := bulkE r
    simp only [flatE, pdBs, Rows.uptoBulkAll]; omega
theorem bulkA {H : Type} : ∀ es : List (DataW H), pdBl (flatA es) ≤ Rows.uptoBulkAll es
  | [] => by simp [flatA, pdBl]
  | d :: r => by
    have h1 := bulkD d
    have h2 := bulkA r
    simp only [flatA, pdBl_append, Rows.uptoBulkAll]; omega
end
theorem bulk_append {H : Type} (l r : List (DataW H)) : Rows.uptoBulkAll (l ++ r) = Rows.uptoBulkAll l + Rows.uptoBulkAll r := by
  induction l with
  | nil => simp [Rows.uptoBulkAll]
  | cons x l ih => simp only [List.cons_append, Rows.uptoBulkAll, ih]; omega
theorem bound {H : Type} {l : List (DataW H)} (hk : Rows.uptoSmall H l = true) : Rows.uptoBulkAll l ≤ 1048576 := of_decide_eq_true hk
theorem dec_ints {n : Nat} {cs : List Pd} (h : wtP Try.prog n 23 cs) : ∃ l : List Int, cs = [.sl (Go.Am.encI l)] := by
  obtain ⟨m, es, rfl, hes⟩ := wt_sl Try.underlying23 h
  obtain ⟨l, rfl⟩ := dec_map (fun v : Int => [Pd.int .i64 v]) es fun y hy => by
    obtain ⟨v, h1, _⟩ := wt_int Try.underlying3 (hes y hy)
    exact ⟨v, h1⟩
  exact ⟨l, rfl⟩
theorem dec_strs {n : Nat} {cs : List Pd} (h : wtP Try.prog n 41 cs) : ∃ l : List (List UInt8), cs = [.sl (Go.Am.encS l)] := by
  obtain ⟨m, es, rfl, hes⟩ := wt_sl Try.underlying41 h
  obtain ⟨l, rfl⟩ := dec_map (fun v : List UInt8 => [Pd.str v]) es fun y hy => by
    obtain ⟨v, h1⟩ := wt_str Try.underlying9 (hes y hy)
    exact ⟨v, h1⟩
  exact ⟨l, rfl⟩
theorem strs_small (l : List (List UInt8)) : l.length ≤ pdBs (Go.Am.encS l) := (pdBs_map (fun s : List UInt8 => [Pd.str s]) (fun x => by simp [pdBl, pdB]) l).1
end Go.Proofs.Ytocjeibecmijeaa
end
section
namespace Go.Proofs.Ytocjeibecmijeaa
open Go.Am Go.ChangeShapes Go.WideShapes Go.ChangeAt Go.RowKit
set_option linter.unusedVariables false
set_option maxRecDepth 100000
theorem dec_decls {n : Nat} {cs : List Pd} (h : wtP Try.prog n 22 cs) : ∃ l : List Dc, cs = [.sl (encC l)] := by
  obtain ⟨m, es, rfl, hes⟩ := wt_sl Try.underlying22 h
  obtain ⟨l, rfl⟩ := dec_map (fun x : Dc => [Pd.int .i64 x.word, .int .i64 x.line, .sl (encS x.names), .sl (encI x.nums)]) es fun y hy => by
    obtain ⟨m2, h1⟩ := wt_st Try.underlying43 (hes y hy)
    obtain ⟨a, b, rfl, h2, c, d, rfl, h3, e, f, rfl, h4, g, k, rfl, h5, rfl⟩ := h1
    obtain ⟨v, rfl, _⟩ := wt_int Try.underlying3 h2
    obtain ⟨w, rfl, _⟩ := wt_int Try.underlying3 h3
    obtain ⟨fs, rfl⟩ := dec_strs h4
    obtain ⟨is, rfl⟩ := dec_ints h5
    exact ⟨⟨v, w, fs, is⟩, rfl⟩
  exact ⟨l, rfl⟩
theorem ints_small (l : List Int) : l.length ≤ pdBs (encI l) := (pdBs_map (fun s : Int => [Pd.int .i64 s]) (fun x => by simp [pdBl, pdB]) l).1
theorem decls_small (l : List Dc) (h : pdBl [.sl (encC l)] ≤ 1048576) : smallD l := by
  simp only [pdBl, pdB] at h
  have h1 : l.length ≤ pdBs (encC l) ∧ ∀ x ∈ l, pdBl [Pd.int .i64 x.word, .int .i64 x.line, .sl (encS x.names), .sl (encI x.nums)] ≤ pdBs (encC l) := pdBs_map (fun x : Dc => [Pd.int .i64 x.word, .int .i64 x.line, .sl (encS x.names), .sl (encI x.nums)]) (fun x => by simp only [pdBl, pdB]; omega) l
  refine ⟨by have := h1.1; omega, fun x hx => ?_⟩
  have h2 := h1.2 x hx
  have h3 := strs_small x.names
  have h4 := ints_small x.nums
  simp only [pdBl, pdB] at h2
  omega
theorem dec_int4 {n : Nat} {cs : List Pd} (h : wtP Try.prog n 24 cs) : ∃ a b c d : Int, cs = [.int .i64 a, .int .i64 b, .int .i64 c, .int .i64 d] := by
  obtain ⟨m, es, rfl, hl, hes⟩ := wt_ar Try.underlying24 h
  obtain ⟨u, v, w, y, rfl⟩ : ∃ u v w y, es = [u, v, w, y] := by
    match es, hl with
    | [u, v, w, y], _ => exact ⟨u, v, w, y, rfl⟩
  obtain ⟨x1, rfl, _⟩ := wt_int Try.underlying3 (hes u (by simp))
  obtain ⟨x2, rfl, _⟩ := wt_int Try.underlying3 (hes v (by simp))
  obtain ⟨x3, rfl, _⟩ := wt_int Try.underlying3 (hes w (by simp))
  obtain ⟨x4, rfl, _⟩ := wt_int Try.underlying3 (hes y (by simp))
  exact ⟨x1, x2, x3, x4, rfl⟩
theorem netmapBuilds_contract (H : Type) (enc : TypeId × Value → H) (W : World) (base : Nat) (args : Array Value) (ds gs : List (DataW H)) (before : List MemPlace)
    (hval : ∀ (j : Nat) t v, Try.f3.params[j]? = some t → args[j]? = some v → Value.okWide Try.prog W .any base t v)
    (hW : DataW.Whole enc Try.prog Try.f3.params.toList Rows.netmapBuildsSpec.vars false W args.toList ds gs before) (hk : Rows.uptoSmall H (ds ++ gs) = true) :
    Calls Try.prog 3 args W fun e W' => ∃ v, e = .returned v ∧ Rows.netmapBuildsSpec.post enc Try.prog Try.f3 false true false false W args v W' := by
  have ht : Try.f3.params.toList.all (plainB Try.prog 30) = true := by kernel_rfl
  have hb := bound hk
  rw [bulk_append] at hb
  obtain ⟨p, q, hA, hV, rfl, hfz, hnd⟩ := hW
  obtain ⟨hl, hwt⟩ := topsT_wt ht hA
  have hl2 : ds.length = 3 := hl
  obtain ⟨d1, d2, d3, rfl⟩ : ∃ d1 d2 d3, ds = [d1, d2, d3] := by
    match ds, hl2 with
    | [d1, d2, d3], _ => exact ⟨d1, d2, d3, rfl⟩
  simp only [Rows.uptoBulkAll] at hb
  obtain ⟨raw, h1⟩ := dec_decls (hwt 0 22 d1 rfl rfl)
  obtain ⟨l, h2⟩ := dec_ints (hwt 1 23 d2 rfl rfl)
  obtain ⟨x, y, z, u, h3⟩ := dec_int4 (hwt 2 24 d3 rfl rfl)
  have hb1 := bulkD d1
  rw [h1] at hb1
  have hsm : smallD raw := decls_small raw (by omega)
  have a1 : argT Try.prog 22 d1 = .p (.sl (encC raw)) := by unfold argT argD; rw [show aggB Try.prog 22 = false by kernel_rfl, if_neg (by decide), h1]; rfl
  have a2 : argT Try.prog 23 d2 = .p (.sl (encI l)) := by unfold argT argD; rw [show aggB Try.prog 23 = false by kernel_rfl, if_neg (by decide), h2]; rfl
  have a3 : argT Try.prog 24 d3 = .agg [.p (.int .i64 x), .p (.int .i64 y), .p (.int .i64 z), .p (.int .i64 u)] := by unfold argT; rw [if_pos (by kernel_rfl), h3]; rfl
  refine law_callsT [] hval ⟨p, q, hA, hV, rfl, hfz, hnd⟩ rfl ht rfl Try.underlying4 rfl enters3 (fun x hx => by simp at hx) [] rfl ?_
  show ACalls Try.prog 3 [argT Try.prog 22 d1, argT Try.prog 23 d2, argT Try.prog 24 d3] _ _
  rw [a1, a2, a3]
  exact (netmapBuilds_ok raw l x y z u hsm).mono fun _ _ h => h.2
theorem netmapBuilds_lifted (os : Os) (started : os.Started) (H : Type) (enc : TypeId × Value → H) (F : Stop.Interp) :
    ReturnsInHanded {} Try.checked os 3 .any ((Rows.OpenSpec.upto Rows.netmapBuildsSpec).pre6 enc Try.prog Try.f3 Rows.netmapBuildsUptoRow.domain false) (((Rows.OpenSpec.upto Rows.netmapBuildsSpec).at F).post enc Try.prog Try.f3 false true false false) := by
  refine returnsInHanded_of_cond (C := Try.checked) (s := Rows.OpenSpec.upto Rows.netmapBuildsSpec) (k := Rows.uptoSmall) rfl own started (by kernel_rfl) Try.func3
    (OpenSpec.witness (enc := enc) (C := Try.checked) (s := Rows.OpenSpec.upto Rows.netmapBuildsSpec) (k := Rows.uptoSmall) rfl false ⟨#[], #[.slice none 0 0, .slice none 0 0, .agg #[.int .i64 0, .int .i64 0, .int .i64 0, .int .i64 0]], []⟩ 8 (by kernel_rfl) (by kernel_rfl) (by kernel_rfl)
      (x := ([.nil, .nil, .agg [.lit (.int .i64 0), .lit (.int .i64 0), .lit (.int .i64 0), .lit (.int .i64 0)]], [], [])) (by kernel_rfl) rfl (by kernel_rfl)) ?_
  intro W base args ds gs before hval hW _ hk _
  exact netmapBuilds_contract H enc W base args ds gs before hval hW hk
theorem netmapBuilds_proved : Rows.NetmapBuildsUptoSaid :=
  OpenClaim.holds_of_cond 3 Try.f3 rfl rfl rfl rfl rfl rfl rfl ⟨rfl, rfl, rfl, rfl, rfl⟩ rfl rfl rfl rfl rfl (by kernel_rfl) Try.func3 (by kernel_rfl)
    (of_decide_eq_true (by kernel_rfl)) (by unfold Func.isWrapper; first | (rw [if_pos (by decide +kernel)]; kernel_rfl) | (rw [if_neg (by decide +kernel)]; exact ⟨rfl, rfl⟩))
    (fun os started H enc _ F => netmapBuilds_lifted os started H enc F)
end Go.Proofs.Ytocjeibecmijeaa
end
