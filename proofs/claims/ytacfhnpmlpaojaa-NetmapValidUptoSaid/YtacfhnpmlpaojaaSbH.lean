/- NetmapBack, NetmapTables and NetmapValid: whatever arguments of bulk at most 1048576 come in, the law returns true and leaves its arguments as they were. -/
import Derived.Test.YtacfhnpmlpaojaaRows
import Derived.ProofKit
import Derived.JoinedCond
import Derived.Test.YtacfhnpmlpaojaaSbG
section
namespace Go.Proofs.Ytacfhnpmlpaojaa
open Go.Am Go.ChangeShapes Go.WideShapes Go.ChangeAt Go.RowKit
set_option linter.unusedVariables false
set_option maxRecDepth 100000
theorem own : ownKnob Try.prog.godebug = none := by kernel_rfl
mutual
theorem bulkD {H : Type} : ∀ d : DataW H, pdBl (flatD d) ≤ Rows.uptoBulk d
  | .lit (.int k n) => by simp [flatD, pdBl, pdB, Rows.uptoBulk]
  | .lit (.bool b) => by simp [flatD, pdBl, pdB, Rows.uptoBulk]
  | .lit (.string l) => by simp [flatD, pdBl, pdB, Rows.uptoBulk]
  | .nil => by simp [flatD, pdBl, pdB, pdBs, Rows.uptoBulk]
  | .slice elems spare => by
    have := bulkE elems
    simp only [flatD, pdBl, pdB, Rows.uptoBulk]; omega
  | .agg parts => by
    have := bulkA parts
    simp only [flatD, Rows.uptoBulk]; omega
  | .lit l => by cases l <;> simp [flatD, pdBl, pdB, Rows.uptoBulk]
  | .ptr d => by simp [flatD, pdBl]
  | .iface t d => by simp [flatD, pdBl]
  | .map entries => by simp [flatD, pdBl]
  | .held h => by simp [flatD, pdBl]
theorem bulkE {H : Type} : ∀ es : List (DataW H), pdBs (flatE es) ≤ Rows.uptoBulkAll es
  | [] => by simp [flatE, pdBs]
  | d :: r => by
    have h1 := bulkD d
    have h2 := bulkE r
    simp only [flatE, pdBs, Rows.uptoBulkAll]; omega
theorem bulkA {H : Type} : ∀ es : List (DataW H), pdBl (flatA es) ≤ Rows.uptoBulkAll es
  | [] => by simp [flatA, pdBl]
  | d :: r => by
    have h1 := bulkD d
    have h2 := bulkA r
    simp only [flatA, pdBl_append, Rows.uptoBulkAll]; omega
end
theorem bulk_append {H : Type} (l r : List (DataW H)) : Rows.uptoBulkAll (l ++ r) = Rows.uptoBulkAll l + Rows.uptoBulkAll r := by
  induction l with
  | nil => simp [Rows.uptoBulkAll]
  | cons x l ih => simp only [List.cons_append, Rows.uptoBulkAll, ih]; omega
theorem bound {H : Type} {l : List (DataW H)} (hk : Rows.uptoSmall H l = true) : Rows.uptoBulkAll l ≤ 1048576 := of_decide_eq_true hk
theorem dec_ints {n : Nat} {cs : List Pd} (h : wtP Try.prog n 24 cs) : ∃ l : List Int, cs = [.sl (encI l)] := by
  obtain ⟨m, es, rfl, hes⟩ := wt_sl Try.underlying24 h
  obtain ⟨l, rfl⟩ := dec_map (fun v : Int => [Pd.int .i64 v]) es fun y hy => by
    obtain ⟨v, h1, _⟩ := wt_int Try.underlying3 (hes y hy)
    exact ⟨v, h1⟩
  exact ⟨l, rfl⟩
theorem dec_strs {n : Nat} {cs : List Pd} (h : wtP Try.prog n 52 cs) : ∃ l : List (List UInt8), cs = [.sl (encS l)] := by
  obtain ⟨m, es, rfl, hes⟩ := wt_sl Try.underlying52 h
  obtain ⟨l, rfl⟩ := dec_map (fun v : List UInt8 => [Pd.str v]) es fun y hy => by
    obtain ⟨v, h1⟩ := wt_str Try.underlying9 (hes y hy)
    exact ⟨v, h1⟩
  exact ⟨l, rfl⟩
theorem strs_small (l : List (List UInt8)) : l.length ≤ pdBs (encS l) := (pdBs_map (fun s : List UInt8 => [Pd.str s]) (fun x => by simp [pdBl, pdB]) l).1
end Go.Proofs.Ytacfhnpmlpaojaa
end
section
namespace Go.Proofs.Ytacfhnpmlpaojaa
open Go.Am Go.ChangeShapes Go.WideShapes Go.ChangeAt Go.RowKit
set_option linter.unusedVariables false
set_option maxRecDepth 100000
theorem dec_decls {n : Nat} {cs : List Pd} (h : wtP Try.prog n 40 cs) : ∃ l : List Dc, cs = [.sl (encC l)] := by
  obtain ⟨m, es, rfl, hes⟩ := wt_sl Try.underlying40 h
  obtain ⟨l, rfl⟩ := dec_map (fun x : Dc => [Pd.int .i64 x.word, .int .i64 x.line, .sl (encS x.names), .sl (encI x.nums)]) es fun y hy => by
    obtain ⟨m2, h1⟩ := wt_st Try.underlying54 (hes y hy)
    obtain ⟨a, b, rfl, h2, c, d, rfl, h3, e, f, rfl, h4, g, k, rfl, h5, rfl⟩ := h1
    obtain ⟨v, rfl, _⟩ := wt_int Try.underlying3 h2
    obtain ⟨w, rfl, _⟩ := wt_int Try.underlying3 h3
    obtain ⟨fs, rfl⟩ := dec_strs h4
    obtain ⟨is, rfl⟩ := dec_ints h5
    exact ⟨⟨v, w, fs, is⟩, rfl⟩
  exact ⟨l, rfl⟩
theorem ints_small (l : List Int) : l.length ≤ pdBs (encI l) := (pdBs_map (fun s : Int => [Pd.int .i64 s]) (fun x => by simp [pdBl, pdB]) l).1
theorem decls_small (l : List Dc) (h : pdBl [.sl (encC l)] ≤ 1048576) : smallD l := by
  simp only [pdBl, pdB] at h
  have h1 : l.length ≤ pdBs (encC l) ∧ ∀ x ∈ l, pdBl [Pd.int .i64 x.word, .int .i64 x.line, .sl (encS x.names), .sl (encI x.nums)] ≤ pdBs (encC l) := pdBs_map (fun x : Dc => [Pd.int .i64 x.word, .int .i64 x.line, .sl (encS x.names), .sl (encI x.nums)]) (fun x => by simp only [pdBl, pdB]; omega) l
  refine ⟨by have := h1.1; omega, fun x hx => ?_⟩
  have h2 := h1.2 x hx
  have h3 := strs_small x.names
  have h4 := ints_small x.nums
  simp only [pdBl, pdB] at h2
  omega
theorem netmapBack_contract (H : Type) (enc : TypeId × Value → H) (W : World) (base : Nat) (args : Array Value) (ds gs : List (DataW H)) (before : List MemPlace)
    (hval : ∀ (j : Nat) t v, Try.f10.params[j]? = some t → args[j]? = some v → Value.okWide Try.prog W .any base t v)
    (hW : DataW.Whole enc Try.prog Try.f10.params.toList Rows.netmapBackSpec.vars false W args.toList ds gs before) (hk : Rows.uptoSmall H (ds ++ gs) = true) :
    Calls Try.prog 10 args W fun e W' => ∃ v, e = .returned v ∧ Rows.netmapBackSpec.post enc Try.prog Try.f10 false true false false W args v W' := by
  have ht : Try.f10.params.toList.all (topB Try.prog) = true := by kernel_rfl
  have hb := bound hk
  rw [bulk_append] at hb
  obtain ⟨p, q, hA, hV, rfl, hfz, hnd⟩ := hW
  obtain ⟨hl, hwt⟩ := tops_wt ht hA
  have hl2 : ds.length = 2 := hl
  obtain ⟨d1, d2, rfl⟩ : ∃ d1 d2, ds = [d1, d2] := by
    match ds, hl2 with
    | [d1, d2], _ => exact ⟨d1, d2, rfl⟩
  simp only [Rows.uptoBulkAll] at hb
  obtain ⟨l, h1⟩ := dec_ints (hwt 0 24 d1 rfl rfl)
  obtain ⟨raw, h2⟩ := dec_decls (hwt 1 40 d2 rfl rfl)
  have hb1 := bulkD d2
  rw [h2] at hb1
  have hsm : smallD raw := decls_small raw (by omega)
  refine law_calls hval ⟨p, q, hA, hV, rfl, hfz, hnd⟩ rfl ht rfl Try.underlying4 rfl enters10 ?_
  simp only [List.map_cons, List.map_nil, argD, h1, h2, List.getD_cons_zero]
  exact (lawBack_vok l raw true (fun y1 y2 y3 hq => lawBack_at l raw hsm y1 y2 y3 hq)).mono fun _ _ h => h.2
theorem netmapBack_lifted (os : Os) (started : os.Started) (H : Type) (enc : TypeId × Value → H) (F : Stop.Interp) :
    ReturnsInHanded {} Try.checked os 10 .any ((Rows.OpenSpec.upto Rows.netmapBackSpec).pre6 enc Try.prog Try.f10 Rows.netmapBackUptoRow.domain false) (((Rows.OpenSpec.upto Rows.netmapBackSpec).at F).post enc Try.prog Try.f10 false true false false) := by
  refine returnsInHanded_of_cond (C := Try.checked) (s := Rows.OpenSpec.upto Rows.netmapBackSpec) (k := Rows.uptoSmall) rfl own started (by kernel_rfl) Try.func10
    (OpenSpec.witness (enc := enc) (C := Try.checked) (s := Rows.OpenSpec.upto Rows.netmapBackSpec) (k := Rows.uptoSmall) rfl false ⟨#[], #[.slice none 0 0, .slice none 0 0], []⟩ 8 (by kernel_rfl) (by kernel_rfl) (by kernel_rfl)
      (x := ([.nil, .nil], [], [])) (by kernel_rfl) rfl (by kernel_rfl)) ?_
  intro W base args ds gs before hval hW _ hk _
  exact netmapBack_contract H enc W base args ds gs before hval hW hk
theorem netmapBack_proved : Rows.NetmapBackUptoSaid :=
  OpenClaim.holds_of_cond 10 Try.f10 rfl rfl rfl rfl rfl rfl rfl ⟨rfl, rfl, rfl, rfl, rfl⟩ rfl rfl rfl rfl rfl (by kernel_rfl) Try.func10 (by kernel_rfl)
    (of_decide_eq_true (by kernel_rfl)) (by unfold Func.isWrapper; first | (rw [if_pos (by decide +kernel)]; kernel_rfl) | (rw [if_neg (by decide +kernel)]; exact ⟨rfl, rfl⟩))
    (fun os started H enc _ F => netmapBack_lifted os started H enc F)
theorem netmapTables_contract (H : Type) (enc : TypeId × Value → H) (W : World) (base : Nat) (args : Array Value) (ds gs : List (DataW H)) (before : List MemPlace)
    (hval : ∀ (j : Nat) t v, Try.f6.params[j]? = some t → args[j]? = some v → Value.okWide Try.prog W .any base t v)
    (hW : DataW.Whole enc Try.prog Try.f6.params.toList Rows.netmapTablesSpec.vars false W args.toList ds gs before) (hk : Rows.uptoSmall H (ds ++ gs) = true) :
    Calls Try.prog 6 args W fun e W' => ∃ v, e = .returned v ∧ Rows.netmapTablesSpec.post enc Try.prog Try.f6 false true false false W args v W' := by
  have ht : Try.f6.params.toList.all (topB Try.prog) = true := by kernel_rfl
  have hb := bound hk
  rw [bulk_append] at hb
  obtain ⟨p, q, hA, hV, rfl, hfz, hnd⟩ := hW
  obtain ⟨hl, hwt⟩ := tops_wt ht hA
  have hl2 : ds.length = 1 := hl
  obtain ⟨d1, rfl⟩ : ∃ d1, ds = [d1] := by
    match ds, hl2 with
    | [d1], _ => exact ⟨d1, rfl⟩
  simp only [Rows.uptoBulkAll] at hb
  obtain ⟨l, h1⟩ := dec_ints (hwt 0 24 d1 rfl rfl)
  refine law_calls hval ⟨p, q, hA, hV, rfl, hfz, hnd⟩ rfl ht rfl Try.underlying4 rfl enters6 ?_
  simp only [List.map_cons, List.map_nil, argD, h1, List.getD_cons_zero]
  exact (lawTables_vok l true (fun y1 y2 y3 hq => lawTables_at l y1 y2 y3 hq)).mono fun _ _ h => h.2
theorem netmapTables_lifted (os : Os) (started : os.Started) (H : Type) (enc : TypeId × Value → H) (F : Stop.Interp) :
    ReturnsInHanded {} Try.checked os 6 .any ((Rows.OpenSpec.upto Rows.netmapTablesSpec).pre6 enc Try.prog Try.f6 Rows.netmapTablesUptoRow.domain false) (((Rows.OpenSpec.upto Rows.netmapTablesSpec).at F).post enc Try.prog Try.f6 false true false false) := by
  refine returnsInHanded_of_cond (C := Try.checked) (s := Rows.OpenSpec.upto Rows.netmapTablesSpec) (k := Rows.uptoSmall) rfl own started (by kernel_rfl) Try.func6
    (OpenSpec.witness (enc := enc) (C := Try.checked) (s := Rows.OpenSpec.upto Rows.netmapTablesSpec) (k := Rows.uptoSmall) rfl false ⟨#[], #[.slice none 0 0], []⟩ 8 (by kernel_rfl) (by kernel_rfl) (by kernel_rfl)
      (x := ([.nil], [], [])) (by kernel_rfl) rfl (by kernel_rfl)) ?_
  intro W base args ds gs before hval hW _ hk _
  exact netmapTables_contract H enc W base args ds gs before hval hW hk
theorem netmapTables_proved : Rows.NetmapTablesUptoSaid :=
  OpenClaim.holds_of_cond 6 Try.f6 rfl rfl rfl rfl rfl rfl rfl ⟨rfl, rfl, rfl, rfl, rfl⟩ rfl rfl rfl rfl rfl (by kernel_rfl) Try.func6 (by kernel_rfl)
    (of_decide_eq_true (by kernel_rfl)) (by unfold Func.isWrapper; first | (rw [if_pos (by decide +kernel)]; kernel_rfl) | (rw [if_neg (by decide +kernel)]; exact ⟨rfl, rfl⟩))
    (fun os started H enc _ F => netmapTables_lifted os started H enc F)
theorem dec_rows {n : Nat} {cs : List Pd} (h : wtP Try.prog n 22 cs) : ∃ l : List (List Int), cs = [.sl (encG l)] := by
  obtain ⟨m, es, rfl, hes⟩ := wt_sl Try.underlying22 h
  obtain ⟨l, rfl⟩ := dec_map (fun r : List Int => [Pd.sl (encI r)]) es fun y hy => dec_ints (hes y hy)
  exact ⟨l, rfl⟩
theorem dec_blks {n : Nat} {cs : List Pd} (h : wtP Try.prog n 44 cs) : ∃ l : List Blk, cs = [.sl (encK l)] := by
  obtain ⟨m, es, rfl, hes⟩ := wt_sl Try.underlying44 h
  obtain ⟨l, rfl⟩ := dec_map (fun b : Blk => [Pd.str b.name, .int .i64 b.x, .int .i64 b.y]) es fun y hy => by
    obtain ⟨m2, h1⟩ := wt_st Try.underlying74 (hes y hy)
    obtain ⟨a1, b1, rfl, g1, a2, b2, rfl, g2, a3, b3, rfl, g3, rfl⟩ := h1
    obtain ⟨nm, rfl⟩ := wt_str Try.underlying9 g1
    obtain ⟨x, rfl, _⟩ := wt_int Try.underlying3 g2
    obtain ⟨z, rfl, _⟩ := wt_int Try.underlying3 g3
    exact ⟨⟨nm, x, z⟩, rfl⟩
  exact ⟨l, rfl⟩
theorem dec_sprs {n : Nat} {cs : List Pd} (h : wtP Try.prog n 45 cs) : ∃ l : List Spr, cs = [.sl (encP l)] := by
  obtain ⟨m, es, rfl, hes⟩ := wt_sl Try.underlying45 h
  obtain ⟨l, rfl⟩ := dec_map (fun s : Spr => [Pd.str s.name, .bool s.depot, .int .i64 s.inn, .int .i64 s.out, .int .i64 s.slots, .int .i64 s.base]) es fun y hy => by
    obtain ⟨m2, h1⟩ := wt_st Try.underlying61 (hes y hy)
    obtain ⟨a1, b1, rfl, g1, a2, b2, rfl, g2, a3, b3, rfl, g3, a4, b4, rfl, g4, a5, b5, rfl, g5, a6, b6, rfl, g6, rfl⟩ := h1
    obtain ⟨nm, rfl⟩ := wt_str Try.underlying9 g1
    obtain ⟨dp, rfl⟩ := wt_bool Try.underlying4 g2
    obtain ⟨x3, rfl, _⟩ := wt_int Try.underlying3 g3
    obtain ⟨x4, rfl, _⟩ := wt_int Try.underlying3 g4
    obtain ⟨x5, rfl, _⟩ := wt_int Try.underlying3 g5
    obtain ⟨x6, rfl, _⟩ := wt_int Try.underlying3 g6
    exact ⟨⟨nm, dp, x3, x4, x5, x6⟩, rfl⟩
  exact ⟨l, rfl⟩
theorem dec_net {n : Nat} {cs : List Pd} (h : wtP Try.prog n 49 cs) : ∃ x : Nt, cs = [.sl (encK x.blocks), .sl (encG x.next), .sl (encP x.spurs), .sl (encI x.robots), .int .i64 x.cq, .int .i64 x.ca, .int .i64 x.cd, .int .i64 x.cp] := by
  obtain ⟨m, h1⟩ := wt_st Try.underlying49 h
  obtain ⟨a1, b1, rfl, g1, a2, b2, rfl, g2, a3, b3, rfl, g3, a4, b4, rfl, g4, a5, b5, rfl, g5, rfl⟩ := h1
  obtain ⟨bl, rfl⟩ := dec_blks g1
  obtain ⟨nx, rfl⟩ := dec_rows g2
  obtain ⟨sp, rfl⟩ := dec_sprs g3
  obtain ⟨rb, rfl⟩ := dec_ints g4
  obtain ⟨m2, h2⟩ := wt_st Try.underlying47 g5
  obtain ⟨c1, e1, rfl, f1, c2, e2, rfl, f2, c3, e3, rfl, f3, c4, e4, rfl, f4, rfl⟩ := h2
  obtain ⟨x1, rfl, _⟩ := wt_int Try.underlying3 f1
  obtain ⟨x2, rfl, _⟩ := wt_int Try.underlying3 f2
  obtain ⟨x3, rfl, _⟩ := wt_int Try.underlying3 f3
  obtain ⟨x4, rfl, _⟩ := wt_int Try.underlying3 f4
  exact ⟨⟨bl, nx, sp, rb, x1, x2, x3, x4⟩, rfl⟩
theorem dec_int3 {n : Nat} {cs : List Pd} (h : wtP Try.prog n 66 cs) : ∃ a b c : Int, cs = [.int .i64 a, .int .i64 b, .int .i64 c] := by
  obtain ⟨m, es, rfl, hl, hes⟩ := wt_ar Try.underlying66 h
  obtain ⟨u, v, w, rfl⟩ : ∃ u v w, es = [u, v, w] := by
    match es, hl with
    | [u, v, w], _ => exact ⟨u, v, w, rfl⟩
  obtain ⟨x1, rfl, _⟩ := wt_int Try.underlying3 (hes u (by simp))
  obtain ⟨x2, rfl, _⟩ := wt_int Try.underlying3 (hes v (by simp))
  obtain ⟨x3, rfl, _⟩ := wt_int Try.underlying3 (hes w (by simp))
  exact ⟨x1, x2, x3, rfl⟩
theorem net_small (x : Nt) (h : pdBl [.sl (encK x.blocks), .sl (encG x.next), .sl (encP x.spurs), .sl (encI x.robots), .int .i64 x.cq, .int .i64 x.ca, .int .i64 x.cd, .int .i64 x.cp] ≤ 1048576) : smallN x := by
  simp only [pdBl, pdB] at h
  have h1 : x.blocks.length ≤ pdBs (encK x.blocks) := (pdBs_map (fun b : Blk => [Pd.str b.name, .int .i64 b.x, .int .i64 b.y]) (fun x => by simp only [pdBl, pdB]; omega) x.blocks).1
  have h3 : x.spurs.length ≤ pdBs (encP x.spurs) := (pdBs_map (fun s : Spr => [Pd.str s.name, .bool s.depot, .int .i64 s.inn, .int .i64 s.out, .int .i64 s.slots, .int .i64 s.base]) (fun x => by simp only [pdBl, pdB]; omega) x.spurs).1
  have h4 := ints_small x.robots
  have h2 : x.next.length ≤ pdBs (encG x.next) ∧ ∀ r ∈ x.next, pdBl [Pd.sl (encI r)] ≤ pdBs (encG x.next) := pdBs_map (fun r : List Int => [Pd.sl (encI r)]) (fun x => by simp only [pdBl, pdB]; omega) x.next
  refine ⟨by omega, ⟨by omega, fun r hr => ?_⟩, by omega, by omega⟩
  have h5 := h2.2 r hr
  have h6 := ints_small r
  simp only [pdBl, pdB] at h5
  omega
theorem netmapValid_contract (H : Type) (enc : TypeId × Value → H) (W : World) (base : Nat) (args : Array Value) (ds gs : List (DataW H)) (before : List MemPlace)
    (hval : ∀ (j : Nat) t v, Try.f9.params[j]? = some t → args[j]? = some v → Value.okWide Try.prog W .any base t v)
    (hW : DataW.Whole enc Try.prog Try.f9.params.toList Rows.netmapValidSpec.vars false W args.toList ds gs before) (hk : Rows.uptoSmall H (ds ++ gs) = true) :
    Calls Try.prog 9 args W fun e W' => ∃ v, e = .returned v ∧ Rows.netmapValidSpec.post enc Try.prog Try.f9 false true false false W args v W' := by
  have ht : Try.f9.params.toList.all (plainB Try.prog 30) = true := by kernel_rfl
  have hb := bound hk
  rw [bulk_append] at hb
  obtain ⟨p, q, hA, hV, rfl, hfz, hnd⟩ := hW
  obtain ⟨hl, hwt⟩ := topsT_wt ht hA
  have hl2 : ds.length = 3 := hl
  obtain ⟨d1, d2, d3, rfl⟩ : ∃ d1 d2 d3, ds = [d1, d2, d3] := by
    match ds, hl2 with
    | [d1, d2, d3], _ => exact ⟨d1, d2, d3, rfl⟩
  simp only [Rows.uptoBulkAll] at hb
  obtain ⟨raw, h1⟩ := dec_net (hwt 0 49 d1 rfl rfl)
  obtain ⟨l, h2⟩ := dec_ints (hwt 1 24 d2 rfl rfl)
  obtain ⟨x, y, z, h3⟩ := dec_int3 (hwt 2 66 d3 rfl rfl)
  have hb1 := bulkD d1
  rw [h1] at hb1
  have hsm : smallN raw := net_small raw (by omega)
  have a1 : argT Try.prog 49 d1 = .agg raw.cs := by unfold argT; rw [if_pos (by kernel_rfl), h1]; rfl
  have a2 : argT Try.prog 24 d2 = .p (.sl (encI l)) := by unfold argT argD; rw [show aggB Try.prog 24 = false by kernel_rfl, if_neg (by decide), h2]; rfl
  have a3 : argT Try.prog 66 d3 = .agg [.p (.int .i64 x), .p (.int .i64 y), .p (.int .i64 z)] := by unfold argT; rw [if_pos (by kernel_rfl), h3]; rfl
  refine law_callsT [] hval ⟨p, q, hA, hV, rfl, hfz, hnd⟩ rfl ht rfl Try.underlying4 rfl enters9 (fun x hx => by simp at hx) [] rfl ?_
  show ACalls Try.prog 9 [argT Try.prog 49 d1, argT Try.prog 24 d2, argT Try.prog 66 d3] _ _
  rw [a1, a2, a3]
  exact (lawValid_vok raw l (x, y, z) true (fun y1 y2 y3 hq => lawValid_at raw hsm l (x, y, z) y1 y2 y3 hq)).mono fun _ _ h => h.2
theorem netmapValid_lifted (os : Os) (started : os.Started) (H : Type) (enc : TypeId × Value → H) (F : Stop.Interp) :
    ReturnsInHanded {} Try.checked os 9 .any ((Rows.OpenSpec.upto Rows.netmapValidSpec).pre6 enc Try.prog Try.f9 Rows.netmapValidUptoRow.domain false) (((Rows.OpenSpec.upto Rows.netmapValidSpec).at F).post enc Try.prog Try.f9 false true false false) := by
  refine returnsInHanded_of_cond (C := Try.checked) (s := Rows.OpenSpec.upto Rows.netmapValidSpec) (k := Rows.uptoSmall) rfl own started (by kernel_rfl) Try.func9
    (OpenSpec.witness (enc := enc) (C := Try.checked) (s := Rows.OpenSpec.upto Rows.netmapValidSpec) (k := Rows.uptoSmall) rfl false ⟨#[], #[.agg #[.slice none 0 0, .slice none 0 0, .slice none 0 0, .slice none 0 0, .int .i64 0, .int .i64 0, .int .i64 0, .int .i64 0], .slice none 0 0, .agg #[.int .i64 0, .int .i64 0, .int .i64 0]], []⟩ 8 (by kernel_rfl) (by kernel_rfl) (by kernel_rfl)
      (x := ([.agg [.nil, .nil, .nil, .nil, .agg [.lit (.int .i64 0), .lit (.int .i64 0), .lit (.int .i64 0), .lit (.int .i64 0)]], .nil, .agg [.lit (.int .i64 0), .lit (.int .i64 0), .lit (.int .i64 0)]], [], [])) (by kernel_rfl) rfl (by kernel_rfl)) ?_
  intro W base args ds gs before hval hW _ hk _
  exact netmapValid_contract H enc W base args ds gs before hval hW hk
theorem netmapValid_proved : Rows.NetmapValidUptoSaid :=
  OpenClaim.holds_of_cond 9 Try.f9 rfl rfl rfl rfl rfl rfl rfl ⟨rfl, rfl, rfl, rfl, rfl⟩ rfl rfl rfl rfl rfl (by kernel_rfl) Try.func9 (by kernel_rfl)
    (of_decide_eq_true (by kernel_rfl)) (by unfold Func.isWrapper; first | (rw [if_pos (by decide +kernel)]; kernel_rfl) | (rw [if_neg (by decide +kernel)]; exact ⟨rfl, rfl⟩))
    (fun os started H enc _ F => netmapValid_lifted os started H enc F)
end Go.Proofs.Ytacfhnpmlpaojaa
end
