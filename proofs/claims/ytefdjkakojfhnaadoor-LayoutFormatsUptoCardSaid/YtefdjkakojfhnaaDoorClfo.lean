/- LayoutFormats: whatever declarations and numbers of bulk at most 1048576 come in, the law returns true and leaves its arguments as they were; the listed tables as the program's text lays them. -/
import Derived.Test.YtefdjkakojfhnaaDoorTopd
namespace Go.Proofs.YtefdjkakojfhnaaDoor
open Go.Am Go.ChangeShapes Go.WideShapes Go.ChangeAt Go.RowKit
set_option maxRecDepth 100000
set_option linter.unusedVariables false

theorem dec_decls {n : Nat} {cs : List Pd} (h : wtP Tryd.prog n 43 cs) : ∃ l : List Dc, cs = [.sl (encC l)] := by
  obtain ⟨m, es, rfl, hes⟩ := wt_sl Tryd.underlying43 h
  obtain ⟨l, rfl⟩ := dec_map (fun x : Dc => [Pd.int .i64 x.word, .int .i64 x.line, .sl (encS x.names), .sl (encI x.nums)]) es fun y hy => by
    obtain ⟨m2, h1⟩ := wt_st Tryd.underlying59 (hes y hy)
    obtain ⟨a, b, rfl, h2, c, d, rfl, h3, e, f, rfl, h4, g, k, rfl, h5, rfl⟩ := h1
    obtain ⟨v, rfl, _⟩ := wt_int Tryd.underlying3 h2
    obtain ⟨w, rfl, _⟩ := wt_int Tryd.underlying3 h3
    obtain ⟨fs, rfl⟩ := dec_strs h4
    obtain ⟨is, rfl⟩ := dec_ints h5
    exact ⟨⟨v, w, fs, is⟩, rfl⟩
  exact ⟨l, rfl⟩
theorem ints_small (l : List Int) : l.length ≤ pdBs (encI l) := (pdBs_map (fun s : Int => [Pd.int .i64 s]) (fun x => by simp [pdBl, pdB]) l).1
theorem decls_small (l : List Dc) (h : pdBl [.sl (encC l)] ≤ 1048576) : smallD l := by
  simp only [pdBl, pdB] at h
  have h1 : l.length ≤ pdBs (encC l) ∧ ∀ x ∈ l, pdBl [Pd.int .i64 x.word, .int .i64 x.line, .sl (encS x.names), .sl (encI x.nums)] ≤ pdBs (encC l) := pdBs_map (fun x : Dc => [Pd.int .i64 x.word, .int .i64 x.line, .sl (encS x.names), .sl (encI x.nums)]) (fun x => by simp only [pdBl, pdB]; omega) l
  refine ⟨by have := h1.1; omega, fun x hx => ?_⟩
  have h2 := h1.2 x hx
  have h3 := strs_small x.names
  have h4 := ints_small x.nums
  simp only [pdBl, pdB] at h2
  omega

theorem layoutFormats_contract (H : Type) (enc : TypeId × Value → H) (W : World) (base : Nat) (args : Array Value) (ds gs : List (DataW H)) (before : List MemPlace)
    (hval : ∀ (j : Nat) t v, Tryd.f7.params[j]? = some t → args[j]? = some v → Value.okWide Tryd.prog W .any base t v)
    (hW : DataW.Whole enc Tryd.prog Tryd.f7.params.toList Rows.layoutFormatsSpec.vars false W args.toList ds gs before) (hk : Rows.uptoSmall H (ds ++ gs) = true) (hL : laidMetH Tryd.prog Rows.layoutFormatsUptoRow.laid W) :
    Calls Tryd.prog 7 args W fun e W' => ∃ v, e = .returned v ∧ Rows.layoutFormatsSpec.post enc Tryd.prog Tryd.f7 false true false false W args v W' := by
  have htab : Lib.TabIs Tryd.prog W "internal/strconv.uint64pow10" .u64 Lib.pow10Tab :=
    tab_of_laid (keep := fun x => x.1 == "internal/strconv.uint64pow10") (g := 1) (t := 165) (e := 149) (n := Lib.pow10Tab.length) hL (by kernel_rfl) (by kernel_rfl) (by kernel_rfl) (by kernel_rfl) (by kernel_rfl) (by kernel_rfl) (by kernel_rfl) (by kernel_rfl)
  have hglob : ∀ (M : Nat → Mb) s m, ObjR (fun b => b < W.heap.size) W M s m (.glob 1 tabCs) := fun M s m => tab_glob (by kernel_rfl) (tab_lt (by kernel_rfl) htab) htab
  have ht : Tryd.f7.params.toList.all (topB Tryd.prog) = true := by kernel_rfl
  have hb := bound hk
  rw [bulk_append] at hb
  obtain ⟨p, q, hA, hV, rfl, hfz, hnd⟩ := hW
  obtain ⟨hl, hwt⟩ := tops_wt ht hA
  have hl2 : ds.length = 2 := hl
  obtain ⟨d1, d2, rfl⟩ : ∃ d1 d2, ds = [d1, d2] := by
    match ds, hl2 with
    | [d1, d2], _ => exact ⟨d1, d2, rfl⟩
  simp only [Rows.uptoBulkAll] at hb
  obtain ⟨raw, h1⟩ := dec_decls (hwt 0 43 d1 rfl rfl)
  obtain ⟨l, h2⟩ := dec_ints (hwt 1 22 d2 rfl rfl)
  have hb1 := bulkD d1
  rw [h1] at hb1
  have hsm : smallD raw := decls_small raw (by omega)
  refine law_callsG hval ⟨p, q, hA, hV, rfl, hfz, hnd⟩ rfl ht rfl Tryd.underlying4 rfl enters7 hglob ?_
  simp only [List.map_cons, List.map_nil, argD, h1, h2, List.getD_cons_zero]
  exact layoutFormats_ok raw l hsm

theorem layoutFormats_laid_met (os : Os) : laidMet Tryd.prog Rows.layoutFormatsUptoRow.laid ((laidAt os [(4, Rows.laid_math_bits_deBruijn32tab), (5, Rows.laid_math_bits_deBruijn64tab), (1, Rows.laid_internal_strconv_uint64pow10)]).forCall (fun _ _ => 0) ⟨#[], #[.slice none 0 0, .slice none 0 0], []⟩).memory :=
  laidMet_of_run' 8 (by kernel_rfl) (by kernel_rfl)
theorem layoutFormats_reads (os : Os) {H : Type} (enc : TypeId × Value → H) : ∃ places, DataW.whole enc Tryd.prog ((laidAt os [(4, Rows.laid_math_bits_deBruijn32tab), (5, Rows.laid_math_bits_deBruijn64tab), (1, Rows.laid_internal_strconv_uint64pow10)]).forCall (fun _ _ => 0) ⟨#[], #[.slice none 0 0, .slice none 0 0], []⟩).memory Tryd.f7.params.toList Rows.layoutFormatsSpec.vars false (#[.slice none 0 0, .slice none 0 0] : Array Value).toList 8 = some ([.nil, .nil], [], places) :=
  ⟨[], by kernel_rfl⟩
theorem layoutFormats_lifted (os : Os) (started : os.Started) (H : Type) (enc : TypeId × Value → H) (F : Stop.Interp) :
    ReturnsInHanded {} Tryd.checked os 7 .any ((Rows.OpenSpec.upto Rows.layoutFormatsSpec).preRow enc Tryd.prog Tryd.f7 Rows.layoutFormatsUptoRow.domain false Rows.layoutFormatsUptoRow.laid) (((Rows.OpenSpec.upto Rows.layoutFormatsSpec).at F).post enc Tryd.prog Tryd.f7 false true false false) := by
  obtain ⟨places, hx⟩ := layoutFormats_reads os enc
  refine returnsInHanded_of_row (C := Tryd.checked) (s := Rows.OpenSpec.upto Rows.layoutFormatsSpec) own started (by kernel_rfl) Tryd.func7
    (witness_row_at (enc := enc) (C := Tryd.checked) false (laidAt os [(4, Rows.laid_math_bits_deBruijn32tab), (5, Rows.laid_math_bits_deBruijn64tab), (1, Rows.laid_internal_strconv_uint64pow10)]) #[.slice none 0 0, .slice none 0 0] rfl (by kernel_rfl) (by kernel_rfl) (by kernel_rfl)
      (OpenSpec.preRow_of_cond 8 hx (by kernel_rfl) (fun k hk => by cases hk; kernel_rfl) (by kernel_rfl) (layoutFormats_laid_met os))) ?_
  intro W base args ds gs before hval hW _ hcond _ hL _ _
  exact layoutFormats_contract H enc W base args ds gs before hval hW (hcond _ rfl) hL
theorem layoutFormats_said : Rows.LayoutFormatsUptoSaid :=
  OpenClaim.holds_of_cond 7 Tryd.f7 rfl rfl rfl rfl rfl rfl rfl ⟨rfl, rfl, rfl, rfl, rfl⟩ rfl rfl rfl rfl rfl (by kernel_rfl) Tryd.func7 (by kernel_rfl)
    (of_decide_eq_true (by kernel_rfl)) (by unfold Func.isWrapper; first | (rw [if_pos (by decide +kernel)]; kernel_rfl) | (rw [if_neg (by decide +kernel)]; exact ⟨rfl, rfl⟩))
    (fun os started H enc _ F => by rw [OpenClaim.pre_eq_preRow]; exact layoutFormats_lifted os started H enc F)
theorem layoutFormats_plain (f : FuncId) (fn : Func) (hf : Tryd.pinned.checked.prog.funcNamed "blockway/blockwaylaw02.LayoutFormats" = some f) (hfn : Tryd.pinned.checked.prog.funcs[f]? = some fn) :
    false = Tryd.pinned.checked.prog.looks [] ∧ ∀ (j : Nat) t, fn.params[j]? = some t → Tryd.pinned.checked.prog.wantsStandIn t = false := by
  obtain rfl : f = 7 := Option.some.inj ((show Tryd.prog.funcNamed "blockway/blockwaylaw02.LayoutFormats" = some 7 by kernel_rfl).symm.trans hf) |>.symm
  obtain rfl : fn = Tryd.f7 := (Option.some.inj (Tryd.func7.symm.trans hfn)).symm
  refine ⟨by kernel_rfl, fun j t ht => ?_⟩
  have hall : Tryd.f7.params.toList.all (fun t => !Tryd.pinned.checked.prog.wantsStandIn t) = true := by kernel_rfl
  have hm := List.all_eq_true.1 hall t (Array.mem_toList_iff.2 (Array.mem_of_getElem? ht))
  simpa using hm
theorem layoutFormats_proved : Rows.LayoutFormatsUptoCardSaid :=
  Claim7.holds_tied_plain_at .later [] _ _ _ _ layoutFormats_said (fun _ h => by cases h) (by kernel_rfl) (fun _ h => by cases h) layoutFormatsUpto_row_tie rfl ⟨rfl, rfl⟩ (by kernel_rfl) rfl layoutFormats_plain (by kernel_rfl)
end Go.Proofs.YtefdjkakojfhnaaDoor
