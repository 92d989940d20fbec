/- CommandFormats: whatever the arguments of bulk at most 1048576, the law returns true and leaves its arguments as they were; the listed tables as the program's text lays them. -/
import Derived.Test.YtpjbedkmjlgmgaaDoorTopd
namespace Go.Proofs.YtpjbedkmjlgmgaaDoor
open Go.Am Go.ChangeShapes Go.WideShapes Go.ChangeAt Go.RowKit
set_option maxRecDepth 100000
set_option linter.unusedVariables false

theorem dec_cmd {n : Nat} {cs : List Pd} (h : wtP Tryd.prog n 26 cs) : ∃ c : Cd, cs = [.int .i64 c.kind, .str c.a, .str c.b, .int .i64 c.n] ∧ -9223372036854775808 ≤ c.n ∧ c.n ≤ 9223372036854775807 := by
  obtain ⟨m, h1⟩ := wt_st Tryd.underlying26 h
  obtain ⟨a1, b1, rfl, g1, a2, b2, rfl, g2, a3, b3, rfl, g3, a4, b4, rfl, g4, rfl⟩ := h1
  obtain ⟨k, rfl, _⟩ := wt_int Tryd.underlying3 g1
  obtain ⟨a, rfl⟩ := wt_str Tryd.underlying9 g2
  obtain ⟨b, rfl⟩ := wt_str Tryd.underlying9 g3
  obtain ⟨v, rfl, hv⟩ := wt_int Tryd.underlying3 g4
  exact ⟨⟨k, a, b, v⟩, rfl, bounds_i64 hv⟩
theorem dec_ans {n : Nat} {cs : List Pd} (h : wtP Tryd.prog n 32 cs) : ∃ k v : Int, cs = [.int .i64 k, .int .i64 v] := by
  obtain ⟨m, h1⟩ := wt_st Tryd.underlying32 h
  obtain ⟨a1, b1, rfl, g1, a2, b2, rfl, g2, rfl⟩ := h1
  obtain ⟨k, rfl, _⟩ := wt_int Tryd.underlying3 g1
  obtain ⟨v, rfl, _⟩ := wt_int Tryd.underlying3 g2
  exact ⟨k, v, rfl⟩
theorem commandFormats_contract (H : Type) (enc : TypeId × Value → H) (W : World) (base : Nat) (args : Array Value) (ds gs : List (DataW H)) (before : List MemPlace)
    (hval : ∀ (j : Nat) t v, Tryd.f5.params[j]? = some t → args[j]? = some v → Value.okWide Tryd.prog W .any base t v)
    (hW : DataW.Whole enc Tryd.prog Tryd.f5.params.toList Rows.commandFormatsSpec.vars false W args.toList ds gs before) (hk : Rows.uptoSmall H (ds ++ gs) = true) (hL : laidMetH Tryd.prog Rows.commandFormatsUptoRow.laid W) :
    Calls Tryd.prog 5 args W fun e W' => ∃ v, e = .returned v ∧ Rows.commandFormatsSpec.post enc Tryd.prog Tryd.f5 false true false false W args v W' := by
  have htab : Lib.TabIs Tryd.prog W "internal/strconv.uint64pow10" .u64 Lib.pow10Tab :=
    tab_of_laid (keep := fun x => x.1 == "internal/strconv.uint64pow10") (g := 0) (t := 105) (e := 92) (n := Lib.pow10Tab.length) hL (by kernel_rfl) (by kernel_rfl) (by kernel_rfl) (by kernel_rfl) (by kernel_rfl) (by kernel_rfl) (by kernel_rfl) (by kernel_rfl)
  have hglob : ∀ (M : Nat → Mb) s m, ObjR (fun b => b < W.heap.size) W M s m (.glob 0 tabCs) := fun M s m => tab_glob (by kernel_rfl) (tab_lt (by kernel_rfl) htab) htab
  have ht : Tryd.f5.params.toList.all (plainB Tryd.prog 30) = true := by kernel_rfl
  have hb := bound hk
  rw [bulk_append] at hb
  obtain ⟨p, q, hA, hV, rfl, hfz, hnd⟩ := hW
  obtain ⟨hl, hwt⟩ := topsT_wt ht hA
  have hl2 : ds.length = 3 := hl
  obtain ⟨d1, d2, d3, rfl⟩ : ∃ d1 d2 d3, ds = [d1, d2, d3] := by
    match ds, hl2 with
    | [d1, d2, d3], _ => exact ⟨d1, d2, d3, rfl⟩
  simp only [Rows.uptoBulkAll] at hb
  obtain ⟨c, h1, hn⟩ := dec_cmd (hwt 0 26 d1 rfl rfl)
  obtain ⟨ak, an, h2⟩ := dec_ans (hwt 1 32 d2 rfl rfl)
  obtain ⟨l, h3⟩ := dec_ints (hwt 2 22 d3 rfl rfl)
  have hb1 := bulkD d1
  rw [h1] at hb1
  simp only [pdBl, pdB] at hb1
  have hsm : smallC2 c := ⟨by omega, by omega, hn.1, hn.2⟩
  have a1 : argT Tryd.prog 26 d1 = .agg c.cs := by unfold argT; rw [if_pos (by kernel_rfl), h1]; rfl
  have a2 : argT Tryd.prog 32 d2 = .agg [.p (.int .i64 ak), .p (.int .i64 an)] := by unfold argT; rw [if_pos (by kernel_rfl), h2]; rfl
  have a3 : argT Tryd.prog 22 d3 = .p (.sl (encI l)) := by unfold argT argD; rw [show aggB Tryd.prog 22 = false by kernel_rfl, if_neg (by decide), h3]; rfl
  refine law_callsT [(0, tabCs)] hval ⟨p, q, hA, hV, rfl, hfz, hnd⟩ rfl ht rfl Tryd.underlying4 rfl enters5 (fun x hx => by simp only [List.mem_singleton] at hx; subst hx; exact hglob) [(1000000, .glob 0 tabCs)] rfl ?_
  show ACalls Tryd.prog 5 [argT Tryd.prog 26 d1, argT Tryd.prog 32 d2, argT Tryd.prog 22 d3] _ _
  rw [a1, a2, a3]
  exact (commandFormats_ok c hsm ak an l).mono fun _ _ h => h.2

theorem commandFormats_laid_met (os : Os) : laidMet Tryd.prog Rows.commandFormatsUptoRow.laid ((laidAt os [(4, Rows.laid_math_bits_deBruijn32tab), (5, Rows.laid_math_bits_deBruijn64tab), (0, Rows.laid_internal_strconv_uint64pow10), (3, Rows.laid_unicode_utf8_acceptRanges), (2, Rows.laid_unicode_utf8_first)]).forCall (fun _ _ => 0) ⟨#[], #[.agg #[.int .i64 0, .string ⟨#[]⟩, .string ⟨#[]⟩, .int .i64 0], .agg #[.int .i64 0, .int .i64 0], .slice none 0 0], []⟩).memory :=
  laidMet_of_run' 8 (by kernel_rfl) (by kernel_rfl)
theorem commandFormats_reads (os : Os) {H : Type} (enc : TypeId × Value → H) : ∃ places, DataW.whole enc Tryd.prog ((laidAt os [(4, Rows.laid_math_bits_deBruijn32tab), (5, Rows.laid_math_bits_deBruijn64tab), (0, Rows.laid_internal_strconv_uint64pow10), (3, Rows.laid_unicode_utf8_acceptRanges), (2, Rows.laid_unicode_utf8_first)]).forCall (fun _ _ => 0) ⟨#[], #[.agg #[.int .i64 0, .string ⟨#[]⟩, .string ⟨#[]⟩, .int .i64 0], .agg #[.int .i64 0, .int .i64 0], .slice none 0 0], []⟩).memory Tryd.f5.params.toList Rows.commandFormatsSpec.vars false (#[.agg #[.int .i64 0, .string ⟨#[]⟩, .string ⟨#[]⟩, .int .i64 0], .agg #[.int .i64 0, .int .i64 0], .slice none 0 0] : Array Value).toList 8 = some ([.agg [.lit (.int .i64 0), .lit (.string []), .lit (.string []), .lit (.int .i64 0)], .agg [.lit (.int .i64 0), .lit (.int .i64 0)], .nil], [], places) :=
  ⟨[], by kernel_rfl⟩
theorem commandFormats_lifted (os : Os) (started : os.Started) (H : Type) (enc : TypeId × Value → H) (F : Stop.Interp) :
    ReturnsInHanded {} Tryd.checked os 5 .any ((Rows.OpenSpec.upto Rows.commandFormatsSpec).preRow enc Tryd.prog Tryd.f5 Rows.commandFormatsUptoRow.domain false Rows.commandFormatsUptoRow.laid) (((Rows.OpenSpec.upto Rows.commandFormatsSpec).at F).post enc Tryd.prog Tryd.f5 false true false false) := by
  obtain ⟨places, hx⟩ := commandFormats_reads os enc
  refine returnsInHanded_of_row (C := Tryd.checked) (s := Rows.OpenSpec.upto Rows.commandFormatsSpec) own started (by kernel_rfl) Tryd.func5
    (witness_row_at (enc := enc) (C := Tryd.checked) false (laidAt os [(4, Rows.laid_math_bits_deBruijn32tab), (5, Rows.laid_math_bits_deBruijn64tab), (0, Rows.laid_internal_strconv_uint64pow10), (3, Rows.laid_unicode_utf8_acceptRanges), (2, Rows.laid_unicode_utf8_first)]) #[.agg #[.int .i64 0, .string ⟨#[]⟩, .string ⟨#[]⟩, .int .i64 0], .agg #[.int .i64 0, .int .i64 0], .slice none 0 0] rfl (by kernel_rfl) (by kernel_rfl) (by kernel_rfl)
      (OpenSpec.preRow_of_cond 8 hx (by kernel_rfl) (fun k hk => by cases hk; kernel_rfl) (by kernel_rfl) (commandFormats_laid_met os))) ?_
  intro W base args ds gs before hval hW _ hcond _ hL _ _
  exact commandFormats_contract H enc W base args ds gs before hval hW (hcond _ rfl) hL
theorem commandFormats_said : Rows.CommandFormatsUptoSaid :=
  OpenClaim.holds_of_cond 5 Tryd.f5 rfl rfl rfl rfl rfl rfl rfl ⟨rfl, rfl, rfl, rfl, rfl⟩ rfl rfl rfl rfl rfl (by kernel_rfl) Tryd.func5 (by kernel_rfl)
    (of_decide_eq_true (by kernel_rfl)) (by unfold Func.isWrapper; first | (rw [if_pos (by decide +kernel)]; kernel_rfl) | (rw [if_neg (by decide +kernel)]; exact ⟨rfl, rfl⟩))
    (fun os started H enc _ F => by rw [OpenClaim.pre_eq_preRow]; exact commandFormats_lifted os started H enc F)
theorem commandFormats_plain (f : FuncId) (fn : Func) (hf : Tryd.pinned.checked.prog.funcNamed "blockway/blockwaylaw25.CommandFormats" = some f) (hfn : Tryd.pinned.checked.prog.funcs[f]? = some fn) :
    false = Tryd.pinned.checked.prog.looks [] ∧ ∀ (j : Nat) t, fn.params[j]? = some t → Tryd.pinned.checked.prog.wantsStandIn t = false := by
  obtain rfl : f = 5 := Option.some.inj ((show Tryd.prog.funcNamed "blockway/blockwaylaw25.CommandFormats" = some 5 by kernel_rfl).symm.trans hf) |>.symm
  obtain rfl : fn = Tryd.f5 := (Option.some.inj (Tryd.func5.symm.trans hfn)).symm
  refine ⟨by kernel_rfl, fun j t ht => ?_⟩
  have hall : Tryd.f5.params.toList.all (fun t => !Tryd.pinned.checked.prog.wantsStandIn t) = true := by kernel_rfl
  have hm := List.all_eq_true.1 hall t (Array.mem_toList_iff.2 (Array.mem_of_getElem? ht))
  simpa using hm
theorem commandFormats_proved : Rows.CommandFormatsUptoCardSaid :=
  Claim7.holds_tied_plain_at .later [] _ _ _ _ commandFormats_said (fun _ h => by cases h) (by kernel_rfl) (fun _ h => by cases h) commandFormatsUpto_row_tie rfl ⟨rfl, rfl⟩ (by kernel_rfl) rfl commandFormats_plain (by kernel_rfl)
end Go.Proofs.YtpjbedkmjlgmgaaDoor
