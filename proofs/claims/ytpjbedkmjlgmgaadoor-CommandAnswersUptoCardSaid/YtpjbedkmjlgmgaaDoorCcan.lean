/- CommandAnswers: whatever the arguments, the law returns true and leaves its arguments as they were; the listed tables as the program's text lays them. -/
import Derived.Test.YtpjbedkmjlgmgaaDoorTopd
namespace Go.Proofs.YtpjbedkmjlgmgaaDoor
open Go.Am Go.ChangeShapes Go.WideShapes Go.ChangeAt Go.RowKit
set_option maxRecDepth 100000
set_option linter.unusedVariables false

theorem dec_two {n : Nat} {cs : List Pd} (h : wtP Tryd.prog n 29 cs) : ∃ k v : Int, cs = [.int .i64 k, .int .i64 v] := by
  obtain ⟨m, es, rfl, hl, hes⟩ := wt_ar Tryd.underlying29 h
  match es, hl with
  | [y, z], _ =>
    obtain ⟨k, rfl, _⟩ := wt_int Tryd.underlying3 (hes y (by simp))
    obtain ⟨v, rfl, _⟩ := wt_int Tryd.underlying3 (hes z (by simp))
    exact ⟨k, v, rfl⟩
theorem commandAnswers_contract (H : Type) (enc : TypeId × Value → H) (W : World) (base : Nat) (args : Array Value) (ds gs : List (DataW H)) (before : List MemPlace)
    (hval : ∀ (j : Nat) t v, Tryd.f4.params[j]? = some t → args[j]? = some v → Value.okWide Tryd.prog W .any base t v)
    (hW : DataW.Whole enc Tryd.prog Tryd.f4.params.toList Rows.commandAnswersSpec.vars false W args.toList ds gs before) (hk : Rows.uptoSmall H (ds ++ gs) = true) (hL : laidMetH Tryd.prog Rows.commandAnswersUptoRow.laid W) :
    Calls Tryd.prog 4 args W fun e W' => ∃ v, e = .returned v ∧ Rows.commandAnswersSpec.post enc Tryd.prog Tryd.f4 false true false false W args v W' := by
  have htab : Lib.TabIs Tryd.prog W "internal/strconv.uint64pow10" .u64 Lib.pow10Tab :=
    tab_of_laid (keep := fun x => x.1 == "internal/strconv.uint64pow10") (g := 0) (t := 105) (e := 92) (n := Lib.pow10Tab.length) hL (by kernel_rfl) (by kernel_rfl) (by kernel_rfl) (by kernel_rfl) (by kernel_rfl) (by kernel_rfl) (by kernel_rfl) (by kernel_rfl)
  have hglob : ∀ (M : Nat → Mb) s m, ObjR (fun b => b < W.heap.size) W M s m (.glob 0 tabCs) := fun M s m => tab_glob (by kernel_rfl) (tab_lt (by kernel_rfl) htab) htab
  have ht : Tryd.f4.params.toList.all (plainB Tryd.prog 30) = true := by kernel_rfl
  have hb := bound hk
  rw [bulk_append] at hb
  obtain ⟨p, q, hA, hV, rfl, hfz, hnd⟩ := hW
  obtain ⟨hl, hwt⟩ := topsT_wt ht hA
  have hl2 : ds.length = 2 := hl
  obtain ⟨d1, d2, rfl⟩ : ∃ d1 d2, ds = [d1, d2] := by
    match ds, hl2 with
    | [d1, d2], _ => exact ⟨d1, d2, rfl⟩
  simp only [Rows.uptoBulkAll] at hb
  obtain ⟨k1, v1, h1⟩ := dec_two (hwt 0 29 d1 rfl rfl)
  obtain ⟨k2, v2, h2⟩ := dec_two (hwt 1 29 d2 rfl rfl)
  have a1 : argT Tryd.prog 29 d1 = .agg [.p (.int .i64 k1), .p (.int .i64 v1)] := by unfold argT; rw [if_pos (by kernel_rfl), h1]; rfl
  have a2 : argT Tryd.prog 29 d2 = .agg [.p (.int .i64 k2), .p (.int .i64 v2)] := by unfold argT; rw [if_pos (by kernel_rfl), h2]; rfl
  refine law_callsT [(0, tabCs)] hval ⟨p, q, hA, hV, rfl, hfz, hnd⟩ rfl ht rfl Tryd.underlying4 rfl enters4 (fun x hx => by simp only [List.mem_singleton] at hx; subst hx; exact hglob) [(1000000, .glob 0 tabCs)] rfl ?_
  show ACalls Tryd.prog 4 [argT Tryd.prog 29 d1, argT Tryd.prog 29 d2] _ _
  rw [a1, a2]
  exact (commandAnswers_ok k1 v1 k2 v2).mono fun _ _ h => h.2

theorem commandAnswers_laid_met (os : Os) : laidMet Tryd.prog Rows.commandAnswersUptoRow.laid ((laidAt os [(4, Rows.laid_math_bits_deBruijn32tab), (5, Rows.laid_math_bits_deBruijn64tab), (0, Rows.laid_internal_strconv_uint64pow10), (3, Rows.laid_unicode_utf8_acceptRanges), (2, Rows.laid_unicode_utf8_first)]).forCall (fun _ _ => 0) ⟨#[], #[.agg #[.int .i64 0, .int .i64 0], .agg #[.int .i64 0, .int .i64 0]], []⟩).memory :=
  laidMet_of_run' 8 (by kernel_rfl) (by kernel_rfl)
theorem commandAnswers_reads (os : Os) {H : Type} (enc : TypeId × Value → H) : ∃ places, DataW.whole enc Tryd.prog ((laidAt os [(4, Rows.laid_math_bits_deBruijn32tab), (5, Rows.laid_math_bits_deBruijn64tab), (0, Rows.laid_internal_strconv_uint64pow10), (3, Rows.laid_unicode_utf8_acceptRanges), (2, Rows.laid_unicode_utf8_first)]).forCall (fun _ _ => 0) ⟨#[], #[.agg #[.int .i64 0, .int .i64 0], .agg #[.int .i64 0, .int .i64 0]], []⟩).memory Tryd.f4.params.toList Rows.commandAnswersSpec.vars false (#[.agg #[.int .i64 0, .int .i64 0], .agg #[.int .i64 0, .int .i64 0]] : Array Value).toList 8 = some ([.agg [.lit (.int .i64 0), .lit (.int .i64 0)], .agg [.lit (.int .i64 0), .lit (.int .i64 0)]], [], places) :=
  ⟨[], by kernel_rfl⟩
theorem commandAnswers_lifted (os : Os) (started : os.Started) (H : Type) (enc : TypeId × Value → H) (F : Stop.Interp) :
    ReturnsInHanded {} Tryd.checked os 4 .any ((Rows.OpenSpec.upto Rows.commandAnswersSpec).preRow enc Tryd.prog Tryd.f4 Rows.commandAnswersUptoRow.domain false Rows.commandAnswersUptoRow.laid) (((Rows.OpenSpec.upto Rows.commandAnswersSpec).at F).post enc Tryd.prog Tryd.f4 false true false false) := by
  obtain ⟨places, hx⟩ := commandAnswers_reads os enc
  refine returnsInHanded_of_row (C := Tryd.checked) (s := Rows.OpenSpec.upto Rows.commandAnswersSpec) own started (by kernel_rfl) Tryd.func4
    (witness_row_at (enc := enc) (C := Tryd.checked) false (laidAt os [(4, Rows.laid_math_bits_deBruijn32tab), (5, Rows.laid_math_bits_deBruijn64tab), (0, Rows.laid_internal_strconv_uint64pow10), (3, Rows.laid_unicode_utf8_acceptRanges), (2, Rows.laid_unicode_utf8_first)]) #[.agg #[.int .i64 0, .int .i64 0], .agg #[.int .i64 0, .int .i64 0]] rfl (by kernel_rfl) (by kernel_rfl) (by kernel_rfl)
      (OpenSpec.preRow_of_cond 8 hx (by kernel_rfl) (fun k hk => by cases hk; kernel_rfl) (by kernel_rfl) (commandAnswers_laid_met os))) ?_
  intro W base args ds gs before hval hW _ hcond _ hL _ _
  exact commandAnswers_contract H enc W base args ds gs before hval hW (hcond _ rfl) hL
theorem commandAnswers_said : Rows.CommandAnswersUptoSaid :=
  OpenClaim.holds_of_cond 4 Tryd.f4 rfl rfl rfl rfl rfl rfl rfl ⟨rfl, rfl, rfl, rfl, rfl⟩ rfl rfl rfl rfl rfl (by kernel_rfl) Tryd.func4 (by kernel_rfl)
    (of_decide_eq_true (by kernel_rfl)) (by unfold Func.isWrapper; first | (rw [if_pos (by decide +kernel)]; kernel_rfl) | (rw [if_neg (by decide +kernel)]; exact ⟨rfl, rfl⟩))
    (fun os started H enc _ F => by rw [OpenClaim.pre_eq_preRow]; exact commandAnswers_lifted os started H enc F)
theorem commandAnswers_plain (f : FuncId) (fn : Func) (hf : Tryd.pinned.checked.prog.funcNamed "blockway/blockwaylaw25.CommandAnswers" = some f) (hfn : Tryd.pinned.checked.prog.funcs[f]? = some fn) :
    false = Tryd.pinned.checked.prog.looks [] ∧ ∀ (j : Nat) t, fn.params[j]? = some t → Tryd.pinned.checked.prog.wantsStandIn t = false := by
  obtain rfl : f = 4 := Option.some.inj ((show Tryd.prog.funcNamed "blockway/blockwaylaw25.CommandAnswers" = some 4 by kernel_rfl).symm.trans hf) |>.symm
  obtain rfl : fn = Tryd.f4 := (Option.some.inj (Tryd.func4.symm.trans hfn)).symm
  refine ⟨by kernel_rfl, fun j t ht => ?_⟩
  have hall : Tryd.f4.params.toList.all (fun t => !Tryd.pinned.checked.prog.wantsStandIn t) = true := by kernel_rfl
  have hm := List.all_eq_true.1 hall t (Array.mem_toList_iff.2 (Array.mem_of_getElem? ht))
  simpa using hm
theorem commandAnswers_proved : Rows.CommandAnswersUptoCardSaid :=
  Claim7.holds_tied_plain_at .later [] _ _ _ _ commandAnswers_said (fun _ h => by cases h) (by kernel_rfl) (fun _ h => by cases h) commandAnswersUpto_row_tie rfl ⟨rfl, rfl⟩ (by kernel_rfl) rfl commandAnswers_plain (by kernel_rfl)
end Go.Proofs.YtpjbedkmjlgmgaaDoor
