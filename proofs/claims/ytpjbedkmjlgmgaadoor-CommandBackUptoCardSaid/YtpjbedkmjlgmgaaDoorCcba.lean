/- CommandBack: whatever the arguments of bulk at most 1048576, the law returns true and leaves its arguments as they were; the listed tables as the program's text lays them. -/
import Derived.Test.YtpjbedkmjlgmgaaDoorTopd
namespace Go.Proofs.YtpjbedkmjlgmgaaDoor
open Go.Am Go.ChangeShapes Go.WideShapes Go.ChangeAt Go.RowKit
set_option maxRecDepth 100000
set_option linter.unusedVariables false

theorem commandBack_contract (H : Type) (enc : TypeId × Value → H) (W : World) (base : Nat) (args : Array Value) (ds gs : List (DataW H)) (before : List MemPlace)
    (hval : ∀ (j : Nat) t v, Tryd.f6.params[j]? = some t → args[j]? = some v → Value.okWide Tryd.prog W .any base t v)
    (hW : DataW.Whole enc Tryd.prog Tryd.f6.params.toList Rows.commandBackSpec.vars false W args.toList ds gs before) (hk : Rows.uptoSmall H (ds ++ gs) = true) (hL : laidMetH Tryd.prog Rows.commandBackUptoRow.laid W) :
    Calls Tryd.prog 6 args W fun e W' => ∃ v, e = .returned v ∧ Rows.commandBackSpec.post enc Tryd.prog Tryd.f6 false true false false W args v W' := by
  have htab : Lib.TabIs Tryd.prog W "internal/strconv.uint64pow10" .u64 Lib.pow10Tab :=
    tab_of_laid (keep := fun x => x.1 == "internal/strconv.uint64pow10") (g := 0) (t := 105) (e := 92) (n := Lib.pow10Tab.length) hL (by kernel_rfl) (by kernel_rfl) (by kernel_rfl) (by kernel_rfl) (by kernel_rfl) (by kernel_rfl) (by kernel_rfl) (by kernel_rfl)
  have hglob : ∀ (M : Nat → Mb) s m, ObjR (fun b => b < W.heap.size) W M s m (.glob 0 tabCs) := fun M s m => tab_glob (by kernel_rfl) (tab_lt (by kernel_rfl) htab) htab
  have ht : Tryd.f6.params.toList.all (topB Tryd.prog) = true := by kernel_rfl
  have hb := bound hk
  rw [bulk_append] at hb
  obtain ⟨p, q, hA, hV, rfl, hfz, hnd⟩ := hW
  obtain ⟨hl, hwt⟩ := tops_wt ht hA
  have hl2 : ds.length = 1 := hl
  obtain ⟨d1, rfl⟩ : ∃ d1, ds = [d1] := by
    match ds, hl2 with
    | [d1], _ => exact ⟨d1, rfl⟩
  simp only [Rows.uptoBulkAll] at hb
  obtain ⟨l, h2⟩ := dec_ints (hwt 0 22 d1 rfl rfl)
  refine law_callsG hval ⟨p, q, hA, hV, rfl, hfz, hnd⟩ rfl ht rfl Tryd.underlying4 rfl enters6 hglob ?_
  simp only [List.map_cons, List.map_nil, argD, h2, List.getD_cons_zero]
  exact commandBack_ok l

theorem commandBack_laid_met (os : Os) : laidMet Tryd.prog Rows.commandBackUptoRow.laid ((laidAt os [(4, Rows.laid_math_bits_deBruijn32tab), (5, Rows.laid_math_bits_deBruijn64tab), (0, Rows.laid_internal_strconv_uint64pow10), (3, Rows.laid_unicode_utf8_acceptRanges), (2, Rows.laid_unicode_utf8_first)]).forCall (fun _ _ => 0) ⟨#[], #[.slice none 0 0], []⟩).memory :=
  laidMet_of_run' 8 (by kernel_rfl) (by kernel_rfl)
theorem commandBack_reads (os : Os) {H : Type} (enc : TypeId × Value → H) : ∃ places, DataW.whole enc Tryd.prog ((laidAt os [(4, Rows.laid_math_bits_deBruijn32tab), (5, Rows.laid_math_bits_deBruijn64tab), (0, Rows.laid_internal_strconv_uint64pow10), (3, Rows.laid_unicode_utf8_acceptRanges), (2, Rows.laid_unicode_utf8_first)]).forCall (fun _ _ => 0) ⟨#[], #[.slice none 0 0], []⟩).memory Tryd.f6.params.toList Rows.commandBackSpec.vars false (#[.slice none 0 0] : Array Value).toList 8 = some ([.nil], [], places) :=
  ⟨[], by kernel_rfl⟩
theorem commandBack_lifted (os : Os) (started : os.Started) (H : Type) (enc : TypeId × Value → H) (F : Stop.Interp) :
    ReturnsInHanded {} Tryd.checked os 6 .any ((Rows.OpenSpec.upto Rows.commandBackSpec).preRow enc Tryd.prog Tryd.f6 Rows.commandBackUptoRow.domain false Rows.commandBackUptoRow.laid) (((Rows.OpenSpec.upto Rows.commandBackSpec).at F).post enc Tryd.prog Tryd.f6 false true false false) := by
  obtain ⟨places, hx⟩ := commandBack_reads os enc
  refine returnsInHanded_of_row (C := Tryd.checked) (s := Rows.OpenSpec.upto Rows.commandBackSpec) own started (by kernel_rfl) Tryd.func6
    (witness_row_at (enc := enc) (C := Tryd.checked) false (laidAt os [(4, Rows.laid_math_bits_deBruijn32tab), (5, Rows.laid_math_bits_deBruijn64tab), (0, Rows.laid_internal_strconv_uint64pow10), (3, Rows.laid_unicode_utf8_acceptRanges), (2, Rows.laid_unicode_utf8_first)]) #[.slice none 0 0] rfl (by kernel_rfl) (by kernel_rfl) (by kernel_rfl)
      (OpenSpec.preRow_of_cond 8 hx (by kernel_rfl) (fun k hk => by cases hk; kernel_rfl) (by kernel_rfl) (commandBack_laid_met os))) ?_
  intro W base args ds gs before hval hW _ hcond _ hL _ _
  exact commandBack_contract H enc W base args ds gs before hval hW (hcond _ rfl) hL
theorem commandBack_said : Rows.CommandBackUptoSaid :=
  OpenClaim.holds_of_cond 6 Tryd.f6 rfl rfl rfl rfl rfl rfl rfl ⟨rfl, rfl, rfl, rfl, rfl⟩ rfl rfl rfl rfl rfl (by kernel_rfl) Tryd.func6 (by kernel_rfl)
    (of_decide_eq_true (by kernel_rfl)) (by unfold Func.isWrapper; first | (rw [if_pos (by decide +kernel)]; kernel_rfl) | (rw [if_neg (by decide +kernel)]; exact ⟨rfl, rfl⟩))
    (fun os started H enc _ F => by rw [OpenClaim.pre_eq_preRow]; exact commandBack_lifted os started H enc F)
theorem commandBack_plain (f : FuncId) (fn : Func) (hf : Tryd.pinned.checked.prog.funcNamed "blockway/blockwaylaw25.CommandBack" = some f) (hfn : Tryd.pinned.checked.prog.funcs[f]? = some fn) :
    false = Tryd.pinned.checked.prog.looks [] ∧ ∀ (j : Nat) t, fn.params[j]? = some t → Tryd.pinned.checked.prog.wantsStandIn t = false := by
  obtain rfl : f = 6 := Option.some.inj ((show Tryd.prog.funcNamed "blockway/blockwaylaw25.CommandBack" = some 6 by kernel_rfl).symm.trans hf) |>.symm
  obtain rfl : fn = Tryd.f6 := (Option.some.inj (Tryd.func6.symm.trans hfn)).symm
  refine ⟨by kernel_rfl, fun j t ht => ?_⟩
  have hall : Tryd.f6.params.toList.all (fun t => !Tryd.pinned.checked.prog.wantsStandIn t) = true := by kernel_rfl
  have hm := List.all_eq_true.1 hall t (Array.mem_toList_iff.2 (Array.mem_of_getElem? ht))
  simpa using hm
theorem commandBack_proved : Rows.CommandBackUptoCardSaid :=
  Claim7.holds_tied_plain_at .later [] _ _ _ _ commandBack_said (fun _ h => by cases h) (by kernel_rfl) (fun _ h => by cases h) commandBackUpto_row_tie rfl ⟨rfl, rfl⟩ (by kernel_rfl) rfl commandBack_plain (by kernel_rfl)
end Go.Proofs.YtpjbedkmjlgmgaaDoor
