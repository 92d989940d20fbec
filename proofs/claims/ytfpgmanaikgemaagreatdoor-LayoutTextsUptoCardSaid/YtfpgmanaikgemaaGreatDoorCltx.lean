/- Texts of this proof, merged: Cltx. -/
import Derived.Test.YtfpgmanaikgemaaGreatDoorMk
section
/- LayoutTexts: whatever numbers of bulk at most 1048576 come in, the law returns true and leaves its arguments as they were; the listed tables as the program's text lays them. -/
namespace Go.Proofs.YtfpgmanaikgemaaGreatDoor
open Go.Am Go.ChangeShapes Go.WideShapes Go.ChangeAt Go.RowKit
set_option maxRecDepth 100000
set_option linter.unusedVariables false

theorem layoutTexts_contract (H : Type) (enc : TypeId × Value → H) (W : World) (base : Nat) (args : Array Value) (ds gs : List (DataW H)) (before : List MemPlace)
    (hval : ∀ (j : Nat) t v, Tryz.f3.params[j]? = some t → args[j]? = some v → Value.okWide Tryz.prog W .any base t v)
    (hW : DataW.Whole enc Tryz.prog Tryz.f3.params.toList Rows.layoutTextsSpec.vars false W args.toList ds gs before) (hk : Rows.uptoSmall H (ds ++ gs) = true) (hL : laidMetH Tryz.prog Rows.layoutTextsUptoRow.laid W) :
    Calls Tryz.prog 3 args W fun e W' => ∃ v, e = .returned v ∧ Rows.layoutTextsSpec.post enc Tryz.prog Tryz.f3 false true false false W args v W' := by
  have htab : Lib.TabIs Tryz.prog W "internal/strconv.uint64pow10" .u64 Lib.pow10Tab :=
    tab_of_laid (keep := fun x => x.1 == "internal/strconv.uint64pow10") (g := 0) (t := 211) (e := 174) (n := Lib.pow10Tab.length) hL (by kernel_rfl) (by kernel_rfl) (by kernel_rfl) (by kernel_rfl) (by kernel_rfl) (by kernel_rfl) (by kernel_rfl) (by kernel_rfl)
  have hglob : ∀ (M : Nat → Mb) s m, ObjR (fun b => b < W.heap.size) W M s m (.glob 0 tabCs) := fun M s m => tab_glob (by kernel_rfl) (tab_lt (by kernel_rfl) htab) htab
  have ht : Tryz.f3.params.toList.all (topB Tryz.prog) = true := by kernel_rfl
  have hb := bound hk
  rw [bulk_append] at hb
  obtain ⟨p, q, hA, hV, rfl, hfz, hnd⟩ := hW
  obtain ⟨hl, hwt⟩ := tops_wt ht hA
  have hl2 : ds.length = 1 := hl
  obtain ⟨d1, rfl⟩ : ∃ d1, ds = [d1] := by
    match ds, hl2 with
    | [d1], _ => exact ⟨d1, rfl⟩
  simp only [Rows.uptoBulkAll] at hb
  obtain ⟨l, h2⟩ := dec_ints (hwt 0 22 d1 rfl rfl)
  refine law_callsG hval ⟨p, q, hA, hV, rfl, hfz, hnd⟩ rfl ht rfl Tryz.underlying4 rfl enters3 hglob ?_
  simp only [List.map_cons, List.map_nil, argD, h2, List.getD_cons_zero]
  exact layoutTexts_ok l

theorem layoutTexts_laid_met (os : Os) : laidMet Tryz.prog Rows.layoutTextsUptoRow.laid ((laidAt os [(4, Rows.laid_math_bits_deBruijn32tab), (5, Rows.laid_math_bits_deBruijn64tab), (0, Rows.laid_internal_strconv_uint64pow10), (3, Rows.laid_unicode_utf8_acceptRanges), (2, Rows.laid_unicode_utf8_first)]).forCall (fun _ _ => 0) ⟨#[], #[.slice none 0 0], []⟩).memory :=
  laidMet_of_run' 8 (by kernel_rfl) (by kernel_rfl)
theorem layoutTexts_reads (os : Os) {H : Type} (enc : TypeId × Value → H) : ∃ places, DataW.whole enc Tryz.prog ((laidAt os [(4, Rows.laid_math_bits_deBruijn32tab), (5, Rows.laid_math_bits_deBruijn64tab), (0, Rows.laid_internal_strconv_uint64pow10), (3, Rows.laid_unicode_utf8_acceptRanges), (2, Rows.laid_unicode_utf8_first)]).forCall (fun _ _ => 0) ⟨#[], #[.slice none 0 0], []⟩).memory Tryz.f3.params.toList Rows.layoutTextsSpec.vars false (#[.slice none 0 0] : Array Value).toList 8 = some ([.nil], [], places) :=
  ⟨[], by kernel_rfl⟩
theorem layoutTexts_lifted (os : Os) (started : os.Started) (H : Type) (enc : TypeId × Value → H) (F : Stop.Interp) :
    ReturnsInHanded {} Tryz.checked os 3 .any ((Rows.OpenSpec.upto Rows.layoutTextsSpec).preRow enc Tryz.prog Tryz.f3 Rows.layoutTextsUptoRow.domain false Rows.layoutTextsUptoRow.laid) (((Rows.OpenSpec.upto Rows.layoutTextsSpec).at F).post enc Tryz.prog Tryz.f3 false true false false) := by
  obtain ⟨places, hx⟩ := layoutTexts_reads os enc
  refine returnsInHanded_of_row (C := Tryz.checked) (s := Rows.OpenSpec.upto Rows.layoutTextsSpec) own started (by kernel_rfl) Tryz.func3
    (witness_row_at (enc := enc) (C := Tryz.checked) false (laidAt os [(4, Rows.laid_math_bits_deBruijn32tab), (5, Rows.laid_math_bits_deBruijn64tab), (0, Rows.laid_internal_strconv_uint64pow10), (3, Rows.laid_unicode_utf8_acceptRanges), (2, Rows.laid_unicode_utf8_first)]) #[.slice none 0 0] rfl (by kernel_rfl) (by kernel_rfl) (by kernel_rfl)
      (OpenSpec.preRow_of_cond 8 hx (by kernel_rfl) (fun k hk => by cases hk; kernel_rfl) (by kernel_rfl) (layoutTexts_laid_met os))) ?_
  intro W base args ds gs before hval hW _ hcond _ hL _ _
  exact layoutTexts_contract H enc W base args ds gs before hval hW (hcond _ rfl) hL
theorem layoutTexts_said : Rows.LayoutTextsUptoSaid :=
  OpenClaim.holds_of_cond 3 Tryz.f3 rfl rfl rfl rfl rfl rfl rfl ⟨rfl, rfl, rfl, rfl, rfl⟩ rfl rfl rfl rfl rfl (by kernel_rfl) Tryz.func3 (by kernel_rfl)
    (of_decide_eq_true (by kernel_rfl)) (by unfold Func.isWrapper; first | (rw [if_pos (by decide +kernel)]; kernel_rfl) | (rw [if_neg (by decide +kernel)]; exact ⟨rfl, rfl⟩))
    (fun os started H enc _ F => by rw [OpenClaim.pre_eq_preRow]; exact layoutTexts_lifted os started H enc F)
theorem layoutTexts_plain (f : FuncId) (fn : Func) (hf : Tryz.pinned.checked.prog.funcNamed "blockway/blockwaylaw02.LayoutTexts" = some f) (hfn : Tryz.pinned.checked.prog.funcs[f]? = some fn) :
    false = Tryz.pinned.checked.prog.looks [] ∧ ∀ (j : Nat) t, fn.params[j]? = some t → Tryz.pinned.checked.prog.wantsStandIn t = false := by
  obtain rfl : f = 3 := Option.some.inj ((show Tryz.prog.funcNamed "blockway/blockwaylaw02.LayoutTexts" = some 3 by kernel_rfl).symm.trans hf) |>.symm
  obtain rfl : fn = Tryz.f3 := (Option.some.inj (Tryz.func3.symm.trans hfn)).symm
  refine ⟨by kernel_rfl, fun j t ht => ?_⟩
  have hall : Tryz.f3.params.toList.all (fun t => !Tryz.pinned.checked.prog.wantsStandIn t) = true := by kernel_rfl
  have hm := List.all_eq_true.1 hall t (Array.mem_toList_iff.2 (Array.mem_of_getElem? ht))
  simpa using hm
theorem layoutTexts_proved : Rows.LayoutTextsUptoCardSaid :=
  Claim7.holds_tied_plain_at .later [] _ _ _ _ layoutTexts_said (fun _ h => by cases h) (by kernel_rfl) (fun _ h => by cases h) layoutTextsUpto_row_tie rfl ⟨rfl, rfl⟩ (by kernel_rfl) rfl layoutTexts_plain (by kernel_rfl)
end Go.Proofs.YtfpgmanaikgemaaGreatDoor
end
