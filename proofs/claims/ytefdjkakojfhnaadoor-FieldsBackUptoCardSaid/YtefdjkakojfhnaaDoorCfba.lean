/- FieldsBack: whatever the arguments, the law returns true; the listed tables as the program's text lays them. -/
import Derived.Test.YtefdjkakojfhnaaDoorTopd
namespace Go.Proofs.YtefdjkakojfhnaaDoor
open Go.Am Go.ChangeShapes Go.WideShapes Go.ChangeAt Go.RowKit
set_option maxRecDepth 100000
set_option linter.unusedVariables false

theorem fieldsBack_contract (H : Type) (enc : TypeId × Value → H) (W : World) (base : Nat) (args : Array Value) (ds gs : List (DataW H)) (before : List MemPlace)
    (hval : ∀ (j : Nat) t v, Tryd.f10.params[j]? = some t → args[j]? = some v → Value.okWide Tryd.prog W .any base t v)
    (hW : DataW.Whole enc Tryd.prog Tryd.f10.params.toList Rows.fieldsBackSpec.vars false W args.toList ds gs before) (hk : Rows.uptoSmall H (ds ++ gs) = true) :
    Calls Tryd.prog 10 args W fun e W' => ∃ v, e = .returned v ∧ Rows.fieldsBackSpec.post enc Tryd.prog Tryd.f10 false true false false W args v W' := by
  have ht : Tryd.f10.params.toList.all (topB Tryd.prog) = true := by kernel_rfl
  have hb := bound hk
  rw [bulk_append] at hb
  obtain ⟨p, q, hA, hV, rfl, hfz, hnd⟩ := hW
  obtain ⟨hl, hwt⟩ := tops_wt ht hA
  have hl2 : ds.length = 2 := hl
  obtain ⟨d1, d2, rfl⟩ : ∃ d1 d2, ds = [d1, d2] := by
    match ds, hl2 with
    | [d1, d2], _ => exact ⟨d1, d2, rfl⟩
  simp only [Rows.uptoBulkAll] at hb
  obtain ⟨l, h1⟩ := dec_ints (hwt 0 22 d1 rfl rfl)
  obtain ⟨cm, h2⟩ := wt_str Tryd.underlying9 (hwt 1 9 d2 rfl rfl)
  refine law_calls hval ⟨p, q, hA, hV, rfl, hfz, hnd⟩ rfl ht rfl Tryd.underlying4 rfl enters10 ?_
  simp only [List.map_cons, List.map_nil, argD, h1, h2, List.getD_cons_zero]
  exact (fieldsBack_ok l cm).mono fun _ _ h => h.2

theorem fieldsBack_laid_met (os : Os) : laidMet Tryd.prog Rows.fieldsBackUptoRow.laid ((laidAt os [(3, Rows.laid_unicode_utf8_acceptRanges), (2, Rows.laid_unicode_utf8_first)]).forCall (fun _ _ => 0) ⟨#[], #[.slice none 0 0, .string ⟨#[]⟩], []⟩).memory :=
  laidMet_of_run' 8 (by kernel_rfl) (by kernel_rfl)
theorem fieldsBack_reads (os : Os) {H : Type} (enc : TypeId × Value → H) : ∃ places, DataW.whole enc Tryd.prog ((laidAt os [(3, Rows.laid_unicode_utf8_acceptRanges), (2, Rows.laid_unicode_utf8_first)]).forCall (fun _ _ => 0) ⟨#[], #[.slice none 0 0, .string ⟨#[]⟩], []⟩).memory Tryd.f10.params.toList Rows.fieldsBackSpec.vars false (#[.slice none 0 0, .string ⟨#[]⟩] : Array Value).toList 8 = some ([.nil, .lit (.string [])], [], places) :=
  ⟨[], by kernel_rfl⟩
theorem fieldsBack_lifted (os : Os) (started : os.Started) (H : Type) (enc : TypeId × Value → H) (F : Stop.Interp) :
    ReturnsInHanded {} Tryd.checked os 10 .any ((Rows.OpenSpec.upto Rows.fieldsBackSpec).preRow enc Tryd.prog Tryd.f10 Rows.fieldsBackUptoRow.domain false Rows.fieldsBackUptoRow.laid) (((Rows.OpenSpec.upto Rows.fieldsBackSpec).at F).post enc Tryd.prog Tryd.f10 false true false false) := by
  obtain ⟨places, hx⟩ := fieldsBack_reads os enc
  refine returnsInHanded_of_row (C := Tryd.checked) (s := Rows.OpenSpec.upto Rows.fieldsBackSpec) own started (by kernel_rfl) Tryd.func10
    (witness_row_at (enc := enc) (C := Tryd.checked) false (laidAt os [(3, Rows.laid_unicode_utf8_acceptRanges), (2, Rows.laid_unicode_utf8_first)]) #[.slice none 0 0, .string ⟨#[]⟩] rfl (by kernel_rfl) (by kernel_rfl) (by kernel_rfl)
      (OpenSpec.preRow_of_cond 8 hx (by kernel_rfl) (fun k hk => by cases hk; kernel_rfl) (by kernel_rfl) (fieldsBack_laid_met os))) ?_
  intro W base args ds gs before hval hW _ hcond _ hL _ _
  exact fieldsBack_contract H enc W base args ds gs before hval hW (hcond _ rfl)
theorem fieldsBack_said : Rows.FieldsBackUptoSaid :=
  OpenClaim.holds_of_cond 10 Tryd.f10 rfl rfl rfl rfl rfl rfl rfl ⟨rfl, rfl, rfl, rfl, rfl⟩ rfl rfl rfl rfl rfl (by kernel_rfl) Tryd.func10 (by kernel_rfl)
    (of_decide_eq_true (by kernel_rfl)) (by unfold Func.isWrapper; first | (rw [if_pos (by decide +kernel)]; kernel_rfl) | (rw [if_neg (by decide +kernel)]; exact ⟨rfl, rfl⟩))
    (fun os started H enc _ F => by rw [OpenClaim.pre_eq_preRow]; exact fieldsBack_lifted os started H enc F)
theorem fieldsBack_plain (f : FuncId) (fn : Func) (hf : Tryd.pinned.checked.prog.funcNamed "blockway/blockwaylaw01.FieldsBack" = some f) (hfn : Tryd.pinned.checked.prog.funcs[f]? = some fn) :
    false = Tryd.pinned.checked.prog.looks [] ∧ ∀ (j : Nat) t, fn.params[j]? = some t → Tryd.pinned.checked.prog.wantsStandIn t = false := by
  obtain rfl : f = 10 := Option.some.inj ((show Tryd.prog.funcNamed "blockway/blockwaylaw01.FieldsBack" = some 10 by kernel_rfl).symm.trans hf) |>.symm
  obtain rfl : fn = Tryd.f10 := (Option.some.inj (Tryd.func10.symm.trans hfn)).symm
  refine ⟨by kernel_rfl, fun j t ht => ?_⟩
  have hall : Tryd.f10.params.toList.all (fun t => !Tryd.pinned.checked.prog.wantsStandIn t) = true := by kernel_rfl
  have hm := List.all_eq_true.1 hall t (Array.mem_toList_iff.2 (Array.mem_of_getElem? ht))
  simpa using hm
theorem fieldsBack_proved : Rows.FieldsBackUptoCardSaid :=
  Claim7.holds_tied_plain_at .later [] _ _ _ _ fieldsBack_said (fun _ h => by cases h) (by kernel_rfl) (fun _ h => by cases h) fieldsBackUpto_row_tie rfl ⟨rfl, rfl⟩ (by kernel_rfl) rfl fieldsBack_plain (by kernel_rfl)
end Go.Proofs.YtefdjkakojfhnaaDoor
