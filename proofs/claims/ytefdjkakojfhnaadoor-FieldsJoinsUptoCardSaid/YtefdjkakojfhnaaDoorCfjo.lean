/- FieldsJoins: whatever the arguments of bulk at most 1048576, the law returns true and leaves its arguments as they were; the listed tables as the program's text lays them. -/
import Derived.Test.YtefdjkakojfhnaaDoorTopd
namespace Go.Proofs.YtefdjkakojfhnaaDoor
open Go.Am Go.ChangeShapes Go.WideShapes Go.ChangeAt Go.RowKit
set_option maxRecDepth 100000
set_option linter.unusedVariables false

theorem fieldsJoins_contract (H : Type) (enc : TypeId × Value → H) (W : World) (base : Nat) (args : Array Value) (ds gs : List (DataW H)) (before : List MemPlace)
    (hval : ∀ (j : Nat) t v, Tryd.f9.params[j]? = some t → args[j]? = some v → Value.okWide Tryd.prog W .any base t v)
    (hW : DataW.Whole enc Tryd.prog Tryd.f9.params.toList Rows.fieldsJoinsSpec.vars false W args.toList ds gs before) (hk : Rows.uptoSmall H (ds ++ gs) = true) :
    Calls Tryd.prog 9 args W fun e W' => ∃ v, e = .returned v ∧ Rows.fieldsJoinsSpec.post enc Tryd.prog Tryd.f9 false true false false W args v W' := by
  have ht : Tryd.f9.params.toList.all (topB Tryd.prog) = true := by kernel_rfl
  have hb := bound hk
  rw [bulk_append] at hb
  obtain ⟨p, q, hA, hV, rfl, hfz, hnd⟩ := hW
  obtain ⟨hl, hwt⟩ := tops_wt ht hA
  have hl2 : ds.length = 2 := hl
  obtain ⟨d1, d2, rfl⟩ : ∃ d1 d2, ds = [d1, d2] := by
    match ds, hl2 with
    | [d1, d2], _ => exact ⟨d1, d2, rfl⟩
  simp only [Rows.uptoBulkAll] at hb
  obtain ⟨raw, h1, hn⟩ := dec_linesJ (hwt 0 26 d1 rfl rfl)
  obtain ⟨l, h2⟩ := dec_ints (hwt 1 22 d2 rfl rfl)
  have hb1 := bulkD d1
  rw [h1] at hb1
  have hr : pdBl [Pd.sl (encL raw)] ≤ 1048576 := by omega
  have hs1 := lines_small raw hr
  have hs2 := lines_smallJ raw hr
  refine law_calls hval ⟨p, q, hA, hV, rfl, hfz, hnd⟩ rfl ht rfl Tryd.underlying4 rfl enters9 ?_
  simp only [List.map_cons, List.map_nil, argD, h1, h2, List.getD_cons_zero]
  exact (fieldsJoins_ok raw l ⟨hs1.1, fun x hx => ⟨hs1.2 x hx, (hn x hx).2, hs2 x hx⟩⟩).mono fun _ _ h => h.2

theorem fieldsJoins_laid_met (os : Os) : laidMet Tryd.prog Rows.fieldsJoinsUptoRow.laid ((laidAt os [(3, Rows.laid_unicode_utf8_acceptRanges), (2, Rows.laid_unicode_utf8_first)]).forCall (fun _ _ => 0) ⟨#[], #[.slice none 0 0, .slice none 0 0], []⟩).memory :=
  laidMet_of_run' 8 (by kernel_rfl) (by kernel_rfl)
theorem fieldsJoins_reads (os : Os) {H : Type} (enc : TypeId × Value → H) : ∃ places, DataW.whole enc Tryd.prog ((laidAt os [(3, Rows.laid_unicode_utf8_acceptRanges), (2, Rows.laid_unicode_utf8_first)]).forCall (fun _ _ => 0) ⟨#[], #[.slice none 0 0, .slice none 0 0], []⟩).memory Tryd.f9.params.toList Rows.fieldsJoinsSpec.vars false (#[.slice none 0 0, .slice none 0 0] : Array Value).toList 8 = some ([.nil, .nil], [], places) :=
  ⟨[], by kernel_rfl⟩
theorem fieldsJoins_lifted (os : Os) (started : os.Started) (H : Type) (enc : TypeId × Value → H) (F : Stop.Interp) :
    ReturnsInHanded {} Tryd.checked os 9 .any ((Rows.OpenSpec.upto Rows.fieldsJoinsSpec).preRow enc Tryd.prog Tryd.f9 Rows.fieldsJoinsUptoRow.domain false Rows.fieldsJoinsUptoRow.laid) (((Rows.OpenSpec.upto Rows.fieldsJoinsSpec).at F).post enc Tryd.prog Tryd.f9 false true false false) := by
  obtain ⟨places, hx⟩ := fieldsJoins_reads os enc
  refine returnsInHanded_of_row (C := Tryd.checked) (s := Rows.OpenSpec.upto Rows.fieldsJoinsSpec) own started (by kernel_rfl) Tryd.func9
    (witness_row_at (enc := enc) (C := Tryd.checked) false (laidAt os [(3, Rows.laid_unicode_utf8_acceptRanges), (2, Rows.laid_unicode_utf8_first)]) #[.slice none 0 0, .slice none 0 0] rfl (by kernel_rfl) (by kernel_rfl) (by kernel_rfl)
      (OpenSpec.preRow_of_cond 8 hx (by kernel_rfl) (fun k hk => by cases hk; kernel_rfl) (by kernel_rfl) (fieldsJoins_laid_met os))) ?_
  intro W base args ds gs before hval hW _ hcond _ hL _ _
  exact fieldsJoins_contract H enc W base args ds gs before hval hW (hcond _ rfl)
theorem fieldsJoins_said : Rows.FieldsJoinsUptoSaid :=
  OpenClaim.holds_of_cond 9 Tryd.f9 rfl rfl rfl rfl rfl rfl rfl ⟨rfl, rfl, rfl, rfl, rfl⟩ rfl rfl rfl rfl rfl (by kernel_rfl) Tryd.func9 (by kernel_rfl)
    (of_decide_eq_true (by kernel_rfl)) (by unfold Func.isWrapper; first | (rw [if_pos (by decide +kernel)]; kernel_rfl) | (rw [if_neg (by decide +kernel)]; exact ⟨rfl, rfl⟩))
    (fun os started H enc _ F => by rw [OpenClaim.pre_eq_preRow]; exact fieldsJoins_lifted os started H enc F)
theorem fieldsJoins_plain (f : FuncId) (fn : Func) (hf : Tryd.pinned.checked.prog.funcNamed "blockway/blockwaylaw01.FieldsJoins" = some f) (hfn : Tryd.pinned.checked.prog.funcs[f]? = some fn) :
    false = Tryd.pinned.checked.prog.looks [] ∧ ∀ (j : Nat) t, fn.params[j]? = some t → Tryd.pinned.checked.prog.wantsStandIn t = false := by
  obtain rfl : f = 9 := Option.some.inj ((show Tryd.prog.funcNamed "blockway/blockwaylaw01.FieldsJoins" = some 9 by kernel_rfl).symm.trans hf) |>.symm
  obtain rfl : fn = Tryd.f9 := (Option.some.inj (Tryd.func9.symm.trans hfn)).symm
  refine ⟨by kernel_rfl, fun j t ht => ?_⟩
  have hall : Tryd.f9.params.toList.all (fun t => !Tryd.pinned.checked.prog.wantsStandIn t) = true := by kernel_rfl
  have hm := List.all_eq_true.1 hall t (Array.mem_toList_iff.2 (Array.mem_of_getElem? ht))
  simpa using hm
theorem fieldsJoins_proved : Rows.FieldsJoinsUptoCardSaid :=
  Claim7.holds_tied_plain_at .later [] _ _ _ _ fieldsJoins_said (fun _ h => by cases h) (by kernel_rfl) (fun _ h => by cases h) fieldsJoinsUpto_row_tie rfl ⟨rfl, rfl⟩ (by kernel_rfl) rfl fieldsJoins_plain (by kernel_rfl)
end Go.Proofs.YtefdjkakojfhnaaDoor
