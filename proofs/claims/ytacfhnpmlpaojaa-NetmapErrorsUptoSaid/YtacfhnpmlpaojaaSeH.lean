/- NetmapErrors: whatever arguments of bulk at most 1048576 come in, the law returns true and leaves its arguments as they were. -/
import Derived.Test.YtacfhnpmlpaojaaRows
import Derived.ProofKit
import Derived.JoinedCond
import Derived.Test.YtacfhnpmlpaojaaSeG
section
namespace Go.Proofs.Ytacfhnpmlpaojaa
open Go.Am Go.ChangeShapes Go.WideShapes Go.ChangeAt Go.RowKit
set_option linter.unusedVariables false
set_option maxRecDepth 100000
theorem own : ownKnob Try.prog.godebug = none := by kernel_rfl
theorem bulk_append {H : Type} (l r : List (DataW H)) : Rows.uptoBulkAll (l ++ r) = Rows.uptoBulkAll l + Rows.uptoBulkAll r := by
  induction l with
  | nil => simp [Rows.uptoBulkAll]
  | cons x l ih => simp only [List.cons_append, Rows.uptoBulkAll, ih]; omega
theorem bound {H : Type} {l : List (DataW H)} (hk : Rows.uptoSmall H l = true) : Rows.uptoBulkAll l ≤ 1048576 := of_decide_eq_true hk
theorem dec_ints {n : Nat} {cs : List Pd} (h : wtP Try.prog n 24 cs) : ∃ l : List Int, cs = [.sl (encI l)] := by
  obtain ⟨m, es, rfl, hes⟩ := wt_sl Try.underlying24 h
  obtain ⟨l, rfl⟩ := dec_map (fun v : Int => [Pd.int .i64 v]) es fun y hy => by
    obtain ⟨v, h1, _⟩ := wt_int Try.underlying3 (hes y hy)
    exact ⟨v, h1⟩
  exact ⟨l, rfl⟩
end Go.Proofs.Ytacfhnpmlpaojaa
end
section
namespace Go.Proofs.Ytacfhnpmlpaojaa
open Go.Am Go.ChangeShapes Go.WideShapes Go.ChangeAt Go.RowKit
set_option linter.unusedVariables false
set_option maxRecDepth 100000
theorem netmapErrors_contract (H : Type) (enc : TypeId × Value → H) (W : World) (base : Nat) (args : Array Value) (ds gs : List (DataW H)) (before : List MemPlace)
    (hval : ∀ (j : Nat) t v, Try.f11.params[j]? = some t → args[j]? = some v → Value.okWide Try.prog W .any base t v)
    (hW : DataW.Whole enc Try.prog Try.f11.params.toList Rows.netmapErrorsSpec.vars false W args.toList ds gs before) (hk : Rows.uptoSmall H (ds ++ gs) = true) :
    Calls Try.prog 11 args W fun e W' => ∃ v, e = .returned v ∧ Rows.netmapErrorsSpec.post enc Try.prog Try.f11 false true false false W args v W' := by
  have ht : Try.f11.params.toList.all (topB Try.prog) = true := by kernel_rfl
  have hb := bound hk
  rw [bulk_append] at hb
  obtain ⟨p, q, hA, hV, rfl, hfz, hnd⟩ := hW
  obtain ⟨hl, hwt⟩ := tops_wt ht hA
  have hl2 : ds.length = 2 := hl
  obtain ⟨d1, d2, rfl⟩ : ∃ d1 d2, ds = [d1, d2] := by
    match ds, hl2 with
    | [d1, d2], _ => exact ⟨d1, d2, rfl⟩
  simp only [Rows.uptoBulkAll] at hb
  obtain ⟨l, h1⟩ := dec_ints (hwt 0 24 d1 rfl rfl)
  obtain ⟨v, h2, _⟩ := wt_int Try.underlying3 (hwt 1 3 d2 rfl rfl)
  refine law_calls hval ⟨p, q, hA, hV, rfl, hfz, hnd⟩ rfl ht rfl Try.underlying4 rfl enters11 ?_
  simp only [List.map_cons, List.map_nil, argD, h1, h2, List.getD_cons_zero]
  exact (lawErrors_vok l v true (fun y1 y2 y3 hq => lawErrors_at l v y1 y2 y3 hq)).mono fun _ _ h => h.2
theorem netmapErrors_lifted (os : Os) (started : os.Started) (H : Type) (enc : TypeId × Value → H) (F : Stop.Interp) :
    ReturnsInHanded {} Try.checked os 11 .any ((Rows.OpenSpec.upto Rows.netmapErrorsSpec).pre6 enc Try.prog Try.f11 Rows.netmapErrorsUptoRow.domain false) (((Rows.OpenSpec.upto Rows.netmapErrorsSpec).at F).post enc Try.prog Try.f11 false true false false) := by
  refine returnsInHanded_of_cond (C := Try.checked) (s := Rows.OpenSpec.upto Rows.netmapErrorsSpec) (k := Rows.uptoSmall) rfl own started (by kernel_rfl) Try.func11
    (OpenSpec.witness (enc := enc) (C := Try.checked) (s := Rows.OpenSpec.upto Rows.netmapErrorsSpec) (k := Rows.uptoSmall) rfl false ⟨#[], #[.slice none 0 0, .int .i64 0], []⟩ 8 (by kernel_rfl) (by kernel_rfl) (by kernel_rfl)
      (x := ([.nil, .lit (.int .i64 0)], [], [])) (by kernel_rfl) rfl (by kernel_rfl)) ?_
  intro W base args ds gs before hval hW _ hk _
  exact netmapErrors_contract H enc W base args ds gs before hval hW hk
theorem netmapErrors_proved : Rows.NetmapErrorsUptoSaid :=
  OpenClaim.holds_of_cond 11 Try.f11 rfl rfl rfl rfl rfl rfl rfl ⟨rfl, rfl, rfl, rfl, rfl⟩ rfl rfl rfl rfl rfl (by kernel_rfl) Try.func11 (by kernel_rfl)
    (of_decide_eq_true (by kernel_rfl)) (by unfold Func.isWrapper; first | (rw [if_pos (by decide +kernel)]; kernel_rfl) | (rw [if_neg (by decide +kernel)]; exact ⟨rfl, rfl⟩))
    (fun os started H enc _ F => netmapErrors_lifted os started H enc F)
end Go.Proofs.Ytacfhnpmlpaojaa
end
