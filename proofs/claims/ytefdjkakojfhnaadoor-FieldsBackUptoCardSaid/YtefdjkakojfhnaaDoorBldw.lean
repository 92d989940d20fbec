/- strings.Builder: copyCheck and String, at the world. -/
import Derived.Test.YtefdjkakojfhnaaDoorJoiv
import Derived.Lib.Builder
import Derived.Lib.UnsafeStr
import Derived.Tactics
import Derived.Tactics2
import Derived.Shelf.Strings.Builder1
namespace Go.Am
open Go Go.Proofs Go.RowKit
set_option maxRecDepth 100000
set_option linter.unusedVariables false
theorem bld_info : ∃ j, Tryd.prog.info? 105 = some j ∧ j.size = 2 := by
  obtain ⟨i, u, z, hi, hu, hz, e⟩ := tiOf_some ti105
  simp only [TI.mk.injEq] at e
  exact ⟨i, hi, e.1.symm⟩
theorem copyCheck_used_w (b : Nat) (w : World) (h0 : w.cell? ⟨b, 0, none⟩ = some (.pointer (some ⟨b, 0, none⟩))) :
    Calls Tryd.prog 82 #[.pointer (some ⟨b, 0, none⟩)] w fun e w' => e = .returned (.tuple #[]) ∧ w' = w := by
  obtain ⟨j, hj, _⟩ := bld_info
  go_enter Tryd.func82, Tryd.ntmps82
  go_wp2
  rw [Lib.run_neq_ptr_same w _ Tryd.underlying103 hj]
  go_wp2
  go_end0
  exact ⟨rfl, rfl⟩
theorem copyCheck_fresh_w (b : Nat) (w : World) (h0 : w.cell? ⟨b, 0, none⟩ = some (.pointer none)) (hsh : w.shape? b = some (105, 2)) (hfz : w.frozen? ⟨b, 0, none⟩ = false) :
    Calls Tryd.prog 82 #[.pointer (some ⟨b, 0, none⟩)] w fun e w' => e = .returned (.tuple #[]) ∧ w' = w.setCell ⟨b, 0, none⟩ (.pointer (some ⟨b, 0, none⟩)) := by
  obtain ⟨j, hj, hjs⟩ := bld_info
  go_enter Tryd.func82, Tryd.ntmps82
  go_wp2
  rw [Lib.run_to_unsafe w ⟨b, 0, none⟩ Tryd.underlying103 Tryd.underlying144 hj (by rw [hjs]; decide) hsh (Nat.zero_lt_succ 1)]
  simp only [Result.andThen]
  rw [Oper.upon_value]
  go_wp2
  rw [run_callFunc_extern Tryd.func96 (by kernel_rfl) (by kernel_rfl) (by kernel_rfl) (e := Extern.AbiNoEscape.same) (by kernel_rfl)]
  rw [Lib.run_noEscape]
  simp only [Result.andThen]
  rw [Oper.upon_value]
  go_wp2
  rw [Lib.run_from_unsafe w ⟨b, 0, none⟩ Tryd.underlying144 Tryd.underlying103 hj hsh (by kernel_rfl)]
  simp only [Result.andThen]
  rw [Oper.upon_value]
  go_wp2
  go_end0
  exact ⟨rfl, rfl⟩
theorem bstring_w (b g n cap : Nat) (p : Value) (l : List UInt8) (cur : Array Value) (T : TypeId) (w : World) (hb : w.heap[b]? = some (.cells #[p, .slice (some ⟨g, 0, none⟩) n cap] T (0, 0))) (hn : n = l.length) (h0 : l ≠ [])
    (hg : w.heap[g]? = some (.cells cur 5 (0, 0))) (hc : n ≤ cap) (hcm : cap ≤ maxLen) (hcs : cur.size = cap) (hcells : ∀ (j : Nat) (x : UInt8), l[j]? = some x → cur[j]? = some (Value.int .u8 x.toNat)) :
    Calls Tryd.prog 61 #[.pointer (some ⟨b, 0, none⟩)] w fun e w' => e = .returned (.string ⟨l.toArray⟩) ∧ w' = w.drew.freeze ⟨g, 0, none⟩ l.length := by
  subst hn
  have hl0 : l.length ≠ 0 := by simpa using h0
  have c1 : w.drew.cell? ⟨b, 1, none⟩ = some (.slice (some ⟨g, 0, none⟩) l.length cap) := by
    have : w.drew.heap[b]? = some (.cells #[p, .slice (some ⟨g, 0, none⟩) l.length cap] T (0, 0)) := hb
    rw [Lib.cell_of_heap this]; rfl
  have hg' : w.drew.heap[g]? = some (.cells cur 5 (0, 0)) := hg
  have hSD : (Builtin.unsafeSliceData_ #[35] 136 #[.slice (some ⟨g, 0, none⟩) l.length cap]).run Tryd.prog w.drew = .ok (.pointer (some ⟨g, 0, none⟩)) w.drew :=
    Lib.run_unsafeSliceData_row _ _ _ _ _ _ (by omega)
  have hUS : (Builtin.unsafeString_ #[136, 3] 9 #[.pointer (some ⟨g, 0, none⟩), .int .i64 l.length]).run Tryd.prog w.drew = .ok (.string ⟨l.toArray⟩) (w.drew.freeze ⟨g, 0, none⟩ l.length) := by
    refine Lib.run_unsafeString_row w.drew 136 3 9 5 Tryd.underlying136 (by kernel_rfl) g cur.size (by simp [World.shape?, hg']) l h0 (by omega) (by unfold maxLen at hcm; omega) ?_
    intro j x hx
    have hlt := (List.getElem?_eq_some_iff.1 hx).1
    rw [Addr.add_lit]
    simp only [World.cell?, hg', Nat.zero_add]
    exact hcells j x hx
  have hmixed := mixed
  go_enter Tryd.func61, Tryd.ntmps61
  go_wp2
  go_region_o
  all_goals (go_wp2; go_ret; exact ⟨rfl, rfl⟩)
theorem bstring_nil_w (b : Nat) (p : Value) (T : TypeId) (w : World) (hb : w.heap[b]? = some (.cells #[p, .slice none 0 0] T (0, 0))) :
    Calls Tryd.prog 61 #[.pointer (some ⟨b, 0, none⟩)] w fun e w' => e = .returned (.string ⟨#[]⟩) ∧ w' = w.drew := by
  have c1 : w.drew.cell? ⟨b, 1, none⟩ = some (.slice none 0 0) := by
    have : w.drew.heap[b]? = some (.cells #[p, .slice none 0 0] T (0, 0)) := hb
    rw [Lib.cell_of_heap this]; rfl
  have hSD : (Builtin.unsafeSliceData_ #[35] 136 #[.slice none 0 0]).run Tryd.prog w.drew = .ok (.pointer none) w.drew := Lib.run_unsafeSliceData_nil _ _ _ _ _
  have hUS : (Builtin.unsafeString_ #[136, 3] 9 #[.pointer none, .int .i64 0]).run Tryd.prog w.drew = .ok (.string .empty) w.drew := Lib.run_unsafeString_none _ _ _ _ _
  have hmixed := mixed
  go_enter Tryd.func61, Tryd.ntmps61
  go_wp2
  go_region_o
  all_goals (go_wp2; go_ret; exact ⟨rfl, rfl⟩)
/-- strings.Builder, as the machine has it. -/
theorem bcheck_used {h : Hp} {x : D} {T : TypeId} (hg : get h base = some (.box [.ptr base 0, x] T)) : ACalls Tryd.prog 82 [.ptr base 0] h fun h' r => h' = h ∧ r = .tup [] :=
  ACalls_bcheck_used enters82 hg copyCheck_used_w
theorem bcheck_fresh : ACalls Tryd.prog 82 [.ptr base 0] [(base, .box [.np, .cl []] 105)] fun h' r => h' = [(base, .box [.ptr base 0, .cl []] 105)] ∧ r = .tup [] :=
  ACalls_bcheck_fresh (x := .np) enters82 (by decide) copyCheck_fresh_w
theorem bstring_ok {T : TypeId} {l : List UInt8} {px : D} (hl : l ≠ []) : ACalls Tryd.prog 61 [.ptr base 0] [(base, .box [px, .ref (base + 1) 0 l.length l.length] T), (base + 1, .arr 5 1 (encB l))]
      fun h' r => h' = [(base, .box [px, .ref (base + 1) 0 l.length l.length] T), (base + 1, .fro 1 (encB l))] ∧ r = .p (.str l) :=
  ACalls_bstring enters61 hl fun b g n cap p cur T w hb hn hg hc hcm hcs hcells => bstring_w b g n cap p l cur T w hb hn hl hg hc hcm hcs hcells
theorem bstring_nil {T : TypeId} (hT : T ≠ 0) : ACalls Tryd.prog 61 [.ptr base 0] [(base, .box [.np, .cl []] T)] fun h' r => h' = [(base, .box [.np, .cl []] T)] ∧ r = .p (.str []) :=
  ACalls_bstring_nil enters61 hT bstring_nil_w
end Go.Am
