/- Texts of this proof, merged: Bldw, Bldx, Shlj, Shlf, Joip. -/
import Derived.Lib.Builder
import Derived.Lib.UnsafeStr
import Derived.Tactics
import Derived.Tactics2
import Derived.Shelf.Strings.Builder1
import Derived.Lib.MapLaws
import Derived.Test.YtfpgmanaikgemaaGreatDoorMh
section
/- strings.Builder: copyCheck and String, at the world. -/
namespace Go.Am
open Go Go.Proofs Go.RowKit
set_option maxRecDepth 100000
set_option linter.unusedVariables false
theorem bld_info : ∃ j, Tryz.prog.info? 91 = some j ∧ j.size = 2 := by
  obtain ⟨i, u, z, hi, hu, hz, e⟩ := tiOf_some ti91
  simp only [TI.mk.injEq] at e
  exact ⟨i, hi, e.1.symm⟩
theorem copyCheck_used_w (b : Nat) (w : World) (h0 : w.cell? ⟨b, 0, none⟩ = some (.pointer (some ⟨b, 0, none⟩))) :
    Calls Tryz.prog 78 #[.pointer (some ⟨b, 0, none⟩)] w fun e w' => e = .returned (.tuple #[]) ∧ w' = w := by
  obtain ⟨j, hj, _⟩ := bld_info
  go_enter Tryz.func78, Tryz.ntmps78
  go_wp2
  rw [Lib.run_neq_ptr_same w _ Tryz.underlying88 hj]
  go_wp2
  go_end0
  exact ⟨rfl, rfl⟩
theorem copyCheck_fresh_w (b : Nat) (w : World) (h0 : w.cell? ⟨b, 0, none⟩ = some (.pointer none)) (hsh : w.shape? b = some (91, 2)) (hfz : w.frozen? ⟨b, 0, none⟩ = false) :
    Calls Tryz.prog 78 #[.pointer (some ⟨b, 0, none⟩)] w fun e w' => e = .returned (.tuple #[]) ∧ w' = w.setCell ⟨b, 0, none⟩ (.pointer (some ⟨b, 0, none⟩)) := by
  obtain ⟨j, hj, hjs⟩ := bld_info
  go_enter Tryz.func78, Tryz.ntmps78
  go_wp2
  rw [Lib.run_to_unsafe w ⟨b, 0, none⟩ Tryz.underlying88 Tryz.underlying169 hj (by rw [hjs]; decide) hsh (Nat.zero_lt_succ 1)]
  simp only [Result.andThen]
  rw [Oper.upon_value]
  go_wp2
  rw [run_callFunc_extern Tryz.func117 (by kernel_rfl) (by kernel_rfl) (by kernel_rfl) (e := Extern.AbiNoEscape.same) (by kernel_rfl)]
  rw [Lib.run_noEscape]
  simp only [Result.andThen]
  rw [Oper.upon_value]
  go_wp2
  rw [Lib.run_from_unsafe w ⟨b, 0, none⟩ Tryz.underlying169 Tryz.underlying88 hj hsh (by kernel_rfl)]
  simp only [Result.andThen]
  rw [Oper.upon_value]
  go_wp2
  go_end0
  exact ⟨rfl, rfl⟩
theorem bstring_w (b g n cap : Nat) (p : Value) (l : List UInt8) (cur : Array Value) (T : TypeId) (w : World) (hb : w.heap[b]? = some (.cells #[p, .slice (some ⟨g, 0, none⟩) n cap] T (0, 0))) (hn : n = l.length) (h0 : l ≠ [])
    (hg : w.heap[g]? = some (.cells cur 5 (0, 0))) (hc : n ≤ cap) (hcm : cap ≤ maxLen) (hcs : cur.size = cap) (hcells : ∀ (j : Nat) (x : UInt8), l[j]? = some x → cur[j]? = some (Value.int .u8 x.toNat)) :
    Calls Tryz.prog 39 #[.pointer (some ⟨b, 0, none⟩)] w fun e w' => e = .returned (.string ⟨l.toArray⟩) ∧ w' = w.drew.freeze ⟨g, 0, none⟩ l.length := by
  subst hn
  have hl0 : l.length ≠ 0 := by simpa using h0
  have c1 : w.drew.cell? ⟨b, 1, none⟩ = some (.slice (some ⟨g, 0, none⟩) l.length cap) := by
    have : w.drew.heap[b]? = some (.cells #[p, .slice (some ⟨g, 0, none⟩) l.length cap] T (0, 0)) := hb
    rw [Lib.cell_of_heap this]; rfl
  have hg' : w.drew.heap[g]? = some (.cells cur 5 (0, 0)) := hg
  have hSD : (Builtin.unsafeSliceData_ #[89] 140 #[.slice (some ⟨g, 0, none⟩) l.length cap]).run Tryz.prog w.drew = .ok (.pointer (some ⟨g, 0, none⟩)) w.drew :=
    Lib.run_unsafeSliceData_row _ _ _ _ _ _ (by omega)
  have hUS : (Builtin.unsafeString_ #[140, 3] 9 #[.pointer (some ⟨g, 0, none⟩), .int .i64 l.length]).run Tryz.prog w.drew = .ok (.string ⟨l.toArray⟩) (w.drew.freeze ⟨g, 0, none⟩ l.length) := by
    refine Lib.run_unsafeString_row w.drew 140 3 9 5 Tryz.underlying140 (by kernel_rfl) g cur.size (by simp [World.shape?, hg']) l h0 (by omega) (by unfold maxLen at hcm; omega) ?_
    intro j x hx
    have hlt := (List.getElem?_eq_some_iff.1 hx).1
    rw [Addr.add_lit]
    simp only [World.cell?, hg', Nat.zero_add]
    exact hcells j x hx
  have hmixed := mixed
  go_enter Tryz.func39, Tryz.ntmps39
  go_wp2
  go_region_o
  all_goals (go_wp2; go_ret; exact ⟨rfl, rfl⟩)
theorem bstring_nil_w (b : Nat) (p : Value) (T : TypeId) (w : World) (hb : w.heap[b]? = some (.cells #[p, .slice none 0 0] T (0, 0))) :
    Calls Tryz.prog 39 #[.pointer (some ⟨b, 0, none⟩)] w fun e w' => e = .returned (.string ⟨#[]⟩) ∧ w' = w.drew := by
  have c1 : w.drew.cell? ⟨b, 1, none⟩ = some (.slice none 0 0) := by
    have : w.drew.heap[b]? = some (.cells #[p, .slice none 0 0] T (0, 0)) := hb
    rw [Lib.cell_of_heap this]; rfl
  have hSD : (Builtin.unsafeSliceData_ #[89] 140 #[.slice none 0 0]).run Tryz.prog w.drew = .ok (.pointer none) w.drew := Lib.run_unsafeSliceData_nil _ _ _ _ _
  have hUS : (Builtin.unsafeString_ #[140, 3] 9 #[.pointer none, .int .i64 0]).run Tryz.prog w.drew = .ok (.string .empty) w.drew := Lib.run_unsafeString_none _ _ _ _ _
  have hmixed := mixed
  go_enter Tryz.func39, Tryz.ntmps39
  go_wp2
  go_region_o
  all_goals (go_wp2; go_ret; exact ⟨rfl, rfl⟩)
/-- strings.Builder, as the machine has it. -/
theorem bcheck_used {h : Hp} {x : D} {T : TypeId} (hg : get h base = some (.box [.ptr base 0, x] T)) : ACalls Tryz.prog 78 [.ptr base 0] h fun h' r => h' = h ∧ r = .tup [] :=
  ACalls_bcheck_used enters78 hg copyCheck_used_w
theorem bcheck_fresh : ACalls Tryz.prog 78 [.ptr base 0] [(base, .box [.np, .cl []] 91)] fun h' r => h' = [(base, .box [.ptr base 0, .cl []] 91)] ∧ r = .tup [] :=
  ACalls_bcheck_fresh (x := .np) enters78 (by decide) copyCheck_fresh_w
theorem bstring_ok {T : TypeId} {l : List UInt8} {px : D} (hl : l ≠ []) : ACalls Tryz.prog 39 [.ptr base 0] [(base, .box [px, .ref (base + 1) 0 l.length l.length] T), (base + 1, .arr 5 1 (encB l))]
      fun h' r => h' = [(base, .box [px, .ref (base + 1) 0 l.length l.length] T), (base + 1, .fro 1 (encB l))] ∧ r = .p (.str l) :=
  ACalls_bstring enters39 hl fun b g n cap p cur T w hb hn hg hc hcm hcs hcells => bstring_w b g n cap p l cur T w hb hn hl hg hc hcm hcs hcells
theorem bstring_nil {T : TypeId} (hT : T ≠ 0) : ACalls Tryz.prog 39 [.ptr base 0] [(base, .box [.np, .cl []] T)] fun h' r => h' = [(base, .box [.np, .cl []] T)] ∧ r = .p (.str []) :=
  ACalls_bstring_nil enters39 hT bstring_nil_w
end Go.Am
end

section
/- strings.Builder: WriteString. -/
namespace Go.Am
open Go Go.Proofs
set_option maxRecDepth 100000
set_option linter.unusedVariables false
set_option linter.unusedSimpArgs false
theorem encB_app (l s : List UInt8) : encB (l ++ s) = encB l ++ encB s := by simp [encB]
theorem widB (s : List UInt8) : Wid 1 (encB s) := by simp [Wid, encB]
theorem wid0 : Wid 1 [] := by simp [Wid]
theorem bwrite_fresh (s : List UInt8) (hs : s ≠ []) (hl : s.length ≤ 1000000000) : ACalls Tryz.prog 36 [.ptr 1000000 0, .p (.str s)] [(1000000, .box [.np, .cl []] 91)]
    fun h r => h = [(1000000, .box [.ptr 1000000 0, .ref 0 0 s.length s.length] 91), (0, .arr 5 1 (encB s))] ∧ r = .tup [.p (.int .i64 s.length), .bad] := by
  refine ACalls_X Tryz.func36 rfl enters36 (by simp [Tryz.f36]) ?_
  have he : encB s ≠ [] := by simpa [encB] using hs
  simp only [go_sem, ↓reduceIte, Nat.reduceLT, Nat.reduceLeDiff, Nat.reduceEqDiff, Nat.reduceAdd, Nat.reduceMul, Nat.reduceSub, reduceCtorEq, Int.reduceLT, Int.reduceLE, Int.reduceEq, Int.reduceToNat, decide_true, decide_false, Int.reduceNeg, Int.cast_ofNat_Int, sg, AO.sg, Option.isNone_none]
  refine Cc_of bcheck_fresh ?_
  rintro h' r ⟨rfl, rfl⟩
  simp only [go_sem, ↓reduceIte, Nat.reduceLT, Nat.reduceLeDiff, Nat.reduceEqDiff, Nat.reduceAdd, Nat.reduceMul, Nat.reduceSub, reduceCtorEq, Int.reduceLT, Int.reduceLE, Int.reduceEq, Int.reduceToNat, decide_true, decide_false, Int.reduceNeg, Int.cast_ofNat_Int, sg, AO.sg, Option.isNone_none, encB_len, he]
  refine ⟨⟨widB s, wid0, by omega⟩, end_own ?_⟩
  simp only [go_sem, ↓reduceIte, Nat.reduceLT, Nat.reduceLeDiff, Nat.reduceEqDiff, Nat.reduceAdd, Nat.reduceMul, Nat.reduceSub, reduceCtorEq, Int.reduceLT, Int.reduceLE, Int.reduceEq, Int.reduceToNat, decide_true, decide_false, Int.reduceNeg, Int.cast_ofNat_Int, sg, AO.sg, Option.isNone_none, encB_len]
theorem bwrite_used (l s : List UInt8) (hl : l.length + s.length ≤ 1000000000) : ACalls Tryz.prog 36 [.ptr 1000000 0, .p (.str s)] [(1000000, .box [.ptr 1000000 0, .ref 1000001 0 l.length l.length] 91), (1000001, .arr 5 1 (encB l))]
    fun h r => h = [(1000000, .box [.ptr 1000000 0, .ref 1000001 0 (l ++ s).length (l ++ s).length] 91), (1000001, .arr 5 1 (encB (l ++ s)))] ∧ r = .tup [.p (.int .i64 s.length), .bad] := by
  refine ACalls_X Tryz.func36 rfl enters36 (by simp [Tryz.f36]) ?_
  simp only [go_sem, ↓reduceIte, Nat.reduceLT, Nat.reduceLeDiff, Nat.reduceEqDiff, Nat.reduceAdd, Nat.reduceMul, Nat.reduceSub, reduceCtorEq, Int.reduceLT, Int.reduceLE, Int.reduceEq, Int.reduceToNat, decide_true, decide_false, Int.reduceNeg, Int.cast_ofNat_Int, sg, AO.sg, Option.isNone_none]
  refine Cc_of (bcheck_used rfl) ?_
  rintro h' r ⟨rfl, rfl⟩
  simp only [go_sem, ↓reduceIte, Nat.reduceLT, Nat.reduceLeDiff, Nat.reduceEqDiff, Nat.reduceAdd, Nat.reduceMul, Nat.reduceSub, reduceCtorEq, Int.reduceLT, Int.reduceLE, Int.reduceEq, Int.reduceToNat, decide_true, decide_false, Int.reduceNeg, Int.cast_ofNat_Int, sg, AO.sg, Option.isNone_none, encB_len]
  refine ⟨⟨widB s, by omega⟩, ?_⟩
  simp only [← encB_app, encB_len]
  refine end_own ?_
  simp only [go_sem, ↓reduceIte, Nat.reduceLT, Nat.reduceLeDiff, Nat.reduceEqDiff, Nat.reduceAdd, Nat.reduceMul, Nat.reduceSub, reduceCtorEq, Int.reduceLT, Int.reduceLE, Int.reduceEq, Int.reduceToNat, decide_true, decide_false, Int.reduceNeg, Int.cast_ofNat_Int, sg, AO.sg, Option.isNone_none, encB_len]
end Go.Am
end

section
/- strings.Join, as a contract of the machine. -/
namespace Go.Am
open Go Go.Proofs Go.RowKit
set_option maxRecDepth 100000
set_option linter.unusedVariables false
set_option linter.unusedSimpArgs false
theorem join_words (fs : List (List UInt8)) : Lib.join fs [32] = wordsV fs := by
  cases fs with
  | nil => rfl
  | cons x r => simp [Lib.join_cons, Lib.joinTail, wordsV, List.flatMap]
theorem joinw_ok (fs : List (List UInt8)) (hne : fs ≠ []) (hl : fs.length ≤ 100000000) (hs : szF fs ≤ 1000000000000) : ACalls Tryz.prog 38 [.p (.sl (encS fs)), .p (.str [32])] [] fun h r => h = [] ∧ r = .p (.str (wordsV fs)) := by
  refine ACalls_below enters38 fun vs w F M _ hFl hd => ?_
  obtain ⟨a, b, rfl, ha, hb⟩ := drl_two hd
  rw [dr_str hb]
  have hlen := wordsV_len fs hne
  cases ha with
  | p ha =>
  have hpos : 0 < fs.length := List.length_pos_iff.2 hne
  obtain ⟨xs, hxs⟩ : ∃ xs : List ByteArray, xs = fs.map fun s => ⟨s.toArray⟩ := ⟨_, rfl⟩
  have hxl : xs.length = fs.length := by rw [hxs, List.length_map]
  have hxj : ∀ (j : Nat) x, xs[j]? = some x → ∃ s, fs[j]? = some s ∧ x = ⟨s.toArray⟩ := by
    intro j x hx
    rw [hxs, List.getElem?_map] at hx
    cases hj : fs[j]? with
    | none => rw [hj] at hx; cases hx
    | some s => rw [hj] at hx; cases hx; exact ⟨s, rfl, rfl⟩
  have e2 : xs.map (fun x => x.data.toList) = fs := by rw [hxs]; simp [Function.comp_def]
  clear hxs
  obtain ⟨sep, hsep⟩ : ∃ sep : ByteArray, sep = ⟨[32].toArray⟩ := ⟨_, rfl⟩
  have hsl : sep.data.toList = [32] := by rw [hsep]
  have hjw : Lib.join (xs.map (fun x => x.data.toList)) sep.data.toList = wordsV fs := by rw [e2, hsl, join_words]
  rw [← hsep]
  clear hsep
  have key : ∀ (es : List (List Pd)), es = encS fs → PR F w (.sl es) a → Calls Tryz.prog 38 #[a, .string sep] w fun e w' => ∃ v, e = .returned v ∧ PR (fun _ => False) w' (.str (wordsV fs)) v ∧ Below w.heap.size w w' := by
    intro es he ha
    cases ha with
    | sl0 a cap =>
      have := congrArg List.length he
      rw [encS_len] at this
      simp at this
      omega
    | sl _ bk off cap sz row t fr hF hh hc hsz hi hp =>
      have hel : es.length = xs.length := by rw [he, encS_len, hxl]
      have hes : ∀ (j : Nat) s, fs[j]? = some s → es[j]? = some [.str s] := fun j s h => by rw [he]; simp [encS, h]
      have hsz1 : sz = 1 := by
        have h0 : fs[0]? = some (fs[0]'hpos) := List.getElem?_eq_getElem hpos
        have := hsz 0 _ (hes 0 _ h0)
        simpa using this.symm
      subst hsz1
      clear he
      have h1 : ∀ (j : Nat) x, xs[j]? = some x → w.cell? ⟨bk, off + j, none⟩ = some (.string x) := by
        intro j x hx
        obtain ⟨s, hs, rfl⟩ := hxj j x hx
        have h1 := hi j [.str s] 0 (.str s) (hes j s hs) rfl
        have h2 := hp j [.str s] 0 (.str s) (hes j s hs) rfl
        rw [Nat.mul_one, Nat.add_zero] at h1 h2
        rw [Array.getD_eq_getD_getElem?, Array.getElem?_eq_getElem h1] at h2
        have h3 : w.cell? ⟨bk, off + j, none⟩ = row[off + j]? := by simp only [World.cell?, hh]; rfl
        rw [h3, Array.getElem?_eq_getElem h1]
        simp only [Option.getD_some] at h2
        generalize row[off + j] = y at h2
        cases h2
        rfl
      rw [hel] at hc ⊢
      have h5 := Tryz.strings_Join bk off cap xs sep w h1 (hFl bk hF) (by omega) hc (by rw [hjw]; omega)
      rw [hjw] at h5
      refine h5.mono ?_
      rintro e w' ⟨rfl, hb⟩
      exact ⟨_, rfl, .str _, hb⟩
  exact key _ rfl ha

end Go.Am
end

section
/- strings.Repeat and strings.IndexFunc (asked for a byte that no field has), as contracts of the machine. -/
namespace Go.Am
open Go Go.Proofs Go.RowKit
set_option maxRecDepth 100000
set_option linter.unusedVariables false
set_option linter.unusedSimpArgs false
theorem Calls_bool {P : Program} {f : FuncId} {args : List D} {b : Bool} {vs : Array Value} {w : World} (hent : Enters P f) (hc : ACalls P f args [] fun h r => h = [] ∧ r = .p (.bool b)) (hd : ∀ F M, DRl F w M (sg []) args vs.toList) :
    Calls P f vs w fun e w' => e = .returned (.bool b) ∧ Below w.heap.size w w' := by
  have hruns := hc vs w (fun _ => False) (fun _ => ⟨0, 0, []⟩) ⟨fun id o h => by simp [get] at h, fun id o id' o' b h => by simp [get] at h⟩ (fun _ h => h.elim) (fun id h => (h rfl).elim) (hd _ _)
  have hcalls := hruns.resolve_right (fun ⟨v, w', h1, _⟩ => by rw [hent] at h1; cases h1)
  refine hcalls.2.mono ?_
  rintro e w' ⟨v, h', r, F', M', rfl, ⟨rfl, rfl⟩, _, hd, hk⟩
  obtain rfl : v = .bool b := by cases hd with | p hd => cases hd; rfl
  exact ⟨rfl, hk.os, hk.tape, hk.output, hk.size, fun k h => hk.old k h (by rintro ⟨id, o, h1, _⟩; simp [get] at h1)⟩
theorem repeatL_one (c : UInt8) (n : Nat) : Lib.repeatL [c] n = List.replicate n c := by
  induction n with
  | zero => rfl
  | succ n ih => simp [Lib.repeatL, ih, List.replicate_succ]
theorem repeat_ok (c : UInt8) (n : Nat) (hn : n ≤ 100000000) : ACalls Tryz.prog 37 [.p (.str [c]), .p (.int .i64 (n : Nat))] [] fun h r => h = [] ∧ r = .p (.str (List.replicate n c)) := by
  refine ACalls_below enters37 fun vs w F M _ _ hd => ?_
  obtain ⟨a, b, rfl, ha, hb⟩ := drl_two hd
  rw [dr_str ha, dr_int hb]
  refine (Tryz.strings_Repeat ⟨#[c]⟩ n w (by omega) (by show 1 * n ≤ _; omega)).mono ?_
  rintro e w' ⟨rfl, hb⟩
  have e1 := repeatL_one c n
  refine ⟨_, rfl, ?_, hb⟩
  have := PR.str (F := fun _ => False) (w := w') (List.replicate n c)
  rw [← e1] at this
  exact e1 ▸ this
/-- The closure of proper. -/
def badR (c : Int) : Bool := if 126 < c then true else !allB (IntKind.u8.wrap c)
theorem badR_ok (c : Int) : ACalls Tryz.prog 76 [.p (.int .i32 c)] [] fun h r => h = [] ∧ r = .p (.bool (badR c)) := by
  refine ACalls_X Tryz.func76 rfl enters76 (by simp [Tryz.f76]) ?_
  by_cases h1 : 126 < c
  · simp only [go_sem, ↓reduceIte, Nat.reduceLT, Nat.reduceLeDiff, Nat.reduceEqDiff, Nat.reduceAdd, Nat.reduceMul, Nat.reduceSub, reduceCtorEq, Int.reduceLT, Int.reduceLE, Int.reduceEq, Int.reduceToNat, decide_true, decide_false, Int.reduceNeg, Int.cast_ofNat_Int, sg, AO.sg, Option.isNone_none, h1]
    simp [badR, h1]
  · simp only [go_sem, ↓reduceIte, Nat.reduceLT, Nat.reduceLeDiff, Nat.reduceEqDiff, Nat.reduceAdd, Nat.reduceMul, Nat.reduceSub, reduceCtorEq, Int.reduceLT, Int.reduceLE, Int.reduceEq, Int.reduceToNat, decide_true, decide_false, Int.reduceNeg, Int.cast_ofNat_Int, sg, AO.sg, Option.isNone_none, h1]
    refine Cc_of (allowed1_ok _) ?_
    rintro h' r ⟨rfl, rfl⟩
    simp only [go_sem, ↓reduceIte, Nat.reduceLT, Nat.reduceLeDiff, Nat.reduceEqDiff, Nat.reduceAdd, Nat.reduceMul, Nat.reduceSub, reduceCtorEq, Int.reduceLT, Int.reduceLE, Int.reduceEq, Int.reduceToNat, decide_true, decide_false, Int.reduceNeg, Int.cast_ofNat_Int, sg, AO.sg, Option.isNone_none]
    simp [badR, h1]
def badN (x : Nat) : Bool := badR (x : Int)
theorem badN_byte (b : UInt8) (h : b.toNat < 128) : badN b.toNat = !allB b.toNat := by
  unfold badN badR
  have hw : IntKind.u8.wrap (b.toNat : Int) = (b.toNat : Int) := by rw [IntKind.wrap_u8]; omega
  rw [hw]
  split
  · have : ¬ ((b.toNat : Int) ≤ 126) := by omega
    simp [allB, this]
  · rfl
theorem badN_big (x : Nat) (h : 128 ≤ x) : badN x = true := by
  unfold badN badR
  rw [if_pos (by omega)]
theorem get_bang (l : List UInt8) (i : Nat) : (⟨l.toArray⟩ : ByteArray).get! i = l.getD i 0 := by
  show l.toArray[i]! = l.getD i 0
  simp [List.getD]
  rfl
theorem idx_spec2 (l : List UInt8) : ∀ (f pos : Nat), l.length ≤ pos + f → (Lib.idxFuncFrom badN true ⟨l.toArray⟩ f pos < 0 ↔ (l.drop pos).all (fun b => allB b.toNat) = true)
  | 0, pos, h => by
    rw [List.drop_of_length_le (by omega)]
    simp [Lib.idxFuncFrom]
  | f + 1, pos, h => by
    have hsz : (⟨l.toArray⟩ : ByteArray).size = l.length := by simp [ByteArray.size]
    unfold Lib.idxFuncFrom
    rw [hsz]
    by_cases hp : pos < l.length
    · rw [if_pos hp, drop_getD l pos 0 hp]
      have hd := Lib.decode_at ⟨l.toArray⟩ pos
      rw [get_bang] at hd
      generalize hb : l.getD pos 0 = b at *
      simp only [List.all_cons]
      by_cases h8 : b.toNat < 128
      · have hd2 : Utf8.decode ⟨l.toArray⟩ pos = (b.toNat, 1) := by
          rw [hd]; unfold Lib.decodeN; rw [if_pos h8]
        rw [hd2]
        simp only [badN_byte b h8]
        cases ha : allB b.toNat
        · simp
        · have := idx_spec2 l f (pos + 1) (by omega)
          simpa using this
      · have hd2 : 128 ≤ (Utf8.decode ⟨l.toArray⟩ pos).1 := by
          rw [hd]
          rcases Lib.decodeN_shape ((⟨l.toArray⟩ : ByteArray).size - pos) b.toNat ((⟨l.toArray⟩ : ByteArray).get! (pos + 1)).toNat ((⟨l.toArray⟩ : ByteArray).get! (pos + 2)).toNat ((⟨l.toArray⟩ : ByteArray).get! (pos + 3)).toNat with h1 | h1 | h1 | h1 | h1
          · omega
          · rw [h1.2.2.2.2]; exact h1.2.2.2.1
          · rw [h1.2.2.2.2.2.2]; have := h1.2.2.2.2.1; simp only; omega
          · rw [h1.2.2.2.2.2.2.2]; have := h1.2.2.2.2.2.1; simp only; omega
          · rw [h1]; decide
        rw [badN_big _ hd2, if_pos rfl]
        have ha : allB b.toNat = false := by
          have : ¬ ((b.toNat : Int) ≤ 126) := by omega
          simp [allB, this]
        rw [ha]
        simp
    · rw [if_neg hp, List.drop_of_length_le (by omega)]
      simp
def idxP (l : List UInt8) : Int := Lib.idxFunc badN true ⟨l.toArray⟩
theorem idxP_neg (l : List UInt8) : idxP l < 0 ↔ l.all (fun b => allB b.toNat) = true := by
  have := idx_spec2 l l.length 0 (by omega)
  have hsz : (⟨l.toArray⟩ : ByteArray).size = l.length := by simp [ByteArray.size]
  unfold idxP Lib.idxFunc
  rw [hsz]
  simpa using this
theorem indexp_ok (l : List UInt8) : ACalls Tryz.prog 75 [.p (.str l), .fn 76 []] [] fun h r => h = [] ∧ r = .p (.int .i64 (idxP l)) := by
  refine ACalls_below enters75 fun vs w F M _ _ hd => ?_
  obtain ⟨a, b, rfl, ha, hb⟩ := drl_two hd
  rw [dr_str ha]
  obtain rfl : b = .func (.func 76) #[] #[] := by
    cases hb with
    | fn f cap vs hl h =>
      obtain rfl : vs = #[] := Array.eq_empty_of_size_eq_zero (by simpa using hl)
      rfl
  refine (Tryz.strings_IndexFunc_grows 76 #[] enters76 badN ⟨l.toArray⟩ w fun W x hx hb => ?_).mono ?_
  · refine Calls_bool (args := [.p (.int .i32 (x : Int))]) enters76 (badR_ok (x : Int)) fun F M => ⟨rfl, fun i d hd => ?_⟩
    cases i with
    | zero => simp only [List.getElem?_cons_zero, Option.some.injEq] at hd; subst hd; exact .p (.int _ _)
    | succ i => simp at hd
  · rintro e w' ⟨rfl, hb⟩
    exact ⟨_, rfl, .int _ _, hb⟩
/-- proper. -/
theorem proper_ok (s : List UInt8) : ACalls Tryz.prog 35 [.p (.str s)] [] fun h r => h = [] ∧ r = .p (.bool (propB s)) := by
  refine ACalls_X Tryz.func35 rfl enters35 (by simp [Tryz.f35]) ?_
  by_cases h1 : s = []
  · subst h1
    simp only [go_sem, ↓reduceIte, Nat.reduceLT, Nat.reduceLeDiff, Nat.reduceEqDiff, Nat.reduceAdd, Nat.reduceMul, Nat.reduceSub, reduceCtorEq, Int.reduceLT, Int.reduceLE, Int.reduceEq, Int.reduceToNat, decide_true, decide_false, Int.reduceNeg, Int.cast_ofNat_Int, sg, AO.sg, Option.isNone_none]
    simp [propB]
  · by_cases h2 : (s.length : Int) ≤ 12
    · simp only [go_sem, ↓reduceIte, Nat.reduceLT, Nat.reduceLeDiff, Nat.reduceEqDiff, Nat.reduceAdd, Nat.reduceMul, Nat.reduceSub, reduceCtorEq, Int.reduceLT, Int.reduceLE, Int.reduceEq, Int.reduceToNat, decide_true, decide_false, Int.reduceNeg, Int.cast_ofNat_Int, sg, AO.sg, Option.isNone_none, h1, h2]
      refine Cc_of (indexp_ok s) ?_
      rintro h' r ⟨rfl, rfl⟩
      simp only [go_sem, ↓reduceIte, Nat.reduceLT, Nat.reduceLeDiff, Nat.reduceEqDiff, Nat.reduceAdd, Nat.reduceMul, Nat.reduceSub, reduceCtorEq, Int.reduceLT, Int.reduceLE, Int.reduceEq, Int.reduceToNat, decide_true, decide_false, Int.reduceNeg, Int.cast_ofNat_Int, sg, AO.sg, Option.isNone_none]
      have h2' : s.length ≤ 12 := by omega
      have := idxP_neg s
      simp only [propB, h1, h2', ne_eq, not_false_eq_true, decide_true, Bool.true_and]
      by_cases h3 : idxP s < 0
      · simp [h3, this.1 h3]
      · have h4 : (s.all fun b => allB b.toNat) = false := by
          cases h5 : s.all fun b => allB b.toNat
          · rfl
          · exact (h3 (this.2 h5)).elim
        simp [h3, h4]
    · have h2' : ¬ s.length ≤ 12 := by omega
      simp only [go_sem, ↓reduceIte, Nat.reduceLT, Nat.reduceLeDiff, Nat.reduceEqDiff, Nat.reduceAdd, Nat.reduceMul, Nat.reduceSub, reduceCtorEq, Int.reduceLT, Int.reduceLE, Int.reduceEq, Int.reduceToNat, decide_true, decide_false, Int.reduceNeg, Int.cast_ofNat_Int, sg, AO.sg, Option.isNone_none, h1, h2]
      simp [propB, h2']
end Go.Am
end

section
/- fields.Join. -/
namespace Go.Am
open Go Go.Proofs
set_option maxRecDepth 100000
set_option linter.unusedVariables false
set_option linter.unusedSimpArgs false
def joinR (r : List UInt8 × Int) : D := .tup [.p (.str r.1), .p (.int .i64 r.2)]
theorem take_two (a b : D) : List.take 2 [a, b] = [a, b] := rfl
/-- The state of Join's second loop. -/
def joinS (l : List Ln) (i : Nat) (at_ : Nat) (txt : List UInt8) : St :=
  ⟨[(10, .ptr 10 0), (11, .p (.int .i64 (at_ : Nat))), (57, .p (.sl (encL l))), (58, .p (.int .i64 (l.length : Nat))), (59, .p (.int .i64 (i : Nat)))],
    match i with
    | 0 => [(10, .box [.np, .cl []] 91)]
    | _ + 1 => [(10, .box [.ptr 10 0, .ref 10073 0 txt.length txt.length] 91), (10073, .arr 5 1 (encB txt))], 79⟩
theorem join1_ok (l : List Ln) (hl : l.length ≤ 4000000 ∧ ∀ x ∈ l, x.fs.length ≤ 4000000 ∧ x.num ≤ 9223372036854775807) : ACalls Tryz.prog 10 [.p (.sl (encL l))] [] fun h r => h = [] ∧ r = joinR (joinV l) := by
  obtain ⟨hl, hz⟩ := hl
  refine ACalls_X Tryz.func10 rfl enters10 (by simp [Tryz.f10]) ?_
  simp only [go_sem, ↓reduceIte, Nat.reduceLT, Nat.reduceLeDiff, Nat.reduceEqDiff, Nat.reduceAdd, Nat.reduceMul, Nat.reduceSub, reduceCtorEq, Int.reduceLT, Int.reduceLE, Int.reduceEq, Int.reduceToNat, decide_true, decide_false, Int.reduceNeg, Int.cast_ofNat_Int, sg, AO.sg, Option.isNone_none, encL_len]
  refine X_loop_inv (fun q : Nat × Int × Nat => ⟨[(0, .p (.sl (encL l))), (4, .p (.int .i64 q.2.1)), (5, .p (.int .i64 (q.2.2 : Nat))), (14, .p (.sl (encL l))), (15, .p (.int .i64 (l.length : Nat))), (16, .p (.int .i64 (q.1 : Nat)))], [], 79⟩)
    (fun q => q.1 ≤ l.length ∧ 0 ≤ q.2.1 ∧ q.2.2 ≤ 60000000 * q.1 ∧ formB q.2.1 (l.drop q.1) = formB 0 l ∧ lastL q.2.1 (l.drop q.1) = lastL 0 l ∧ (formB 0 l = true → q.2.2 + szL (l.drop q.1) = szL l)) (fun q => l.length - q.1) (0, 0, 0)
    ⟨Nat.zero_le _, by simp, by simp, by simp, by simp, by simp⟩ (Wk.forget (by simp [Le, LeE, LeH, get, envIds, hpIds, KeepH, D.ids, idsL, AO.ids, setL, base])) ?_
  rintro ⟨i, last, sz⟩ n ⟨hi, hlast, hsz, hf, hla, hszl⟩ ih
  simp only at hi hlast hsz hf hla hszl
  simp only [go_sem, ↓reduceIte, Nat.reduceLT, Nat.reduceLeDiff, Nat.reduceEqDiff, Nat.reduceAdd, Nat.reduceMul, Nat.reduceSub, reduceCtorEq, Int.reduceLT, Int.reduceLE, Int.reduceEq, Int.reduceToNat, decide_true, decide_false, Int.reduceNeg, Int.cast_ofNat_Int, sg, AO.sg, Option.isNone_none]
  refine Cn_split (fun h1 => ?_) (fun h1 => ?_)
  · have hlt : i < l.length := by simp at h1; omega
    have hi0 : (0 : Int) ≤ (i : Int) ∧ (i : Int) < (l.length : Int) := by omega
    have hw := wrap_succ i (by omega)
    have hg := encL_get l i hlt
    have hzx := hz _ (getD_mem l i ln0 hlt)
    rw [drop_getD l i ln0 hlt] at hf hla hszl
    generalize l.getD i ln0 = x at *
    obtain ⟨num, fs⟩ := x
    simp only at hg hzx
    simp only [go_sem, ↓reduceIte, Nat.reduceLT, Nat.reduceLeDiff, Nat.reduceEqDiff, Nat.reduceAdd, Nat.reduceMul, Nat.reduceSub, reduceCtorEq, Int.reduceLT, Int.reduceLE, Int.reduceEq, Int.reduceToNat, decide_true, decide_false, Int.reduceNeg, Int.cast_ofNat_Int, sg, AO.sg, Option.isNone_none, encL_len, Int.toNat_natCast, hg, hi0, take_two, encS_len]
    have bad : formB last (⟨num, fs⟩ :: l.drop (i + 1)) = false → joinV l = ([], 20) := by
      intro h
      rw [hf] at h
      simp [joinV, h]
    cases c1 : decide (num ≤ last)
    rotate_left
    · simp only [go_sem, ↓reduceIte, Nat.reduceLT, Nat.reduceLeDiff, Nat.reduceEqDiff, Nat.reduceAdd, Nat.reduceMul, Nat.reduceSub, reduceCtorEq, Int.reduceLT, Int.reduceLE, Int.reduceEq, Int.reduceToNat, decide_true, decide_false, Int.reduceNeg, Int.cast_ofNat_Int, sg, AO.sg, Option.isNone_none, c1]
      rw [bad (by have := of_decide_eq_true c1; simp [formB]; omega)]
      refine end_pure ?_
      simp only [go_sem, ↓reduceIte, Nat.reduceLT, Nat.reduceLeDiff, Nat.reduceEqDiff, Nat.reduceAdd, Nat.reduceMul, Nat.reduceSub, reduceCtorEq, Int.reduceLT, Int.reduceLE, Int.reduceEq, Int.reduceToNat, decide_true, decide_false, Int.reduceNeg, Int.cast_ofNat_Int, sg, AO.sg, Option.isNone_none]
      rfl
    have hnl := of_decide_eq_false c1
    cases c2 : decide ((fs.length : Int) = 0)
    rotate_left
    · simp only [go_sem, ↓reduceIte, Nat.reduceLT, Nat.reduceLeDiff, Nat.reduceEqDiff, Nat.reduceAdd, Nat.reduceMul, Nat.reduceSub, reduceCtorEq, Int.reduceLT, Int.reduceLE, Int.reduceEq, Int.reduceToNat, decide_true, decide_false, Int.reduceNeg, Int.cast_ofNat_Int, sg, AO.sg, Option.isNone_none, c1, c2, encS_len]
      rw [bad (by have := of_decide_eq_true c2; have : fs = [] := List.eq_nil_of_length_eq_zero (by omega); simp [formB, this])]
      refine end_pure ?_
      simp only [go_sem, ↓reduceIte, Nat.reduceLT, Nat.reduceLeDiff, Nat.reduceEqDiff, Nat.reduceAdd, Nat.reduceMul, Nat.reduceSub, reduceCtorEq, Int.reduceLT, Int.reduceLE, Int.reduceEq, Int.reduceToNat, decide_true, decide_false, Int.reduceNeg, Int.cast_ofNat_Int, sg, AO.sg, Option.isNone_none]
      rfl
    have hfl := of_decide_eq_false c2
    have hfne : fs ≠ [] := by rintro rfl; simp at hfl
    simp only [go_sem, ↓reduceIte, Nat.reduceLT, Nat.reduceLeDiff, Nat.reduceEqDiff, Nat.reduceAdd, Nat.reduceMul, Nat.reduceSub, reduceCtorEq, Int.reduceLT, Int.reduceLE, Int.reduceEq, Int.reduceToNat, decide_true, decide_false, Int.reduceNeg, Int.cast_ofNat_Int, sg, AO.sg, Option.isNone_none, c1, c2, encS_len]
    refine X_loop_inv (fun q : Nat × Nat => ⟨[(0, .p (.sl (encL l))), (4, .p (.int .i64 num)), (5, .p (.int .i64 (q.2 : Nat))), (14, .p (.sl (encL l))), (15, .p (.int .i64 (l.length : Nat))), (16, .p (.int .i64 (i : Nat))), (33, .p (.sl (encS fs))), (34, .p (.int .i64 (fs.length : Nat))), (35, .p (.int .i64 (q.1 : Nat)))], [], 79⟩)
      (fun q => q.1 ≤ fs.length ∧ q.2 ≤ sz + 13 * q.1 ∧ q.2 + szF (fs.drop q.1) = sz + szF fs ∧ (fs.drop q.1).all propB = fs.all propB) (fun q => fs.length - q.1) (0, sz) ⟨Nat.zero_le _, by simp, by simp, by simp⟩ (Wk.forget (by simp [Le, LeE, LeH, get, envIds, hpIds, KeepH, D.ids, idsL, AO.ids, setL, base])) ?_
    rintro ⟨j, sz2⟩ n2 ⟨hj, hs2, hse, hal⟩ ih2
    simp only at hj hs2 hse hal
    simp only [go_sem, ↓reduceIte, Nat.reduceLT, Nat.reduceLeDiff, Nat.reduceEqDiff, Nat.reduceAdd, Nat.reduceMul, Nat.reduceSub, reduceCtorEq, Int.reduceLT, Int.reduceLE, Int.reduceEq, Int.reduceToNat, decide_true, decide_false, Int.reduceNeg, Int.cast_ofNat_Int, sg, AO.sg, Option.isNone_none]
    refine Cn_split (fun h2 => ?_) (fun h2 => ?_)
    · have hjt : j < fs.length := by simp at h2; omega
      have hj0 : (0 : Int) ≤ (j : Int) ∧ (j : Int) < (fs.length : Int) := by omega
      have hwj := wrap_succ j (by omega)
      have hgj := encS_get fs j hjt
      rw [drop_getD fs j [] hjt] at hse hal
      generalize fs.getD j [] = s at *
      simp only [go_sem, ↓reduceIte, Nat.reduceLT, Nat.reduceLeDiff, Nat.reduceEqDiff, Nat.reduceAdd, Nat.reduceMul, Nat.reduceSub, reduceCtorEq, Int.reduceLT, Int.reduceLE, Int.reduceEq, Int.reduceToNat, decide_true, decide_false, Int.reduceNeg, Int.cast_ofNat_Int, sg, AO.sg, Option.isNone_none, encS_len, Int.toNat_natCast, hgj, hj0]
      refine Cc_of (proper_ok s) ?_
      rintro h' r ⟨rfl, rfl⟩
      cases hp : propB s
      · simp only [go_sem, ↓reduceIte, Nat.reduceLT, Nat.reduceLeDiff, Nat.reduceEqDiff, Nat.reduceAdd, Nat.reduceMul, Nat.reduceSub, reduceCtorEq, Int.reduceLT, Int.reduceLE, Int.reduceEq, Int.reduceToNat, decide_true, decide_false, Int.reduceNeg, Int.cast_ofNat_Int, sg, AO.sg, Option.isNone_none, hp]
        have : fs.all propB = false := by rw [← hal]; simp [hp]
        rw [bad (by simp [formB, this])]
        refine end_pure ?_
        simp only [go_sem, ↓reduceIte, Nat.reduceLT, Nat.reduceLeDiff, Nat.reduceEqDiff, Nat.reduceAdd, Nat.reduceMul, Nat.reduceSub, reduceCtorEq, Int.reduceLT, Int.reduceLE, Int.reduceEq, Int.reduceToNat, decide_true, decide_false, Int.reduceNeg, Int.cast_ofNat_Int, sg, AO.sg, Option.isNone_none]
        rfl
      · have hs12 := (propB_iff.1 hp).2.1
        simp only [szF] at hse
        simp only [List.all_cons, hp, Bool.true_and] at hal
        have hw1 : IntKind.i64.wrap ((s.length : Int) + 1) = ((s.length + 1 : Nat) : Int) := wrap_succ _ (by omega)
        have hw2 : IntKind.i64.wrap ((sz2 : Int) + ((s.length + 1 : Nat) : Int)) = ((sz2 + (s.length + 1) : Nat) : Int) := by rw [wrap_i64_id] <;> omega
        simp only [go_sem, ↓reduceIte, Nat.reduceLT, Nat.reduceLeDiff, Nat.reduceEqDiff, Nat.reduceAdd, Nat.reduceMul, Nat.reduceSub, reduceCtorEq, Int.reduceLT, Int.reduceLE, Int.reduceEq, Int.reduceToNat, decide_true, decide_false, Int.reduceNeg, Int.cast_ofNat_Int, sg, AO.sg, Option.isNone_none, hp, hw1, hw2, hwj]
        refine ih2 (j + 1, sz2 + (s.length + 1)) _ ⟨hjt, by simp only; omega, by simp only; omega, hal⟩ (by simp only; omega) (Wk.forget (by simp [Le, LeE, LeH, get, envIds, hpIds, KeepH, D.ids, idsL, AO.ids, setL, base]))
    · have hjl : j = fs.length := by simp at h2; omega
      subst hjl
      simp only [List.drop_length, szF, List.all_nil, Nat.add_zero] at hse hal
      simp only [go_sem, ↓reduceIte, Nat.reduceLT, Nat.reduceLeDiff, Nat.reduceEqDiff, Nat.reduceAdd, Nat.reduceMul, Nat.reduceSub, reduceCtorEq, Int.reduceLT, Int.reduceLE, Int.reduceEq, Int.reduceToNat, decide_true, decide_false, Int.reduceNeg, Int.cast_ofNat_Int, sg, AO.sg, Option.isNone_none, hw]
      have hfb : formB last (⟨num, fs⟩ :: l.drop (i + 1)) = formB num (l.drop (i + 1)) := by
        have : last < num := by omega
        simp [formB, this, hfne, ← hal]
      refine ih (i + 1, num, sz2) _ ⟨hlt, by simp only; omega, by have := hzx.1; simp only; omega, by simp only; rw [← hf, hfb], by simp only; rw [← hla]; rfl, fun h => ?_⟩ (by simp only; omega) (Wk.forget (by simp [Le, LeE, LeH, get, envIds, hpIds, KeepH, D.ids, idsL, AO.ids, setL, base]))
      have := hszl h
      simp only [szL] at this
      simp only
      omega
  · have hieq : i = l.length := by simp at h1; omega
    subst hieq
    simp only [List.drop_length, formB, lastL, szL, Nat.add_zero] at hf hla hszl
    have hform := hf.symm
    have hsz2 := hszl hform
    clear hf hszl ih
    have hjt := join_test l hform
    rw [← hla, ← hsz2] at hjt
    have hw1 : IntKind.i64.wrap ((sz : Int) - (l.length : Int)) = (sz : Int) - l.length := by rw [wrap_i64_id] <;> omega
    have hmin : (if (6001 : Int) < last then 6001 else last) = min last 6001 := by split <;> omega
    have hw2 : IntKind.i64.wrap (6000 - (if (6001 : Int) < last then 6001 else last)) = 6000 - min last 6001 := by rw [hmin, wrap_i64_id] <;> omega
    simp only [go_sem, ↓reduceIte, Nat.reduceLT, Nat.reduceLeDiff, Nat.reduceEqDiff, Nat.reduceAdd, Nat.reduceMul, Nat.reduceSub, reduceCtorEq, Int.reduceLT, Int.reduceLE, Int.reduceEq, Int.reduceToNat, decide_true, decide_false, Int.reduceNeg, Int.cast_ofNat_Int, sg, AO.sg, Option.isNone_none, encL_len, hw1, hw2]
    by_cases hbig : (6000 : Int) - min last 6001 < (sz : Int) - (l.length : Int)
    · simp only [go_sem, ↓reduceIte, Nat.reduceLT, Nat.reduceLeDiff, Nat.reduceEqDiff, Nat.reduceAdd, Nat.reduceMul, Nat.reduceSub, reduceCtorEq, Int.reduceLT, Int.reduceLE, Int.reduceEq, Int.reduceToNat, decide_true, decide_false, Int.reduceNeg, Int.cast_ofNat_Int, sg, AO.sg, Option.isNone_none, hbig]
      have := hjt.2 hbig
      rw [show joinV l = ([], 1) by simp [joinV, hform, this]]
      refine end_pure ?_
      simp only [go_sem, ↓reduceIte, Nat.reduceLT, Nat.reduceLeDiff, Nat.reduceEqDiff, Nat.reduceAdd, Nat.reduceMul, Nat.reduceSub, reduceCtorEq, Int.reduceLT, Int.reduceLE, Int.reduceEq, Int.reduceToNat, decide_true, decide_false, Int.reduceNeg, Int.cast_ofNat_Int, sg, AO.sg, Option.isNone_none]
      rfl
    · have hsmall : ¬ 6000 < (textL 1 l).length := fun h => hbig (hjt.1 h)
      have hjv : joinV l = (textL 1 l, 0) := by simp [joinV, hform, hsmall]
      rw [hjv]
      simp only [go_sem, ↓reduceIte, Nat.reduceLT, Nat.reduceLeDiff, Nat.reduceEqDiff, Nat.reduceAdd, Nat.reduceMul, Nat.reduceSub, reduceCtorEq, Int.reduceLT, Int.reduceLE, Int.reduceEq, Int.reduceToNat, decide_true, decide_false, Int.reduceNeg, Int.cast_ofNat_Int, sg, AO.sg, Option.isNone_none, hbig, encL_len]
      refine X_loop_inv (fun q : Nat × Nat × List UInt8 => joinS l q.1 q.2.1 q.2.2)
        (fun q => q.1 ≤ l.length ∧ (1 ≤ q.2.1 ∧ q.2.1 ≤ q.2.2.length + 1) ∧ formB ((q.2.1 - 1 : Nat) : Int) (l.drop q.1) = true ∧ q.2.2 ++ textL q.2.1 (l.drop q.1) = textL 1 l ∧ (q.1 = 0 → q.2.2 = []) ∧ (q.1 ≠ 0 → q.2.2 ≠ [])) (fun q => l.length - q.1) (0, 1, [])
        ⟨Nat.zero_le _, by simp, by simpa using hform, by simp, by simp, by simp⟩ (Wk.forget (by simp [Le, LeE, LeH, get, envIds, hpIds, KeepH, D.ids, idsL, AO.ids, setL, base, joinS])) ?_
      rintro ⟨k, at_, txt⟩ n ⟨hk, hat, hfk, htx, hk0, hk1⟩ ih
      simp only at hk hat hfk htx hk0 hk1
      by_cases hlt : k < l.length
      · have hki : (k : Int) < (l.length : Int) := by omega
        have hki0 : (0 : Int) ≤ (k : Int) := by omega
        have hw := wrap_succ k (by omega)
        have hg := encL_get l k hlt
        have hzx := hz _ (getD_mem l k ln0 hlt)
        rw [drop_getD l k ln0 hlt] at hfk htx
        generalize l.getD k ln0 = x at *
        obtain ⟨num, fs⟩ := x
        obtain ⟨f1, f2, f3, f4⟩ := formB_cons.1 hfk
        simp only at hg hzx f1 f2 f3 f4
        obtain ⟨m, rfl⟩ : ∃ m : Nat, num = (m : Int) := ⟨num.toNat, by omega⟩
        simp only [textL, Int.toNat_natCast] at htx
        have hlen := congrArg List.length htx
        simp only [List.length_append, List.length_replicate, List.length_cons] at hlen
        have hwl := wordsV_len fs f2
        have hle : at_ ≤ m := by clear hw1 hw2 hjt; omega
        have hws : IntKind.i64.wrap ((m : Int) - (at_ : Int)) = ((m - at_ : Nat) : Int) := by
          have := hzx.2
          clear hw1 hw2 hjt hmin
          rw [wrap_i64_id] <;> omega
        have hm6 : m ≤ 10000 := by clear hw1 hw2 hjt hmin; omega
        have hwm : IntKind.i64.wrap ((m : Int) + 1) = ((m + 1 : Nat) : Int) := by rw [wrap_i64_id] <;> omega
        have hm1 : ((m + 1 - 1 : Nat) : Int) = (m : Int) := by omega
        have hst : List.replicate (m - at_) (10 : UInt8) ++ wordsV fs ++ [10] = List.replicate (m - at_) 10 ++ (wordsV fs ++ [10]) := by simp
        generalize hs : List.replicate (m - at_) (10 : UInt8) ++ wordsV fs ++ [10] = s at *
        have hsne : s ≠ [] := by rw [← hs]; simp
        have hsl : s.length ≤ 6000 := by rw [← hs]; simp; omega
        have hsl2 : m + 1 ≤ (txt ++ s).length + 1 := by rw [← hs]; simp; omega
        have hnext : (txt ++ s) ++ textL (m + 1) (l.drop (k + 1)) = textL 1 l := by rw [← htx, ← hs]; simp
        cases k with
        | zero =>
          have htx0 := hk0 rfl
          subst htx0
          simp only [joinS]
          have hkz : (0 : Int) < (l.length : Int) := by omega
          have hkz0 : (0 : Int) ≤ (0 : Int) := by omega
          simp only [go_sem, ↓reduceIte, Nat.reduceLT, Nat.reduceLeDiff, Nat.reduceEqDiff, Nat.reduceAdd, Nat.reduceMul, Nat.reduceSub, reduceCtorEq, Int.reduceLT, Int.reduceLE, Int.reduceEq, Int.reduceToNat, decide_true, decide_false, Int.reduceNeg, Int.cast_ofNat_Int, sg, AO.sg, Option.isNone_none, encL_len, Int.toNat_natCast, hkz, hkz0, hg, take_two, Int.reduceToNat]
          refine X_any0 mixed (p := [(0, 0), (1, 0), (2, 0), (3, 0), (5, 0), (6, 0), (4, 2), (7, 2), (8, 0), (9, 0), (10, 3)]) (by kernel_rfl) (by simp [LeH, get]) ?_
          simp only [go_sem, ↓reduceIte, Nat.reduceLT, Nat.reduceLeDiff, Nat.reduceEqDiff, Nat.reduceAdd, Nat.reduceMul, Nat.reduceSub, reduceCtorEq, Int.reduceLT, Int.reduceLE, Int.reduceEq, Int.reduceToNat, decide_true, decide_false, Int.reduceNeg, Int.cast_ofNat_Int, sg, AO.sg, Option.isNone_none, hws]
          refine Gh_of ((repeat_ok 10 (m - at_) (by omega))) ?_
          rintro h' r ⟨rfl, rfl⟩
          simp only [go_sem, ↓reduceIte, Nat.reduceLT, Nat.reduceLeDiff, Nat.reduceEqDiff, Nat.reduceAdd, Nat.reduceMul, Nat.reduceSub, reduceCtorEq, Int.reduceLT, Int.reduceLE, Int.reduceEq, Int.reduceToNat, decide_true, decide_false, Int.reduceNeg, Int.cast_ofNat_Int, sg, AO.sg, Option.isNone_none]
          refine Gh_of ((joinw_ok fs f2 (by omega) (by omega))) ?_
          rintro h' r ⟨rfl, rfl⟩
          simp only [go_sem, ↓reduceIte, Nat.reduceLT, Nat.reduceLeDiff, Nat.reduceEqDiff, Nat.reduceAdd, Nat.reduceMul, Nat.reduceSub, reduceCtorEq, Int.reduceLT, Int.reduceLE, Int.reduceEq, Int.reduceToNat, decide_true, decide_false, Int.reduceNeg, Int.cast_ofNat_Int, sg, AO.sg, Option.isNone_none, hs]
          refine ⟨by unfold maxLen; first | omega | (simp; omega), by unfold maxLen; first | omega | (simp; omega), ?_⟩
          refine Gh_of ((bwrite_fresh s hsne (by omega))) ?_
          rintro h' r ⟨rfl, rfl⟩
          have hw11 : IntKind.i64.wrap 1 = 1 := rfl
          simp only [go_sem, ↓reduceIte, Nat.reduceLT, Nat.reduceLeDiff, Nat.reduceEqDiff, Nat.reduceAdd, Nat.reduceMul, Nat.reduceSub, reduceCtorEq, Int.reduceLT, Int.reduceLE, Int.reduceEq, Int.reduceToNat, decide_true, decide_false, Int.reduceNeg, Int.cast_ofNat_Int, sg, AO.sg, Option.isNone_none, hwm, hw, hw11]
          refine ih (0 + 1, m + 1, s) _ ⟨hlt, ⟨by simp only; omega, by simpa using hsl2⟩, by first | (simp only [hm1]; exact f4) | (rw [hm1]; exact f4), by simpa using hnext, by simp, fun _ => hsne⟩ (by first | omega | (simp only; omega)) (Wk.forget (by simp [Le, LeE, LeH, get, envIds, hpIds, KeepH, D.ids, idsL, AO.ids, setL, base, joinS, hw11]))
        | succ k =>
          have htne := hk1 (by omega)
          simp only [joinS]
          simp only [go_sem, ↓reduceIte, Nat.reduceLT, Nat.reduceLeDiff, Nat.reduceEqDiff, Nat.reduceAdd, Nat.reduceMul, Nat.reduceSub, reduceCtorEq, Int.reduceLT, Int.reduceLE, Int.reduceEq, Int.reduceToNat, decide_true, decide_false, Int.reduceNeg, Int.cast_ofNat_Int, sg, AO.sg, Option.isNone_none, encL_len, Int.toNat_natCast, hki, hki0, hg, take_two]
          refine X_any0 mixed (p := [(0, 0), (1, 0), (2, 0), (3, 0), (5, 0), (6, 0), (4, 2), (7, 2), (8, 0), (9, 0), (10, 3)]) (by kernel_rfl) (by simp [LeH, get]) ?_
          simp only [go_sem, ↓reduceIte, Nat.reduceLT, Nat.reduceLeDiff, Nat.reduceEqDiff, Nat.reduceAdd, Nat.reduceMul, Nat.reduceSub, reduceCtorEq, Int.reduceLT, Int.reduceLE, Int.reduceEq, Int.reduceToNat, decide_true, decide_false, Int.reduceNeg, Int.cast_ofNat_Int, sg, AO.sg, Option.isNone_none, hws]
          refine Gh_of ((repeat_ok 10 (m - at_) (by omega))) ?_
          rintro h' r ⟨rfl, rfl⟩
          simp only [go_sem, ↓reduceIte, Nat.reduceLT, Nat.reduceLeDiff, Nat.reduceEqDiff, Nat.reduceAdd, Nat.reduceMul, Nat.reduceSub, reduceCtorEq, Int.reduceLT, Int.reduceLE, Int.reduceEq, Int.reduceToNat, decide_true, decide_false, Int.reduceNeg, Int.cast_ofNat_Int, sg, AO.sg, Option.isNone_none]
          refine Gh_of ((joinw_ok fs f2 (by omega) (by omega))) ?_
          rintro h' r ⟨rfl, rfl⟩
          simp only [go_sem, ↓reduceIte, Nat.reduceLT, Nat.reduceLeDiff, Nat.reduceEqDiff, Nat.reduceAdd, Nat.reduceMul, Nat.reduceSub, reduceCtorEq, Int.reduceLT, Int.reduceLE, Int.reduceEq, Int.reduceToNat, decide_true, decide_false, Int.reduceNeg, Int.cast_ofNat_Int, sg, AO.sg, Option.isNone_none, hs]
          refine ⟨by unfold maxLen; first | omega | (simp; omega), by unfold maxLen; first | omega | (simp; omega), ?_⟩
          refine Gh_of ((bwrite_used txt s (by have := congrArg List.length hnext; simp at this; omega))) ?_
          rintro h' r ⟨rfl, rfl⟩
          simp only [go_sem, ↓reduceIte, Nat.reduceLT, Nat.reduceLeDiff, Nat.reduceEqDiff, Nat.reduceAdd, Nat.reduceMul, Nat.reduceSub, reduceCtorEq, Int.reduceLT, Int.reduceLE, Int.reduceEq, Int.reduceToNat, decide_true, decide_false, Int.reduceNeg, Int.cast_ofNat_Int, sg, AO.sg, Option.isNone_none, hwm, hw]
          refine ih (k + 1 + 1, m + 1, txt ++ s) _ ⟨hlt, ⟨by simp only; omega, hsl2⟩, by simp only [hm1]; exact f4, hnext, by simp, fun _ => by simp [htne]⟩ (by simp only; omega) (Wk.forget (by simp [Le, LeE, LeH, get, envIds, hpIds, KeepH, D.ids, idsL, AO.ids, setL, base, joinS]))
      · have hkl : k = l.length := by omega
        have hki : ¬ (k : Int) < (l.length : Int) := by omega
        rw [List.drop_of_length_le (by omega)] at htx
        simp only [textL, List.append_nil] at htx
        rw [← htx]
        cases k with
        | zero =>
          have htx0 := hk0 rfl
          subst htx0
          simp only [joinS]
          have hkz : ¬ (0 : Int) < (l.length : Int) := by omega
          simp only [go_sem, ↓reduceIte, Nat.reduceLT, Nat.reduceLeDiff, Nat.reduceEqDiff, Nat.reduceAdd, Nat.reduceMul, Nat.reduceSub, reduceCtorEq, Int.reduceLT, Int.reduceLE, Int.reduceEq, Int.reduceToNat, decide_true, decide_false, Int.reduceNeg, Int.cast_ofNat_Int, sg, AO.sg, Option.isNone_none, hkz]
          refine Cc_of ((bstring_nil (T := 91) (by decide))) ?_
          rintro h' r ⟨rfl, rfl⟩
          simp only [go_sem, ↓reduceIte, Nat.reduceLT, Nat.reduceLeDiff, Nat.reduceEqDiff, Nat.reduceAdd, Nat.reduceMul, Nat.reduceSub, reduceCtorEq, Int.reduceLT, Int.reduceLE, Int.reduceEq, Int.reduceToNat, decide_true, decide_false, Int.reduceNeg, Int.cast_ofNat_Int, sg, AO.sg, Option.isNone_none]
          refine end_pure ?_
          simp only [go_sem, ↓reduceIte, Nat.reduceLT, Nat.reduceLeDiff, Nat.reduceEqDiff, Nat.reduceAdd, Nat.reduceMul, Nat.reduceSub, reduceCtorEq, Int.reduceLT, Int.reduceLE, Int.reduceEq, Int.reduceToNat, decide_true, decide_false, Int.reduceNeg, Int.cast_ofNat_Int, sg, AO.sg, Option.isNone_none]
          rfl
        | succ k =>
          simp only [joinS]
          simp only [go_sem, ↓reduceIte, Nat.reduceLT, Nat.reduceLeDiff, Nat.reduceEqDiff, Nat.reduceAdd, Nat.reduceMul, Nat.reduceSub, reduceCtorEq, Int.reduceLT, Int.reduceLE, Int.reduceEq, Int.reduceToNat, decide_true, decide_false, Int.reduceNeg, Int.cast_ofNat_Int, sg, AO.sg, Option.isNone_none, hki]
          refine Cc_of ((bstring_ok (hk1 (by omega)))) ?_
          rintro h' r ⟨rfl, rfl⟩
          simp only [go_sem, ↓reduceIte, Nat.reduceLT, Nat.reduceLeDiff, Nat.reduceEqDiff, Nat.reduceAdd, Nat.reduceMul, Nat.reduceSub, reduceCtorEq, Int.reduceLT, Int.reduceLE, Int.reduceEq, Int.reduceToNat, decide_true, decide_false, Int.reduceNeg, Int.cast_ofNat_Int, sg, AO.sg, Option.isNone_none]
          refine end_pure ?_
          simp only [go_sem, ↓reduceIte, Nat.reduceLT, Nat.reduceLeDiff, Nat.reduceEqDiff, Nat.reduceAdd, Nat.reduceMul, Nat.reduceSub, reduceCtorEq, Int.reduceLT, Int.reduceLE, Int.reduceEq, Int.reduceToNat, decide_true, decide_false, Int.reduceNeg, Int.cast_ofNat_Int, sg, AO.sg, Option.isNone_none]
          rfl
end Go.Am
end
