/- strings.Repeat, strings.Join and strings.IndexFunc (asked for a byte that no field has), as contracts of the machine. -/
import Derived.Test.YtefdjkakojfhnaaDoorBldx
import Derived.Test.YtefdjkakojfhnaaDoorShelf
import Derived.Lib.MapLaws
namespace Go.Am
open Go Go.Proofs Go.RowKit
set_option maxRecDepth 100000
set_option linter.unusedVariables false
set_option linter.unusedSimpArgs false
theorem Calls_bool {P : Program} {f : FuncId} {args : List D} {b : Bool} {vs : Array Value} {w : World} (hent : Enters P f) (hc : ACalls P f args [] fun h r => h = [] ∧ r = .p (.bool b)) (hd : ∀ F M, DRl F w M (sg []) args vs.toList) :
    Calls P f vs w fun e w' => e = .returned (.bool b) ∧ Below w.heap.size w w' := by
  have hruns := hc vs w (fun _ => False) (fun _ => ⟨0, 0⟩) ⟨fun id o h => by simp [get] at h, fun id o id' o' h => by simp [get] at h⟩ (fun _ h => h.elim) (fun id h => (h rfl).elim) (hd _ _)
  have hcalls := hruns.resolve_right (fun ⟨v, w', h1, _⟩ => by rw [hent] at h1; cases h1)
  refine hcalls.2.mono ?_
  rintro e w' ⟨v, h', r, F', M', rfl, ⟨rfl, rfl⟩, _, hd, hk⟩
  obtain rfl : v = .bool b := by cases hd with | p hd => cases hd; rfl
  exact ⟨rfl, hk.os, hk.tape, hk.output, hk.size, fun k h => hk.old k h (by rintro ⟨id, o, h1, _⟩; simp [get] at h1)⟩
theorem repeatL_one (c : UInt8) (n : Nat) : Lib.repeatL [c] n = List.replicate n c := by
  induction n with
  | zero => rfl
  | succ n ih => simp [Lib.repeatL, ih, List.replicate_succ]
theorem repeat_ok (c : UInt8) (n : Nat) (hn : n ≤ 100000000) : ACalls Tryd.prog 59 [.p (.str [c]), .p (.int .i64 (n : Nat))] [] fun h r => h = [] ∧ r = .p (.str (List.replicate n c)) := by
  refine ACalls_below enters59 fun vs w F M _ _ hd => ?_
  obtain ⟨a, b, rfl, ha, hb⟩ := drl_two hd
  rw [dr_str ha, dr_int hb]
  refine (Tryd.strings_Repeat ⟨#[c]⟩ n w (by omega) (by show 1 * n ≤ _; omega)).mono ?_
  rintro e w' ⟨rfl, hb⟩
  have e1 := repeatL_one c n
  refine ⟨_, rfl, ?_, hb⟩
  have := PR.str (F := fun _ => False) (w := w') (List.replicate n c)
  rw [← e1] at this
  exact e1 ▸ this
theorem join_words (fs : List (List UInt8)) : Lib.join fs [32] = wordsV fs := by
  cases fs with
  | nil => rfl
  | cons x r => simp [Lib.join_cons, Lib.joinTail, wordsV, List.flatMap]
theorem joinw_ok (fs : List (List UInt8)) (hne : fs ≠ []) (hl : fs.length ≤ 100000000) (hs : szF fs ≤ 1000000000000) : ACalls Tryd.prog 60 [.p (.sl (encS fs)), .p (.str [32])] [] fun h r => h = [] ∧ r = .p (.str (wordsV fs)) := by
  refine ACalls_below enters60 fun vs w F M _ hFl hd => ?_
  obtain ⟨a, b, rfl, ha, hb⟩ := drl_two hd
  rw [dr_str hb]
  have hlen := wordsV_len fs hne
  cases ha with
  | p ha =>
  have hpos : 0 < fs.length := List.length_pos_iff.2 hne
  obtain ⟨xs, hxs⟩ : ∃ xs : List ByteArray, xs = fs.map fun s => ⟨s.toArray⟩ := ⟨_, rfl⟩
  have hxl : xs.length = fs.length := by rw [hxs, List.length_map]
  have hxj : ∀ (j : Nat) x, xs[j]? = some x → ∃ s, fs[j]? = some s ∧ x = ⟨s.toArray⟩ := by
    intro j x hx
    rw [hxs, List.getElem?_map] at hx
    cases hj : fs[j]? with
    | none => rw [hj] at hx; cases hx
    | some s => rw [hj] at hx; cases hx; exact ⟨s, rfl, rfl⟩
  have e2 : xs.map (fun x => x.data.toList) = fs := by rw [hxs]; simp [Function.comp_def]
  clear hxs
  obtain ⟨sep, hsep⟩ : ∃ sep : ByteArray, sep = ⟨[32].toArray⟩ := ⟨_, rfl⟩
  have hsl : sep.data.toList = [32] := by rw [hsep]
  have hjw : Lib.join (xs.map (fun x => x.data.toList)) sep.data.toList = wordsV fs := by rw [e2, hsl, join_words]
  rw [← hsep]
  clear hsep
  have key : ∀ (es : List (List Pd)), es = encS fs → PR F w (.sl es) a → Calls Tryd.prog 60 #[a, .string sep] w fun e w' => ∃ v, e = .returned v ∧ PR (fun _ => False) w' (.str (wordsV fs)) v ∧ Below w.heap.size w w' := by
    intro es he ha
    cases ha with
    | sl0 a cap =>
      have := congrArg List.length he
      rw [encS_len] at this
      simp at this
      omega
    | sl _ bk off cap sz row t fr hF hh hc hsz hi hp =>
      have hel : es.length = xs.length := by rw [he, encS_len, hxl]
      have hes : ∀ (j : Nat) s, fs[j]? = some s → es[j]? = some [.str s] := fun j s h => by rw [he]; simp [encS, h]
      have hsz1 : sz = 1 := by
        have h0 : fs[0]? = some (fs[0]'hpos) := List.getElem?_eq_getElem hpos
        have := hsz 0 _ (hes 0 _ h0)
        simpa using this.symm
      subst hsz1
      clear he
      have h1 : ∀ (j : Nat) x, xs[j]? = some x → w.cell? ⟨bk, off + j, none⟩ = some (.string x) := by
        intro j x hx
        obtain ⟨s, hs, rfl⟩ := hxj j x hx
        have h1 := hi j [.str s] 0 (.str s) (hes j s hs) rfl
        have h2 := hp j [.str s] 0 (.str s) (hes j s hs) rfl
        rw [Nat.mul_one, Nat.add_zero] at h1 h2
        rw [Array.getD_eq_getD_getElem?, Array.getElem?_eq_getElem h1] at h2
        have h3 : w.cell? ⟨bk, off + j, none⟩ = row[off + j]? := by simp only [World.cell?, hh]; rfl
        rw [h3, Array.getElem?_eq_getElem h1]
        simp only [Option.getD_some] at h2
        generalize row[off + j] = y at h2
        cases h2
        rfl
      rw [hel] at hc ⊢
      have h5 := Tryd.strings_Join bk off cap xs sep w h1 (hFl bk hF) (by omega) hc (by rw [hjw]; omega)
      rw [hjw] at h5
      refine h5.mono ?_
      rintro e w' ⟨rfl, hb⟩
      exact ⟨_, rfl, .str _, hb⟩
  exact key _ rfl ha

/-- The closure of proper. -/
def badR (c : Int) : Bool := if 126 < c then true else !allB (IntKind.u8.wrap c)
theorem badR_ok (c : Int) : ACalls Tryd.prog 81 [.p (.int .i32 c)] [] fun h r => h = [] ∧ r = .p (.bool (badR c)) := by
  refine ACalls_X Tryd.func81 rfl enters81 (by simp [Tryd.f81]) ?_
  by_cases h1 : 126 < c
  · simp only [go_sem, ↓reduceIte, Nat.reduceLT, Nat.reduceLeDiff, Nat.reduceEqDiff, Nat.reduceAdd, Nat.reduceMul, Nat.reduceSub, reduceCtorEq, Int.reduceLT, Int.reduceLE, Int.reduceEq, Int.reduceToNat, decide_true, decide_false, Int.reduceNeg, Int.cast_ofNat_Int, sg, AO.sg, Option.isNone_none, h1]
    simp [badR, h1]
  · simp only [go_sem, ↓reduceIte, Nat.reduceLT, Nat.reduceLeDiff, Nat.reduceEqDiff, Nat.reduceAdd, Nat.reduceMul, Nat.reduceSub, reduceCtorEq, Int.reduceLT, Int.reduceLE, Int.reduceEq, Int.reduceToNat, decide_true, decide_false, Int.reduceNeg, Int.cast_ofNat_Int, sg, AO.sg, Option.isNone_none, h1]
    refine Cc_of (allowed1_ok _) ?_
    rintro h' r ⟨rfl, rfl⟩
    simp only [go_sem, ↓reduceIte, Nat.reduceLT, Nat.reduceLeDiff, Nat.reduceEqDiff, Nat.reduceAdd, Nat.reduceMul, Nat.reduceSub, reduceCtorEq, Int.reduceLT, Int.reduceLE, Int.reduceEq, Int.reduceToNat, decide_true, decide_false, Int.reduceNeg, Int.cast_ofNat_Int, sg, AO.sg, Option.isNone_none]
    simp [badR, h1]
def badN (x : Nat) : Bool := badR (x : Int)
theorem badN_byte (b : UInt8) (h : b.toNat < 128) : badN b.toNat = !allB b.toNat := by
  unfold badN badR
  have hw : IntKind.u8.wrap (b.toNat : Int) = (b.toNat : Int) := by rw [IntKind.wrap_u8]; omega
  rw [hw]
  split
  · have : ¬ ((b.toNat : Int) ≤ 126) := by omega
    simp [allB, this]
  · rfl
theorem badN_big (x : Nat) (h : 128 ≤ x) : badN x = true := by
  unfold badN badR
  rw [if_pos (by omega)]
theorem get_bang (l : List UInt8) (i : Nat) : (⟨l.toArray⟩ : ByteArray).get! i = l.getD i 0 := by
  show l.toArray[i]! = l.getD i 0
  simp [List.getD]
  rfl
theorem idx_spec2 (l : List UInt8) : ∀ (f pos : Nat), l.length ≤ pos + f → (Lib.idxFuncFrom badN true ⟨l.toArray⟩ f pos < 0 ↔ (l.drop pos).all (fun b => allB b.toNat) = true)
  | 0, pos, h => by
    rw [List.drop_of_length_le (by omega)]
    simp [Lib.idxFuncFrom]
  | f + 1, pos, h => by
    have hsz : (⟨l.toArray⟩ : ByteArray).size = l.length := by simp [ByteArray.size]
    unfold Lib.idxFuncFrom
    rw [hsz]
    by_cases hp : pos < l.length
    · rw [if_pos hp, drop_getD l pos 0 hp]
      have hd := Lib.decode_at ⟨l.toArray⟩ pos
      rw [get_bang] at hd
      generalize hb : l.getD pos 0 = b at *
      simp only [List.all_cons]
      by_cases h8 : b.toNat < 128
      · have hd2 : Utf8.decode ⟨l.toArray⟩ pos = (b.toNat, 1) := by
          rw [hd]; unfold Lib.decodeN; rw [if_pos h8]
        rw [hd2]
        simp only [badN_byte b h8]
        cases ha : allB b.toNat
        · simp
        · have := idx_spec2 l f (pos + 1) (by omega)
          simpa using this
      · have hd2 : 128 ≤ (Utf8.decode ⟨l.toArray⟩ pos).1 := by
          rw [hd]
          rcases Lib.decodeN_shape ((⟨l.toArray⟩ : ByteArray).size - pos) b.toNat ((⟨l.toArray⟩ : ByteArray).get! (pos + 1)).toNat ((⟨l.toArray⟩ : ByteArray).get! (pos + 2)).toNat ((⟨l.toArray⟩ : ByteArray).get! (pos + 3)).toNat with h1 | h1 | h1 | h1 | h1
          · omega
          · rw [h1.2.2.2.2]; exact h1.2.2.2.1
          · rw [h1.2.2.2.2.2.2]; have := h1.2.2.2.2.1; simp only; omega
          · rw [h1.2.2.2.2.2.2.2]; have := h1.2.2.2.2.2.1; simp only; omega
          · rw [h1]; decide
        rw [badN_big _ hd2, if_pos rfl]
        have ha : allB b.toNat = false := by
          have : ¬ ((b.toNat : Int) ≤ 126) := by omega
          simp [allB, this]
        rw [ha]
        simp
    · rw [if_neg hp, List.drop_of_length_le (by omega)]
      simp
def idxP (l : List UInt8) : Int := Lib.idxFunc badN true ⟨l.toArray⟩
theorem idxP_neg (l : List UInt8) : idxP l < 0 ↔ l.all (fun b => allB b.toNat) = true := by
  have := idx_spec2 l l.length 0 (by omega)
  have hsz : (⟨l.toArray⟩ : ByteArray).size = l.length := by simp [ByteArray.size]
  unfold idxP Lib.idxFunc
  rw [hsz]
  simpa using this
theorem indexp_ok (l : List UInt8) : ACalls Tryd.prog 80 [.p (.str l), .fn 81 []] [] fun h r => h = [] ∧ r = .p (.int .i64 (idxP l)) := by
  refine ACalls_below enters80 fun vs w F M _ _ hd => ?_
  obtain ⟨a, b, rfl, ha, hb⟩ := drl_two hd
  rw [dr_str ha]
  obtain rfl : b = .func (.func 81) #[] #[] := by
    cases hb with
    | fn f cap vs hl h =>
      obtain rfl : vs = #[] := Array.eq_empty_of_size_eq_zero (by simpa using hl)
      rfl
  refine (Tryd.strings_IndexFunc_grows 81 #[] enters81 badN ⟨l.toArray⟩ w fun W x hx hb => ?_).mono ?_
  · refine Calls_bool (args := [.p (.int .i32 (x : Int))]) enters81 (badR_ok (x : Int)) fun F M => ⟨rfl, fun i d hd => ?_⟩
    cases i with
    | zero => simp only [List.getElem?_cons_zero, Option.some.injEq] at hd; subst hd; exact .p (.int _ _)
    | succ i => simp at hd
  · rintro e w' ⟨rfl, hb⟩
    exact ⟨_, rfl, .int _ _, hb⟩
/-- proper. -/
theorem proper_ok (s : List UInt8) : ACalls Tryd.prog 57 [.p (.str s)] [] fun h r => h = [] ∧ r = .p (.bool (propB s)) := by
  refine ACalls_X Tryd.func57 rfl enters57 (by simp [Tryd.f57]) ?_
  by_cases h1 : s = []
  · subst h1
    simp only [go_sem, ↓reduceIte, Nat.reduceLT, Nat.reduceLeDiff, Nat.reduceEqDiff, Nat.reduceAdd, Nat.reduceMul, Nat.reduceSub, reduceCtorEq, Int.reduceLT, Int.reduceLE, Int.reduceEq, Int.reduceToNat, decide_true, decide_false, Int.reduceNeg, Int.cast_ofNat_Int, sg, AO.sg, Option.isNone_none]
    simp [propB]
  · by_cases h2 : (s.length : Int) ≤ 12
    · simp only [go_sem, ↓reduceIte, Nat.reduceLT, Nat.reduceLeDiff, Nat.reduceEqDiff, Nat.reduceAdd, Nat.reduceMul, Nat.reduceSub, reduceCtorEq, Int.reduceLT, Int.reduceLE, Int.reduceEq, Int.reduceToNat, decide_true, decide_false, Int.reduceNeg, Int.cast_ofNat_Int, sg, AO.sg, Option.isNone_none, h1, h2]
      refine Cc_of (indexp_ok s) ?_
      rintro h' r ⟨rfl, rfl⟩
      simp only [go_sem, ↓reduceIte, Nat.reduceLT, Nat.reduceLeDiff, Nat.reduceEqDiff, Nat.reduceAdd, Nat.reduceMul, Nat.reduceSub, reduceCtorEq, Int.reduceLT, Int.reduceLE, Int.reduceEq, Int.reduceToNat, decide_true, decide_false, Int.reduceNeg, Int.cast_ofNat_Int, sg, AO.sg, Option.isNone_none]
      have h2' : s.length ≤ 12 := by omega
      have := idxP_neg s
      simp only [propB, h1, h2', ne_eq, not_false_eq_true, decide_true, Bool.true_and]
      by_cases h3 : idxP s < 0
      · simp [h3, this.1 h3]
      · have h4 : (s.all fun b => allB b.toNat) = false := by
          cases h5 : s.all fun b => allB b.toNat
          · rfl
          · exact (h3 (this.2 h5)).elim
        simp [h3, h4]
    · have h2' : ¬ s.length ≤ 12 := by omega
      simp only [go_sem, ↓reduceIte, Nat.reduceLT, Nat.reduceLeDiff, Nat.reduceEqDiff, Nat.reduceAdd, Nat.reduceMul, Nat.reduceSub, reduceCtorEq, Int.reduceLT, Int.reduceLE, Int.reduceEq, Int.reduceToNat, decide_true, decide_false, Int.reduceNeg, Int.cast_ofNat_Int, sg, AO.sg, Option.isNone_none, h1, h2]
      simp [propB, h2']
end Go.Am
