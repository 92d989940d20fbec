/- FieldsWords, as a contract. -/
import Derived.Test.YtefdjkakojfhnaaDoorDigv
namespace Go.Am
open Go Go.Proofs
set_option maxRecDepth 100000
set_option linter.unusedVariables false
set_option linter.unusedSimpArgs false
/-- A region that draws its order, the state said otherwise ahead of it. -/
theorem X_anyW {P : Program} {l : List Oper} {id : Nat} {p : List (Nat × Nat)} {k : Kt} {st st1 : St} (hw : Wk st st1) (hR : Hp) (hm : P.follows .mixedOrders = true) (hB : planB l p = true) (hle : LeH st1.hp hR) (h : G P l hR p k st1) : X P (.region id l.toArray true) k st := by
  refine .inr ⟨rfl, fun c a w F0 M0 hr0 => ?_⟩
  obtain ⟨F, M, hr⟩ := hw c a w F0 M0 hr0
  obtain ⟨hnd, hl, hi⟩ := planB_inv hB
  refine wp_region_any hm ?_
  have hr2 : Rel c st1 a { w with drawn := w.drawn + 1 } F M := hr.drew
  have := Gp_any (P := P) (l := l) (hR := hR) (Shut.of (k.sem P .normal)) (c := c) (Q := QC c (k.sem P)) (fun a w ⟨s, F, M, ⟨s', he, hk⟩, hr⟩ => ⟨s', F, M, hk, hr.eqv he⟩) l.length hl hnd hr2
    (Gp_mono (fun s hs => ⟨s, Eqv.refl s, hs⟩) p h) (fun _ => hle) hi
  simpa using this
def wsigns : List UInt8 := [48, 49, 57, 48, 45, 97, 122, 95]
theorem fieldsWords_ok (s : List UInt8) (l : List Int) : ACalls Tryd.prog 4 [.p (.str s), .p (.sl (encI l))] [] fun h r => h = [] ∧ r = .p (.bool true) := by
  refine ACalls_X Tryd.func4 rfl enters4 (by simp [Tryd.f4]) ?_
  simp only [go_sem, ↓reduceIte, Nat.reduceLT, Nat.reduceLeDiff, Nat.reduceEqDiff, Nat.reduceAdd, Nat.reduceMul, Nat.reduceSub, reduceCtorEq, Int.reduceLT, Int.reduceLE, Int.reduceEq, Int.reduceToNat, decide_true, decide_false, Int.reduceNeg, Int.cast_ofNat_Int, sg, AO.sg, Option.isNone_none]
  refine Cc_of known1_ok ?_
  rintro h' r ⟨rfl, rfl⟩
  simp only [go_sem, ↓reduceIte, Nat.reduceLT, Nat.reduceLeDiff, Nat.reduceEqDiff, Nat.reduceAdd, Nat.reduceMul, Nat.reduceSub, reduceCtorEq, Int.reduceLT, Int.reduceLE, Int.reduceEq, Int.reduceToNat, decide_true, decide_false, Int.reduceNeg, Int.cast_ofNat_Int, sg, AO.sg, Option.isNone_none]
  refine Cc_of (next_ok l 0 15 (by omega) (in64_small _ (by omega) (by omega))) ?_
  rintro h' r ⟨rfl, rfl⟩
  obtain ⟨k0, hk0, hk15⟩ := nextV_rng l 0 15 (by omega)
  simp only [go_sem, ↓reduceIte, Nat.reduceLT, Nat.reduceLeDiff, Nat.reduceEqDiff, Nat.reduceAdd, Nat.reduceMul, Nat.reduceSub, reduceCtorEq, Int.reduceLT, Int.reduceLE, Int.reduceEq, Int.reduceToNat, decide_true, decide_false, Int.reduceNeg, Int.cast_ofNat_Int, sg, AO.sg, Option.isNone_none, tapeC, hk0]
  refine X_loop_inv (fun q : Nat × Nat × List UInt8 => ⟨[(0, .p (.str s)), (5, .ptr 18 0), (6, .ref 30 0 q.2.2.length q.2.2.length), (7, .p (.int .i64 (q.1 : Nat)))],
      [(18, .box [.p (.sl (encI l)), .p (.int .i64 (q.2.1 : Nat))]), (30, .arr 5 1 (encB q.2.2))], 80⟩)
    (fun q => q.1 ≤ 15 ∧ q.2.1 ≤ 20 - q.1 ∧ q.2.2.length ≤ 15 - q.1) (fun q => q.1) (k0, 1, []) ⟨by simp only; omega, by simp only; omega, by simp⟩
    ((Wk.nil (t := 6) (q := 30) (sz := 1) 5 rfl rfl (by decide)).trans (Wk.forget (by simp [Le, LeE, LeH, get, envIds, hpIds, KeepH, D.ids, idsL, AO.ids, setL, base, encB]))) ?_
  rintro ⟨k, at_, acc⟩ n ⟨hk, hat, hacc⟩ ih
  simp only at hk hat hacc
  simp only [go_sem, ↓reduceIte, Nat.reduceLT, Nat.reduceLeDiff, Nat.reduceEqDiff, Nat.reduceAdd, Nat.reduceMul, Nat.reduceSub, reduceCtorEq, Int.reduceLT, Int.reduceLE, Int.reduceEq, Int.reduceToNat, decide_true, decide_false, Int.reduceNeg, Int.cast_ofNat_Int, sg, AO.sg, Option.isNone_none]
  refine Cn_split (fun h2 => ?_) (fun h2 => ?_)
  · have hk1 : 1 ≤ k := by simp at h2; omega
    obtain ⟨k, rfl⟩ : ∃ j, k = j + 1 := ⟨k - 1, by omega⟩
    obtain ⟨u, hu, hu8⟩ := nextV_rng l at_ 8 (by omega)
    have hu0 : (0 : Int) ≤ (u : Int) ∧ (u : Int) < 8 := by omega
    have hwk : IntKind.i64.wrap (((k + 1 : Nat) : Int) - 1) = (k : Int) := by rw [wrap_i64_id] <;> omega
    simp only [go_sem, ↓reduceIte, Nat.reduceLT, Nat.reduceLeDiff, Nat.reduceEqDiff, Nat.reduceAdd, Nat.reduceMul, Nat.reduceSub, reduceCtorEq, Int.reduceLT, Int.reduceLE, Int.reduceEq, Int.reduceToNat, decide_true, decide_false, Int.reduceNeg, Int.cast_ofNat_Int, sg, AO.sg, Option.isNone_none]
    refine Cc_of (next_ok l at_ 8 (by omega) (in64_small _ (by omega) (by omega))) ?_
    rintro h' r ⟨rfl, rfl⟩
    simp only [go_sem, ↓reduceIte, Nat.reduceLT, Nat.reduceLeDiff, Nat.reduceEqDiff, Nat.reduceAdd, Nat.reduceMul, Nat.reduceSub, reduceCtorEq, Int.reduceLT, Int.reduceLE, Int.reduceEq, Int.reduceToNat, decide_true, decide_false, Int.reduceNeg, Int.cast_ofNat_Int, sg, AO.sg, Option.isNone_none, tapeC, hu, hu0, Int.toNat_natCast, encB_len, hwk]
    generalize ([48, 49, 57, 48, 45, 97, 122, 95] : List UInt8).getD u 0 = b
    refine ⟨⟨wid1 _ _ rfl, by omega⟩, ?_⟩
    refine ih (k, at_ + 1, acc ++ [b]) _ ⟨by simp only; omega, by simp only; omega, by simp; omega⟩ (by simp only; omega) ?_
    (refine Wk.forget ?_; simp [Le, LeE, LeH, get, envIds, hpIds, KeepH, D.ids, idsL, AO.ids, setL, base, encB_snoc, encB_len]; done)
  · simp only [go_sem, ↓reduceIte, Nat.reduceLT, Nat.reduceLeDiff, Nat.reduceEqDiff, Nat.reduceAdd, Nat.reduceMul, Nat.reduceSub, reduceCtorEq, Int.reduceLT, Int.reduceLE, Int.reduceEq, Int.reduceToNat, decide_true, decide_false, Int.reduceNeg, Int.cast_ofNat_Int, sg, AO.sg, Option.isNone_none]
    obtain ⟨v, hv, hv3⟩ := nextV_rng l at_ 30000 (by omega)
    have hwv : IntKind.i64.wrap ((v : Int) - 15000) = (v : Int) - 15000 := by rw [wrap_i64_id] <;> omega
    refine X_anyW (Wk.pure (t := 6) (id := 30) (sz := 1) (e := 5) (es := encB acc) (by rw [encB_len]; rfl) rfl) [] mixed (p := [(0, 0), (1, 0), (2, 0), (3, 0), (4, 2), (5, 0), (6, 2), (7, 1), (8, 0)]) (by kernel_rfl) (by simp [LeH, get]) ?_
    simp only [go_sem, ↓reduceIte, Nat.reduceLT, Nat.reduceLeDiff, Nat.reduceEqDiff, Nat.reduceAdd, Nat.reduceMul, Nat.reduceSub, reduceCtorEq, Int.reduceLT, Int.reduceLE, Int.reduceEq, Int.reduceToNat, decide_true, decide_false, Int.reduceNeg, Int.cast_ofNat_Int, sg, AO.sg, Option.isNone_none]
    refine Gh_of (next_ok l at_ 30000 (by omega) (in64_small _ (by omega) (by omega))) ?_
    rintro h' r ⟨rfl, rfl⟩
    simp only [go_sem, ↓reduceIte, Nat.reduceLT, Nat.reduceLeDiff, Nat.reduceEqDiff, Nat.reduceAdd, Nat.reduceMul, Nat.reduceSub, reduceCtorEq, Int.reduceLT, Int.reduceLE, Int.reduceEq, Int.reduceToNat, decide_true, decide_false, Int.reduceNeg, Int.cast_ofNat_Int, sg, AO.sg, Option.isNone_none, tapeC, hv, hwv]
    refine Gh_of (digits_ok ((v : Int) - 15000) (by omega) (by omega)) ?_
    rintro h' r ⟨rfl, rfl⟩
    generalize digV ((v : Int) - 15000) = dg
    simp only [go_sem, ↓reduceIte, Nat.reduceLT, Nat.reduceLeDiff, Nat.reduceEqDiff, Nat.reduceAdd, Nat.reduceMul, Nat.reduceSub, reduceCtorEq, Int.reduceLT, Int.reduceLE, Int.reduceEq, Int.reduceToNat, decide_true, decide_false, Int.reduceNeg, Int.cast_ofNat_Int, sg, AO.sg, Option.isNone_none]
    refine X_loop_inv (fun i : Nat => ⟨[(8, .p (.sl (encS [s, acc, dg]))), (9, .p (.int .i64 (i : Nat)))], [], 80⟩) (fun i => i ≤ 3) (fun i => 3 - i) 0 (by omega)
      ((Wk.pure (t := 8) (id := 38) (sz := 1) (e := 9) (es := encS [s, acc, dg]) rfl rfl).trans (Wk.forget (by simp [Le, LeE, LeH, get, envIds, hpIds, KeepH, D.ids, idsL, AO.ids, setL, base]))) ?_
    intro i n hi ih
    simp only [go_sem, ↓reduceIte, Nat.reduceLT, Nat.reduceLeDiff, Nat.reduceEqDiff, Nat.reduceAdd, Nat.reduceMul, Nat.reduceSub, reduceCtorEq, Int.reduceLT, Int.reduceLE, Int.reduceEq, Int.reduceToNat, decide_true, decide_false, Int.reduceNeg, Int.cast_ofNat_Int, sg, AO.sg, Option.isNone_none]
    refine Cn_split (fun h3 => ?_) (fun h3 => ?_)
    · have hi3 : i < 3 := by simp at h3; omega
      obtain ⟨w, hw⟩ : ∃ w, (encS [s, acc, dg]).getD i [] = [.str w] := ⟨_, encS_get _ i (by simpa using hi3)⟩
      have hi0 : (0 : Int) ≤ (i : Int) := by omega
      have hil : (i : Int) < 3 := by omega
      have hil2 : (i : Int) < ((3 : Nat) : Int) := by omega
      simp only [go_sem, ↓reduceIte, Nat.reduceLT, Nat.reduceLeDiff, Nat.reduceEqDiff, Nat.reduceAdd, Nat.reduceMul, Nat.reduceSub, reduceCtorEq, Int.reduceLT, Int.reduceLE, Int.reduceEq, Int.reduceToNat, decide_true, decide_false, Int.reduceNeg, Int.cast_ofNat_Int, sg, AO.sg, Option.isNone_none, encS_len, Int.toNat_natCast, hw, hi0, hil, hil2]
      refine Cc_of (number1_ok w) ?_
      rintro h' r ⟨rfl, rfl⟩
      simp only [go_sem, ↓reduceIte, Nat.reduceLT, Nat.reduceLeDiff, Nat.reduceEqDiff, Nat.reduceAdd, Nat.reduceMul, Nat.reduceSub, reduceCtorEq, Int.reduceLT, Int.reduceLE, Int.reduceEq, Int.reduceToNat, decide_true, decide_false, Int.reduceNeg, Int.cast_ofNat_Int, sg, AO.sg, Option.isNone_none, encS_len, Int.toNat_natCast, hw, hi0, hil, hil2]
      refine Cc_of (number2_ok w) ?_
      rintro h' r ⟨rfl, rfl⟩
      simp only [go_sem, ↓reduceIte, Nat.reduceLT, Nat.reduceLeDiff, Nat.reduceEqDiff, Nat.reduceAdd, Nat.reduceMul, Nat.reduceSub, reduceCtorEq, Int.reduceLT, Int.reduceLE, Int.reduceEq, Int.reduceToNat, decide_true, decide_false, Int.reduceNeg, Int.cast_ofNat_Int, sg, AO.sg, Option.isNone_none]
      refine X_any0 mixed (p := [(0, 0), (1, 0), (2, 0), (3, 0), (4, 0), (5, 0), (6, 0), (7, 0), (8, 0), (9, 0), (10, 0), (11, 0), (12, 0), (14, 0), (15, 0), (16, 0), (17, 0), (13, 2), (18, 2), (19, 0), (20, 0)]) (by kernel_rfl) (by simp [LeH, get]) ?_
      simp only [go_sem, ↓reduceIte, Nat.reduceLT, Nat.reduceLeDiff, Nat.reduceEqDiff, Nat.reduceAdd, Nat.reduceMul, Nat.reduceSub, reduceCtorEq, Int.reduceLT, Int.reduceLE, Int.reduceEq, Int.reduceToNat, decide_true, decide_false, Int.reduceNeg, Int.cast_ofNat_Int, sg, AO.sg, Option.isNone_none, encS_len, Int.toNat_natCast, hw, hi0, hil, hil2]
      refine Gh_of (name1_ok w) ?_
      rintro h' r ⟨rfl, rfl⟩
      simp only [go_sem, ↓reduceIte, Nat.reduceLT, Nat.reduceLeDiff, Nat.reduceEqDiff, Nat.reduceAdd, Nat.reduceMul, Nat.reduceSub, reduceCtorEq, Int.reduceLT, Int.reduceLE, Int.reduceEq, Int.reduceToNat, decide_true, decide_false, Int.reduceNeg, Int.cast_ofNat_Int, sg, AO.sg, Option.isNone_none, encS_len, Int.toNat_natCast, hw, hi0, hil, hil2]
      refine Gh_of (name2_ok w) ?_
      rintro h' r ⟨rfl, rfl⟩
      simp only [go_sem, ↓reduceIte, Nat.reduceLT, Nat.reduceLeDiff, Nat.reduceEqDiff, Nat.reduceAdd, Nat.reduceMul, Nat.reduceSub, reduceCtorEq, Int.reduceLT, Int.reduceLE, Int.reduceEq, Int.reduceToNat, decide_true, decide_false, Int.reduceNeg, Int.cast_ofNat_Int, sg, AO.sg, Option.isNone_none, wrap_succ i (by omega)]
      refine ih (i + 1) _ (by omega) (by omega) (Wk.forget (by simp [Le, LeE, LeH, get, envIds, hpIds, KeepH, D.ids, idsL, AO.ids, setL, base]))
    · simp only [go_sem, ↓reduceIte, Nat.reduceLT, Nat.reduceLeDiff, Nat.reduceEqDiff, Nat.reduceAdd, Nat.reduceMul, Nat.reduceSub, reduceCtorEq, Int.reduceLT, Int.reduceLE, Int.reduceEq, Int.reduceToNat, decide_true, decide_false, Int.reduceNeg, Int.cast_ofNat_Int, sg, AO.sg, Option.isNone_none]
end Go.Am
