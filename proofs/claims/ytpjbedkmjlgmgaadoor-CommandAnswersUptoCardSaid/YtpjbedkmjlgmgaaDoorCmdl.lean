/- The laws of commands, as contracts beside the table. -/
import Derived.Test.YtpjbedkmjlgmgaaDoorCmdg
namespace Go.Am
open Go Go.Proofs
set_option maxRecDepth 100000
set_option linter.unusedVariables false
set_option linter.unusedSimpArgs false
def wrdL : List (List UInt8) := [[116, 97, 115, 107], [99, 97, 110, 99, 101, 108], [99, 108, 111, 115, 101], [111, 112, 101, 110], [97, 100, 100], [114, 101, 109, 111, 118, 101], [115, 116, 97, 116, 117, 115], [98, 108, 111, 99, 107], [102, 108, 101, 101, 116], [113, 117, 101, 117, 101], [116, 97, 115, 107, 115], [35]]
def prtL : List (List UInt8) := [[97], [115, 49], [98, 45, 50], [48], [49, 55], [45, 49], [57, 57, 57, 57], [48, 49], [97, 33], [10]]
def txG (l : List Int) : Nat → Nat → List UInt8 → List UInt8
  | 0, _, s => s
  | k + 1, a, s => txG l k (a + 1) (s ++ 32 :: prtL.getD (nextV l a 10).toNat [])
def textK (l : List Int) : List UInt8 := txG l (nextV l 1 3).toNat 2 (wrdL.getD (nextV l 0 12).toNat [])
theorem wrd_len (k : Nat) : (wrdL.getD k []).length ≤ 10 := by
  by_cases h : k < 12
  · have : ∀ k : Fin 12, (wrdL.getD k.val []).length ≤ 10 := by decide
    exact this ⟨k, h⟩
  · rw [List.getD_eq_getElem?_getD, List.getElem?_eq_none (by show 12 ≤ k; omega)]; simp
theorem prt_len (k : Nat) : (prtL.getD k []).length ≤ 10 := by
  by_cases h : k < 10
  · have : ∀ k : Fin 10, (prtL.getD k.val []).length ≤ 10 := by decide
    exact this ⟨k, h⟩
  · rw [List.getD_eq_getElem?_getD, List.getElem?_eq_none (by show 10 ≤ k; omega)]; simp
theorem textk_ok (l : List Int) : ACalls Tryd.prog 8 [.p (.sl (encI l))] [] fun h r => h = [] ∧ r = .p (.str (textK l)) := by
  refine ACalls_X Tryd.func8 rfl enters8 (by simp [Tryd.f8]) ?_
  simp only [go_sem, ↓reduceIte, Nat.reduceLT, Nat.reduceLeDiff, Nat.reduceEqDiff, Nat.reduceAdd, Nat.reduceMul, Nat.reduceSub, reduceCtorEq, Int.reduceLT, Int.reduceLE, Int.reduceEq, Int.reduceToNat, decide_true, decide_false, Int.reduceNeg, Int.cast_ofNat_Int, sg, AO.sg, Option.isNone_none]
  refine Cc_of ((next_ok l 0 12 (by omega) (in64_small _ (by omega) (by omega)))) ?_
  rintro h' r ⟨rfl, rfl⟩
  obtain ⟨w, hw, hw12⟩ := nextV_rng l 0 12 (by omega)
  obtain ⟨k0, hk0, hk3⟩ := nextV_rng l 1 3 (by omega)
  have hw0 : (0 : Int) ≤ (w : Int) ∧ (w : Int) < 12 := by omega
  have hgw : ([[.str [116, 97, 115, 107]], [.str [99, 97, 110, 99, 101, 108]], [.str [99, 108, 111, 115, 101]], [.str [111, 112, 101, 110]], [.str [97, 100, 100]], [.str [114, 101, 109, 111, 118, 101]], [.str [115, 116, 97, 116, 117, 115]], [.str [98, 108, 111, 99, 107]], [.str [102, 108, 101, 101, 116]], [.str [113, 117, 101, 117, 101]], [.str [116, 97, 115, 107, 115]], [.str [35]]] : List (List Pd)).getD w [] = [.str (wrdL.getD w [])] := encS_get wrdL w (by show w < 12; omega)
  have hwl := wrd_len w
  have htx : textK l = txG l k0 2 (wrdL.getD w []) := by unfold textK; rw [hw, hk0]; rfl
  rw [htx]
  simp only [go_sem, ↓reduceIte, Nat.reduceLT, Nat.reduceLeDiff, Nat.reduceEqDiff, Nat.reduceAdd, Nat.reduceMul, Nat.reduceSub, reduceCtorEq, Int.reduceLT, Int.reduceLE, Int.reduceEq, Int.reduceToNat, decide_true, decide_false, Int.reduceNeg, Int.cast_ofNat_Int, sg, AO.sg, Option.isNone_none, tapeC, hw, hw0, hgw, Int.toNat_natCast]
  refine Cc_of ((next_ok l 1 3 (by omega) (in64_small _ (by omega) (by omega)))) ?_
  rintro h' r ⟨rfl, rfl⟩
  simp only [go_sem, ↓reduceIte, Nat.reduceLT, Nat.reduceLeDiff, Nat.reduceEqDiff, Nat.reduceAdd, Nat.reduceMul, Nat.reduceSub, reduceCtorEq, Int.reduceLT, Int.reduceLE, Int.reduceEq, Int.reduceToNat, decide_true, decide_false, Int.reduceNeg, Int.cast_ofNat_Int, sg, AO.sg, Option.isNone_none, tapeC, hk0]
  refine X_loop_inv (fun q : Nat × Nat × List UInt8 => ⟨[(3, .ptr 10 0), (5, .ref 12 0 10 10), (6, .p (.str q.2.2)), (7, .p (.int .i64 (q.1 : Nat)))],
      [(10, .box [.p (.sl (encI l)), .p (.int .i64 (q.2.1 : Nat))]), (12, .arr 9 1 (encS prtL))], 37⟩)
    (fun q => q.1 ≤ 3 ∧ q.2.1 ≤ 5 ∧ q.2.1 + q.1 ≤ 5 ∧ q.2.2.length ≤ 100 * (5 - q.1) ∧ txG l q.1 q.2.1 q.2.2 = txG l k0 2 (wrdL.getD w [])) (fun q => q.1) (k0, 2, wrdL.getD w []) ⟨by simp only; omega, by simp only; omega, by simp only; omega, by simp only; omega, rfl⟩ (Wk.forget (by simp [Le, LeE, LeH, get, envIds, hpIds, KeepH, D.ids, idsL, AO.ids, setL, base, encS, prtL])) ?_
  rintro ⟨k, a, s⟩ n ⟨hk, ha, hak, hs, he⟩ ih
  simp only at hk ha hak hs he
  simp only [go_sem, ↓reduceIte, Nat.reduceLT, Nat.reduceLeDiff, Nat.reduceEqDiff, Nat.reduceAdd, Nat.reduceMul, Nat.reduceSub, reduceCtorEq, Int.reduceLT, Int.reduceLE, Int.reduceEq, Int.reduceToNat, decide_true, decide_false, Int.reduceNeg, Int.cast_ofNat_Int, sg, AO.sg, Option.isNone_none]
  refine Cn_split (fun h2 => ?_) (fun h2 => ?_)
  · have hk1 : 1 ≤ k := by simp at h2; omega
    obtain ⟨k, rfl⟩ : ∃ i, k = i + 1 := ⟨k - 1, by omega⟩
    simp only [txG] at he
    obtain ⟨u, hu, hu10⟩ := nextV_rng l a 10 (by omega)
    rw [hu, Int.toNat_natCast] at he
    have hu0 : (0 : Int) ≤ (u : Int) ∧ (u : Int) < 10 := by omega
    have hgu := encS_get prtL u (by show u < 10; omega)
    have hpl : (encS prtL).length = 10 := rfl
    have hul := prt_len u
    have hwk : IntKind.i64.wrap (((k + 1 : Nat) : Int) - 1) = (k : Int) := by rw [wrap_i64_id] <;> omega
    simp only [go_sem, ↓reduceIte, Nat.reduceLT, Nat.reduceLeDiff, Nat.reduceEqDiff, Nat.reduceAdd, Nat.reduceMul, Nat.reduceSub, reduceCtorEq, Int.reduceLT, Int.reduceLE, Int.reduceEq, Int.reduceToNat, decide_true, decide_false, Int.reduceNeg, Int.cast_ofNat_Int, sg, AO.sg, Option.isNone_none, hpl]
    refine Cc_of ((next_ok l a 10 (by omega) (in64_small _ (by omega) (by omega)))) ?_
    rintro h' r ⟨rfl, rfl⟩
    simp only [go_sem, ↓reduceIte, Nat.reduceLT, Nat.reduceLeDiff, Nat.reduceEqDiff, Nat.reduceAdd, Nat.reduceMul, Nat.reduceSub, reduceCtorEq, Int.reduceLT, Int.reduceLE, Int.reduceEq, Int.reduceToNat, decide_true, decide_false, Int.reduceNeg, Int.cast_ofNat_Int, sg, AO.sg, Option.isNone_none, tapeC, hu, hu0, hgu, hpl, Int.toNat_natCast, hwk]
    refine ⟨by unfold maxLen; first | omega | (simp only [List.length_append, List.length_cons, List.length_nil]; omega), by unfold maxLen; first | omega | (simp only [List.length_append, List.length_cons, List.length_nil]; omega), ?_⟩
    refine ih (k, a + 1, s ++ 32 :: prtL.getD u []) _ ⟨by simp only; omega, by simp only; omega, by simp only; omega, by simp only [List.length_append, List.length_cons]; omega, he⟩ (by simp only; omega) (Wk.forget (by simp [Le, LeE, LeH, get, envIds, hpIds, KeepH, D.ids, idsL, AO.ids, setL, base]))
  · have hk1 : k = 0 := by simp at h2; omega
    subst hk1
    simp only [txG] at he
    simp only [go_sem, ↓reduceIte, Nat.reduceLT, Nat.reduceLeDiff, Nat.reduceEqDiff, Nat.reduceAdd, Nat.reduceMul, Nat.reduceSub, reduceCtorEq, Int.reduceLT, Int.reduceLE, Int.reduceEq, Int.reduceToNat, decide_true, decide_false, Int.reduceNeg, Int.cast_ofNat_Int, sg, AO.sg, Option.isNone_none]
    rw [he]
def kn1 : List UInt8 := [116, 97, 115, 107, 32, 97, 32, 98, 32, 35, 32, 110, 111, 119]
def kn2 : List UInt8 := [99, 97, 110, 99, 101, 108, 32, 45, 49]
theorem cs_self (x : Cd) : (decide (x.kind = x.kind) && (decide (x.a = x.a) && (decide (x.b = x.b) && decide (x.n = x.n)))) = true := by simp
theorem cmdV_small (t : List UInt8) : smallC2 (cmdV t) := by
  by_cases hk : (cmdV t).kind = 0
  · rw [cmdV_zero hk]; simp [smallC2, cd0]
  · obtain ⟨j, h1, h2, h3, h4, h5, h6, h7, h8⟩ := cmdV_inv rfl hk
    have hs := fK_small j
    generalize (fK j).na = na at *
    generalize (fK j).nu = nu at *
    generalize cmdV t = c at *
    have hn : 0 ≤ c.n ∧ c.n ≤ 9999 := by
      by_cases h : nu = 0
      · rw [h5 h]; omega
      · exact h6 h
    have hp : ∀ s, nameB s = true → s.length ≤ 12 := fun s h => (propB_iff.1 (nameB_prop h)).2.1
    refine ⟨?_, ?_, by omega, by omega⟩
    · rcases take_two_cases na hs.1 with rfl | rfl | rfl
      · rw [h7 rfl]; simp
      · have := hp _ (h4 c.a (by simp)); omega
      · have := hp _ (h4 c.a (by simp)); omega
    · rcases take_two_cases na hs.1 with rfl | rfl | rfl
      · rw [h8 (by omega)]; simp
      · rw [h8 (by omega)]; simp
      · have := hp _ (h4 c.b (by simp)); omega
theorem knownk_ok : ACalls Tryd.prog 7 [] [(1000000, (.glob 0 tabCs))] fun h r => h = [(1000000, (.glob 0 tabCs))] ∧ r = .p (.bool true) := by
  refine ACalls_X Tryd.func7 rfl enters7 (by simp [Tryd.f7]) ?_
  have k1 := cmdp_ok kn1
  rw [show cmdV kn1 = ⟨1, [97], [98], 0⟩ by decide +kernel] at k1
  have k2 := cmdp_ok kn2
  rw [show cmdV kn2 = ⟨0, [], [], 0⟩ by decide +kernel] at k2
  have k3 := ans1_ok 1 3
  have e3 : ansV 1 3 = ([111, 107, 32, 51], 0) := by
    have h : digV 3 = [51] := by unfold digV; rw [if_neg (by decide)]; exact digN_small 3 (by decide)
    simp [ansV, ansT, ansW, h]
  rw [e3] at k3
  simp only [go_sem, ↓reduceIte, Nat.reduceLT, Nat.reduceLeDiff, Nat.reduceEqDiff, Nat.reduceAdd, Nat.reduceMul, Nat.reduceSub, reduceCtorEq, Int.reduceLT, Int.reduceLE, Int.reduceEq, Int.reduceToNat, decide_true, decide_false, Int.reduceNeg, Int.cast_ofNat_Int, sg, AO.sg, Option.isNone_none]
  refine Cc_of ((k1).glob (id := 1000000) (by decide) rfl (by simp [idsL, D.ids, hpIds]) (fun h1 r hr => by rw [hr.1]; rfl)) ?_
  rintro h' r ⟨_, ⟨rfl, rfl⟩, rfl⟩
  simp only [go_sem, ↓reduceIte, Nat.reduceLT, Nat.reduceLeDiff, Nat.reduceEqDiff, Nat.reduceAdd, Nat.reduceMul, Nat.reduceSub, reduceCtorEq, Int.reduceLT, Int.reduceLE, Int.reduceEq, Int.reduceToNat, decide_true, decide_false, Int.reduceNeg, Int.cast_ofNat_Int, sg, AO.sg, Option.isNone_none, Cd.cs]
  refine Cc_of k3 ?_
  rintro h' r ⟨rfl, rfl⟩
  simp only [go_sem, ↓reduceIte, Nat.reduceLT, Nat.reduceLeDiff, Nat.reduceEqDiff, Nat.reduceAdd, Nat.reduceMul, Nat.reduceSub, reduceCtorEq, Int.reduceLT, Int.reduceLE, Int.reduceEq, Int.reduceToNat, decide_true, decide_false, Int.reduceNeg, Int.cast_ofNat_Int, sg, AO.sg, Option.isNone_none, ansR]
  refine Cc_of ((k2).glob (id := 1000000) (by decide) rfl (by simp [idsL, D.ids, hpIds]) (fun h1 r hr => by rw [hr.1]; rfl)) ?_
  rintro h' r ⟨_, ⟨rfl, rfl⟩, rfl⟩
  simp only [go_sem, ↓reduceIte, Nat.reduceLT, Nat.reduceLeDiff, Nat.reduceEqDiff, Nat.reduceAdd, Nat.reduceMul, Nat.reduceSub, reduceCtorEq, Int.reduceLT, Int.reduceLE, Int.reduceEq, Int.reduceToNat, decide_true, decide_false, Int.reduceNeg, Int.cast_ofNat_Int, sg, AO.sg, Option.isNone_none, Cd.cs]
theorem commandParses_ok (raw : List UInt8) (l : List Int) : ACalls Tryd.prog 3 [.p (.str raw), .p (.sl (encI l))] [(1000000, (.glob 0 tabCs))] fun h r => h = [(1000000, (.glob 0 tabCs))] ∧ r = .p (.bool true) := by
  have hs1 := cs_self (cmdV raw)
  have hs2 := cs_self (cmdV (textK l))
  refine ACalls_X Tryd.func3 rfl enters3 (by simp [Tryd.f3]) ?_
  simp only [go_sem, ↓reduceIte, Nat.reduceLT, Nat.reduceLeDiff, Nat.reduceEqDiff, Nat.reduceAdd, Nat.reduceMul, Nat.reduceSub, reduceCtorEq, Int.reduceLT, Int.reduceLE, Int.reduceEq, Int.reduceToNat, decide_true, decide_false, Int.reduceNeg, Int.cast_ofNat_Int, sg, AO.sg, Option.isNone_none]
  refine Cc_of knownk_ok ?_
  rintro h' r ⟨rfl, rfl⟩
  simp only [go_sem, ↓reduceIte, Nat.reduceLT, Nat.reduceLeDiff, Nat.reduceEqDiff, Nat.reduceAdd, Nat.reduceMul, Nat.reduceSub, reduceCtorEq, Int.reduceLT, Int.reduceLE, Int.reduceEq, Int.reduceToNat, decide_true, decide_false, Int.reduceNeg, Int.cast_ofNat_Int, sg, AO.sg, Option.isNone_none]
  refine Cc_of ((textk_ok l).glob (id := 1000000) (by decide) rfl (by simp [idsL, D.ids, hpIds]) (fun h1 r hr => by rw [hr.1]; rfl)) ?_
  rintro h' r ⟨_, ⟨rfl, rfl⟩, rfl⟩
  simp only [go_sem, ↓reduceIte, Nat.reduceLT, Nat.reduceLeDiff, Nat.reduceEqDiff, Nat.reduceAdd, Nat.reduceMul, Nat.reduceSub, reduceCtorEq, Int.reduceLT, Int.reduceLE, Int.reduceEq, Int.reduceToNat, decide_true, decide_false, Int.reduceNeg, Int.cast_ofNat_Int, sg, AO.sg, Option.isNone_none]
  refine Cc_of ((cmdp_ok raw).glob (id := 1000000) (by decide) rfl (by simp [idsL, D.ids, hpIds, Cd.cs]) (fun h1 r hr => by rw [hr.1]; rfl)) ?_
  rintro h' r ⟨_, ⟨rfl, rfl⟩, rfl⟩
  simp only [go_sem, ↓reduceIte, Nat.reduceLT, Nat.reduceLeDiff, Nat.reduceEqDiff, Nat.reduceAdd, Nat.reduceMul, Nat.reduceSub, reduceCtorEq, Int.reduceLT, Int.reduceLE, Int.reduceEq, Int.reduceToNat, decide_true, decide_false, Int.reduceNeg, Int.cast_ofNat_Int, sg, AO.sg, Option.isNone_none]
  refine Cc_of ((cmdr_ok raw).glob (id := 1000000) (by decide) rfl (by simp [idsL, D.ids, hpIds, Cd.cs]) (fun h1 r hr => by rw [hr.1]; rfl)) ?_
  rintro h' r ⟨_, ⟨rfl, rfl⟩, rfl⟩
  simp only [go_sem, ↓reduceIte, Nat.reduceLT, Nat.reduceLeDiff, Nat.reduceEqDiff, Nat.reduceAdd, Nat.reduceMul, Nat.reduceSub, reduceCtorEq, Int.reduceLT, Int.reduceLE, Int.reduceEq, Int.reduceToNat, decide_true, decide_false, Int.reduceNeg, Int.cast_ofNat_Int, sg, AO.sg, Option.isNone_none, Cd.cs, hs1]
  refine Cc_of ((cmdp_ok (textK l)).glob (id := 1000000) (by decide) rfl (by simp [idsL, D.ids, hpIds, Cd.cs]) (fun h1 r hr => by rw [hr.1]; rfl)) ?_
  rintro h' r ⟨_, ⟨rfl, rfl⟩, rfl⟩
  simp only [go_sem, ↓reduceIte, Nat.reduceLT, Nat.reduceLeDiff, Nat.reduceEqDiff, Nat.reduceAdd, Nat.reduceMul, Nat.reduceSub, reduceCtorEq, Int.reduceLT, Int.reduceLE, Int.reduceEq, Int.reduceToNat, decide_true, decide_false, Int.reduceNeg, Int.cast_ofNat_Int, sg, AO.sg, Option.isNone_none]
  refine Cc_of ((cmdr_ok (textK l)).glob (id := 1000000) (by decide) rfl (by simp [idsL, D.ids, hpIds, Cd.cs]) (fun h1 r hr => by rw [hr.1]; rfl)) ?_
  rintro h' r ⟨_, ⟨rfl, rfl⟩, rfl⟩
  simp only [go_sem, ↓reduceIte, Nat.reduceLT, Nat.reduceLeDiff, Nat.reduceEqDiff, Nat.reduceAdd, Nat.reduceMul, Nat.reduceSub, reduceCtorEq, Int.reduceLT, Int.reduceLE, Int.reduceEq, Int.reduceToNat, decide_true, decide_false, Int.reduceNeg, Int.cast_ofNat_Int, sg, AO.sg, Option.isNone_none, Cd.cs, hs2]
def encD (l : List Cd) : List (List Pd) := l.map fun c => [.int .i64 c.kind, .str c.a, .str c.b, .int .i64 c.n]
theorem commandFormats_ok (c : Cd) (hc : smallC2 c) (ak an : Int) (l : List Int) : ACalls Tryd.prog 5 [.agg c.cs, .agg [.p (.int .i64 ak), .p (.int .i64 an)], .p (.sl (encI l))] [(1000000, (.glob 0 tabCs))] fun h r => h = [(1000000, (.glob 0 tabCs))] ∧ r = .p (.bool true) := by
  refine ACalls_X Tryd.func5 rfl enters5 (by simp [Tryd.f5]) ?_
  simp only [go_sem, ↓reduceIte, Nat.reduceLT, Nat.reduceLeDiff, Nat.reduceEqDiff, Nat.reduceAdd, Nat.reduceMul, Nat.reduceSub, reduceCtorEq, Int.reduceLT, Int.reduceLE, Int.reduceEq, Int.reduceToNat, decide_true, decide_false, Int.reduceNeg, Int.cast_ofNat_Int, sg, AO.sg, Option.isNone_none, Cd.cs]
  refine Cc_of knownk_ok ?_
  rintro h' r ⟨rfl, rfl⟩
  simp only [go_sem, ↓reduceIte, Nat.reduceLT, Nat.reduceLeDiff, Nat.reduceEqDiff, Nat.reduceAdd, Nat.reduceMul, Nat.reduceSub, reduceCtorEq, Int.reduceLT, Int.reduceLE, Int.reduceEq, Int.reduceToNat, decide_true, decide_false, Int.reduceNeg, Int.cast_ofNat_Int, sg, AO.sg, Option.isNone_none]
  refine X_any0 mixed (p := [(0, 0), (1, 0), (2, 2), (3, 2), (4, 1), (5, 0)]) (by kernel_rfl) (by simp [LeH, get]) ?_
  simp only [go_sem, ↓reduceIte, Nat.reduceLT, Nat.reduceLeDiff, Nat.reduceEqDiff, Nat.reduceAdd, Nat.reduceMul, Nat.reduceSub, reduceCtorEq, Int.reduceLT, Int.reduceLE, Int.reduceEq, Int.reduceToNat, decide_true, decide_false, Int.reduceNeg, Int.cast_ofNat_Int, sg, AO.sg, Option.isNone_none]
  refine Gh_of ((textk_ok l).glob (id := 1000000) (by decide) rfl (by simp [idsL, D.ids, hpIds]) (fun h1 r hr => by rw [hr.1]; rfl)) ?_
  rintro h' r ⟨_, ⟨rfl, rfl⟩, rfl⟩
  simp only [go_sem, ↓reduceIte, Nat.reduceLT, Nat.reduceLeDiff, Nat.reduceEqDiff, Nat.reduceAdd, Nat.reduceMul, Nat.reduceSub, reduceCtorEq, Int.reduceLT, Int.reduceLE, Int.reduceEq, Int.reduceToNat, decide_true, decide_false, Int.reduceNeg, Int.cast_ofNat_Int, sg, AO.sg, Option.isNone_none]
  refine Gh_of ((cmdr_ok (textK l)).glob (id := 1000000) (by decide) rfl (by simp [idsL, D.ids, hpIds, Cd.cs]) (fun h1 r hr => by rw [hr.1]; rfl)) ?_
  rintro h' r ⟨_, ⟨rfl, rfl⟩, rfl⟩
  have hc2 := cmdV_small (textK l)
  generalize cmdV (textK l) = c2 at *
  simp only [go_sem, ↓reduceIte, Nat.reduceLT, Nat.reduceLeDiff, Nat.reduceEqDiff, Nat.reduceAdd, Nat.reduceMul, Nat.reduceSub, reduceCtorEq, Int.reduceLT, Int.reduceLE, Int.reduceEq, Int.reduceToNat, decide_true, decide_false, Int.reduceNeg, Int.cast_ofNat_Int, sg, AO.sg, Option.isNone_none, Cd.cs]
  refine X_any0 mixed (p := [(0, 0), (1, 0), (2, 0), (5, 0), (6, 0), (3, 2), (4, 0), (7, 2), (8, 0), (9, 0), (10, 1), (11, 0)]) (by kernel_rfl) (by simp [LeH, get]) ?_
  simp only [go_sem, ↓reduceIte, Nat.reduceLT, Nat.reduceLeDiff, Nat.reduceEqDiff, Nat.reduceAdd, Nat.reduceMul, Nat.reduceSub, reduceCtorEq, Int.reduceLT, Int.reduceLE, Int.reduceEq, Int.reduceToNat, decide_true, decide_false, Int.reduceNeg, Int.cast_ofNat_Int, sg, AO.sg, Option.isNone_none]
  refine Gh_of ((cut_ok ak 15 (in64_small _ (by omega) (by omega))).glob (id := 1000000) (by decide) rfl (by simp [idsL, D.ids, hpIds]) (fun h1 r hr => by rw [hr.1]; rfl)) ?_
  rintro h' r ⟨_, ⟨rfl, rfl⟩, rfl⟩
  simp only [go_sem, ↓reduceIte, Nat.reduceLT, Nat.reduceLeDiff, Nat.reduceEqDiff, Nat.reduceAdd, Nat.reduceMul, Nat.reduceSub, reduceCtorEq, Int.reduceLT, Int.reduceLE, Int.reduceEq, Int.reduceToNat, decide_true, decide_false, Int.reduceNeg, Int.cast_ofNat_Int, sg, AO.sg, Option.isNone_none]
  refine Gh_of ((cut_ok an 20000 (in64_small _ (by omega) (by omega))).glob (id := 1000000) (by decide) rfl (by simp [idsL, D.ids, hpIds]) (fun h1 r hr => by rw [hr.1]; rfl)) ?_
  rintro h' r ⟨_, ⟨rfl, rfl⟩, rfl⟩
  simp only [go_sem, ↓reduceIte, Nat.reduceLT, Nat.reduceLeDiff, Nat.reduceEqDiff, Nat.reduceAdd, Nat.reduceMul, Nat.reduceSub, reduceCtorEq, Int.reduceLT, Int.reduceLE, Int.reduceEq, Int.reduceToNat, decide_true, decide_false, Int.reduceNeg, Int.cast_ofNat_Int, sg, AO.sg, Option.isNone_none]
  generalize IntKind.i64.wrap (cut ak 15 - 1) = ak2
  generalize IntKind.i64.wrap (cut an 20000 - 5000) = an2
  refine X_loop_inv (fun i => ⟨[(7, .ref 24 0 2 2), (8, .ref 35 0 2 2), (9, .p (.int .i64 (i : Nat)))], [(24, .arr 26 4 (encD [c, c2])), (35, .arr 32 2 [[.int .i64 ak, .int .i64 an], [.int .i64 ak2, .int .i64 an2]]), (1000000, (.glob 0 tabCs))], 90⟩) (fun i => i ≤ 2) (fun i => 2 - i) 0 (by omega) (Wk.forget (by simp [Le, LeE, LeH, get, envIds, hpIds, KeepH, D.ids, idsL, AO.ids, setL, base, encD])) ?_
  rintro i n hi ih
  have hdl : (encD [c, c2]).length = 2 := rfl
  simp only [go_sem, ↓reduceIte, Nat.reduceLT, Nat.reduceLeDiff, Nat.reduceEqDiff, Nat.reduceAdd, Nat.reduceMul, Nat.reduceSub, reduceCtorEq, Int.reduceLT, Int.reduceLE, Int.reduceEq, Int.reduceToNat, decide_true, decide_false, Int.reduceNeg, Int.cast_ofNat_Int, sg, AO.sg, Option.isNone_none]
  refine Cn_split (fun h2 => ?_) (fun h2 => ?_)
  · obtain ⟨x, y1, y2, hgx, hx, hgy⟩ : ∃ x y1 y2, (encD [c, c2]).getD i [] = [.int .i64 x.kind, .str x.a, .str x.b, .int .i64 x.n] ∧ smallC2 x ∧ ([[.int .i64 ak, .int .i64 an], [.int .i64 ak2, .int .i64 an2]] : List (List Pd)).getD i [] = [.int .i64 y1, .int .i64 y2] := by
      have : i = 0 ∨ i = 1 := by simp at h2; omega
      rcases this with rfl | rfl
      · exact ⟨c, ak, an, rfl, hc, rfl⟩
      · exact ⟨c2, ak2, an2, rfl, hc2, rfl⟩
    have hi2 : (i : Int) < 2 := by simpa using h2
    have hi0 : (0 : Int) ≤ (i : Int) := by omega
    have hw := wrap_succ i (by omega)
    have f1 := form1_ok x hx
    have f2 := form2_ok x hx
    simp only [Cd.cs] at f1 f2
    simp only [go_sem, ↓reduceIte, Nat.reduceLT, Nat.reduceLeDiff, Nat.reduceEqDiff, Nat.reduceAdd, Nat.reduceMul, Nat.reduceSub, reduceCtorEq, Int.reduceLT, Int.reduceLE, Int.reduceEq, Int.reduceToNat, decide_true, decide_false, Int.reduceNeg, Int.cast_ofNat_Int, sg, AO.sg, Option.isNone_none, Int.toNat_natCast, hgx, hgy, hi2, hi0, hdl]
    refine Cc_of f1 ?_
    rintro h' r ⟨rfl, rfl⟩
    simp only [go_sem, ↓reduceIte, Nat.reduceLT, Nat.reduceLeDiff, Nat.reduceEqDiff, Nat.reduceAdd, Nat.reduceMul, Nat.reduceSub, reduceCtorEq, Int.reduceLT, Int.reduceLE, Int.reduceEq, Int.reduceToNat, decide_true, decide_false, Int.reduceNeg, Int.cast_ofNat_Int, sg, AO.sg, Option.isNone_none, Int.toNat_natCast, hgx, hgy, hi2, hi0, hdl, ansR]
    refine Cc_of ((f2).glob (id := 1000000) (by decide) rfl (by simp [idsL, D.ids, hpIds]) (fun h1 r hr => by rw [hr.1]; rfl)) ?_
    rintro h' r ⟨_, ⟨rfl, rfl⟩, rfl⟩
    simp only [go_sem, ↓reduceIte, Nat.reduceLT, Nat.reduceLeDiff, Nat.reduceEqDiff, Nat.reduceAdd, Nat.reduceMul, Nat.reduceSub, reduceCtorEq, Int.reduceLT, Int.reduceLE, Int.reduceEq, Int.reduceToNat, decide_true, decide_false, Int.reduceNeg, Int.cast_ofNat_Int, sg, AO.sg, Option.isNone_none, Int.toNat_natCast, hgx, hgy, hi2, hi0, hdl, ansR]
    refine Cc_of (ans1_ok y1 y2) ?_
    rintro h' r ⟨rfl, rfl⟩
    simp only [go_sem, ↓reduceIte, Nat.reduceLT, Nat.reduceLeDiff, Nat.reduceEqDiff, Nat.reduceAdd, Nat.reduceMul, Nat.reduceSub, reduceCtorEq, Int.reduceLT, Int.reduceLE, Int.reduceEq, Int.reduceToNat, decide_true, decide_false, Int.reduceNeg, Int.cast_ofNat_Int, sg, AO.sg, Option.isNone_none, Int.toNat_natCast, hgx, hgy, hi2, hi0, hdl, ansR]
    refine Cc_of ((ans2_ok y1 y2).glob (id := 1000000) (by decide) rfl (by simp [idsL, D.ids, hpIds]) (fun h1 r hr => by rw [hr.1]; rfl)) ?_
    rintro h' r ⟨_, ⟨rfl, rfl⟩, rfl⟩
    simp only [go_sem, ↓reduceIte, Nat.reduceLT, Nat.reduceLeDiff, Nat.reduceEqDiff, Nat.reduceAdd, Nat.reduceMul, Nat.reduceSub, reduceCtorEq, Int.reduceLT, Int.reduceLE, Int.reduceEq, Int.reduceToNat, decide_true, decide_false, Int.reduceNeg, Int.cast_ofNat_Int, sg, AO.sg, Option.isNone_none, ansR, hw]
    refine ih (i + 1) _ (by omega) (by omega) (Wk.forget (by simp [Le, LeE, LeH, get, envIds, hpIds, KeepH, D.ids, idsL, AO.ids, setL, base]))
  · simp only [go_sem, ↓reduceIte, Nat.reduceLT, Nat.reduceLeDiff, Nat.reduceEqDiff, Nat.reduceAdd, Nat.reduceMul, Nat.reduceSub, reduceCtorEq, Int.reduceLT, Int.reduceLE, Int.reduceEq, Int.reduceToNat, decide_true, decide_false, Int.reduceNeg, Int.cast_ofNat_Int, sg, AO.sg, Option.isNone_none]
theorem commandBack_ok (l : List Int) : ACalls Tryd.prog 6 [.p (.sl (encI l))] [(1000000, (.glob 0 tabCs))] fun h r => h = [(1000000, (.glob 0 tabCs))] ∧ r = .p (.bool true) := by
  refine ACalls_X Tryd.func6 rfl enters6 (by simp [Tryd.f6]) ?_
  simp only [go_sem, ↓reduceIte, Nat.reduceLT, Nat.reduceLeDiff, Nat.reduceEqDiff, Nat.reduceAdd, Nat.reduceMul, Nat.reduceSub, reduceCtorEq, Int.reduceLT, Int.reduceLE, Int.reduceEq, Int.reduceToNat, decide_true, decide_false, Int.reduceNeg, Int.cast_ofNat_Int, sg, AO.sg, Option.isNone_none]
  refine Cc_of knownk_ok ?_
  rintro h' r ⟨rfl, rfl⟩
  simp only [go_sem, ↓reduceIte, Nat.reduceLT, Nat.reduceLeDiff, Nat.reduceEqDiff, Nat.reduceAdd, Nat.reduceMul, Nat.reduceSub, reduceCtorEq, Int.reduceLT, Int.reduceLE, Int.reduceEq, Int.reduceToNat, decide_true, decide_false, Int.reduceNeg, Int.cast_ofNat_Int, sg, AO.sg, Option.isNone_none]
  refine Cc_of ((textk_ok l).glob (id := 1000000) (by decide) rfl (by simp [idsL, D.ids, hpIds]) (fun h1 r hr => by rw [hr.1]; rfl)) ?_
  rintro h' r ⟨_, ⟨rfl, rfl⟩, rfl⟩
  simp only [go_sem, ↓reduceIte, Nat.reduceLT, Nat.reduceLeDiff, Nat.reduceEqDiff, Nat.reduceAdd, Nat.reduceMul, Nat.reduceSub, reduceCtorEq, Int.reduceLT, Int.reduceLE, Int.reduceEq, Int.reduceToNat, decide_true, decide_false, Int.reduceNeg, Int.cast_ofNat_Int, sg, AO.sg, Option.isNone_none]
  refine Cc_of ((cmdp_ok (textK l)).glob (id := 1000000) (by decide) rfl (by simp [idsL, D.ids, hpIds, Cd.cs]) (fun h1 r hr => by rw [hr.1]; rfl)) ?_
  rintro h' r ⟨_, ⟨rfl, rfl⟩, rfl⟩
  have hc2 := cmdV_small (textK l)
  have hz := @cmdV_zero (textK l)
  have ht : (cmdV (textK l)).kind ≠ 0 → _ := fun hk => cmd_text (t := textK l) rfl hk
  generalize cmdV (textK l) = c at *
  have f1 := form1_ok c hc2
  simp only [Cd.cs] at f1
  simp only [go_sem, ↓reduceIte, Nat.reduceLT, Nat.reduceLeDiff, Nat.reduceEqDiff, Nat.reduceAdd, Nat.reduceMul, Nat.reduceSub, reduceCtorEq, Int.reduceLT, Int.reduceLE, Int.reduceEq, Int.reduceToNat, decide_true, decide_false, Int.reduceNeg, Int.cast_ofNat_Int, sg, AO.sg, Option.isNone_none, Cd.cs]
  refine Cc_of f1 ?_
  rintro h' r ⟨rfl, rfl⟩
  cases hk : decide (c.kind = 0)
  · obtain ⟨t1, t2, t3, t4⟩ := ht (of_decide_eq_false hk)
    have hci : ∀ T : List UInt8, cmdV T = c → (decide ((cmdV T).kind = c.kind) && (decide ((cmdV T).a = c.a) && (decide ((cmdV T).b = c.b) && decide ((cmdV T).n = c.n)))) = true := fun T h => by rw [cs_inj, h]; simp
    have e2 : [10, 32, 9] ++ txtC c ++ [32, 32, 35, 32] ++ txtC c ++ [10, 10] = 10 :: 32 :: 9 :: (txtC c ++ [32, 32, 35, 32] ++ txtC c ++ [10, 10]) := by simp
    rw [e2] at t2
    have c1 := hci _ t1
    have c2 := hci _ t2
    simp only [go_sem, ↓reduceIte, Nat.reduceLT, Nat.reduceLeDiff, Nat.reduceEqDiff, Nat.reduceAdd, Nat.reduceMul, Nat.reduceSub, reduceCtorEq, Int.reduceLT, Int.reduceLE, Int.reduceEq, Int.reduceToNat, decide_true, decide_false, Int.reduceNeg, Int.cast_ofNat_Int, sg, AO.sg, Option.isNone_none, hk, ansR, t3]
    refine X_any0 mixed (p := [(0, 0), (1, 0), (2, 0), (3, 0), (5, 0), (4, 2), (6, 0), (7, 0), (8, 0), (9, 0), (10, 0), (11, 0), (12, 0), (13, 0), (14, 0), (16, 0), (15, 2), (17, 0), (18, 0), (19, 0)]) (by kernel_rfl) (by simp [LeH, get]) ?_
    simp only [go_sem, ↓reduceIte, Nat.reduceLT, Nat.reduceLeDiff, Nat.reduceEqDiff, Nat.reduceAdd, Nat.reduceMul, Nat.reduceSub, reduceCtorEq, Int.reduceLT, Int.reduceLE, Int.reduceEq, Int.reduceToNat, decide_true, decide_false, Int.reduceNeg, Int.cast_ofNat_Int, sg, AO.sg, Option.isNone_none]
    refine Gh_of ((cmdp_ok (txtC c)).glob (id := 1000000) (by decide) rfl (by simp [idsL, D.ids, hpIds, Cd.cs]) (fun h1 r hr => by rw [hr.1]; rfl)) ?_
    rintro h' r ⟨_, ⟨rfl, rfl⟩, rfl⟩
    simp only [go_sem, ↓reduceIte, Nat.reduceLT, Nat.reduceLeDiff, Nat.reduceEqDiff, Nat.reduceAdd, Nat.reduceMul, Nat.reduceSub, reduceCtorEq, Int.reduceLT, Int.reduceLE, Int.reduceEq, Int.reduceToNat, decide_true, decide_false, Int.reduceNeg, Int.cast_ofNat_Int, sg, AO.sg, Option.isNone_none, Cd.cs, c1]
    refine ⟨by unfold maxLen; first | omega | (simp only [List.length_append, List.length_cons, List.length_nil]; omega), by unfold maxLen; first | omega | (simp only [List.length_append, List.length_cons, List.length_nil]; omega), by unfold maxLen; first | omega | (simp only [List.length_append, List.length_cons, List.length_nil]; omega), by unfold maxLen; first | omega | (simp only [List.length_append, List.length_cons, List.length_nil]; omega), ?_⟩
    refine Gh_of ((cmdp_ok (10 :: 32 :: 9 :: (txtC c ++ [32, 32, 35, 32] ++ txtC c ++ [10, 10]))).glob (id := 1000000) (by decide) rfl (by simp [idsL, D.ids, hpIds, Cd.cs]) (fun h1 r hr => by rw [hr.1]; rfl)) ?_
    rintro h' r ⟨_, ⟨rfl, rfl⟩, rfl⟩
    simp only [go_sem, ↓reduceIte, Nat.reduceLT, Nat.reduceLeDiff, Nat.reduceEqDiff, Nat.reduceAdd, Nat.reduceMul, Nat.reduceSub, reduceCtorEq, Int.reduceLT, Int.reduceLE, Int.reduceEq, Int.reduceToNat, decide_true, decide_false, Int.reduceNeg, Int.cast_ofNat_Int, sg, AO.sg, Option.isNone_none, Cd.cs, c2]
  · have := hz (of_decide_eq_true hk)
    subst this
    have e : fmtC cd0 = ([], 20) := by unfold fmtC; rw [if_neg (by simp [cd0])]
    have e' : fmtC (⟨0, [], [], 0⟩ : Cd) = ([], 20) := e
    simp only [go_sem, ↓reduceIte, Nat.reduceLT, Nat.reduceLeDiff, Nat.reduceEqDiff, Nat.reduceAdd, Nat.reduceMul, Nat.reduceSub, reduceCtorEq, Int.reduceLT, Int.reduceLE, Int.reduceEq, Int.reduceToNat, decide_true, decide_false, Int.reduceNeg, Int.cast_ofNat_Int, sg, AO.sg, Option.isNone_none, hk, ansR, e', cd0]
set_option maxHeartbeats 800000 in
theorem commandAnswers_ok (a1 a2 b1 b2 : Int) : ACalls Tryd.prog 4 [.agg [.p (.int .i64 a1), .p (.int .i64 a2)], .agg [.p (.int .i64 b1), .p (.int .i64 b2)]] [(1000000, (.glob 0 tabCs))] fun h r => h = [(1000000, (.glob 0 tabCs))] ∧ r = .p (.bool true) := by
  refine ACalls_X Tryd.func4 rfl enters4 (by simp [Tryd.f4]) ?_
  simp only [go_sem, ↓reduceIte, Nat.reduceLT, Nat.reduceLeDiff, Nat.reduceEqDiff, Nat.reduceAdd, Nat.reduceMul, Nat.reduceSub, reduceCtorEq, Int.reduceLT, Int.reduceLE, Int.reduceEq, Int.reduceToNat, decide_true, decide_false, Int.reduceNeg, Int.cast_ofNat_Int, sg, AO.sg, Option.isNone_none]
  refine Cc_of knownk_ok ?_
  rintro h' r ⟨rfl, rfl⟩
  simp only [go_sem, ↓reduceIte, Nat.reduceLT, Nat.reduceLeDiff, Nat.reduceEqDiff, Nat.reduceAdd, Nat.reduceMul, Nat.reduceSub, reduceCtorEq, Int.reduceLT, Int.reduceLE, Int.reduceEq, Int.reduceToNat, decide_true, decide_false, Int.reduceNeg, Int.cast_ofNat_Int, sg, AO.sg, Option.isNone_none]
  refine X_any0 mixed (p := [(0, 0), (1, 0), (3, 0), (4, 0), (7, 1), (2, 2), (5, 2), (6, 0), (8, 3)]) (by kernel_rfl) (by simp [LeH, get]) ?_
  simp only [go_sem, ↓reduceIte, Nat.reduceLT, Nat.reduceLeDiff, Nat.reduceEqDiff, Nat.reduceAdd, Nat.reduceMul, Nat.reduceSub, reduceCtorEq, Int.reduceLT, Int.reduceLE, Int.reduceEq, Int.reduceToNat, decide_true, decide_false, Int.reduceNeg, Int.cast_ofNat_Int, sg, AO.sg, Option.isNone_none]
  refine Gh_of ((cut_ok a1 13 (in64_small _ (by omega) (by omega))).glob (id := 1000000) (by decide) rfl (by simp [idsL, D.ids, hpIds]) (fun h1 r hr => by rw [hr.1]; rfl)) ?_
  rintro h' r ⟨_, ⟨rfl, rfl⟩, rfl⟩
  simp only [go_sem, ↓reduceIte, Nat.reduceLT, Nat.reduceLeDiff, Nat.reduceEqDiff, Nat.reduceAdd, Nat.reduceMul, Nat.reduceSub, reduceCtorEq, Int.reduceLT, Int.reduceLE, Int.reduceEq, Int.reduceToNat, decide_true, decide_false, Int.reduceNeg, Int.cast_ofNat_Int, sg, AO.sg, Option.isNone_none]
  refine Gh_of ((cut_ok a2 10000 (in64_small _ (by omega) (by omega))).glob (id := 1000000) (by decide) rfl (by simp [idsL, D.ids, hpIds]) (fun h1 r hr => by rw [hr.1]; rfl)) ?_
  rintro h' r ⟨_, ⟨rfl, rfl⟩, rfl⟩
  simp only [go_sem, ↓reduceIte, Nat.reduceLT, Nat.reduceLeDiff, Nat.reduceEqDiff, Nat.reduceAdd, Nat.reduceMul, Nat.reduceSub, reduceCtorEq, Int.reduceLT, Int.reduceLE, Int.reduceEq, Int.reduceToNat, decide_true, decide_false, Int.reduceNeg, Int.cast_ofNat_Int, sg, AO.sg, Option.isNone_none]
  refine X_any0 mixed (p := [(0, 0), (1, 0), (3, 0), (4, 0), (7, 1), (2, 2), (5, 2), (6, 0), (8, 3)]) (by kernel_rfl) (by simp [LeH, get]) ?_
  simp only [go_sem, ↓reduceIte, Nat.reduceLT, Nat.reduceLeDiff, Nat.reduceEqDiff, Nat.reduceAdd, Nat.reduceMul, Nat.reduceSub, reduceCtorEq, Int.reduceLT, Int.reduceLE, Int.reduceEq, Int.reduceToNat, decide_true, decide_false, Int.reduceNeg, Int.cast_ofNat_Int, sg, AO.sg, Option.isNone_none]
  refine Gh_of ((cut_ok b1 13 (in64_small _ (by omega) (by omega))).glob (id := 1000000) (by decide) rfl (by simp [idsL, D.ids, hpIds]) (fun h1 r hr => by rw [hr.1]; rfl)) ?_
  rintro h' r ⟨_, ⟨rfl, rfl⟩, rfl⟩
  simp only [go_sem, ↓reduceIte, Nat.reduceLT, Nat.reduceLeDiff, Nat.reduceEqDiff, Nat.reduceAdd, Nat.reduceMul, Nat.reduceSub, reduceCtorEq, Int.reduceLT, Int.reduceLE, Int.reduceEq, Int.reduceToNat, decide_true, decide_false, Int.reduceNeg, Int.cast_ofNat_Int, sg, AO.sg, Option.isNone_none]
  refine Gh_of ((cut_ok b2 10000 (in64_small _ (by omega) (by omega))).glob (id := 1000000) (by decide) rfl (by simp [idsL, D.ids, hpIds]) (fun h1 r hr => by rw [hr.1]; rfl)) ?_
  rintro h' r ⟨_, ⟨rfl, rfl⟩, rfl⟩
  have ha1 := cut_lt a1 13
  have ha2 := cut_lt a2 10000
  have hb1 := cut_lt b1 13
  have hb2 := cut_lt b2 10000
  obtain ⟨j, hj⟩ : ∃ j : Nat, cut a1 13 = (j : Int) := ⟨(cut a1 13).toNat, by omega⟩
  obtain ⟨k, hk⟩ : ∃ k : Nat, cut b1 13 = (k : Int) := ⟨(cut b1 13).toNat, by omega⟩
  have hj13 : j < 13 := by omega
  have hk13 : k < 13 := by omega
  rw [hj, hk]
  generalize cut a2 10000 = m at *
  generalize cut b2 10000 = n at *
  have hinj := ansT_inj j k m n hj13 hk13 (by omega) (by omega)
  have f1 := ans1_ok j m
  have f2 := ans1_ok k n
  have e1 : ansV j m = (ansT j m, 0) := by unfold ansV; rw [if_neg (by omega)]; rfl
  have e2 : ansV k n = (ansT k n, 0) := by unfold ansV; rw [if_neg (by omega)]; rfl
  rw [e1] at f1
  rw [e2] at f2
  have hin : decide (ansT j m = ansT k n) = (decide ((j : Int) = (k : Int)) && (!(decide ((j : Int) = 1) || decide ((j : Int) = 12)) || decide (m = n))) := by
    rw [Bool.eq_iff_iff]
    simp only [decide_eq_true_eq, Bool.and_eq_true, Bool.or_eq_true, Bool.not_eq_true', Bool.or_eq_false_iff, decide_eq_false_iff_not]
    rw [hinj]
    omega
  simp only [go_sem, ↓reduceIte, Nat.reduceLT, Nat.reduceLeDiff, Nat.reduceEqDiff, Nat.reduceAdd, Nat.reduceMul, Nat.reduceSub, reduceCtorEq, Int.reduceLT, Int.reduceLE, Int.reduceEq, Int.reduceToNat, decide_true, decide_false, Int.reduceNeg, Int.cast_ofNat_Int, sg, AO.sg, Option.isNone_none]
  refine Cc_of f1 ?_
  rintro h' r ⟨rfl, rfl⟩
  simp only [go_sem, ↓reduceIte, Nat.reduceLT, Nat.reduceLeDiff, Nat.reduceEqDiff, Nat.reduceAdd, Nat.reduceMul, Nat.reduceSub, reduceCtorEq, Int.reduceLT, Int.reduceLE, Int.reduceEq, Int.reduceToNat, decide_true, decide_false, Int.reduceNeg, Int.cast_ofNat_Int, sg, AO.sg, Option.isNone_none, ansR]
  refine Cc_of f2 ?_
  rintro h' r ⟨rfl, rfl⟩
  simp only [go_sem, ↓reduceIte, Nat.reduceLT, Nat.reduceLeDiff, Nat.reduceEqDiff, Nat.reduceAdd, Nat.reduceMul, Nat.reduceSub, reduceCtorEq, Int.reduceLT, Int.reduceLE, Int.reduceEq, Int.reduceToNat, decide_true, decide_false, Int.reduceNeg, Int.cast_ofNat_Int, sg, AO.sg, Option.isNone_none, ansR]
  clear hinj ha1 ha2 hb1 hb2 f1 f2 e1 e2
  cases c1 : decide ((j : Int) = 1)
  · cases c2 : decide ((j : Int) = 12)
    · rw [c1, c2, Bool.or_self, Bool.not_false, Bool.true_or, Bool.and_true] at hin
      cases c3 : decide ((j : Int) = (k : Int))
      · rw [c3] at hin
        simp only [go_sem, ↓reduceIte, Nat.reduceLT, Nat.reduceLeDiff, Nat.reduceEqDiff, Nat.reduceAdd, Nat.reduceMul, Nat.reduceSub, reduceCtorEq, Int.reduceLT, Int.reduceLE, Int.reduceEq, Int.reduceToNat, decide_true, decide_false, Int.reduceNeg, Int.cast_ofNat_Int, sg, AO.sg, Option.isNone_none, ansR, c1, c2, c3, hin]
      · rw [c3] at hin
        simp only [go_sem, ↓reduceIte, Nat.reduceLT, Nat.reduceLeDiff, Nat.reduceEqDiff, Nat.reduceAdd, Nat.reduceMul, Nat.reduceSub, reduceCtorEq, Int.reduceLT, Int.reduceLE, Int.reduceEq, Int.reduceToNat, decide_true, decide_false, Int.reduceNeg, Int.cast_ofNat_Int, sg, AO.sg, Option.isNone_none, ansR, c1, c2, c3, hin]
    · rw [c1, c2, Bool.or_true, Bool.not_true, Bool.false_or] at hin
      cases c3 : decide ((j : Int) = (k : Int))
      · rw [c3, Bool.false_and] at hin
        simp only [go_sem, ↓reduceIte, Nat.reduceLT, Nat.reduceLeDiff, Nat.reduceEqDiff, Nat.reduceAdd, Nat.reduceMul, Nat.reduceSub, reduceCtorEq, Int.reduceLT, Int.reduceLE, Int.reduceEq, Int.reduceToNat, decide_true, decide_false, Int.reduceNeg, Int.cast_ofNat_Int, sg, AO.sg, Option.isNone_none, ansR, c1, c2, c3, hin]
      · rw [c3, Bool.true_and] at hin
        cases c4 : decide (m = n) <;> rw [c4] at hin <;> simp only [go_sem, ↓reduceIte, Nat.reduceLT, Nat.reduceLeDiff, Nat.reduceEqDiff, Nat.reduceAdd, Nat.reduceMul, Nat.reduceSub, reduceCtorEq, Int.reduceLT, Int.reduceLE, Int.reduceEq, Int.reduceToNat, decide_true, decide_false, Int.reduceNeg, Int.cast_ofNat_Int, sg, AO.sg, Option.isNone_none, ansR, c1, c2, c3, c4, hin]
  · rw [c1, Bool.true_or, Bool.not_true, Bool.false_or] at hin
    cases c3 : decide ((j : Int) = (k : Int))
    · rw [c3, Bool.false_and] at hin
      simp only [go_sem, ↓reduceIte, Nat.reduceLT, Nat.reduceLeDiff, Nat.reduceEqDiff, Nat.reduceAdd, Nat.reduceMul, Nat.reduceSub, reduceCtorEq, Int.reduceLT, Int.reduceLE, Int.reduceEq, Int.reduceToNat, decide_true, decide_false, Int.reduceNeg, Int.cast_ofNat_Int, sg, AO.sg, Option.isNone_none, ansR, c1, c3, hin]
    · rw [c3, Bool.true_and] at hin
      cases c4 : decide (m = n) <;> rw [c4] at hin <;> simp only [go_sem, ↓reduceIte, Nat.reduceLT, Nat.reduceLeDiff, Nat.reduceEqDiff, Nat.reduceAdd, Nat.reduceMul, Nat.reduceSub, reduceCtorEq, Int.reduceLT, Int.reduceLE, Int.reduceEq, Int.reduceToNat, decide_true, decide_false, Int.reduceNeg, Int.cast_ofNat_Int, sg, AO.sg, Option.isNone_none, ansR, c1, c3, c4, hin]
end Go.Am
