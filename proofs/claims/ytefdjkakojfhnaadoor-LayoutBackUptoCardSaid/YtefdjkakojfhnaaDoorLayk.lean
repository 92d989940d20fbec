/- LayoutBack, as a contract. -/
import Derived.Test.YtefdjkakojfhnaaDoorKnol
namespace Go.Am
open Go Go.Proofs
set_option maxRecDepth 100000
set_option linter.unusedVariables false
set_option linter.unusedSimpArgs false
theorem formLine_len (x : Dc) : (formLine x).length = 1 + x.names.length + x.nums.length := by simp [formLine]; omega
theorem layoutBack_ok (l : List Int) : ACalls Tryd.prog 8 [.p (.sl (encI l))] [(1000000, (.glob 1 tabCs))] fun h r => h = [(1000000, (.glob 1 tabCs))] ∧ r = .p (.bool true) := by
  have hls := linesV_small l
  have hsm : smallL (linesV l) := ⟨by omega, fun x hx => by have := hls.2 x hx; omega⟩
  have hsd := parseV_small 11 (linesV l) [] hls.2 (by simp)
  have hpv := parseV_valid (linesV l) []
  have hpe := parseV_err (linesV l) []
  refine ACalls_X Tryd.func8 rfl enters8 (by simp [Tryd.f8]) ?_
  simp only [go_sem, ↓reduceIte, Nat.reduceLT, Nat.reduceLeDiff, Nat.reduceEqDiff, Nat.reduceAdd, Nat.reduceMul, Nat.reduceSub, reduceCtorEq, Int.reduceLT, Int.reduceLE, Int.reduceEq, Int.reduceToNat, decide_true, decide_false, Int.reduceNeg, Int.cast_ofNat_Int, sg, AO.sg, Option.isNone_none]
  refine Cc_of ((known_ok).glob (id := 1000000) (by decide) rfl (by simp [idsL, D.ids, hpIds]) (fun h1 r hr => by rw [hr.1]; rfl)) ?_
  rintro h' r ⟨_, ⟨rfl, rfl⟩, rfl⟩
  simp only [go_sem, ↓reduceIte, Nat.reduceLT, Nat.reduceLeDiff, Nat.reduceEqDiff, Nat.reduceAdd, Nat.reduceMul, Nat.reduceSub, reduceCtorEq, Int.reduceLT, Int.reduceLE, Int.reduceEq, Int.reduceToNat, decide_true, decide_false, Int.reduceNeg, Int.cast_ofNat_Int, sg, AO.sg, Option.isNone_none]
  refine Cc_of ((lines_ok l).glob (id := 1000000) (by decide) rfl (by simp [idsL, D.ids, hpIds]) (fun h1 r hr => by rw [hr.1]; rfl)) ?_
  rintro h' r ⟨_, ⟨rfl, rfl⟩, rfl⟩
  simp only [go_sem, ↓reduceIte, Nat.reduceLT, Nat.reduceLeDiff, Nat.reduceEqDiff, Nat.reduceAdd, Nat.reduceMul, Nat.reduceSub, reduceCtorEq, Int.reduceLT, Int.reduceLE, Int.reduceEq, Int.reduceToNat, decide_true, decide_false, Int.reduceNeg, Int.cast_ofNat_Int, sg, AO.sg, Option.isNone_none, encL_len, encL_take (linesV l) (linesV l).length (Nat.le_refl _)]
  refine Cc_of ((parsel_ok (linesV l) (by omega) (fun x hx => by have := hls.2 x hx; omega)).glob (id := 1000000) (by decide) rfl (by simp [idsL, D.ids, hpIds]) (fun h1 r hr => by rw [hr.1]; rfl)) ?_
  rintro h' r ⟨_, ⟨rfl, rfl⟩, rfl⟩
  by_cases he : (parseV (linesV l) []).2.2 = 0
  · have hpv := hpv he (by simp)
    clear hpe
    simp only [go_sem, ↓reduceIte, Nat.reduceLT, Nat.reduceLeDiff, Nat.reduceEqDiff, Nat.reduceAdd, Nat.reduceMul, Nat.reduceSub, reduceCtorEq, Int.reduceLT, Int.reduceLE, Int.reduceEq, Int.reduceToNat, decide_true, decide_false, Int.reduceNeg, Int.cast_ofNat_Int, sg, AO.sg, Option.isNone_none, parseR, he]
    generalize (parseV (linesV l) []).1 = d at *
    have hdl : d.length ≤ 6 := by have := hsd.1; simp at this; omega
    refine Cc_of ((fmtL_ok d (by omega) (fun x hx => ⟨by have := hsd.2 x hx; omega, by have := hsd.2 x hx; omega, fun n hn => by have := ((valid_iff x).1 (hpv x hx)).2.2.2.2 n hn; omega⟩))) ?_
    rintro h' r ⟨rfl, rfl⟩
    have hf := fmtV_all d [] hpv
    have hb := parseV_back d [] hpv
    rw [List.nil_append] at hf hb
    simp only [go_sem, ↓reduceIte, Nat.reduceLT, Nat.reduceLeDiff, Nat.reduceEqDiff, Nat.reduceAdd, Nat.reduceMul, Nat.reduceSub, reduceCtorEq, Int.reduceLT, Int.reduceLE, Int.reduceEq, Int.reduceToNat, decide_true, decide_false, Int.reduceNeg, Int.cast_ofNat_Int, sg, AO.sg, Option.isNone_none, hf, fmtR]
    generalize hxs : d.map (fun x => (⟨x.line, formLine x⟩ : Ln)) = xs at *
    have hxl : xs.length = d.length := by rw [← hxs]; simp
    have hxf : ∀ x ∈ xs, x.fs.length ≤ 10000000 := fun x hx => by
      rw [← hxs, List.mem_map] at hx
      obtain ⟨y, hy, rfl⟩ := hx
      have := hsd.2 y hy
      rw [formLine_len]; omega
    refine Cc_of ((parsel_ok xs (by omega) hxf).glob (id := 1000000) (by decide) rfl (by simp [idsL, D.ids, hpIds]) (fun h1 r hr => by rw [hr.1]; rfl)) ?_
    rintro h' r ⟨_, ⟨rfl, rfl⟩, rfl⟩
    simp only [go_sem, ↓reduceIte, Nat.reduceLT, Nat.reduceLeDiff, Nat.reduceEqDiff, Nat.reduceAdd, Nat.reduceMul, Nat.reduceSub, reduceCtorEq, Int.reduceLT, Int.reduceLE, Int.reduceEq, Int.reduceToNat, decide_true, decide_false, Int.reduceNeg, Int.cast_ofNat_Int, sg, AO.sg, Option.isNone_none, hb, parseR]
    refine Cc_of ((sameDecls_ok d d ⟨by omega, fun x hx => by have := hsd.2 x hx; omega⟩).glob (id := 1000000) (by decide) rfl (by simp [idsL, D.ids, hpIds]) (fun h1 r hr => by rw [hr.1]; rfl)) ?_
    rintro h' r ⟨_, ⟨rfl, rfl⟩, rfl⟩
    simp only [go_sem, ↓reduceIte, Nat.reduceLT, Nat.reduceLeDiff, Nat.reduceEqDiff, Nat.reduceAdd, Nat.reduceMul, Nat.reduceSub, reduceCtorEq, Int.reduceLT, Int.reduceLE, Int.reduceEq, Int.reduceToNat, decide_true, decide_false, Int.reduceNeg, Int.cast_ofNat_Int, sg, AO.sg, Option.isNone_none]
    refine X_loop_inv (fun i : Nat => ⟨[(3, .p (.sl (encC d))), (11, .p (.int .i64 (i : Nat)))], [(1000000, (.glob 1 tabCs))], 65⟩) (fun i => i ≤ d.length) (fun i => d.length - i) 0 (Nat.zero_le _) (Wk.forget (by simp [Le, LeE, LeH, get, envIds, hpIds, KeepH, D.ids, idsL, AO.ids, setL, base])) ?_
    intro i n hi ih
    simp only [go_sem, ↓reduceIte, Nat.reduceLT, Nat.reduceLeDiff, Nat.reduceEqDiff, Nat.reduceAdd, Nat.reduceMul, Nat.reduceSub, reduceCtorEq, Int.reduceLT, Int.reduceLE, Int.reduceEq, Int.reduceToNat, decide_true, decide_false, Int.reduceNeg, Int.cast_ofNat_Int, sg, AO.sg, Option.isNone_none, encC_len]
    refine Cn_split (fun h2 => ?_) (fun h2 => ?_)
    · have hlt : i < d.length := by simp at h2; omega
      have hi0 : (0 : Int) ≤ (i : Int) ∧ (i : Int) < (d.length : Int) := by omega
      have hv := hpv _ (getD_mem d i dc0 hlt)
      have hsx := hsd.2 _ (getD_mem d i dc0 hlt)
      have hg := encC_get d i hlt
      generalize d.getD i dc0 = x at *
      simp only [go_sem, ↓reduceIte, Nat.reduceLT, Nat.reduceLeDiff, Nat.reduceEqDiff, Nat.reduceAdd, Nat.reduceMul, Nat.reduceSub, reduceCtorEq, Int.reduceLT, Int.reduceLE, Int.reduceEq, Int.reduceToNat, decide_true, decide_false, Int.reduceNeg, Int.cast_ofNat_Int, sg, AO.sg, Option.isNone_none, encC_len, Int.toNat_natCast, hg, hi0]
      refine Cc_of ((valid_ok x ⟨by omega, by omega⟩).glob (id := 1000000) (by decide) rfl (by simp [idsL, D.ids, hpIds, Dc.d]) (fun h1 r hr => by rw [hr.1]; rfl)) ?_
      rintro h' r ⟨_, ⟨rfl, rfl⟩, rfl⟩
      simp only [go_sem, ↓reduceIte, Nat.reduceLT, Nat.reduceLeDiff, Nat.reduceEqDiff, Nat.reduceAdd, Nat.reduceMul, Nat.reduceSub, reduceCtorEq, Int.reduceLT, Int.reduceLE, Int.reduceEq, Int.reduceToNat, decide_true, decide_false, Int.reduceNeg, Int.cast_ofNat_Int, sg, AO.sg, Option.isNone_none, hv, wrap_succ i (by omega)]
      refine ih (i + 1) _ (by omega) (by omega) (Wk.forget (by simp [Le, LeE, LeH, get, envIds, hpIds, KeepH, D.ids, idsL, AO.ids, setL, base]))
    · simp only [go_sem, ↓reduceIte, Nat.reduceLT, Nat.reduceLeDiff, Nat.reduceEqDiff, Nat.reduceAdd, Nat.reduceMul, Nat.reduceSub, reduceCtorEq, Int.reduceLT, Int.reduceLE, Int.reduceEq, Int.reduceToNat, decide_true, decide_false, Int.reduceNeg, Int.cast_ofNat_Int, sg, AO.sg, Option.isNone_none]
  · have h0 := hpe he
    simp only [go_sem, ↓reduceIte, Nat.reduceLT, Nat.reduceLeDiff, Nat.reduceEqDiff, Nat.reduceAdd, Nat.reduceMul, Nat.reduceSub, reduceCtorEq, Int.reduceLT, Int.reduceLE, Int.reduceEq, Int.reduceToNat, decide_true, decide_false, Int.reduceNeg, Int.cast_ofNat_Int, sg, AO.sg, Option.isNone_none, parseR, he, h0, encC_len]
end Go.Am
