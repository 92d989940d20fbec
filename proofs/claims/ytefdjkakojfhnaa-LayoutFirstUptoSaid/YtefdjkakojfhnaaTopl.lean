/- LayoutParses and LayoutFirst: whatever lines and numbers of bulk at most 1048576 come in, the law returns true, and leaves its arguments as they were. -/
import Derived.Test.YtefdjkakojfhnaaLaym
import Derived.Test.YtefdjkakojfhnaaRows
import Derived.WalkKit
import Derived.ProofKit
import Derived.OpenShut
import Derived.JoinedCond
namespace Go.Proofs.Ytefdjkakojfhnaa
open Go.Am Go.ChangeShapes Go.WideShapes Go.ChangeAt Go.RowKit
set_option linter.unusedVariables false
set_option maxRecDepth 100000

theorem own : ownKnob Try.prog.godebug = none := by kernel_rfl

mutual
theorem bulkD {H : Type} : ∀ d : DataW H, pdBl (flatD d) ≤ Rows.uptoBulk d
  | .lit (.int k n) => by simp [flatD, pdBl, pdB, Rows.uptoBulk]
  | .lit (.bool b) => by simp [flatD, pdBl, pdB, Rows.uptoBulk]
  | .lit (.string l) => by simp [flatD, pdBl, pdB, Rows.uptoBulk]
  | .nil => by simp [flatD, pdBl, pdB, pdBs, Rows.uptoBulk]
  | .slice elems spare => by
    have := bulkE elems
    simp only [flatD, pdBl, pdB, Rows.uptoBulk]; omega
  | .agg parts => by
    have := bulkA parts
    simp only [flatD, Rows.uptoBulk]; omega
  | .lit l => by cases l <;> simp [flatD, pdBl, pdB, Rows.uptoBulk]
  | .ptr d => by simp [flatD, pdBl]
  | .iface t d => by simp [flatD, pdBl]
  | .map entries => by simp [flatD, pdBl]
  | .held h => by simp [flatD, pdBl]
theorem bulkE {H : Type} : ∀ es : List (DataW H), pdBs (flatE es) ≤ Rows.uptoBulkAll es
  | [] => by simp [flatE, pdBs]
  | d :: r => by
    have h1 := bulkD d
    have h2 := bulkE r
    simp only [flatE, pdBs, Rows.uptoBulkAll]; omega
theorem bulkA {H : Type} : ∀ es : List (DataW H), pdBl (flatA es) ≤ Rows.uptoBulkAll es
  | [] => by simp [flatA, pdBl]
  | d :: r => by
    have h1 := bulkD d
    have h2 := bulkA r
    simp only [flatA, pdBl_append, Rows.uptoBulkAll]; omega
end
theorem bulk_append {H : Type} (l r : List (DataW H)) : Rows.uptoBulkAll (l ++ r) = Rows.uptoBulkAll l + Rows.uptoBulkAll r := by
  induction l with
  | nil => simp [Rows.uptoBulkAll]
  | cons x l ih => simp only [List.cons_append, Rows.uptoBulkAll, ih]; omega
theorem bound {H : Type} {l : List (DataW H)} (hk : Rows.uptoSmall H l = true) : Rows.uptoBulkAll l ≤ 1048576 := of_decide_eq_true hk

theorem dec_ints {n : Nat} {cs : List Pd} (h : wtP Try.prog n 23 cs) : ∃ l : List Int, cs = [.sl (encI l)] := by
  obtain ⟨m, es, rfl, hes⟩ := wt_sl Try.underlying23 h
  obtain ⟨l, rfl⟩ := dec_map (fun v : Int => [Pd.int .i64 v]) es fun y hy => by
    obtain ⟨v, h1, _⟩ := wt_int Try.underlying3 (hes y hy)
    exact ⟨v, h1⟩
  exact ⟨l, rfl⟩
theorem dec_strs {n : Nat} {cs : List Pd} (h : wtP Try.prog n 34 cs) : ∃ l : List (List UInt8), cs = [.sl (encS l)] := by
  obtain ⟨m, es, rfl, hes⟩ := wt_sl Try.underlying34 h
  obtain ⟨l, rfl⟩ := dec_map (fun v : List UInt8 => [Pd.str v]) es fun y hy => by
    obtain ⟨v, h1⟩ := wt_str Try.underlying9 (hes y hy)
    exact ⟨v, h1⟩
  exact ⟨l, rfl⟩
theorem dec_lines {n : Nat} {cs : List Pd} (h : wtP Try.prog n 22 cs) : ∃ l : List Ln, cs = [.sl (encL l)] := by
  obtain ⟨m, es, rfl, hes⟩ := wt_sl Try.underlying22 h
  obtain ⟨l, rfl⟩ := dec_map (fun x : Ln => [Pd.int .i64 x.num, .sl (encS x.fs)]) es fun y hy => by
    obtain ⟨m2, h1⟩ := wt_st Try.underlying36 (hes y hy)
    obtain ⟨a, b, rfl, h2, c, d, rfl, h3, rfl⟩ := h1
    obtain ⟨v, rfl, _⟩ := wt_int Try.underlying3 h2
    obtain ⟨fs, rfl⟩ := dec_strs h3
    exact ⟨⟨v, fs⟩, rfl⟩
  exact ⟨l, rfl⟩
theorem strs_small (l : List (List UInt8)) : l.length ≤ pdBs (encS l) := (pdBs_map (fun s : List UInt8 => [Pd.str s]) (fun x => by simp [pdBl, pdB]) l).1
theorem lines_small (l : List Ln) (h : pdBl [.sl (encL l)] ≤ 1048576) : smallL l := by
  simp only [pdBl, pdB] at h
  have h1 : l.length ≤ pdBs (encL l) ∧ ∀ x ∈ l, pdBl [Pd.int .i64 x.num, .sl (encS x.fs)] ≤ pdBs (encL l) := pdBs_map (fun x : Ln => [Pd.int .i64 x.num, .sl (encS x.fs)]) (fun x => by simp only [pdBl, pdB]; omega) l
  refine ⟨by have := h1.1; omega, fun x hx => ?_⟩
  have h2 := h1.2 x hx
  have h3 := strs_small x.fs
  simp only [pdBl, pdB] at h2
  omega
end Go.Proofs.Ytefdjkakojfhnaa
