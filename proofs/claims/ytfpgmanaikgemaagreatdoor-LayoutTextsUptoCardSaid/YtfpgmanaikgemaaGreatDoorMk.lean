/- Texts of this proof, merged: Topd. -/
import Derived.Test.YtfpgmanaikgemaaGreatDoorCards
import Derived.Test.YtfpgmanaikgemaaGreatDoorTie
import Derived.Deep.DeepHandedRow
import Derived.Lib.LaidTab
import Derived.WalkKit
import Derived.ProofKit
import Derived.OpenShut
import Derived.JoinedCond
import Derived.Test.YtfpgmanaikgemaaGreatDoorMj
section
/- What the cards of this seat share: readings, the bound, a world that holds the listed tables. -/
namespace Go.Proofs.YtfpgmanaikgemaaGreatDoor
open Go.Am Go.ChangeShapes Go.WideShapes Go.ChangeAt Go.RowKit
set_option linter.unusedVariables false
set_option maxRecDepth 100000

theorem own : ownKnob Tryz.prog.godebug = none := by kernel_rfl

mutual
theorem bulkD {H : Type} : ∀ d : DataW H, pdBl (flatD d) ≤ Rows.uptoBulk d
  | .lit (.int k n) => by simp [flatD, pdBl, pdB, Rows.uptoBulk]
  | .lit (.bool b) => by simp [flatD, pdBl, pdB, Rows.uptoBulk]
  | .lit (.string l) => by simp [flatD, pdBl, pdB, Rows.uptoBulk]
  | .nil => by simp [flatD, pdBl, pdB, pdBs, Rows.uptoBulk]
  | .slice elems spare => by
    have := bulkE elems
    simp only [flatD, pdBl, pdB, Rows.uptoBulk]; omega
  | .agg parts => by
    have := bulkA parts
    simp only [flatD, Rows.uptoBulk]; omega
  | .lit l => by cases l <;> simp [flatD, pdBl, pdB, Rows.uptoBulk]
  | .ptr d => by simp [flatD, pdBl]
  | .iface t d => by simp [flatD, pdBl]
  | .map entries => by simp [flatD, pdBl]
  | .held h => by simp [flatD, pdBl]
theorem bulkE {H : Type} : ∀ es : List (DataW H), pdBs (flatE es) ≤ Rows.uptoBulkAll es
  | [] => by simp [flatE, pdBs]
  | d :: r => by
    have h1 := bulkD d
    have h2 := bulkE r
    simp only [flatE, pdBs, Rows.uptoBulkAll]; omega
theorem bulkA {H : Type} : ∀ es : List (DataW H), pdBl (flatA es) ≤ Rows.uptoBulkAll es
  | [] => by simp [flatA, pdBl]
  | d :: r => by
    have h1 := bulkD d
    have h2 := bulkA r
    simp only [flatA, pdBl_append, Rows.uptoBulkAll]; omega
end
theorem bulk_append {H : Type} (l r : List (DataW H)) : Rows.uptoBulkAll (l ++ r) = Rows.uptoBulkAll l + Rows.uptoBulkAll r := by
  induction l with
  | nil => simp [Rows.uptoBulkAll]
  | cons x l ih => simp only [List.cons_append, Rows.uptoBulkAll, ih]; omega
theorem bound {H : Type} {l : List (DataW H)} (hk : Rows.uptoSmall H l = true) : Rows.uptoBulkAll l ≤ 1048576 := of_decide_eq_true hk

theorem dec_ints {n : Nat} {cs : List Pd} (h : wtP Tryz.prog n 22 cs) : ∃ l : List Int, cs = [.sl (encI l)] := by
  obtain ⟨m, es, rfl, hes⟩ := wt_sl Tryz.underlying22 h
  obtain ⟨l, rfl⟩ := dec_map (fun v : Int => [Pd.int .i64 v]) es fun y hy => by
    obtain ⟨v, h1, _⟩ := wt_int Tryz.underlying3 (hes y hy)
    exact ⟨v, h1⟩
  exact ⟨l, rfl⟩
theorem dec_strs {n : Nat} {cs : List Pd} (h : wtP Tryz.prog n 52 cs) : ∃ l : List (List UInt8), cs = [.sl (encS l)] := by
  obtain ⟨m, es, rfl, hes⟩ := wt_sl Tryz.underlying52 h
  obtain ⟨l, rfl⟩ := dec_map (fun v : List UInt8 => [Pd.str v]) es fun y hy => by
    obtain ⟨v, h1⟩ := wt_str Tryz.underlying9 (hes y hy)
    exact ⟨v, h1⟩
  exact ⟨l, rfl⟩
theorem dec_lines {n : Nat} {cs : List Pd} (h : wtP Tryz.prog n 39 cs) : ∃ l : List Ln, cs = [.sl (encL l)] := by
  obtain ⟨m, es, rfl, hes⟩ := wt_sl Tryz.underlying39 h
  obtain ⟨l, rfl⟩ := dec_map (fun x : Ln => [Pd.int .i64 x.num, .sl (encS x.fs)]) es fun y hy => by
    obtain ⟨m2, h1⟩ := wt_st Tryz.underlying70 (hes y hy)
    obtain ⟨a, b, rfl, h2, c, d, rfl, h3, rfl⟩ := h1
    obtain ⟨v, rfl, _⟩ := wt_int Tryz.underlying3 h2
    obtain ⟨fs, rfl⟩ := dec_strs h3
    exact ⟨⟨v, fs⟩, rfl⟩
  exact ⟨l, rfl⟩
theorem strs_small (l : List (List UInt8)) : l.length ≤ pdBs (encS l) := (pdBs_map (fun s : List UInt8 => [Pd.str s]) (fun x => by simp [pdBl, pdB]) l).1
theorem lines_small (l : List Ln) (h : pdBl [.sl (encL l)] ≤ 1048576) : (l.length ≤ 4000000 ∧ ∀ x ∈ l, x.fs.length ≤ 4000000) := by
  simp only [pdBl, pdB] at h
  have h1 : l.length ≤ pdBs (encL l) ∧ ∀ x ∈ l, pdBl [Pd.int .i64 x.num, .sl (encS x.fs)] ≤ pdBs (encL l) := pdBs_map (fun x : Ln => [Pd.int .i64 x.num, .sl (encS x.fs)]) (fun x => by simp only [pdBl, pdB]; omega) l
  refine ⟨by have := h1.1; omega, fun x hx => ?_⟩
  have h2 := h1.2 x hx
  have h3 := strs_small x.fs
  simp only [pdBl, pdB] at h2
  omega

theorem dec_mapP {α : Type} (enc : α → List Pd) (p : α → Prop) : ∀ (es : List (List Pd)), (∀ y ∈ es, ∃ x, y = enc x ∧ p x) → ∃ l : List α, es = l.map enc ∧ ∀ x ∈ l, p x
  | [], _ => ⟨[], rfl, by simp⟩
  | y :: r, h => by
    obtain ⟨x, hx, hp⟩ := h y (by simp)
    obtain ⟨l, hl, hlp⟩ := dec_mapP enc p r fun z hz => h z (by simp [hz])
    refine ⟨x :: l, by simp [hx, hl], fun z hz => ?_⟩
    rcases List.mem_cons.1 hz with rfl | hz
    · exact hp
    · exact hlp z hz
theorem dec_linesJ {n : Nat} {cs : List Pd} (h : wtP Tryz.prog n 39 cs) : ∃ l : List Ln, cs = [.sl (encL l)] ∧ ∀ x ∈ l, -9223372036854775808 ≤ x.num ∧ x.num ≤ 9223372036854775807 := by
  obtain ⟨m, es, rfl, hes⟩ := wt_sl Tryz.underlying39 h
  obtain ⟨l, rfl, hl⟩ := dec_mapP (fun x : Ln => [Pd.int .i64 x.num, .sl (encS x.fs)]) (fun x => -9223372036854775808 ≤ x.num ∧ x.num ≤ 9223372036854775807) es fun y hy => by
    obtain ⟨m2, h1⟩ := wt_st Tryz.underlying70 (hes y hy)
    obtain ⟨a, b, rfl, h2, c, d, rfl, h3, rfl⟩ := h1
    obtain ⟨v, rfl, hv⟩ := wt_int Tryz.underlying3 h2
    obtain ⟨fs, rfl⟩ := dec_strs h3
    exact ⟨⟨v, fs⟩, rfl, bounds_i64 hv⟩
  exact ⟨l, rfl, hl⟩
theorem strs_each (l : List (List UInt8)) : ∀ s ∈ l, s.length ≤ pdBs (encS l) := fun s hs => by
  have := (pdBs_map (fun s : List UInt8 => [Pd.str s]) (fun x => by simp [pdBl, pdB]) l).2 s hs
  simp only [pdBl, pdB] at this
  show s.length ≤ pdBs (l.map fun s => [Pd.str s])
  omega
theorem lines_smallJ (l : List Ln) (h : pdBl [.sl (encL l)] ≤ 1048576) : ∀ x ∈ l, ∀ s ∈ x.fs, s.length ≤ 4000000 := by
  simp only [pdBl, pdB] at h
  have h1 : l.length ≤ pdBs (encL l) ∧ ∀ x ∈ l, pdBl [Pd.int .i64 x.num, .sl (encS x.fs)] ≤ pdBs (encL l) := pdBs_map (fun x : Ln => [Pd.int .i64 x.num, .sl (encS x.fs)]) (fun x => by simp only [pdBl, pdB]; omega) l
  intro x hx s hs
  have h2 := h1.2 x hx
  have h3 := strs_each x.fs s hs
  simp only [pdBl, pdB] at h2
  omega

/-- The cells of a datum of numbers. -/
def cellsOf : DataW Unit → List Value
  | .lit (.int k n) => [.int k n]
  | .agg parts => cellsOfs parts
  | _ => []
where cellsOfs : List (DataW Unit) → List Value
  | [] => []
  | d :: r => cellsOf d ++ cellsOfs r
/-- A world that holds the tables: the settled one, each table's block filled. -/
noncomputable def laidAt (os : Os) (tabs : List (Nat × DataW Unit)) : World :=
  let w0 := World.holding Tryz.prog os ⟨#[], #[], []⟩
  { w0 with heap := tabs.foldl (fun h x => h.modify x.1 fun
      | .cells _ t frozen => .cells (cellsOf x.2).toArray t frozen
      | o => o) w0.heap }
end Go.Proofs.YtfpgmanaikgemaaGreatDoor
end
