/-
  No cell of these rows narrows 'for every input' (looked for: loops, veiled, ifaces, maps, wideKeys, modest, calm, conditions, laid).
  DERIVED. THE GIVEN ROWS OF THIS SEAT. 9 by the template 'for every input the law returns true; each argument reads behind the call as it read before'; 0 by the template 'total and deterministic' (their statements: YtacfhnpmlpaojaaTotals.lean).
  GIVEN WITH THE SEED: the statements are not yours to turn. If you find one false, say at which input.
  Laid BY PROGRAM, IN A SANDBOX (cutbox-rows.mjs): the forced cells as the released guide's own fill.sh prints them over the translation 1dd5304ab501b7c8… (all of the seat's roots in one cut). By AI agents, Wed Nov 11 2026. No macro, syntax, notation, axiom, sorry.
-/
import Derived.Test.YtacfhnpmlpaojaaChecked
import GoSem.Claim
import GoSem.ClaimJoined
import GoSem.ClaimMapViews
import Derived.JoinedTies
import Derived.KernelRfl
namespace Go.Proofs.Ytacfhnpmlpaojaa
/- THE CELL 'sum', in the pinned program and in every row, IS THE sha256 OF THE DUMP (.gsa) THAT YtacfhnpmlpaojaaProg.lean LOADS. Nothing in Lean hashes anything: it is a label: what it is worth is what the hold of that sum in a sandbox is worth. -/
noncomputable def Try.pinned : Pinned := { name := "ytacfhnpmlpaojaa", sum := "1dd5304ab501b7c85fe0c3b9f95338f4ceb44ffb259c1c2cc1204fdad7349bb5", checked := Try.checked }
namespace Rows
def none {H : Type} : Left H := { results := [], args := [] }

/-- 'blockwaylaw05.ComponentsFinds': WHATEVER THE INPUT: true; the input reads as it did. -/
def componentsFindsSpec : ChangeSpec := { name := "componentsFinds", fn := fun _ => fun
  | [d1, d2, d3] => { results := [.lit (.bool true)], args := [d1, d2, d3] }
  | _ => none }
def componentsFindsRow : OpenClaim := { program := "ytacfhnpmlpaojaa", sum := "1dd5304ab501b7c85fe0c3b9f95338f4ceb44ffb259c1c2cc1204fdad7349bb5", func := "blockway/blockwaylaw05.ComponentsFinds", spec := "componentsFinds", unfollowed := true, recurses := true, apart := false }
def ComponentsFindsSaid : Prop := componentsFindsRow.holds Try.pinned (OpenSpec.ofChange componentsFindsSpec)

/-- ITS FALSE NEIGHBOUR: 'it returns false'. Refute it at one input. -/
def componentsFindsWrong : ChangeSpec := { name := "componentsFinds", fn := fun _ => fun
  | [d1, d2, d3] => { results := [.lit (.bool false)], args := [d1, d2, d3] }
  | _ => none }
def ComponentsFindsWrongFalsely : Prop := componentsFindsRow.holds Try.pinned (OpenSpec.ofChange componentsFindsWrong)

/-- 'blockwaylaw05.ComponentsOrder': WHATEVER THE INPUT: true; the input reads as it did. -/
def componentsOrderSpec : ChangeSpec := { name := "componentsOrder", fn := fun _ => fun
  | [d] => { results := [.lit (.bool true)], args := [d] }
  | _ => none }
def componentsOrderRow : OpenClaim := { program := "ytacfhnpmlpaojaa", sum := "1dd5304ab501b7c85fe0c3b9f95338f4ceb44ffb259c1c2cc1204fdad7349bb5", func := "blockway/blockwaylaw05.ComponentsOrder", spec := "componentsOrder", unfollowed := true, recurses := true, apart := false }
def ComponentsOrderSaid : Prop := componentsOrderRow.holds Try.pinned (OpenSpec.ofChange componentsOrderSpec)

/-- ITS FALSE NEIGHBOUR: 'it returns false'. Refute it at one input. -/
def componentsOrderWrong : ChangeSpec := { name := "componentsOrder", fn := fun _ => fun
  | [d] => { results := [.lit (.bool false)], args := [d] }
  | _ => none }
def ComponentsOrderWrongFalsely : Prop := componentsOrderRow.holds Try.pinned (OpenSpec.ofChange componentsOrderWrong)

/-- 'blockwaylaw03.NetmapBuilds': WHATEVER THE INPUT: true; the input reads as it did. -/
def netmapBuildsSpec : ChangeSpec := { name := "netmapBuilds", fn := fun _ => fun
  | [d1, d2, d3] => { results := [.lit (.bool true)], args := [d1, d2, d3] }
  | _ => none }
def netmapBuildsRow : OpenClaim := { program := "ytacfhnpmlpaojaa", sum := "1dd5304ab501b7c85fe0c3b9f95338f4ceb44ffb259c1c2cc1204fdad7349bb5", func := "blockway/blockwaylaw03.NetmapBuilds", spec := "netmapBuilds", unfollowed := true, recurses := true, apart := false }
def NetmapBuildsSaid : Prop := netmapBuildsRow.holds Try.pinned (OpenSpec.ofChange netmapBuildsSpec)

/-- ITS FALSE NEIGHBOUR: 'it returns false'. Refute it at one input. -/
def netmapBuildsWrong : ChangeSpec := { name := "netmapBuilds", fn := fun _ => fun
  | [d1, d2, d3] => { results := [.lit (.bool false)], args := [d1, d2, d3] }
  | _ => none }
def NetmapBuildsWrongFalsely : Prop := netmapBuildsRow.holds Try.pinned (OpenSpec.ofChange netmapBuildsWrong)

/-- 'blockwaylaw03.NetmapTables': WHATEVER THE INPUT: true; the input reads as it did. -/
def netmapTablesSpec : ChangeSpec := { name := "netmapTables", fn := fun _ => fun
  | [d] => { results := [.lit (.bool true)], args := [d] }
  | _ => none }
def netmapTablesRow : OpenClaim := { program := "ytacfhnpmlpaojaa", sum := "1dd5304ab501b7c85fe0c3b9f95338f4ceb44ffb259c1c2cc1204fdad7349bb5", func := "blockway/blockwaylaw03.NetmapTables", spec := "netmapTables", unfollowed := true, recurses := true, apart := false }
def NetmapTablesSaid : Prop := netmapTablesRow.holds Try.pinned (OpenSpec.ofChange netmapTablesSpec)

/-- ITS FALSE NEIGHBOUR: 'it returns false'. Refute it at one input. -/
def netmapTablesWrong : ChangeSpec := { name := "netmapTables", fn := fun _ => fun
  | [d] => { results := [.lit (.bool false)], args := [d] }
  | _ => none }
def NetmapTablesWrongFalsely : Prop := netmapTablesRow.holds Try.pinned (OpenSpec.ofChange netmapTablesWrong)

/-- 'blockwaylaw05.ComponentsMutual': WHATEVER THE INPUT: true; the input reads as it did. -/
def componentsMutualSpec : ChangeSpec := { name := "componentsMutual", fn := fun _ => fun
  | [d] => { results := [.lit (.bool true)], args := [d] }
  | _ => none }
def componentsMutualRow : OpenClaim := { program := "ytacfhnpmlpaojaa", sum := "1dd5304ab501b7c85fe0c3b9f95338f4ceb44ffb259c1c2cc1204fdad7349bb5", func := "blockway/blockwaylaw05.ComponentsMutual", spec := "componentsMutual", unfollowed := true, recurses := true, apart := false }
def ComponentsMutualSaid : Prop := componentsMutualRow.holds Try.pinned (OpenSpec.ofChange componentsMutualSpec)

/-- ITS FALSE NEIGHBOUR: 'it returns false'. Refute it at one input. -/
def componentsMutualWrong : ChangeSpec := { name := "componentsMutual", fn := fun _ => fun
  | [d] => { results := [.lit (.bool false)], args := [d] }
  | _ => none }
def ComponentsMutualWrongFalsely : Prop := componentsMutualRow.holds Try.pinned (OpenSpec.ofChange componentsMutualWrong)

/-- 'blockwaylaw05.ComponentsOne': WHATEVER THE INPUT: true; the input reads as it did. -/
def componentsOneSpec : ChangeSpec := { name := "componentsOne", fn := fun _ => fun
  | [d] => { results := [.lit (.bool true)], args := [d] }
  | _ => none }
def componentsOneRow : OpenClaim := { program := "ytacfhnpmlpaojaa", sum := "1dd5304ab501b7c85fe0c3b9f95338f4ceb44ffb259c1c2cc1204fdad7349bb5", func := "blockway/blockwaylaw05.ComponentsOne", spec := "componentsOne", unfollowed := true, recurses := true, apart := false }
def ComponentsOneSaid : Prop := componentsOneRow.holds Try.pinned (OpenSpec.ofChange componentsOneSpec)

/-- ITS FALSE NEIGHBOUR: 'it returns false'. Refute it at one input. -/
def componentsOneWrong : ChangeSpec := { name := "componentsOne", fn := fun _ => fun
  | [d] => { results := [.lit (.bool false)], args := [d] }
  | _ => none }
def ComponentsOneWrongFalsely : Prop := componentsOneRow.holds Try.pinned (OpenSpec.ofChange componentsOneWrong)

/-- 'blockwaylaw03.NetmapValid': WHATEVER THE INPUT: true; the input reads as it did. -/
def netmapValidSpec : ChangeSpec := { name := "netmapValid", fn := fun _ => fun
  | [d1, d2, d3] => { results := [.lit (.bool true)], args := [d1, d2, d3] }
  | _ => none }
def netmapValidRow : OpenClaim := { program := "ytacfhnpmlpaojaa", sum := "1dd5304ab501b7c85fe0c3b9f95338f4ceb44ffb259c1c2cc1204fdad7349bb5", func := "blockway/blockwaylaw03.NetmapValid", spec := "netmapValid", unfollowed := true, recurses := true, apart := false }
def NetmapValidSaid : Prop := netmapValidRow.holds Try.pinned (OpenSpec.ofChange netmapValidSpec)

/-- ITS FALSE NEIGHBOUR: 'it returns false'. Refute it at one input. -/
def netmapValidWrong : ChangeSpec := { name := "netmapValid", fn := fun _ => fun
  | [d1, d2, d3] => { results := [.lit (.bool false)], args := [d1, d2, d3] }
  | _ => none }
def NetmapValidWrongFalsely : Prop := netmapValidRow.holds Try.pinned (OpenSpec.ofChange netmapValidWrong)

/-- 'blockwaylaw03.NetmapBack': WHATEVER THE INPUT: true; the input reads as it did. -/
def netmapBackSpec : ChangeSpec := { name := "netmapBack", fn := fun _ => fun
  | [d1, d2] => { results := [.lit (.bool true)], args := [d1, d2] }
  | _ => none }
def netmapBackRow : OpenClaim := { program := "ytacfhnpmlpaojaa", sum := "1dd5304ab501b7c85fe0c3b9f95338f4ceb44ffb259c1c2cc1204fdad7349bb5", func := "blockway/blockwaylaw03.NetmapBack", spec := "netmapBack", unfollowed := true, recurses := true, apart := false }
def NetmapBackSaid : Prop := netmapBackRow.holds Try.pinned (OpenSpec.ofChange netmapBackSpec)

/-- ITS FALSE NEIGHBOUR: 'it returns false'. Refute it at one input. -/
def netmapBackWrong : ChangeSpec := { name := "netmapBack", fn := fun _ => fun
  | [d1, d2] => { results := [.lit (.bool false)], args := [d1, d2] }
  | _ => none }
def NetmapBackWrongFalsely : Prop := netmapBackRow.holds Try.pinned (OpenSpec.ofChange netmapBackWrong)

/-- 'blockwaylaw03.NetmapErrors': WHATEVER THE INPUT: true; the input reads as it did. -/
def netmapErrorsSpec : ChangeSpec := { name := "netmapErrors", fn := fun _ => fun
  | [d1, d2] => { results := [.lit (.bool true)], args := [d1, d2] }
  | _ => none }
def netmapErrorsRow : OpenClaim := { program := "ytacfhnpmlpaojaa", sum := "1dd5304ab501b7c85fe0c3b9f95338f4ceb44ffb259c1c2cc1204fdad7349bb5", func := "blockway/blockwaylaw03.NetmapErrors", spec := "netmapErrors", unfollowed := true, recurses := true, apart := false }
def NetmapErrorsSaid : Prop := netmapErrorsRow.holds Try.pinned (OpenSpec.ofChange netmapErrorsSpec)

/-- ITS FALSE NEIGHBOUR: 'it returns false'. Refute it at one input. -/
def netmapErrorsWrong : ChangeSpec := { name := "netmapErrors", fn := fun _ => fun
  | [d1, d2] => { results := [.lit (.bool false)], args := [d1, d2] }
  | _ => none }
def NetmapErrorsWrongFalsely : Prop := netmapErrorsRow.holds Try.pinned (OpenSpec.ofChange netmapErrorsWrong)

/- THE SECOND FORM. 'bulk': how many values and letters a reading holds, each counted each time it is reached (what is shared counts as often as it is met; a slice's spare places count too). A statement '..UptoSaid' is the law's where the arguments, and the package variables that the reading takes, are together of bulk at most 1048576: NARROWER than '..Said'. Prove '..Said' where nothing that the law and all that it calls make is longer than what came in: it says more and counts as full. Else prove '..UptoSaid'. A law counts once. -/
mutual
def uptoBulk {H : Type} : DataW H → Nat
  | .lit (.string bytes) => bytes.length + 1
  | .lit _ => 1
  | .nil => 1
  | .ptr d => uptoBulk d + 1
  | .slice elems spare => uptoBulkAll elems + uptoBulkAll spare + 1
  | .agg parts => uptoBulkAll parts + 1
  | .iface _ d => uptoBulk d + 1
  | .map entries => uptoBulkEntries entries + 1
  | .held _ => 1
def uptoBulkAll {H : Type} : List (DataW H) → Nat
  | [] => 0
  | d :: r => uptoBulk d + uptoBulkAll r
def uptoBulkEntries {H : Type} : List (Lit × DataW H) → Nat
  | [] => 0
  | x :: r => uptoBulkEntry x + uptoBulkEntries r
def uptoBulkEntry {H : Type} : Lit × DataW H → Nat
  | (.string bytes, d) => bytes.length + uptoBulk d + 1
  | (_, d) => uptoBulk d + 1
 end
def uptoSmall : (H : Type) → List (DataW H) → Bool := fun _ ds => decide (uptoBulkAll ds ≤ 1048576)
def OpenSpec.upto (s : _root_.Go.ChangeSpec) : _root_.Go.OpenSpec := { _root_.Go.OpenSpec.ofChange s with cond := some uptoSmall }

/-- 'blockwaylaw05.ComponentsFinds', WHERE WHAT IT READS IS OF BULK AT MOST 1048576: true; the input reads as it did. -/
def componentsFindsUptoRow : OpenClaim := { program := "ytacfhnpmlpaojaa", sum := "1dd5304ab501b7c85fe0c3b9f95338f4ceb44ffb259c1c2cc1204fdad7349bb5", func := "blockway/blockwaylaw05.ComponentsFinds", spec := "componentsFinds", unfollowed := true, recurses := true, apart := false, narrowed := true }
def ComponentsFindsUptoSaid : Prop := componentsFindsUptoRow.holds Try.pinned (OpenSpec.upto componentsFindsSpec)

/-- 'blockwaylaw05.ComponentsOrder', WHERE WHAT IT READS IS OF BULK AT MOST 1048576: true; the input reads as it did. -/
def componentsOrderUptoRow : OpenClaim := { program := "ytacfhnpmlpaojaa", sum := "1dd5304ab501b7c85fe0c3b9f95338f4ceb44ffb259c1c2cc1204fdad7349bb5", func := "blockway/blockwaylaw05.ComponentsOrder", spec := "componentsOrder", unfollowed := true, recurses := true, apart := false, narrowed := true }
def ComponentsOrderUptoSaid : Prop := componentsOrderUptoRow.holds Try.pinned (OpenSpec.upto componentsOrderSpec)

/-- 'blockwaylaw03.NetmapBuilds', WHERE WHAT IT READS IS OF BULK AT MOST 1048576: true; the input reads as it did. -/
def netmapBuildsUptoRow : OpenClaim := { program := "ytacfhnpmlpaojaa", sum := "1dd5304ab501b7c85fe0c3b9f95338f4ceb44ffb259c1c2cc1204fdad7349bb5", func := "blockway/blockwaylaw03.NetmapBuilds", spec := "netmapBuilds", unfollowed := true, recurses := true, apart := false, narrowed := true }
def NetmapBuildsUptoSaid : Prop := netmapBuildsUptoRow.holds Try.pinned (OpenSpec.upto netmapBuildsSpec)

/-- 'blockwaylaw03.NetmapTables', WHERE WHAT IT READS IS OF BULK AT MOST 1048576: true; the input reads as it did. -/
def netmapTablesUptoRow : OpenClaim := { program := "ytacfhnpmlpaojaa", sum := "1dd5304ab501b7c85fe0c3b9f95338f4ceb44ffb259c1c2cc1204fdad7349bb5", func := "blockway/blockwaylaw03.NetmapTables", spec := "netmapTables", unfollowed := true, recurses := true, apart := false, narrowed := true }
def NetmapTablesUptoSaid : Prop := netmapTablesUptoRow.holds Try.pinned (OpenSpec.upto netmapTablesSpec)

/-- 'blockwaylaw05.ComponentsMutual', WHERE WHAT IT READS IS OF BULK AT MOST 1048576: true; the input reads as it did. -/
def componentsMutualUptoRow : OpenClaim := { program := "ytacfhnpmlpaojaa", sum := "1dd5304ab501b7c85fe0c3b9f95338f4ceb44ffb259c1c2cc1204fdad7349bb5", func := "blockway/blockwaylaw05.ComponentsMutual", spec := "componentsMutual", unfollowed := true, recurses := true, apart := false, narrowed := true }
def ComponentsMutualUptoSaid : Prop := componentsMutualUptoRow.holds Try.pinned (OpenSpec.upto componentsMutualSpec)

/-- 'blockwaylaw05.ComponentsOne', WHERE WHAT IT READS IS OF BULK AT MOST 1048576: true; the input reads as it did. -/
def componentsOneUptoRow : OpenClaim := { program := "ytacfhnpmlpaojaa", sum := "1dd5304ab501b7c85fe0c3b9f95338f4ceb44ffb259c1c2cc1204fdad7349bb5", func := "blockway/blockwaylaw05.ComponentsOne", spec := "componentsOne", unfollowed := true, recurses := true, apart := false, narrowed := true }
def ComponentsOneUptoSaid : Prop := componentsOneUptoRow.holds Try.pinned (OpenSpec.upto componentsOneSpec)

/-- 'blockwaylaw03.NetmapValid', WHERE WHAT IT READS IS OF BULK AT MOST 1048576: true; the input reads as it did. -/
def netmapValidUptoRow : OpenClaim := { program := "ytacfhnpmlpaojaa", sum := "1dd5304ab501b7c85fe0c3b9f95338f4ceb44ffb259c1c2cc1204fdad7349bb5", func := "blockway/blockwaylaw03.NetmapValid", spec := "netmapValid", unfollowed := true, recurses := true, apart := false, narrowed := true }
def NetmapValidUptoSaid : Prop := netmapValidUptoRow.holds Try.pinned (OpenSpec.upto netmapValidSpec)

/-- 'blockwaylaw03.NetmapBack', WHERE WHAT IT READS IS OF BULK AT MOST 1048576: true; the input reads as it did. -/
def netmapBackUptoRow : OpenClaim := { program := "ytacfhnpmlpaojaa", sum := "1dd5304ab501b7c85fe0c3b9f95338f4ceb44ffb259c1c2cc1204fdad7349bb5", func := "blockway/blockwaylaw03.NetmapBack", spec := "netmapBack", unfollowed := true, recurses := true, apart := false, narrowed := true }
def NetmapBackUptoSaid : Prop := netmapBackUptoRow.holds Try.pinned (OpenSpec.upto netmapBackSpec)

/-- 'blockwaylaw03.NetmapErrors', WHERE WHAT IT READS IS OF BULK AT MOST 1048576: true; the input reads as it did. -/
def netmapErrorsUptoRow : OpenClaim := { program := "ytacfhnpmlpaojaa", sum := "1dd5304ab501b7c85fe0c3b9f95338f4ceb44ffb259c1c2cc1204fdad7349bb5", func := "blockway/blockwaylaw03.NetmapErrors", spec := "netmapErrors", unfollowed := true, recurses := true, apart := false, narrowed := true }
def NetmapErrorsUptoSaid : Prop := netmapErrorsUptoRow.holds Try.pinned (OpenSpec.upto netmapErrorsSpec)

end Rows
end Go.Proofs.Ytacfhnpmlpaojaa
