/- Texts of this proof, what it rests on, merged: part H. -/
import Derived.Lib.Builder
import Derived.Lib.UnsafeStr
import Derived.Tactics
import Derived.Tactics2
import Derived.Test.YtjbklifaekjilaaGreatDoorLpG
noncomputable section
namespace Go.Am
open Go Go.Proofs Go.RowKit
open Tryz
set_option maxRecDepth 100000
set_option linter.unusedVariables false
set_option linter.unusedSimpArgs false
set_option maxHeartbeats 2000000
end Go.Am
end
noncomputable section
namespace Go.Am
open Go Go.Proofs
open Tryz
set_option maxRecDepth 100000
set_option linter.unusedVariables false
set_option linter.unusedSimpArgs false
set_option maxHeartbeats 2000000
end Go.Am
end
noncomputable section
namespace Go.Am
open Go Go.Proofs Go.RowKit
open Tryz
set_option maxRecDepth 100000
set_option linter.unusedVariables false
set_option linter.unusedSimpArgs false
set_option maxHeartbeats 2000000
end Go.Am
end
