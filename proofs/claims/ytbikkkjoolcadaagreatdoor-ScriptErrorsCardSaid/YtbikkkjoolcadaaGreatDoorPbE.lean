/- Of the proof, a part (together they pass the memory). -/
import Derived.Test.YtbikkkjoolcadaaGreatDoorRows
import Derived.Test.YtbikkkjoolcadaaGreatDoorPbF
import Derived.WalkKit
import Derived.ProofKit
import Derived.OpenShut
import Derived.ChangeSame
import Derived.ChangeVars
import Derived.JoinedOf
import Derived.RowKit
import Derived.RowKitTokens
import Derived.LaidLaws
import Derived.LaidHandle
import Derived.LaidMore
import Derived.LaidSub
import Derived.Lay
import Derived.MakeChecks
import Derived.Lib.LaidTab
import Derived.Lib.ItoaNum
import Derived.Stop.Joined
import Derived.SevenTiedAt
namespace Go.Proofs.YtbikkkjoolcadaaGreatDoor.scriptErrors
open Go.ChangeShapes Go.WideShapes Go.ChangeAt Go.RowKit
set_option linter.unusedVariables false

/-- The start of the other law's proof: both rows list the same variables. -/
noncomputable def laidWorld (os : Os) : World := scriptRefuses.laidWorld os
theorem laidWorld_os (os : Os) : (laidWorld os).os = os := scriptRefuses.laidWorld_os os
theorem laidWorld_met (os : Os) (args : Array Value) : laidMetH Tryz.prog Rows.scriptErrorsRow.laid ((laidWorld os).forCall (fun _ _ => 0) ⟨#[], args, []⟩).memory :=
  scriptRefuses.laidWorld_met os args
theorem laidWorld_shaped (os : Os) : (laidWorld os).Shaped Tryz.prog := scriptRefuses.laidWorld_shaped os
end Go.Proofs.YtbikkkjoolcadaaGreatDoor.scriptErrors
