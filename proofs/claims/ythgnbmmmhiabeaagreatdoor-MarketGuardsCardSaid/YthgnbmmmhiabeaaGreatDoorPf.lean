/- Of the proof, a part (together they pass the memory). -/
import Derived.Test.YthgnbmmmhiabeaaGreatDoorPd
import Derived.WalkKit
import Derived.ProofKit
import Derived.OpenShut
import Derived.ChangeSame
import Derived.ChangeVars
import Derived.JoinedOf
import Derived.RowKit
import Derived.RowKitTokens
import Derived.LaidLaws
import Derived.LaidHandle
import Derived.Stop.Joined
import Derived.SevenTiedAt
namespace Go.Proofs.YthgnbmmmhiabeaaGreatDoor.marketGuards
open Go.ChangeShapes Go.WideShapes Go.ChangeAt Go.RowKit
set_option linter.unusedVariables false

theorem facts : joinedFacts Tryz.prog 3 Tryz.f3 Rows.marketGuardsSpec Rows.marketGuardsRow = true := by
  unfold joinedFacts
  rw [inIs, unIs, reIs, vaIs]
  kernel_rfl
end Go.Proofs.YthgnbmmmhiabeaaGreatDoor.marketGuards
