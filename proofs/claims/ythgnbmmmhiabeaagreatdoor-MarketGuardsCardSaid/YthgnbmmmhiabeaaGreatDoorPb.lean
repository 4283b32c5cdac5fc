/- Of the proof, a part (together they pass the memory). -/
import Derived.Test.YthgnbmmmhiabeaaGreatDoorRows
import Derived.WalkKit
import Derived.ProofKit
import Derived.OpenShut
import Derived.ChangeSame
import Derived.ChangeVars
import Derived.JoinedOf
import Derived.RowKit
import Derived.RowKitTokens
import Derived.LaidLaws
import Derived.LaidHandle
import Derived.Stop.Joined
import Derived.SevenTiedAt
namespace Go.Proofs.YthgnbmmmhiabeaaGreatDoor.marketGuards
open Go.ChangeShapes Go.WideShapes Go.ChangeAt Go.RowKit
set_option linter.unusedVariables false

/-- A world that meets the condition: the settled one, the variable's cell laid. -/
noncomputable def laidWorld (os : Os) : World :=
  let w0 := World.holding Tryz.prog os ⟨#[], #[], []⟩
  { w0 with heap := w0.heap.modify ((Tryz.prog.globalNamed "errors.errorType").getD 0) fun
      | .cells _ t frozen => .cells #[laidHandle] t frozen
      | o => o }
  where laidHandle : Value := .iface (((Tryz.prog.cutTypes.find? (·.1 == "internal/reflectlite.rtype")).map (·.2)).getD 0) (.agg #[typeHandle Tryz.prog ((((List.range Tryz.prog.types.size).filter fun t => Tryz.prog.rowNamed t [101, 114, 114, 111, 114])).headD 0)])
theorem laidWorld_met (os : Os) (args : Array Value) : laidMetH Tryz.prog Rows.marketGuardsRow.laid ((laidWorld os).forCall (fun _ _ => 0) ⟨#[], args, []⟩).memory :=
  laidMetH_of_parts (laidMet_nil _ _) (by kernel_rfl)
end Go.Proofs.YthgnbmmmhiabeaaGreatDoor.marketGuards
