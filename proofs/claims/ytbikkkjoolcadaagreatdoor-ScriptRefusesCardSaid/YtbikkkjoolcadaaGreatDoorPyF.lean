/- Of the proof, a part (together they pass the memory). -/
import Derived.Test.YtbikkkjoolcadaaGreatDoorRows
import Derived.WalkKit
import Derived.ProofKit
import Derived.OpenShut
import Derived.ChangeSame
import Derived.ChangeVars
import Derived.JoinedOf
import Derived.RowKit
import Derived.RowKitTokens
import Derived.LaidLaws
import Derived.LaidHandle
import Derived.LaidMore
import Derived.LaidSub
import Derived.Lay
import Derived.MakeChecks
import Derived.Lib.LaidTab
import Derived.Lib.ItoaNum
import Derived.Stop.Joined
import Derived.SevenTiedAt
namespace Go.Proofs.YtbikkkjoolcadaaGreatDoor.scriptRefuses
open Go.ChangeShapes Go.WideShapes Go.ChangeAt Go.RowKit
set_option linter.unusedVariables false

theorem j25 : (Tryz.prog.mayEnter : Bool) = true := by kernel_rfl
theorem j26 : ((Rows.scriptRefusesRow.lifted == Tryz.prog.liftsFinal) : Bool) = true := by kernel_rfl
theorem j27 : ((Tryz.prog.make == some Rows.scriptRefusesRow.make) : Bool) = true := by kernel_rfl
theorem j28 : ((Rows.scriptRefusesRow.kinds == (if Rows.scriptRefusesRow.domain.isEmpty then [] else Tryz.f4.params.toList.map fun t => match Tryz.prog.underlying t with | some (.int k) => some k | _ => none)) : Bool) = true := by kernel_rfl
theorem j29 : ((Rows.scriptRefusesRow.pinned == Rows.scriptRefusesRow.pinnedBy) : Bool) = true := by kernel_rfl
theorem j30 : ((Rows.scriptRefusesRow.veiled == (Tryz.f4.params.toList ++ Rows.scriptRefusesSpec.plain.varTypes Tryz.prog ++ Tryz.f4.resultTypes.toList).any (Tryz.prog.veiledRec ·)) : Bool) = true := by kernel_rfl
theorem j31 : (Rows.scriptRefusesRow.veiledFits Tryz.prog Tryz.f4.params.toList (Tryz.f4.params.toList ++ Rows.scriptRefusesSpec.plain.varTypes Tryz.prog ++ Tryz.f4.resultTypes.toList) : Bool) = true := by kernel_rfl
end Go.Proofs.YtbikkkjoolcadaaGreatDoor.scriptRefuses
