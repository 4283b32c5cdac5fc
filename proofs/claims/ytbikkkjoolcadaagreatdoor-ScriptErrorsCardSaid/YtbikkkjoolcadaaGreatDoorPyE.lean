/- Of the proof, a part (together they pass the memory). -/
import Derived.Test.YtbikkkjoolcadaaGreatDoorRows
import Derived.WalkKit
import Derived.ProofKit
import Derived.OpenShut
import Derived.ChangeSame
import Derived.ChangeVars
import Derived.JoinedOf
import Derived.RowKit
import Derived.RowKitTokens
import Derived.LaidLaws
import Derived.LaidHandle
import Derived.LaidMore
import Derived.LaidSub
import Derived.Lay
import Derived.MakeChecks
import Derived.Lib.LaidTab
import Derived.Lib.ItoaNum
import Derived.Stop.Joined
import Derived.SevenTiedAt
namespace Go.Proofs.YtbikkkjoolcadaaGreatDoor.scriptErrors
open Go.ChangeShapes Go.WideShapes Go.ChangeAt Go.RowKit
set_option linter.unusedVariables false

theorem j25 : (Tryz.prog.mayEnter : Bool) = true := by kernel_rfl
theorem j26 : ((Rows.scriptErrorsRow.lifted == Tryz.prog.liftsFinal) : Bool) = true := by kernel_rfl
theorem j27 : ((Tryz.prog.make == some Rows.scriptErrorsRow.make) : Bool) = true := by kernel_rfl
theorem j28 : ((Rows.scriptErrorsRow.kinds == (if Rows.scriptErrorsRow.domain.isEmpty then [] else Tryz.f3.params.toList.map fun t => match Tryz.prog.underlying t with | some (.int k) => some k | _ => none)) : Bool) = true := by kernel_rfl
theorem j29 : ((Rows.scriptErrorsRow.pinned == Rows.scriptErrorsRow.pinnedBy) : Bool) = true := by kernel_rfl
theorem j30 : ((Rows.scriptErrorsRow.veiled == (Tryz.f3.params.toList ++ Rows.scriptErrorsSpec.plain.varTypes Tryz.prog ++ Tryz.f3.resultTypes.toList).any (Tryz.prog.veiledRec ·)) : Bool) = true := by kernel_rfl
theorem j31 : (Rows.scriptErrorsRow.veiledFits Tryz.prog Tryz.f3.params.toList (Tryz.f3.params.toList ++ Rows.scriptErrorsSpec.plain.varTypes Tryz.prog ++ Tryz.f3.resultTypes.toList) : Bool) = true := by kernel_rfl
end Go.Proofs.YtbikkkjoolcadaaGreatDoor.scriptErrors
