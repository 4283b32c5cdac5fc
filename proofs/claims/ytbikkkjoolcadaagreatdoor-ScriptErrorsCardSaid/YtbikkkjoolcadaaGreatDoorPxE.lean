/- Of the proof, a part (together they pass the memory). -/
import Derived.Test.YtbikkkjoolcadaaGreatDoorRows
import Derived.WalkKit
import Derived.ProofKit
import Derived.OpenShut
import Derived.ChangeSame
import Derived.ChangeVars
import Derived.JoinedOf
import Derived.RowKit
import Derived.RowKitTokens
import Derived.LaidLaws
import Derived.LaidHandle
import Derived.LaidMore
import Derived.LaidSub
import Derived.Lay
import Derived.MakeChecks
import Derived.Lib.LaidTab
import Derived.Lib.ItoaNum
import Derived.Stop.Joined
import Derived.SevenTiedAt
namespace Go.Proofs.YtbikkkjoolcadaaGreatDoor.scriptErrors
open Go.ChangeShapes Go.WideShapes Go.ChangeAt Go.RowKit
set_option linter.unusedVariables false

theorem j0 : (Rows.scriptErrorsRow.wf (OpenSpec.ofChange Rows.scriptErrorsSpec) : Bool) = true := by kernel_rfl
theorem j2 : (mapsRowed Tryz.prog : Bool) = true := by kernel_rfl
theorem j3 : (Tryz.f3.params.all (Tryz.prog.readableRec ·) : Bool) = true := by kernel_rfl
theorem j4 : (namedTie Tryz.prog Rows.scriptErrorsRow.named Rows.scriptErrorsSpec.vars : Bool) = true := by kernel_rfl
theorem j5 : ((Rows.scriptErrorsRow.stops == []) : Bool) = true := by kernel_rfl
theorem j6 : ((Tryz.prog.stops == []) : Bool) = true := by kernel_rfl
theorem j7 : ((Rows.scriptErrorsRow.knobs == []) : Bool) = true := by kernel_rfl
theorem j8 : ((Tryz.prog.stopKnobs == []) : Bool) = true := by kernel_rfl
theorem j13 : ((Rows.scriptErrorsRow.maps == (Tryz.f3.params.toList ++ Rows.scriptErrorsSpec.plain.varTypes Tryz.prog).any (Tryz.prog.mapsRec ·)) : Bool) = true := by kernel_rfl
theorem j14 : ((Rows.scriptErrorsRow.ifaces == (Tryz.f3.params.toList ++ Rows.scriptErrorsSpec.plain.varTypes Tryz.prog).any (Tryz.prog.ifacesRec ·)) : Bool) = true := by kernel_rfl
theorem j15 : ((Rows.scriptErrorsRow.mapsOut == Tryz.prog.mapsAmong Tryz.f3.resultTypes.toList) : Bool) = true := by kernel_rfl
theorem j16 : ((Rows.scriptErrorsRow.loops == (Tryz.f3.params.toList ++ Rows.scriptErrorsSpec.plain.varTypes Tryz.prog).any (Tryz.prog.loopsFrom ·)) : Bool) = true := by kernel_rfl
theorem j17 : ((Rows.scriptErrorsRow.wideKeys == (Tryz.f3.params.toList ++ Rows.scriptErrorsSpec.plain.varTypes Tryz.prog ++ Tryz.f3.resultTypes.toList).any (Tryz.prog.wideKeysFrom ·)) : Bool) = true := by kernel_rfl
theorem j18 : (Rows.scriptErrorsSpec.vars.all (Tryz.prog.varReadable ·) : Bool) = true := by kernel_rfl
theorem j19 : (Tryz.f3.resultTypes.all (fun t => Tryz.prog.readableRec t && decide (t < Tryz.prog.types.size)) : Bool) = true := by kernel_rfl
theorem j20 : ((Rows.scriptErrorsRow.ifacesOut == Tryz.f3.resultTypes.toList.any (Tryz.prog.ifacesRec ·)) : Bool) = true := by kernel_rfl
theorem j21 : ((Rows.scriptErrorsRow.loopsOut == Tryz.f3.resultTypes.toList.any (Tryz.prog.loopsFrom ·)) : Bool) = true := by kernel_rfl
theorem j22 : ((Rows.scriptErrorsRow.plainKeys == Tryz.prog.plainKeys) : Bool) = true := by kernel_rfl
theorem j23 : (Rows.scriptErrorsRow.shortTexts.isNone : Bool) = true := by kernel_rfl
theorem j24 : (Tryz.prog.stopsHeard : Bool) = true := by kernel_rfl
end Go.Proofs.YtbikkkjoolcadaaGreatDoor.scriptErrors
