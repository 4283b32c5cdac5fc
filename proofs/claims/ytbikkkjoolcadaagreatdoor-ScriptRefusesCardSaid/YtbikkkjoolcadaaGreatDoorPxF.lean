/- Of the proof, a part (together they pass the memory). -/
import Derived.Test.YtbikkkjoolcadaaGreatDoorRows
import Derived.WalkKit
import Derived.ProofKit
import Derived.OpenShut
import Derived.ChangeSame
import Derived.ChangeVars
import Derived.JoinedOf
import Derived.RowKit
import Derived.RowKitTokens
import Derived.LaidLaws
import Derived.LaidHandle
import Derived.LaidMore
import Derived.LaidSub
import Derived.Lay
import Derived.MakeChecks
import Derived.Lib.LaidTab
import Derived.Lib.ItoaNum
import Derived.Stop.Joined
import Derived.SevenTiedAt
namespace Go.Proofs.YtbikkkjoolcadaaGreatDoor.scriptRefuses
open Go.ChangeShapes Go.WideShapes Go.ChangeAt Go.RowKit
set_option linter.unusedVariables false

theorem j0 : (Rows.scriptRefusesRow.wf (OpenSpec.ofChange Rows.scriptRefusesSpec) : Bool) = true := by kernel_rfl
theorem j2 : (mapsRowed Tryz.prog : Bool) = true := by kernel_rfl
theorem j3 : (Tryz.f4.params.all (Tryz.prog.readableRec ·) : Bool) = true := by kernel_rfl
theorem j4 : (namedTie Tryz.prog Rows.scriptRefusesRow.named Rows.scriptRefusesSpec.vars : Bool) = true := by kernel_rfl
theorem j5 : ((Rows.scriptRefusesRow.stops == []) : Bool) = true := by kernel_rfl
theorem j6 : ((Tryz.prog.stops == []) : Bool) = true := by kernel_rfl
theorem j7 : ((Rows.scriptRefusesRow.knobs == []) : Bool) = true := by kernel_rfl
theorem j8 : ((Tryz.prog.stopKnobs == []) : Bool) = true := by kernel_rfl
theorem j13 : ((Rows.scriptRefusesRow.maps == (Tryz.f4.params.toList ++ Rows.scriptRefusesSpec.plain.varTypes Tryz.prog).any (Tryz.prog.mapsRec ·)) : Bool) = true := by kernel_rfl
theorem j14 : ((Rows.scriptRefusesRow.ifaces == (Tryz.f4.params.toList ++ Rows.scriptRefusesSpec.plain.varTypes Tryz.prog).any (Tryz.prog.ifacesRec ·)) : Bool) = true := by kernel_rfl
theorem j15 : ((Rows.scriptRefusesRow.mapsOut == Tryz.prog.mapsAmong Tryz.f4.resultTypes.toList) : Bool) = true := by kernel_rfl
theorem j16 : ((Rows.scriptRefusesRow.loops == (Tryz.f4.params.toList ++ Rows.scriptRefusesSpec.plain.varTypes Tryz.prog).any (Tryz.prog.loopsFrom ·)) : Bool) = true := by kernel_rfl
theorem j17 : ((Rows.scriptRefusesRow.wideKeys == (Tryz.f4.params.toList ++ Rows.scriptRefusesSpec.plain.varTypes Tryz.prog ++ Tryz.f4.resultTypes.toList).any (Tryz.prog.wideKeysFrom ·)) : Bool) = true := by kernel_rfl
theorem j18 : (Rows.scriptRefusesSpec.vars.all (Tryz.prog.varReadable ·) : Bool) = true := by kernel_rfl
theorem j19 : (Tryz.f4.resultTypes.all (fun t => Tryz.prog.readableRec t && decide (t < Tryz.prog.types.size)) : Bool) = true := by kernel_rfl
theorem j20 : ((Rows.scriptRefusesRow.ifacesOut == Tryz.f4.resultTypes.toList.any (Tryz.prog.ifacesRec ·)) : Bool) = true := by kernel_rfl
theorem j21 : ((Rows.scriptRefusesRow.loopsOut == Tryz.f4.resultTypes.toList.any (Tryz.prog.loopsFrom ·)) : Bool) = true := by kernel_rfl
theorem j22 : ((Rows.scriptRefusesRow.plainKeys == Tryz.prog.plainKeys) : Bool) = true := by kernel_rfl
theorem j23 : (Rows.scriptRefusesRow.shortTexts.isNone : Bool) = true := by kernel_rfl
theorem j24 : (Tryz.prog.stopsHeard : Bool) = true := by kernel_rfl
end Go.Proofs.YtbikkkjoolcadaaGreatDoor.scriptRefuses
