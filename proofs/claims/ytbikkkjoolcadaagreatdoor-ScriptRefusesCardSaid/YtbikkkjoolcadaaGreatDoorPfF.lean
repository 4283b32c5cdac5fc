/- Of the proof, a part (together they pass the memory). -/
import Derived.Test.YtbikkkjoolcadaaGreatDoorPgF
import Derived.Test.YtbikkkjoolcadaaGreatDoorPxF
import Derived.Test.YtbikkkjoolcadaaGreatDoorPw
import Derived.Test.YtbikkkjoolcadaaGreatDoorPyF
import Derived.WalkKit
import Derived.ProofKit
import Derived.OpenShut
import Derived.ChangeSame
import Derived.ChangeVars
import Derived.JoinedOf
import Derived.RowKit
import Derived.RowKitTokens
import Derived.LaidLaws
import Derived.LaidHandle
import Derived.LaidMore
import Derived.LaidSub
import Derived.Lay
import Derived.MakeChecks
import Derived.Lib.LaidTab
import Derived.Lib.ItoaNum
import Derived.Stop.Joined
import Derived.SevenTiedAt
namespace Go.Proofs.YtbikkkjoolcadaaGreatDoor.scriptRefuses
open Go.ChangeShapes Go.WideShapes Go.ChangeAt Go.RowKit
set_option linter.unusedVariables false

theorem j9 : ((Rows.scriptRefusesRow.inPlace == Tryz.prog.inPlace 4) : Bool) = true := by rw [inIs]; kernel_rfl
theorem j10 : ((Rows.scriptRefusesRow.unfollowed == Tryz.prog.unfollowed 4) : Bool) = true := by rw [unIs]; kernel_rfl
theorem j11 : ((Rows.scriptRefusesRow.recurses == Tryz.prog.recurses 4) : Bool) = true := by rw [reIs]; kernel_rfl
theorem j12 : ((Rows.scriptRefusesRow.named == Tryz.prog.varsNamed 4) : Bool) = true := by rw [vaIs]; kernel_rfl
theorem j1 : (laidOutB Tryz.prog : Bool) = true := layIs
theorem and_mk {a b : Bool} (h : a = true) (k : b = true) : (a && b) = true := by rw [h, k]; rfl
set_option maxRecDepth 100000 in
theorem facts : joinedFacts Tryz.prog 4 Tryz.f4 Rows.scriptRefusesSpec Rows.scriptRefusesRow = true := by
  unfold joinedFacts
  first
  | exact (and_mk (and_mk (and_mk (and_mk (and_mk (and_mk (and_mk (and_mk (and_mk (and_mk (and_mk (and_mk (and_mk (and_mk (and_mk (and_mk (and_mk (and_mk (and_mk (and_mk (and_mk (and_mk (and_mk (and_mk (and_mk (and_mk (and_mk (and_mk (and_mk (and_mk (and_mk j0 j1) j2) j3) j4) j5) j6) j7) j8) j9) j10) j11) j12) j13) j14) j15) j16) j17) j18) j19) j20) j21) j22) j23) j24) j25) j26) j27) j28) j29) j30) j31)
  | simp only [j0, j1, j2, j3, j4, j5, j6, j7, j8, j9, j10, j11, j12, j13, j14, j15, j16, j17, j18, j19, j20, j21, j22, j23, j24, j25, j26, j27, j28, j29, j30, j31, Bool.and_self]
end Go.Proofs.YtbikkkjoolcadaaGreatDoor.scriptRefuses
