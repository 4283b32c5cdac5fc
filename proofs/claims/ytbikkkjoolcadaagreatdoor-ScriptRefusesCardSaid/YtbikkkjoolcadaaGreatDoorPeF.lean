/- Of the proof, a part (together they pass the memory). -/
import Derived.Test.YtbikkkjoolcadaaGreatDoorPdF
import Derived.WalkKit
import Derived.ProofKit
import Derived.OpenShut
import Derived.ChangeSame
import Derived.ChangeVars
import Derived.JoinedOf
import Derived.RowKit
import Derived.RowKitTokens
import Derived.LaidLaws
import Derived.LaidHandle
import Derived.LaidMore
import Derived.LaidSub
import Derived.Lay
import Derived.MakeChecks
import Derived.Lib.LaidTab
import Derived.Lib.ItoaNum
import Derived.Stop.Joined
import Derived.SevenTiedAt
namespace Go.Proofs.YtbikkkjoolcadaaGreatDoor.scriptRefuses
open Go.ChangeShapes Go.WideShapes Go.ChangeAt Go.RowKit
set_option linter.unusedVariables false

/-! What the row says of the call's text: off the list of what it can come to, once. -/
theorem inIs : Tryz.prog.inPlace 4 = ["internal/bytealg.IndexByteString", "internal/bytealg.IndexString", "math.Float64frombits", "math.Float64bits", "internal/abi.NoEscape", "internal/bytealg.MakeNoZero", "internal/bytealg.abigen_runtime_cmpstring", "internal/reflectlite.ValueOf", "(internal/reflectlite.Value).Type", "(internal/reflectlite.Value).IsNil", "internal/reflectlite.TypeOf", "(internal/reflectlite.Value).Elem", "(internal/reflectlite.Value).Set", "slices.overlaps[int64]", "slices.overlaps[rialto/api.Entry]", "slices.overlaps[*rialto/tree.node[rialto/api.Entry]]", "slices.overlaps[*rialto/tree.node[int64]]", "slices.overlaps[*rialto/index.Index]"] := by unfold Program.inPlace; rw [clIs]; kernel_rfl
theorem unIs : Tryz.prog.unfollowed 4 = true := by unfold Program.unfollowed; rw [clIs]; kernel_rfl
theorem reIs : Tryz.prog.recurses 4 = true := by unfold Program.recurses; rw [unIs]; rfl
end Go.Proofs.YtbikkkjoolcadaaGreatDoor.scriptRefuses
