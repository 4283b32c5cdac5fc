/- The row's tie, from facts that stand by themselves (together they pass the memory). -/
import Derived.Test.YthgnbmmmhiabeaaGreatDoorTa
import Derived.Test.YthgnbmmmhiabeaaGreatDoorTb
import Derived.Test.YthgnbmmmhiabeaaGreatDoorTc
import Derived.Test.YthgnbmmmhiabeaaGreatDoorTn
namespace Go.Proofs.YthgnbmmmhiabeaaGreatDoor
open Go
theorem tieIs : Tryz.prog.laidByTextLater [("errors.errorType", Rows.laid_errors_errorType)] [.handle] true :=
  Program.laidByTextLater_by_one 16 8 2 ta1 ta2 ta3 ta4 ta5 tb tc
theorem marketGuards_row_tie : Rows.marketGuardsRow.laidByTextAt .later Tryz.pinned [.handle] true :=
  OpenClaim.laidByTextAt_later rfl rfl tieIs noOwnUnsafe
end Go.Proofs.YthgnbmmmhiabeaaGreatDoor
