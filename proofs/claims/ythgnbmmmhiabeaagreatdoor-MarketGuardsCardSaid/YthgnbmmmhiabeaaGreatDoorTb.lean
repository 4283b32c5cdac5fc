/- A fact of the tie, by itself. -/
import Derived.Test.YthgnbmmmhiabeaaGreatDoorRows
import Derived.LaidByTextLater
import Derived.SevenTiedAt
import Derived.LaidSub
import Derived.LaidOnce
import Derived.KernelRfl
namespace Go.Proofs.YthgnbmmmhiabeaaGreatDoor
open Go
set_option maxRecDepth 100000
theorem tb : varsNamedLaterB Tryz.prog (varsId Tryz.prog) [("errors.errorType", Rows.laid_errors_errorType)] = true := by kernel_rfl
end Go.Proofs.YthgnbmmmhiabeaaGreatDoor
