/- A fact of the tie, by itself. -/
import Derived.Test.YthgnbmmmhiabeaaGreatDoorRows
import Derived.LaidByTextLater
import Derived.SevenTiedAt
import Derived.LaidSub
import Derived.LaidOnce
import Derived.KernelRfl
namespace Go.Proofs.YthgnbmmmhiabeaaGreatDoor
open Go
set_option maxRecDepth 100000
theorem tc : ∀ os tape, doorLeaves Tryz.prog 16 8 2 [("errors.errorType", Rows.laid_errors_errorType)] os tape = some (([("errors.errorType", Rows.laid_errors_errorType)] : List (String × DataW Unit)).filter fun x => x.2.handleName?.isNone, (funcsListed [("errors.errorType", Rows.laid_errors_errorType)]).map (·.2.funcsOut)) := fun _ _ => by kernel_rfl
end Go.Proofs.YthgnbmmmhiabeaaGreatDoor
