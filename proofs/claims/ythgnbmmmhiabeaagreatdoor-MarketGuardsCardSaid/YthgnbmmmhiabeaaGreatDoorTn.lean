/- A fact of the tie, by itself. -/
import Derived.Test.YthgnbmmmhiabeaaGreatDoorRows
import Derived.KernelRfl
namespace Go.Proofs.YthgnbmmmhiabeaaGreatDoor
open Go
theorem noOwnUnsafe : Tryz.pinned.checked.prog.headLifts.contains "ownunsafe" = false := by kernel_rfl
end Go.Proofs.YthgnbmmmhiabeaaGreatDoor
