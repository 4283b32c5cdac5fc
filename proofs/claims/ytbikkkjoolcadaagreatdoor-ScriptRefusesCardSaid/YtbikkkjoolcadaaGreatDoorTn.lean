/- A fact of the tie, by itself. -/
import Derived.Test.YtbikkkjoolcadaaGreatDoorRows
import Derived.LaidByTextLater
import Derived.SevenTiedAt
import Derived.LaidSub
import Derived.LaidOnce
import Derived.KernelRfl
namespace Go.Proofs.YtbikkkjoolcadaaGreatDoor
open Go
set_option maxRecDepth 100000
theorem noOwnUnsafe : Tryz.pinned.checked.prog.headLifts.contains "ownunsafe" = false := by kernel_rfl
theorem pin0 : Tryz.pinned.checked.prog.pinnedFits "unicode/utf8.first" = true := by kernel_rfl
end Go.Proofs.YtbikkkjoolcadaaGreatDoor
