/- A fact of the tie, by itself. -/
import Derived.Test.YtbikkkjoolcadaaGreatDoorRows
import Derived.LaidByTextLater
import Derived.SevenTiedAt
import Derived.LaidSub
import Derived.LaidOnce
import Derived.KernelRfl
namespace Go.Proofs.YtbikkkjoolcadaaGreatDoor
open Go
set_option maxRecDepth 100000
theorem ta1 : Tryz.prog.worded (varsWordLater true) = true := by kernel_rfl
theorem ta2 : Tryz.prog.worded (varsWordLater !true) = false := by kernel_rfl
theorem ta3 : Tryz.prog.worded rootWordLater = true := by kernel_rfl
theorem ta5 : (Tryz.prog.funcNamed "gosem.cut.vars").isSome = true := by kernel_rfl
end Go.Proofs.YtbikkkjoolcadaaGreatDoor
