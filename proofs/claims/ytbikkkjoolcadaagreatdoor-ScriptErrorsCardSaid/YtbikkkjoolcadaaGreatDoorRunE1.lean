/- Of the law's runs, one: a run of the executor for one residue of its argument. -/
import Derived.Test.YtbikkkjoolcadaaGreatDoorIntr
import Derived.KernelRfl
namespace Go.Ex
open Go.Proofs

theorem allE1 : (lawM Tryz.prog 64 400000 3 [u8s 9 3] gl && (lawM Tryz.prog 64 400000 3 [u8s 9 4] gl && lawM Tryz.prog 64 400000 3 [u8s 9 5] gl)) = true := by kernel_rfl
theorem runE3 : lawM Tryz.prog 64 400000 3 [u8s 9 3] gl = true := andL (allE1)
theorem runE4 : lawM Tryz.prog 64 400000 3 [u8s 9 4] gl = true := andL (andR (allE1))
theorem runE5 : lawM Tryz.prog 64 400000 3 [u8s 9 5] gl = true := andR (andR (allE1))

end Go.Ex
