/- Of the law's runs, one: a run of the executor for one residue of its argument. -/
import Derived.Test.YtbikkkjoolcadaaGreatDoorIntr
import Derived.KernelRfl
namespace Go.Ex
open Go.Proofs

theorem allE0 : (lawM Tryz.prog 64 400000 3 [u8s 9 0] gl && (lawM Tryz.prog 64 400000 3 [u8s 9 1] gl && lawM Tryz.prog 64 400000 3 [u8s 9 2] gl)) = true := by kernel_rfl
theorem runE0 : lawM Tryz.prog 64 400000 3 [u8s 9 0] gl = true := andL (allE0)
theorem runE1 : lawM Tryz.prog 64 400000 3 [u8s 9 1] gl = true := andL (andR (allE0))
theorem runE2 : lawM Tryz.prog 64 400000 3 [u8s 9 2] gl = true := andR (andR (allE0))

end Go.Ex
