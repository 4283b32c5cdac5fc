/- Of the law's runs, one: a run of the executor for one residue of its argument. -/
import Derived.Test.YtbikkkjoolcadaaGreatDoorIntr
import Derived.KernelRfl
namespace Go.Ex
open Go.Proofs

theorem allE2 : (lawM Tryz.prog 64 400000 3 [u8s 9 6] gl && (lawM Tryz.prog 64 400000 3 [u8s 9 7] gl && lawM Tryz.prog 64 400000 3 [u8s 9 8] gl)) = true := by kernel_rfl
theorem runE6 : lawM Tryz.prog 64 400000 3 [u8s 9 6] gl = true := andL (allE2)
theorem runE7 : lawM Tryz.prog 64 400000 3 [u8s 9 7] gl = true := andL (andR (allE2))
theorem runE8 : lawM Tryz.prog 64 400000 3 [u8s 9 8] gl = true := andR (andR (allE2))

end Go.Ex
