/- Of the law's runs, one: a run of the executor for one residue of its argument. -/
import Derived.Test.YtbikkkjoolcadaaGreatDoorIntr
import Derived.KernelRfl
namespace Go.Ex
open Go.Proofs

theorem allF0 : (lawM Tryz.prog 64 400000 4 [u8s 14 0] gl && (lawM Tryz.prog 64 400000 4 [u8s 14 1] gl && (lawM Tryz.prog 64 400000 4 [u8s 14 2] gl && (lawM Tryz.prog 64 400000 4 [u8s 14 3] gl && lawM Tryz.prog 64 400000 4 [u8s 14 4] gl)))) = true := by kernel_rfl
theorem runF0 : lawM Tryz.prog 64 400000 4 [u8s 14 0] gl = true := andL (allF0)
theorem runF1 : lawM Tryz.prog 64 400000 4 [u8s 14 1] gl = true := andL (andR (allF0))
theorem runF2 : lawM Tryz.prog 64 400000 4 [u8s 14 2] gl = true := andL (andR (andR (allF0)))
theorem runF3 : lawM Tryz.prog 64 400000 4 [u8s 14 3] gl = true := andL (andR (andR (andR (allF0))))
theorem runF4 : lawM Tryz.prog 64 400000 4 [u8s 14 4] gl = true := andR (andR (andR (andR (allF0))))

end Go.Ex
