/- Of the law's runs, one: a run of the executor for one residue of its argument. -/
import Derived.Test.YtbikkkjoolcadaaGreatDoorIntr
import Derived.KernelRfl
namespace Go.Ex
open Go.Proofs

theorem allF1 : (lawM Tryz.prog 64 400000 4 [u8s 14 5] gl && (lawM Tryz.prog 64 400000 4 [u8s 14 6] gl && (lawM Tryz.prog 64 400000 4 [u8s 14 7] gl && (lawM Tryz.prog 64 400000 4 [u8s 14 8] gl && lawM Tryz.prog 64 400000 4 [u8s 14 9] gl)))) = true := by kernel_rfl
theorem runF5 : lawM Tryz.prog 64 400000 4 [u8s 14 5] gl = true := andL (allF1)
theorem runF6 : lawM Tryz.prog 64 400000 4 [u8s 14 6] gl = true := andL (andR (allF1))
theorem runF7 : lawM Tryz.prog 64 400000 4 [u8s 14 7] gl = true := andL (andR (andR (allF1)))
theorem runF8 : lawM Tryz.prog 64 400000 4 [u8s 14 8] gl = true := andL (andR (andR (andR (allF1))))
theorem runF9 : lawM Tryz.prog 64 400000 4 [u8s 14 9] gl = true := andR (andR (andR (andR (allF1))))

end Go.Ex
