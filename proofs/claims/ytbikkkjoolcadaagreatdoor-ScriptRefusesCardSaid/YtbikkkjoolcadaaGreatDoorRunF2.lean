/- Of the law's runs, one: a run of the executor for one residue of its argument. -/
import Derived.Test.YtbikkkjoolcadaaGreatDoorIntr
import Derived.KernelRfl
namespace Go.Ex
open Go.Proofs

theorem allF2 : (lawM Tryz.prog 64 400000 4 [u8s 14 10] gl && (lawM Tryz.prog 64 400000 4 [u8s 14 11] gl && (lawM Tryz.prog 64 400000 4 [u8s 14 12] gl && lawM Tryz.prog 64 400000 4 [u8s 14 13] gl))) = true := by kernel_rfl
theorem runF10 : lawM Tryz.prog 64 400000 4 [u8s 14 10] gl = true := andL (allF2)
theorem runF11 : lawM Tryz.prog 64 400000 4 [u8s 14 11] gl = true := andL (andR (allF2))
theorem runF12 : lawM Tryz.prog 64 400000 4 [u8s 14 12] gl = true := andL (andR (andR (allF2)))
theorem runF13 : lawM Tryz.prog 64 400000 4 [u8s 14 13] gl = true := andR (andR (andR (allF2)))

end Go.Ex
