/- Of the law's runs, some: one run of the executor for each length, sign of the last element, bool. -/
import Derived.Test.YtgahanlgloojjaaGreatDoorIntr
import Derived.KernelRfl
namespace Go.Ex
open Go.Proofs

theorem allS25 : (lawM Tryz.prog 64 20000 3 [.complex .f32 0 12, .bool true] [(0, [handle])] && (lawM Tryz.prog 64 20000 3 [.complex .f32 13 11, .bool false] [(0, [handle])] && lawM Tryz.prog 64 20000 3 [.complex .f32 13 11, .bool true] [(0, [handle])])) = true := by kernel_rfl
theorem runSE_true : lawM Tryz.prog 64 20000 3 [.complex .f32 0 12, .bool true] [(0, [handle])] = true := andL (allS25)
theorem runSG_false : lawM Tryz.prog 64 20000 3 [.complex .f32 13 11, .bool false] [(0, [handle])] = true := andL (andR (allS25))
theorem runSG_true : lawM Tryz.prog 64 20000 3 [.complex .f32 13 11, .bool true] [(0, [handle])] = true := andR (andR (allS25))

end Go.Ex
