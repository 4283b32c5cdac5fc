/- Of the law's runs, some: one run of the executor for each length, sign of the last element, bool. -/
import Derived.Test.YtgahanlgloojjaaGreatDoorIntr
import Derived.KernelRfl
namespace Go.Ex
open Go.Proofs

theorem allS5 : (lawW Tryz.prog 64 20000 3 [.slice (some ⟨64, 0, some 0⟩) 3 sent, .bool true] [(0, [handle])] (spanC 3 (lastV 1)) && (lawW Tryz.prog 64 20000 3 [.slice (some ⟨64, 0, some 0⟩) 3 sent, .bool false] [(0, [handle])] (spanC 3 (lastV 2)) && lawW Tryz.prog 64 20000 3 [.slice (some ⟨64, 0, some 0⟩) 3 sent, .bool true] [(0, [handle])] (spanC 3 (lastV 2)))) = true := by kernel_rfl
theorem runSS3_1_true : lawW Tryz.prog 64 20000 3 [.slice (some ⟨64, 0, some 0⟩) 3 sent, .bool true] [(0, [handle])] (spanC 3 (lastV 1)) = true := andL (allS5)
theorem runSS3_2_false : lawW Tryz.prog 64 20000 3 [.slice (some ⟨64, 0, some 0⟩) 3 sent, .bool false] [(0, [handle])] (spanC 3 (lastV 2)) = true := andL (andR (allS5))
theorem runSS3_2_true : lawW Tryz.prog 64 20000 3 [.slice (some ⟨64, 0, some 0⟩) 3 sent, .bool true] [(0, [handle])] (spanC 3 (lastV 2)) = true := andR (andR (allS5))
theorem allS6 : (lawW Tryz.prog 64 20000 3 [.slice (some ⟨64, 0, some 0⟩) 4 sent, .bool false] [(0, [handle])] (spanC 4 (lastV 0)) && (lawW Tryz.prog 64 20000 3 [.slice (some ⟨64, 0, some 0⟩) 4 sent, .bool true] [(0, [handle])] (spanC 4 (lastV 0)) && lawW Tryz.prog 64 20000 3 [.slice (some ⟨64, 0, some 0⟩) 4 sent, .bool false] [(0, [handle])] (spanC 4 (lastV 1)))) = true := by kernel_rfl
theorem runSS4_0_false : lawW Tryz.prog 64 20000 3 [.slice (some ⟨64, 0, some 0⟩) 4 sent, .bool false] [(0, [handle])] (spanC 4 (lastV 0)) = true := andL (allS6)
theorem runSS4_0_true : lawW Tryz.prog 64 20000 3 [.slice (some ⟨64, 0, some 0⟩) 4 sent, .bool true] [(0, [handle])] (spanC 4 (lastV 0)) = true := andL (andR (allS6))
theorem runSS4_1_false : lawW Tryz.prog 64 20000 3 [.slice (some ⟨64, 0, some 0⟩) 4 sent, .bool false] [(0, [handle])] (spanC 4 (lastV 1)) = true := andR (andR (allS6))
theorem allS7 : (lawW Tryz.prog 64 20000 3 [.slice (some ⟨64, 0, some 0⟩) 4 sent, .bool true] [(0, [handle])] (spanC 4 (lastV 1)) && (lawW Tryz.prog 64 20000 3 [.slice (some ⟨64, 0, some 0⟩) 4 sent, .bool false] [(0, [handle])] (spanC 4 (lastV 2)) && lawW Tryz.prog 64 20000 3 [.slice (some ⟨64, 0, some 0⟩) 4 sent, .bool true] [(0, [handle])] (spanC 4 (lastV 2)))) = true := by kernel_rfl
theorem runSS4_1_true : lawW Tryz.prog 64 20000 3 [.slice (some ⟨64, 0, some 0⟩) 4 sent, .bool true] [(0, [handle])] (spanC 4 (lastV 1)) = true := andL (allS7)
theorem runSS4_2_false : lawW Tryz.prog 64 20000 3 [.slice (some ⟨64, 0, some 0⟩) 4 sent, .bool false] [(0, [handle])] (spanC 4 (lastV 2)) = true := andL (andR (allS7))
theorem runSS4_2_true : lawW Tryz.prog 64 20000 3 [.slice (some ⟨64, 0, some 0⟩) 4 sent, .bool true] [(0, [handle])] (spanC 4 (lastV 2)) = true := andR (andR (allS7))
theorem allS8 : (lawW Tryz.prog 64 20000 3 [.slice (some ⟨64, 0, some 0⟩) 5 sent, .bool false] [(0, [handle])] (spanC 5 (lastV 0)) && (lawW Tryz.prog 64 20000 3 [.slice (some ⟨64, 0, some 0⟩) 5 sent, .bool true] [(0, [handle])] (spanC 5 (lastV 0)) && lawW Tryz.prog 64 20000 3 [.slice (some ⟨64, 0, some 0⟩) 5 sent, .bool false] [(0, [handle])] (spanC 5 (lastV 1)))) = true := by kernel_rfl
theorem runSS5_0_false : lawW Tryz.prog 64 20000 3 [.slice (some ⟨64, 0, some 0⟩) 5 sent, .bool false] [(0, [handle])] (spanC 5 (lastV 0)) = true := andL (allS8)
theorem runSS5_0_true : lawW Tryz.prog 64 20000 3 [.slice (some ⟨64, 0, some 0⟩) 5 sent, .bool true] [(0, [handle])] (spanC 5 (lastV 0)) = true := andL (andR (allS8))
theorem runSS5_1_false : lawW Tryz.prog 64 20000 3 [.slice (some ⟨64, 0, some 0⟩) 5 sent, .bool false] [(0, [handle])] (spanC 5 (lastV 1)) = true := andR (andR (allS8))
theorem allS9 : (lawW Tryz.prog 64 20000 3 [.slice (some ⟨64, 0, some 0⟩) 5 sent, .bool true] [(0, [handle])] (spanC 5 (lastV 1)) && (lawW Tryz.prog 64 20000 3 [.slice (some ⟨64, 0, some 0⟩) 5 sent, .bool false] [(0, [handle])] (spanC 5 (lastV 2)) && lawW Tryz.prog 64 20000 3 [.slice (some ⟨64, 0, some 0⟩) 5 sent, .bool true] [(0, [handle])] (spanC 5 (lastV 2)))) = true := by kernel_rfl
theorem runSS5_1_true : lawW Tryz.prog 64 20000 3 [.slice (some ⟨64, 0, some 0⟩) 5 sent, .bool true] [(0, [handle])] (spanC 5 (lastV 1)) = true := andL (allS9)
theorem runSS5_2_false : lawW Tryz.prog 64 20000 3 [.slice (some ⟨64, 0, some 0⟩) 5 sent, .bool false] [(0, [handle])] (spanC 5 (lastV 2)) = true := andL (andR (allS9))
theorem runSS5_2_true : lawW Tryz.prog 64 20000 3 [.slice (some ⟨64, 0, some 0⟩) 5 sent, .bool true] [(0, [handle])] (spanC 5 (lastV 2)) = true := andR (andR (allS9))

end Go.Ex
