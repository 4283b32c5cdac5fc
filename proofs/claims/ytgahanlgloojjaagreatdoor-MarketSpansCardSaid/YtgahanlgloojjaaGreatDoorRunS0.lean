/- Of the law's runs, some: one run of the executor for each length, sign of the last element, bool. -/
import Derived.Test.YtgahanlgloojjaaGreatDoorIntr
import Derived.KernelRfl
namespace Go.Ex
open Go.Proofs

theorem allS0 : (lawW Tryz.prog 64 20000 3 [.slice (some ⟨64, 0, some 0⟩) 1 sent, .bool false] [(0, [handle])] (spanC 1 (lastV 0)) && (lawW Tryz.prog 64 20000 3 [.slice (some ⟨64, 0, some 0⟩) 1 sent, .bool true] [(0, [handle])] (spanC 1 (lastV 0)) && lawW Tryz.prog 64 20000 3 [.slice (some ⟨64, 0, some 0⟩) 1 sent, .bool false] [(0, [handle])] (spanC 1 (lastV 1)))) = true := by kernel_rfl
theorem runSS1_0_false : lawW Tryz.prog 64 20000 3 [.slice (some ⟨64, 0, some 0⟩) 1 sent, .bool false] [(0, [handle])] (spanC 1 (lastV 0)) = true := andL (allS0)
theorem runSS1_0_true : lawW Tryz.prog 64 20000 3 [.slice (some ⟨64, 0, some 0⟩) 1 sent, .bool true] [(0, [handle])] (spanC 1 (lastV 0)) = true := andL (andR (allS0))
theorem runSS1_1_false : lawW Tryz.prog 64 20000 3 [.slice (some ⟨64, 0, some 0⟩) 1 sent, .bool false] [(0, [handle])] (spanC 1 (lastV 1)) = true := andR (andR (allS0))
theorem allS1 : (lawW Tryz.prog 64 20000 3 [.slice (some ⟨64, 0, some 0⟩) 1 sent, .bool true] [(0, [handle])] (spanC 1 (lastV 1)) && (lawW Tryz.prog 64 20000 3 [.slice (some ⟨64, 0, some 0⟩) 1 sent, .bool false] [(0, [handle])] (spanC 1 (lastV 2)) && lawW Tryz.prog 64 20000 3 [.slice (some ⟨64, 0, some 0⟩) 1 sent, .bool true] [(0, [handle])] (spanC 1 (lastV 2)))) = true := by kernel_rfl
theorem runSS1_1_true : lawW Tryz.prog 64 20000 3 [.slice (some ⟨64, 0, some 0⟩) 1 sent, .bool true] [(0, [handle])] (spanC 1 (lastV 1)) = true := andL (allS1)
theorem runSS1_2_false : lawW Tryz.prog 64 20000 3 [.slice (some ⟨64, 0, some 0⟩) 1 sent, .bool false] [(0, [handle])] (spanC 1 (lastV 2)) = true := andL (andR (allS1))
theorem runSS1_2_true : lawW Tryz.prog 64 20000 3 [.slice (some ⟨64, 0, some 0⟩) 1 sent, .bool true] [(0, [handle])] (spanC 1 (lastV 2)) = true := andR (andR (allS1))
theorem allS2 : (lawW Tryz.prog 64 20000 3 [.slice (some ⟨64, 0, some 0⟩) 2 sent, .bool false] [(0, [handle])] (spanC 2 (lastV 0)) && (lawW Tryz.prog 64 20000 3 [.slice (some ⟨64, 0, some 0⟩) 2 sent, .bool true] [(0, [handle])] (spanC 2 (lastV 0)) && lawW Tryz.prog 64 20000 3 [.slice (some ⟨64, 0, some 0⟩) 2 sent, .bool false] [(0, [handle])] (spanC 2 (lastV 1)))) = true := by kernel_rfl
theorem runSS2_0_false : lawW Tryz.prog 64 20000 3 [.slice (some ⟨64, 0, some 0⟩) 2 sent, .bool false] [(0, [handle])] (spanC 2 (lastV 0)) = true := andL (allS2)
theorem runSS2_0_true : lawW Tryz.prog 64 20000 3 [.slice (some ⟨64, 0, some 0⟩) 2 sent, .bool true] [(0, [handle])] (spanC 2 (lastV 0)) = true := andL (andR (allS2))
theorem runSS2_1_false : lawW Tryz.prog 64 20000 3 [.slice (some ⟨64, 0, some 0⟩) 2 sent, .bool false] [(0, [handle])] (spanC 2 (lastV 1)) = true := andR (andR (allS2))
theorem allS3 : (lawW Tryz.prog 64 20000 3 [.slice (some ⟨64, 0, some 0⟩) 2 sent, .bool true] [(0, [handle])] (spanC 2 (lastV 1)) && (lawW Tryz.prog 64 20000 3 [.slice (some ⟨64, 0, some 0⟩) 2 sent, .bool false] [(0, [handle])] (spanC 2 (lastV 2)) && lawW Tryz.prog 64 20000 3 [.slice (some ⟨64, 0, some 0⟩) 2 sent, .bool true] [(0, [handle])] (spanC 2 (lastV 2)))) = true := by kernel_rfl
theorem runSS2_1_true : lawW Tryz.prog 64 20000 3 [.slice (some ⟨64, 0, some 0⟩) 2 sent, .bool true] [(0, [handle])] (spanC 2 (lastV 1)) = true := andL (allS3)
theorem runSS2_2_false : lawW Tryz.prog 64 20000 3 [.slice (some ⟨64, 0, some 0⟩) 2 sent, .bool false] [(0, [handle])] (spanC 2 (lastV 2)) = true := andL (andR (allS3))
theorem runSS2_2_true : lawW Tryz.prog 64 20000 3 [.slice (some ⟨64, 0, some 0⟩) 2 sent, .bool true] [(0, [handle])] (spanC 2 (lastV 2)) = true := andR (andR (allS3))
theorem allS4 : (lawW Tryz.prog 64 20000 3 [.slice (some ⟨64, 0, some 0⟩) 3 sent, .bool false] [(0, [handle])] (spanC 3 (lastV 0)) && (lawW Tryz.prog 64 20000 3 [.slice (some ⟨64, 0, some 0⟩) 3 sent, .bool true] [(0, [handle])] (spanC 3 (lastV 0)) && lawW Tryz.prog 64 20000 3 [.slice (some ⟨64, 0, some 0⟩) 3 sent, .bool false] [(0, [handle])] (spanC 3 (lastV 1)))) = true := by kernel_rfl
theorem runSS3_0_false : lawW Tryz.prog 64 20000 3 [.slice (some ⟨64, 0, some 0⟩) 3 sent, .bool false] [(0, [handle])] (spanC 3 (lastV 0)) = true := andL (allS4)
theorem runSS3_0_true : lawW Tryz.prog 64 20000 3 [.slice (some ⟨64, 0, some 0⟩) 3 sent, .bool true] [(0, [handle])] (spanC 3 (lastV 0)) = true := andL (andR (allS4))
theorem runSS3_1_false : lawW Tryz.prog 64 20000 3 [.slice (some ⟨64, 0, some 0⟩) 3 sent, .bool false] [(0, [handle])] (spanC 3 (lastV 1)) = true := andR (andR (allS4))

end Go.Ex
