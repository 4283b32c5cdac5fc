/- Of the law's runs, some: one run of the executor for each length, sign of the last element, bool. -/
import Derived.Test.YtgahanlgloojjaaGreatDoorIntr
import Derived.KernelRfl
namespace Go.Ex
open Go.Proofs

theorem allS10 : (lawW Tryz.prog 64 20000 3 [.slice (some ⟨64, 0, some 0⟩) 6 sent, .bool false] [(0, [handle])] (spanC 6 (lastV 0)) && (lawW Tryz.prog 64 20000 3 [.slice (some ⟨64, 0, some 0⟩) 6 sent, .bool true] [(0, [handle])] (spanC 6 (lastV 0)) && lawW Tryz.prog 64 20000 3 [.slice (some ⟨64, 0, some 0⟩) 6 sent, .bool false] [(0, [handle])] (spanC 6 (lastV 1)))) = true := by kernel_rfl
theorem runSS6_0_false : lawW Tryz.prog 64 20000 3 [.slice (some ⟨64, 0, some 0⟩) 6 sent, .bool false] [(0, [handle])] (spanC 6 (lastV 0)) = true := andL (allS10)
theorem runSS6_0_true : lawW Tryz.prog 64 20000 3 [.slice (some ⟨64, 0, some 0⟩) 6 sent, .bool true] [(0, [handle])] (spanC 6 (lastV 0)) = true := andL (andR (allS10))
theorem runSS6_1_false : lawW Tryz.prog 64 20000 3 [.slice (some ⟨64, 0, some 0⟩) 6 sent, .bool false] [(0, [handle])] (spanC 6 (lastV 1)) = true := andR (andR (allS10))
theorem allS11 : (lawW Tryz.prog 64 20000 3 [.slice (some ⟨64, 0, some 0⟩) 6 sent, .bool true] [(0, [handle])] (spanC 6 (lastV 1)) && (lawW Tryz.prog 64 20000 3 [.slice (some ⟨64, 0, some 0⟩) 6 sent, .bool false] [(0, [handle])] (spanC 6 (lastV 2)) && lawW Tryz.prog 64 20000 3 [.slice (some ⟨64, 0, some 0⟩) 6 sent, .bool true] [(0, [handle])] (spanC 6 (lastV 2)))) = true := by kernel_rfl
theorem runSS6_1_true : lawW Tryz.prog 64 20000 3 [.slice (some ⟨64, 0, some 0⟩) 6 sent, .bool true] [(0, [handle])] (spanC 6 (lastV 1)) = true := andL (allS11)
theorem runSS6_2_false : lawW Tryz.prog 64 20000 3 [.slice (some ⟨64, 0, some 0⟩) 6 sent, .bool false] [(0, [handle])] (spanC 6 (lastV 2)) = true := andL (andR (allS11))
theorem runSS6_2_true : lawW Tryz.prog 64 20000 3 [.slice (some ⟨64, 0, some 0⟩) 6 sent, .bool true] [(0, [handle])] (spanC 6 (lastV 2)) = true := andR (andR (allS11))
theorem allS12 : (lawW Tryz.prog 64 20000 3 [.slice (some ⟨64, 0, some 0⟩) 7 sent, .bool false] [(0, [handle])] (spanC 7 (lastV 0)) && (lawW Tryz.prog 64 20000 3 [.slice (some ⟨64, 0, some 0⟩) 7 sent, .bool true] [(0, [handle])] (spanC 7 (lastV 0)) && lawW Tryz.prog 64 20000 3 [.slice (some ⟨64, 0, some 0⟩) 7 sent, .bool false] [(0, [handle])] (spanC 7 (lastV 1)))) = true := by kernel_rfl
theorem runSS7_0_false : lawW Tryz.prog 64 20000 3 [.slice (some ⟨64, 0, some 0⟩) 7 sent, .bool false] [(0, [handle])] (spanC 7 (lastV 0)) = true := andL (allS12)
theorem runSS7_0_true : lawW Tryz.prog 64 20000 3 [.slice (some ⟨64, 0, some 0⟩) 7 sent, .bool true] [(0, [handle])] (spanC 7 (lastV 0)) = true := andL (andR (allS12))
theorem runSS7_1_false : lawW Tryz.prog 64 20000 3 [.slice (some ⟨64, 0, some 0⟩) 7 sent, .bool false] [(0, [handle])] (spanC 7 (lastV 1)) = true := andR (andR (allS12))
theorem allS13 : (lawW Tryz.prog 64 20000 3 [.slice (some ⟨64, 0, some 0⟩) 7 sent, .bool true] [(0, [handle])] (spanC 7 (lastV 1)) && (lawW Tryz.prog 64 20000 3 [.slice (some ⟨64, 0, some 0⟩) 7 sent, .bool false] [(0, [handle])] (spanC 7 (lastV 2)) && lawW Tryz.prog 64 20000 3 [.slice (some ⟨64, 0, some 0⟩) 7 sent, .bool true] [(0, [handle])] (spanC 7 (lastV 2)))) = true := by kernel_rfl
theorem runSS7_1_true : lawW Tryz.prog 64 20000 3 [.slice (some ⟨64, 0, some 0⟩) 7 sent, .bool true] [(0, [handle])] (spanC 7 (lastV 1)) = true := andL (allS13)
theorem runSS7_2_false : lawW Tryz.prog 64 20000 3 [.slice (some ⟨64, 0, some 0⟩) 7 sent, .bool false] [(0, [handle])] (spanC 7 (lastV 2)) = true := andL (andR (allS13))
theorem runSS7_2_true : lawW Tryz.prog 64 20000 3 [.slice (some ⟨64, 0, some 0⟩) 7 sent, .bool true] [(0, [handle])] (spanC 7 (lastV 2)) = true := andR (andR (allS13))
theorem allS14 : (lawW Tryz.prog 64 20000 3 [.slice (some ⟨64, 0, some 0⟩) 8 sent, .bool false] [(0, [handle])] (spanC 8 (lastV 0)) && (lawW Tryz.prog 64 20000 3 [.slice (some ⟨64, 0, some 0⟩) 8 sent, .bool true] [(0, [handle])] (spanC 8 (lastV 0)) && lawW Tryz.prog 64 20000 3 [.slice (some ⟨64, 0, some 0⟩) 8 sent, .bool false] [(0, [handle])] (spanC 8 (lastV 1)))) = true := by kernel_rfl
theorem runSS8_0_false : lawW Tryz.prog 64 20000 3 [.slice (some ⟨64, 0, some 0⟩) 8 sent, .bool false] [(0, [handle])] (spanC 8 (lastV 0)) = true := andL (allS14)
theorem runSS8_0_true : lawW Tryz.prog 64 20000 3 [.slice (some ⟨64, 0, some 0⟩) 8 sent, .bool true] [(0, [handle])] (spanC 8 (lastV 0)) = true := andL (andR (allS14))
theorem runSS8_1_false : lawW Tryz.prog 64 20000 3 [.slice (some ⟨64, 0, some 0⟩) 8 sent, .bool false] [(0, [handle])] (spanC 8 (lastV 1)) = true := andR (andR (allS14))

end Go.Ex
