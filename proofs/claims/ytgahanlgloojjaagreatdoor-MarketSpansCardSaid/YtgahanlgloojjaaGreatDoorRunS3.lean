/- Of the law's runs, some: one run of the executor for each length, sign of the last element, bool. -/
import Derived.Test.YtgahanlgloojjaaGreatDoorIntr
import Derived.KernelRfl
namespace Go.Ex
open Go.Proofs

theorem allS15 : (lawW Tryz.prog 64 20000 3 [.slice (some ⟨64, 0, some 0⟩) 8 sent, .bool true] [(0, [handle])] (spanC 8 (lastV 1)) && (lawW Tryz.prog 64 20000 3 [.slice (some ⟨64, 0, some 0⟩) 8 sent, .bool false] [(0, [handle])] (spanC 8 (lastV 2)) && lawW Tryz.prog 64 20000 3 [.slice (some ⟨64, 0, some 0⟩) 8 sent, .bool true] [(0, [handle])] (spanC 8 (lastV 2)))) = true := by kernel_rfl
theorem runSS8_1_true : lawW Tryz.prog 64 20000 3 [.slice (some ⟨64, 0, some 0⟩) 8 sent, .bool true] [(0, [handle])] (spanC 8 (lastV 1)) = true := andL (allS15)
theorem runSS8_2_false : lawW Tryz.prog 64 20000 3 [.slice (some ⟨64, 0, some 0⟩) 8 sent, .bool false] [(0, [handle])] (spanC 8 (lastV 2)) = true := andL (andR (allS15))
theorem runSS8_2_true : lawW Tryz.prog 64 20000 3 [.slice (some ⟨64, 0, some 0⟩) 8 sent, .bool true] [(0, [handle])] (spanC 8 (lastV 2)) = true := andR (andR (allS15))
theorem allS16 : (lawW Tryz.prog 64 20000 3 [.slice (some ⟨64, 0, some 0⟩) 9 sent, .bool false] [(0, [handle])] (spanC 9 (lastV 0)) && (lawW Tryz.prog 64 20000 3 [.slice (some ⟨64, 0, some 0⟩) 9 sent, .bool true] [(0, [handle])] (spanC 9 (lastV 0)) && lawW Tryz.prog 64 20000 3 [.slice (some ⟨64, 0, some 0⟩) 9 sent, .bool false] [(0, [handle])] (spanC 9 (lastV 1)))) = true := by kernel_rfl
theorem runSS9_0_false : lawW Tryz.prog 64 20000 3 [.slice (some ⟨64, 0, some 0⟩) 9 sent, .bool false] [(0, [handle])] (spanC 9 (lastV 0)) = true := andL (allS16)
theorem runSS9_0_true : lawW Tryz.prog 64 20000 3 [.slice (some ⟨64, 0, some 0⟩) 9 sent, .bool true] [(0, [handle])] (spanC 9 (lastV 0)) = true := andL (andR (allS16))
theorem runSS9_1_false : lawW Tryz.prog 64 20000 3 [.slice (some ⟨64, 0, some 0⟩) 9 sent, .bool false] [(0, [handle])] (spanC 9 (lastV 1)) = true := andR (andR (allS16))
theorem allS17 : (lawW Tryz.prog 64 20000 3 [.slice (some ⟨64, 0, some 0⟩) 9 sent, .bool true] [(0, [handle])] (spanC 9 (lastV 1)) && (lawW Tryz.prog 64 20000 3 [.slice (some ⟨64, 0, some 0⟩) 9 sent, .bool false] [(0, [handle])] (spanC 9 (lastV 2)) && lawW Tryz.prog 64 20000 3 [.slice (some ⟨64, 0, some 0⟩) 9 sent, .bool true] [(0, [handle])] (spanC 9 (lastV 2)))) = true := by kernel_rfl
theorem runSS9_1_true : lawW Tryz.prog 64 20000 3 [.slice (some ⟨64, 0, some 0⟩) 9 sent, .bool true] [(0, [handle])] (spanC 9 (lastV 1)) = true := andL (allS17)
theorem runSS9_2_false : lawW Tryz.prog 64 20000 3 [.slice (some ⟨64, 0, some 0⟩) 9 sent, .bool false] [(0, [handle])] (spanC 9 (lastV 2)) = true := andL (andR (allS17))
theorem runSS9_2_true : lawW Tryz.prog 64 20000 3 [.slice (some ⟨64, 0, some 0⟩) 9 sent, .bool true] [(0, [handle])] (spanC 9 (lastV 2)) = true := andR (andR (allS17))
theorem allS18 : (lawW Tryz.prog 64 20000 3 [.slice (some ⟨64, 0, some 0⟩) 10 sent, .bool false] [(0, [handle])] (spanC 10 (lastV 0)) && (lawW Tryz.prog 64 20000 3 [.slice (some ⟨64, 0, some 0⟩) 10 sent, .bool true] [(0, [handle])] (spanC 10 (lastV 0)) && lawW Tryz.prog 64 20000 3 [.slice (some ⟨64, 0, some 0⟩) 10 sent, .bool false] [(0, [handle])] (spanC 10 (lastV 1)))) = true := by kernel_rfl
theorem runSS10_0_false : lawW Tryz.prog 64 20000 3 [.slice (some ⟨64, 0, some 0⟩) 10 sent, .bool false] [(0, [handle])] (spanC 10 (lastV 0)) = true := andL (allS18)
theorem runSS10_0_true : lawW Tryz.prog 64 20000 3 [.slice (some ⟨64, 0, some 0⟩) 10 sent, .bool true] [(0, [handle])] (spanC 10 (lastV 0)) = true := andL (andR (allS18))
theorem runSS10_1_false : lawW Tryz.prog 64 20000 3 [.slice (some ⟨64, 0, some 0⟩) 10 sent, .bool false] [(0, [handle])] (spanC 10 (lastV 1)) = true := andR (andR (allS18))
theorem allS19 : (lawW Tryz.prog 64 20000 3 [.slice (some ⟨64, 0, some 0⟩) 10 sent, .bool true] [(0, [handle])] (spanC 10 (lastV 1)) && (lawW Tryz.prog 64 20000 3 [.slice (some ⟨64, 0, some 0⟩) 10 sent, .bool false] [(0, [handle])] (spanC 10 (lastV 2)) && lawW Tryz.prog 64 20000 3 [.slice (some ⟨64, 0, some 0⟩) 10 sent, .bool true] [(0, [handle])] (spanC 10 (lastV 2)))) = true := by kernel_rfl
theorem runSS10_1_true : lawW Tryz.prog 64 20000 3 [.slice (some ⟨64, 0, some 0⟩) 10 sent, .bool true] [(0, [handle])] (spanC 10 (lastV 1)) = true := andL (allS19)
theorem runSS10_2_false : lawW Tryz.prog 64 20000 3 [.slice (some ⟨64, 0, some 0⟩) 10 sent, .bool false] [(0, [handle])] (spanC 10 (lastV 2)) = true := andL (andR (allS19))
theorem runSS10_2_true : lawW Tryz.prog 64 20000 3 [.slice (some ⟨64, 0, some 0⟩) 10 sent, .bool true] [(0, [handle])] (spanC 10 (lastV 2)) = true := andR (andR (allS19))

end Go.Ex
