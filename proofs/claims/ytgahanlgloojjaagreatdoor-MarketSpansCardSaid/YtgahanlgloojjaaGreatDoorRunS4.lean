/- Of the law's runs, some: one run of the executor for each length, sign of the last element, bool. -/
import Derived.Test.YtgahanlgloojjaaGreatDoorIntr
import Derived.KernelRfl
namespace Go.Ex
open Go.Proofs

theorem allS20 : (lawW Tryz.prog 64 20000 3 [.slice (some ⟨64, 0, some 0⟩) 11 sent, .bool false] [(0, [handle])] (spanC 11 (lastV 0)) && (lawW Tryz.prog 64 20000 3 [.slice (some ⟨64, 0, some 0⟩) 11 sent, .bool true] [(0, [handle])] (spanC 11 (lastV 0)) && lawW Tryz.prog 64 20000 3 [.slice (some ⟨64, 0, some 0⟩) 11 sent, .bool false] [(0, [handle])] (spanC 11 (lastV 1)))) = true := by kernel_rfl
theorem runSS11_0_false : lawW Tryz.prog 64 20000 3 [.slice (some ⟨64, 0, some 0⟩) 11 sent, .bool false] [(0, [handle])] (spanC 11 (lastV 0)) = true := andL (allS20)
theorem runSS11_0_true : lawW Tryz.prog 64 20000 3 [.slice (some ⟨64, 0, some 0⟩) 11 sent, .bool true] [(0, [handle])] (spanC 11 (lastV 0)) = true := andL (andR (allS20))
theorem runSS11_1_false : lawW Tryz.prog 64 20000 3 [.slice (some ⟨64, 0, some 0⟩) 11 sent, .bool false] [(0, [handle])] (spanC 11 (lastV 1)) = true := andR (andR (allS20))
theorem allS21 : (lawW Tryz.prog 64 20000 3 [.slice (some ⟨64, 0, some 0⟩) 11 sent, .bool true] [(0, [handle])] (spanC 11 (lastV 1)) && (lawW Tryz.prog 64 20000 3 [.slice (some ⟨64, 0, some 0⟩) 11 sent, .bool false] [(0, [handle])] (spanC 11 (lastV 2)) && lawW Tryz.prog 64 20000 3 [.slice (some ⟨64, 0, some 0⟩) 11 sent, .bool true] [(0, [handle])] (spanC 11 (lastV 2)))) = true := by kernel_rfl
theorem runSS11_1_true : lawW Tryz.prog 64 20000 3 [.slice (some ⟨64, 0, some 0⟩) 11 sent, .bool true] [(0, [handle])] (spanC 11 (lastV 1)) = true := andL (allS21)
theorem runSS11_2_false : lawW Tryz.prog 64 20000 3 [.slice (some ⟨64, 0, some 0⟩) 11 sent, .bool false] [(0, [handle])] (spanC 11 (lastV 2)) = true := andL (andR (allS21))
theorem runSS11_2_true : lawW Tryz.prog 64 20000 3 [.slice (some ⟨64, 0, some 0⟩) 11 sent, .bool true] [(0, [handle])] (spanC 11 (lastV 2)) = true := andR (andR (allS21))
theorem allS22 : (lawW Tryz.prog 64 20000 3 [.slice (some ⟨64, 0, some 0⟩) 12 sent, .bool false] [(0, [handle])] (spanC 12 (lastV 0)) && (lawW Tryz.prog 64 20000 3 [.slice (some ⟨64, 0, some 0⟩) 12 sent, .bool true] [(0, [handle])] (spanC 12 (lastV 0)) && lawW Tryz.prog 64 20000 3 [.slice (some ⟨64, 0, some 0⟩) 12 sent, .bool false] [(0, [handle])] (spanC 12 (lastV 1)))) = true := by kernel_rfl
theorem runSS12_0_false : lawW Tryz.prog 64 20000 3 [.slice (some ⟨64, 0, some 0⟩) 12 sent, .bool false] [(0, [handle])] (spanC 12 (lastV 0)) = true := andL (allS22)
theorem runSS12_0_true : lawW Tryz.prog 64 20000 3 [.slice (some ⟨64, 0, some 0⟩) 12 sent, .bool true] [(0, [handle])] (spanC 12 (lastV 0)) = true := andL (andR (allS22))
theorem runSS12_1_false : lawW Tryz.prog 64 20000 3 [.slice (some ⟨64, 0, some 0⟩) 12 sent, .bool false] [(0, [handle])] (spanC 12 (lastV 1)) = true := andR (andR (allS22))
theorem allS23 : (lawW Tryz.prog 64 20000 3 [.slice (some ⟨64, 0, some 0⟩) 12 sent, .bool true] [(0, [handle])] (spanC 12 (lastV 1)) && (lawW Tryz.prog 64 20000 3 [.slice (some ⟨64, 0, some 0⟩) 12 sent, .bool false] [(0, [handle])] (spanC 12 (lastV 2)) && lawW Tryz.prog 64 20000 3 [.slice (some ⟨64, 0, some 0⟩) 12 sent, .bool true] [(0, [handle])] (spanC 12 (lastV 2)))) = true := by kernel_rfl
theorem runSS12_1_true : lawW Tryz.prog 64 20000 3 [.slice (some ⟨64, 0, some 0⟩) 12 sent, .bool true] [(0, [handle])] (spanC 12 (lastV 1)) = true := andL (allS23)
theorem runSS12_2_false : lawW Tryz.prog 64 20000 3 [.slice (some ⟨64, 0, some 0⟩) 12 sent, .bool false] [(0, [handle])] (spanC 12 (lastV 2)) = true := andL (andR (allS23))
theorem runSS12_2_true : lawW Tryz.prog 64 20000 3 [.slice (some ⟨64, 0, some 0⟩) 12 sent, .bool true] [(0, [handle])] (spanC 12 (lastV 2)) = true := andR (andR (allS23))
theorem allS24 : (lawM Tryz.prog 64 20000 3 [.slice none 0 0, .bool false] [(0, [handle])] && (lawM Tryz.prog 64 20000 3 [.slice none 0 0, .bool true] [(0, [handle])] && lawM Tryz.prog 64 20000 3 [.complex .f32 0 12, .bool false] [(0, [handle])])) = true := by kernel_rfl
theorem runSN_false : lawM Tryz.prog 64 20000 3 [.slice none 0 0, .bool false] [(0, [handle])] = true := andL (allS24)
theorem runSN_true : lawM Tryz.prog 64 20000 3 [.slice none 0 0, .bool true] [(0, [handle])] = true := andL (andR (allS24))
theorem runSE_false : lawM Tryz.prog 64 20000 3 [.complex .f32 0 12, .bool false] [(0, [handle])] = true := andR (andR (allS24))

end Go.Ex
