/- Of the law's runs, some: one run of the executor for each choice of the arguments' residues. -/
import Derived.Test.YtimcnmojmbnafaaGreatDoorIntr
import Derived.KernelRfl
namespace Go.Ex
open Go.Proofs

theorem run3_0 : lawG Tryz.prog 64 20000 4 [u8s 10 3, .bool false] 0 handle = true := by kernel_rfl
theorem run3_1 : lawG Tryz.prog 64 20000 4 [u8s 10 3, .bool true] 0 handle = true := by kernel_rfl
theorem run4_0 : lawG Tryz.prog 64 20000 4 [u8s 10 4, .bool false] 0 handle = true := by kernel_rfl

end Go.Ex
