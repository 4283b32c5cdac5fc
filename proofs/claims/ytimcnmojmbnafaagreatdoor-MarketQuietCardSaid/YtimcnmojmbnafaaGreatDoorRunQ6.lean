/- Of the law's runs, some: one run of the executor for each choice of the arguments' residues. -/
import Derived.Test.YtimcnmojmbnafaaGreatDoorIntr
import Derived.KernelRfl
namespace Go.Ex
open Go.Proofs

theorem run9_0 : lawG Tryz.prog 64 20000 4 [u8s 10 9, .bool false] 0 handle = true := by kernel_rfl
theorem run9_1 : lawG Tryz.prog 64 20000 4 [u8s 10 9, .bool true] 0 handle = true := by kernel_rfl

end Go.Ex
