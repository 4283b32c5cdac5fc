/- Of the law's runs, some: one run of the executor for each choice of the arguments' residues. -/
import Derived.Test.YtlmdgpflcfdhdaaGreatDoorIntr
import Derived.KernelRfl
namespace Go.Ex
open Go.Proofs

theorem run3_0_0 : lawG Tryz.prog 64 40000 4 [u8s 4 3, .bool false, sy8] 0 handle = true := by kernel_rfl

end Go.Ex
