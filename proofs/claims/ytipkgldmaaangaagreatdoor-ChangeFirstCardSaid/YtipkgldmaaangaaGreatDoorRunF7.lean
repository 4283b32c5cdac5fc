/- Of the law's runs, some: one run of the executor for each choice of the arguments' residues. -/
import Derived.Test.YtipkgldmaaangaaGreatDoorIntr
import Derived.KernelRfl
namespace Go.Ex
open Go.Proofs

theorem run1_3 : lawG Tryz.prog 64 60000 3 [u8s 5 1, u8s 4 3] 0 handle = true := by kernel_rfl

end Go.Ex
