/- Of the law's runs, some: one run of the executor for each choice of the arguments' residues. -/
import Derived.Test.YtpbfiddnnpmblaaGreatDoorIntr
import Derived.KernelRfl
namespace Go.Ex
open Go.Proofs

theorem allM4 : (lawG Tryz.prog 64 60000 3 [u8s 5 4, .int .i64 (.ofNat 7)] 0 handle && (lawG Tryz.prog 64 60000 3 [u8s 5 4, below_ 7] 0 handle && lawG Tryz.prog 64 60000 3 [u8s 5 4, above_ 7] 0 handle)) = true := by kernel_rfl
theorem runM4_0 : lawG Tryz.prog 64 60000 3 [u8s 5 4, .int .i64 (.ofNat 7)] 0 handle = true := andL (allM4)
theorem runM4_1 : lawG Tryz.prog 64 60000 3 [u8s 5 4, below_ 7] 0 handle = true := andL (andR (allM4))
theorem runM4_2 : lawG Tryz.prog 64 60000 3 [u8s 5 4, above_ 7] 0 handle = true := andR (andR (allM4))

end Go.Ex
