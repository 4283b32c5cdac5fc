/- Of the law's runs, some: one run of the executor for each choice of the arguments' residues. -/
import Derived.Test.YtpbfiddnnpmblaaGreatDoorIntr
import Derived.KernelRfl
namespace Go.Ex
open Go.Proofs

theorem allM0 : (lawG Tryz.prog 64 60000 3 [u8s 5 0, .int .i64 (.ofNat 7)] 0 handle && (lawG Tryz.prog 64 60000 3 [u8s 5 0, below_ 7] 0 handle && lawG Tryz.prog 64 60000 3 [u8s 5 0, above_ 7] 0 handle)) = true := by kernel_rfl
theorem runM0_0 : lawG Tryz.prog 64 60000 3 [u8s 5 0, .int .i64 (.ofNat 7)] 0 handle = true := andL (allM0)
theorem runM0_1 : lawG Tryz.prog 64 60000 3 [u8s 5 0, below_ 7] 0 handle = true := andL (andR (allM0))
theorem runM0_2 : lawG Tryz.prog 64 60000 3 [u8s 5 0, above_ 7] 0 handle = true := andR (andR (allM0))
theorem allM1 : (lawG Tryz.prog 64 60000 3 [u8s 5 1, .int .i64 (.ofNat 7)] 0 handle && (lawG Tryz.prog 64 60000 3 [u8s 5 1, below_ 7] 0 handle && lawG Tryz.prog 64 60000 3 [u8s 5 1, above_ 7] 0 handle)) = true := by kernel_rfl
theorem runM1_0 : lawG Tryz.prog 64 60000 3 [u8s 5 1, .int .i64 (.ofNat 7)] 0 handle = true := andL (allM1)
theorem runM1_1 : lawG Tryz.prog 64 60000 3 [u8s 5 1, below_ 7] 0 handle = true := andL (andR (allM1))
theorem runM1_2 : lawG Tryz.prog 64 60000 3 [u8s 5 1, above_ 7] 0 handle = true := andR (andR (allM1))

end Go.Ex
