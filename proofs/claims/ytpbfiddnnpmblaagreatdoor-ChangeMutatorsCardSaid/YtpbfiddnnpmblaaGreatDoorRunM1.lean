/- Of the law's runs, some: one run of the executor for each choice of the arguments' residues. -/
import Derived.Test.YtpbfiddnnpmblaaGreatDoorIntr
import Derived.KernelRfl
namespace Go.Ex
open Go.Proofs

theorem allM2 : (lawG Tryz.prog 64 60000 3 [u8s 5 2, .int .i64 (.ofNat 7)] 0 handle && (lawG Tryz.prog 64 60000 3 [u8s 5 2, below_ 7] 0 handle && lawG Tryz.prog 64 60000 3 [u8s 5 2, above_ 7] 0 handle)) = true := by kernel_rfl
theorem runM2_0 : lawG Tryz.prog 64 60000 3 [u8s 5 2, .int .i64 (.ofNat 7)] 0 handle = true := andL (allM2)
theorem runM2_1 : lawG Tryz.prog 64 60000 3 [u8s 5 2, below_ 7] 0 handle = true := andL (andR (allM2))
theorem runM2_2 : lawG Tryz.prog 64 60000 3 [u8s 5 2, above_ 7] 0 handle = true := andR (andR (allM2))
theorem allM3 : (lawG Tryz.prog 64 60000 3 [u8s 5 3, .int .i64 (.ofNat 7)] 0 handle && (lawG Tryz.prog 64 60000 3 [u8s 5 3, below_ 7] 0 handle && lawG Tryz.prog 64 60000 3 [u8s 5 3, above_ 7] 0 handle)) = true := by kernel_rfl
theorem runM3_0 : lawG Tryz.prog 64 60000 3 [u8s 5 3, .int .i64 (.ofNat 7)] 0 handle = true := andL (allM3)
theorem runM3_1 : lawG Tryz.prog 64 60000 3 [u8s 5 3, below_ 7] 0 handle = true := andL (andR (allM3))
theorem runM3_2 : lawG Tryz.prog 64 60000 3 [u8s 5 3, above_ 7] 0 handle = true := andR (andR (allM3))

end Go.Ex
