/- Of the law's runs, some: one run of the executor for each choice of the arguments' residues. -/
import Derived.Test.YtegiienbnmijcaaGreatDoorIntr
import Derived.KernelRfl
namespace Go.Ex
open Go.Proofs

theorem allT125 : ((List.range 8).all fun r => lawG Tryz.prog 64 20000 3 [.complex .f32 0 0, .complex .f32 1 0, .complex .f32 2 0, u8s 64 (8 * 6 + r), .bool true] 0 handle) = true := by kernel_rfl
theorem runT012_6_1 : ((List.range 8).all fun r => lawG Tryz.prog 64 20000 3 [.complex .f32 0 0, .complex .f32 1 0, .complex .f32 2 0, u8s 64 (8 * 6 + r), .bool true] 0 handle) = true := allT125
theorem allT126 : ((List.range 8).all fun r => lawG Tryz.prog 64 20000 3 [.complex .f32 0 0, .complex .f32 1 0, .complex .f32 2 0, u8s 64 (8 * 7 + r), .bool false] 0 handle) = true := by kernel_rfl
theorem runT012_7_0 : ((List.range 8).all fun r => lawG Tryz.prog 64 20000 3 [.complex .f32 0 0, .complex .f32 1 0, .complex .f32 2 0, u8s 64 (8 * 7 + r), .bool false] 0 handle) = true := allT126
theorem allT127 : ((List.range 8).all fun r => lawG Tryz.prog 64 20000 3 [.complex .f32 0 0, .complex .f32 1 0, .complex .f32 2 0, u8s 64 (8 * 7 + r), .bool true] 0 handle) = true := by kernel_rfl
theorem runT012_7_1 : ((List.range 8).all fun r => lawG Tryz.prog 64 20000 3 [.complex .f32 0 0, .complex .f32 1 0, .complex .f32 2 0, u8s 64 (8 * 7 + r), .bool true] 0 handle) = true := allT127
theorem allT128 : ((List.range 8).all fun r => lawG Tryz.prog 64 20000 3 [.complex .f32 0 0, .complex .f32 2 0, .complex .f32 1 0, u8s 64 (8 * 0 + r), .bool false] 0 handle) = true := by kernel_rfl
theorem runT021_0_0 : ((List.range 8).all fun r => lawG Tryz.prog 64 20000 3 [.complex .f32 0 0, .complex .f32 2 0, .complex .f32 1 0, u8s 64 (8 * 0 + r), .bool false] 0 handle) = true := allT128
theorem allT129 : ((List.range 8).all fun r => lawG Tryz.prog 64 20000 3 [.complex .f32 0 0, .complex .f32 2 0, .complex .f32 1 0, u8s 64 (8 * 0 + r), .bool true] 0 handle) = true := by kernel_rfl
theorem runT021_0_1 : ((List.range 8).all fun r => lawG Tryz.prog 64 20000 3 [.complex .f32 0 0, .complex .f32 2 0, .complex .f32 1 0, u8s 64 (8 * 0 + r), .bool true] 0 handle) = true := allT129

end Go.Ex
