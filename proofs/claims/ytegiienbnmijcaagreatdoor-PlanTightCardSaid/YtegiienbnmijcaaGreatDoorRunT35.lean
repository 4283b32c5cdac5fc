/- Of the law's runs, some: one run of the executor for each choice of the arguments' residues. -/
import Derived.Test.YtegiienbnmijcaaGreatDoorIntr
import Derived.KernelRfl
namespace Go.Ex
open Go.Proofs

theorem allT175 : ((List.range 8).all fun r => lawG Tryz.prog 64 20000 3 [.complex .f32 1 0, .complex .f32 2 0, .complex .f32 0 0, u8s 64 (8 * 7 + r), .bool true] 0 handle) = true := by kernel_rfl
theorem runT120_7_1 : ((List.range 8).all fun r => lawG Tryz.prog 64 20000 3 [.complex .f32 1 0, .complex .f32 2 0, .complex .f32 0 0, u8s 64 (8 * 7 + r), .bool true] 0 handle) = true := allT175
theorem allT176 : ((List.range 8).all fun r => lawG Tryz.prog 64 20000 3 [.complex .f32 2 0, .complex .f32 0 0, .complex .f32 1 0, u8s 64 (8 * 0 + r), .bool false] 0 handle) = true := by kernel_rfl
theorem runT201_0_0 : ((List.range 8).all fun r => lawG Tryz.prog 64 20000 3 [.complex .f32 2 0, .complex .f32 0 0, .complex .f32 1 0, u8s 64 (8 * 0 + r), .bool false] 0 handle) = true := allT176
theorem allT177 : ((List.range 8).all fun r => lawG Tryz.prog 64 20000 3 [.complex .f32 2 0, .complex .f32 0 0, .complex .f32 1 0, u8s 64 (8 * 0 + r), .bool true] 0 handle) = true := by kernel_rfl
theorem runT201_0_1 : ((List.range 8).all fun r => lawG Tryz.prog 64 20000 3 [.complex .f32 2 0, .complex .f32 0 0, .complex .f32 1 0, u8s 64 (8 * 0 + r), .bool true] 0 handle) = true := allT177
theorem allT178 : ((List.range 8).all fun r => lawG Tryz.prog 64 20000 3 [.complex .f32 2 0, .complex .f32 0 0, .complex .f32 1 0, u8s 64 (8 * 1 + r), .bool false] 0 handle) = true := by kernel_rfl
theorem runT201_1_0 : ((List.range 8).all fun r => lawG Tryz.prog 64 20000 3 [.complex .f32 2 0, .complex .f32 0 0, .complex .f32 1 0, u8s 64 (8 * 1 + r), .bool false] 0 handle) = true := allT178
theorem allT179 : ((List.range 8).all fun r => lawG Tryz.prog 64 20000 3 [.complex .f32 2 0, .complex .f32 0 0, .complex .f32 1 0, u8s 64 (8 * 1 + r), .bool true] 0 handle) = true := by kernel_rfl
theorem runT201_1_1 : ((List.range 8).all fun r => lawG Tryz.prog 64 20000 3 [.complex .f32 2 0, .complex .f32 0 0, .complex .f32 1 0, u8s 64 (8 * 1 + r), .bool true] 0 handle) = true := allT179

end Go.Ex
