/- Of the law's runs, some: one run of the executor for each choice of the arguments' residues. -/
import Derived.Test.YtegiienbnmijcaaGreatDoorIntr
import Derived.KernelRfl
namespace Go.Ex
open Go.Proofs

theorem allT195 : ((List.range 8).all fun r => lawG Tryz.prog 64 20000 3 [.complex .f32 2 0, .complex .f32 1 0, .complex .f32 0 0, u8s 64 (8 * 1 + r), .bool true] 0 handle) = true := by kernel_rfl
theorem runT210_1_1 : ((List.range 8).all fun r => lawG Tryz.prog 64 20000 3 [.complex .f32 2 0, .complex .f32 1 0, .complex .f32 0 0, u8s 64 (8 * 1 + r), .bool true] 0 handle) = true := allT195
theorem allT196 : ((List.range 8).all fun r => lawG Tryz.prog 64 20000 3 [.complex .f32 2 0, .complex .f32 1 0, .complex .f32 0 0, u8s 64 (8 * 2 + r), .bool false] 0 handle) = true := by kernel_rfl
theorem runT210_2_0 : ((List.range 8).all fun r => lawG Tryz.prog 64 20000 3 [.complex .f32 2 0, .complex .f32 1 0, .complex .f32 0 0, u8s 64 (8 * 2 + r), .bool false] 0 handle) = true := allT196
theorem allT197 : ((List.range 8).all fun r => lawG Tryz.prog 64 20000 3 [.complex .f32 2 0, .complex .f32 1 0, .complex .f32 0 0, u8s 64 (8 * 2 + r), .bool true] 0 handle) = true := by kernel_rfl
theorem runT210_2_1 : ((List.range 8).all fun r => lawG Tryz.prog 64 20000 3 [.complex .f32 2 0, .complex .f32 1 0, .complex .f32 0 0, u8s 64 (8 * 2 + r), .bool true] 0 handle) = true := allT197
theorem allT198 : ((List.range 8).all fun r => lawG Tryz.prog 64 20000 3 [.complex .f32 2 0, .complex .f32 1 0, .complex .f32 0 0, u8s 64 (8 * 3 + r), .bool false] 0 handle) = true := by kernel_rfl
theorem runT210_3_0 : ((List.range 8).all fun r => lawG Tryz.prog 64 20000 3 [.complex .f32 2 0, .complex .f32 1 0, .complex .f32 0 0, u8s 64 (8 * 3 + r), .bool false] 0 handle) = true := allT198
theorem allT199 : ((List.range 8).all fun r => lawG Tryz.prog 64 20000 3 [.complex .f32 2 0, .complex .f32 1 0, .complex .f32 0 0, u8s 64 (8 * 3 + r), .bool true] 0 handle) = true := by kernel_rfl
theorem runT210_3_1 : ((List.range 8).all fun r => lawG Tryz.prog 64 20000 3 [.complex .f32 2 0, .complex .f32 1 0, .complex .f32 0 0, u8s 64 (8 * 3 + r), .bool true] 0 handle) = true := allT199

end Go.Ex
