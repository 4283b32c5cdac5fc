/- Of the law's runs, some: one run of the executor for each choice of the arguments' residues. -/
import Derived.Test.YtegiienbnmijcaaGreatDoorIntr
import Derived.KernelRfl
namespace Go.Ex
open Go.Proofs

theorem allT135 : ((List.range 8).all fun r => lawG Tryz.prog 64 20000 3 [.complex .f32 0 0, .complex .f32 2 0, .complex .f32 1 0, u8s 64 (8 * 3 + r), .bool true] 0 handle) = true := by kernel_rfl
theorem runT021_3_1 : ((List.range 8).all fun r => lawG Tryz.prog 64 20000 3 [.complex .f32 0 0, .complex .f32 2 0, .complex .f32 1 0, u8s 64 (8 * 3 + r), .bool true] 0 handle) = true := allT135
theorem allT136 : ((List.range 8).all fun r => lawG Tryz.prog 64 20000 3 [.complex .f32 0 0, .complex .f32 2 0, .complex .f32 1 0, u8s 64 (8 * 4 + r), .bool false] 0 handle) = true := by kernel_rfl
theorem runT021_4_0 : ((List.range 8).all fun r => lawG Tryz.prog 64 20000 3 [.complex .f32 0 0, .complex .f32 2 0, .complex .f32 1 0, u8s 64 (8 * 4 + r), .bool false] 0 handle) = true := allT136
theorem allT137 : ((List.range 8).all fun r => lawG Tryz.prog 64 20000 3 [.complex .f32 0 0, .complex .f32 2 0, .complex .f32 1 0, u8s 64 (8 * 4 + r), .bool true] 0 handle) = true := by kernel_rfl
theorem runT021_4_1 : ((List.range 8).all fun r => lawG Tryz.prog 64 20000 3 [.complex .f32 0 0, .complex .f32 2 0, .complex .f32 1 0, u8s 64 (8 * 4 + r), .bool true] 0 handle) = true := allT137
theorem allT138 : ((List.range 8).all fun r => lawG Tryz.prog 64 20000 3 [.complex .f32 0 0, .complex .f32 2 0, .complex .f32 1 0, u8s 64 (8 * 5 + r), .bool false] 0 handle) = true := by kernel_rfl
theorem runT021_5_0 : ((List.range 8).all fun r => lawG Tryz.prog 64 20000 3 [.complex .f32 0 0, .complex .f32 2 0, .complex .f32 1 0, u8s 64 (8 * 5 + r), .bool false] 0 handle) = true := allT138
theorem allT139 : ((List.range 8).all fun r => lawG Tryz.prog 64 20000 3 [.complex .f32 0 0, .complex .f32 2 0, .complex .f32 1 0, u8s 64 (8 * 5 + r), .bool true] 0 handle) = true := by kernel_rfl
theorem runT021_5_1 : ((List.range 8).all fun r => lawG Tryz.prog 64 20000 3 [.complex .f32 0 0, .complex .f32 2 0, .complex .f32 1 0, u8s 64 (8 * 5 + r), .bool true] 0 handle) = true := allT139

end Go.Ex
