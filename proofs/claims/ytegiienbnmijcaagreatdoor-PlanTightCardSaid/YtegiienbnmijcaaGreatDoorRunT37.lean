/- Of the law's runs, some: one run of the executor for each choice of the arguments' residues. -/
import Derived.Test.YtegiienbnmijcaaGreatDoorIntr
import Derived.KernelRfl
namespace Go.Ex
open Go.Proofs

theorem allT185 : ((List.range 8).all fun r => lawG Tryz.prog 64 20000 3 [.complex .f32 2 0, .complex .f32 0 0, .complex .f32 1 0, u8s 64 (8 * 4 + r), .bool true] 0 handle) = true := by kernel_rfl
theorem runT201_4_1 : ((List.range 8).all fun r => lawG Tryz.prog 64 20000 3 [.complex .f32 2 0, .complex .f32 0 0, .complex .f32 1 0, u8s 64 (8 * 4 + r), .bool true] 0 handle) = true := allT185
theorem allT186 : ((List.range 8).all fun r => lawG Tryz.prog 64 20000 3 [.complex .f32 2 0, .complex .f32 0 0, .complex .f32 1 0, u8s 64 (8 * 5 + r), .bool false] 0 handle) = true := by kernel_rfl
theorem runT201_5_0 : ((List.range 8).all fun r => lawG Tryz.prog 64 20000 3 [.complex .f32 2 0, .complex .f32 0 0, .complex .f32 1 0, u8s 64 (8 * 5 + r), .bool false] 0 handle) = true := allT186
theorem allT187 : ((List.range 8).all fun r => lawG Tryz.prog 64 20000 3 [.complex .f32 2 0, .complex .f32 0 0, .complex .f32 1 0, u8s 64 (8 * 5 + r), .bool true] 0 handle) = true := by kernel_rfl
theorem runT201_5_1 : ((List.range 8).all fun r => lawG Tryz.prog 64 20000 3 [.complex .f32 2 0, .complex .f32 0 0, .complex .f32 1 0, u8s 64 (8 * 5 + r), .bool true] 0 handle) = true := allT187
theorem allT188 : ((List.range 8).all fun r => lawG Tryz.prog 64 20000 3 [.complex .f32 2 0, .complex .f32 0 0, .complex .f32 1 0, u8s 64 (8 * 6 + r), .bool false] 0 handle) = true := by kernel_rfl
theorem runT201_6_0 : ((List.range 8).all fun r => lawG Tryz.prog 64 20000 3 [.complex .f32 2 0, .complex .f32 0 0, .complex .f32 1 0, u8s 64 (8 * 6 + r), .bool false] 0 handle) = true := allT188
theorem allT189 : ((List.range 8).all fun r => lawG Tryz.prog 64 20000 3 [.complex .f32 2 0, .complex .f32 0 0, .complex .f32 1 0, u8s 64 (8 * 6 + r), .bool true] 0 handle) = true := by kernel_rfl
theorem runT201_6_1 : ((List.range 8).all fun r => lawG Tryz.prog 64 20000 3 [.complex .f32 2 0, .complex .f32 0 0, .complex .f32 1 0, u8s 64 (8 * 6 + r), .bool true] 0 handle) = true := allT189

end Go.Ex
