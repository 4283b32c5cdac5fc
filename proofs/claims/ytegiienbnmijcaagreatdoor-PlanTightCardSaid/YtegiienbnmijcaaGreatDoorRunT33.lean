/- Of the law's runs, some: one run of the executor for each choice of the arguments' residues. -/
import Derived.Test.YtegiienbnmijcaaGreatDoorIntr
import Derived.KernelRfl
namespace Go.Ex
open Go.Proofs

theorem allT165 : ((List.range 8).all fun r => lawG Tryz.prog 64 20000 3 [.complex .f32 1 0, .complex .f32 2 0, .complex .f32 0 0, u8s 64 (8 * 2 + r), .bool true] 0 handle) = true := by kernel_rfl
theorem runT120_2_1 : ((List.range 8).all fun r => lawG Tryz.prog 64 20000 3 [.complex .f32 1 0, .complex .f32 2 0, .complex .f32 0 0, u8s 64 (8 * 2 + r), .bool true] 0 handle) = true := allT165
theorem allT166 : ((List.range 8).all fun r => lawG Tryz.prog 64 20000 3 [.complex .f32 1 0, .complex .f32 2 0, .complex .f32 0 0, u8s 64 (8 * 3 + r), .bool false] 0 handle) = true := by kernel_rfl
theorem runT120_3_0 : ((List.range 8).all fun r => lawG Tryz.prog 64 20000 3 [.complex .f32 1 0, .complex .f32 2 0, .complex .f32 0 0, u8s 64 (8 * 3 + r), .bool false] 0 handle) = true := allT166
theorem allT167 : ((List.range 8).all fun r => lawG Tryz.prog 64 20000 3 [.complex .f32 1 0, .complex .f32 2 0, .complex .f32 0 0, u8s 64 (8 * 3 + r), .bool true] 0 handle) = true := by kernel_rfl
theorem runT120_3_1 : ((List.range 8).all fun r => lawG Tryz.prog 64 20000 3 [.complex .f32 1 0, .complex .f32 2 0, .complex .f32 0 0, u8s 64 (8 * 3 + r), .bool true] 0 handle) = true := allT167
theorem allT168 : ((List.range 8).all fun r => lawG Tryz.prog 64 20000 3 [.complex .f32 1 0, .complex .f32 2 0, .complex .f32 0 0, u8s 64 (8 * 4 + r), .bool false] 0 handle) = true := by kernel_rfl
theorem runT120_4_0 : ((List.range 8).all fun r => lawG Tryz.prog 64 20000 3 [.complex .f32 1 0, .complex .f32 2 0, .complex .f32 0 0, u8s 64 (8 * 4 + r), .bool false] 0 handle) = true := allT168
theorem allT169 : ((List.range 8).all fun r => lawG Tryz.prog 64 20000 3 [.complex .f32 1 0, .complex .f32 2 0, .complex .f32 0 0, u8s 64 (8 * 4 + r), .bool true] 0 handle) = true := by kernel_rfl
theorem runT120_4_1 : ((List.range 8).all fun r => lawG Tryz.prog 64 20000 3 [.complex .f32 1 0, .complex .f32 2 0, .complex .f32 0 0, u8s 64 (8 * 4 + r), .bool true] 0 handle) = true := allT169

end Go.Ex
