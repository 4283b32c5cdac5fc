/- Of the law's runs, some: one run of the executor for each choice of the arguments' residues. -/
import Derived.Test.YtegiienbnmijcaaGreatDoorIntr
import Derived.KernelRfl
namespace Go.Ex
open Go.Proofs

theorem allT160 : ((List.range 8).all fun r => lawG Tryz.prog 64 20000 3 [.complex .f32 1 0, .complex .f32 2 0, .complex .f32 0 0, u8s 64 (8 * 0 + r), .bool false] 0 handle) = true := by kernel_rfl
theorem runT120_0_0 : ((List.range 8).all fun r => lawG Tryz.prog 64 20000 3 [.complex .f32 1 0, .complex .f32 2 0, .complex .f32 0 0, u8s 64 (8 * 0 + r), .bool false] 0 handle) = true := allT160
theorem allT161 : ((List.range 8).all fun r => lawG Tryz.prog 64 20000 3 [.complex .f32 1 0, .complex .f32 2 0, .complex .f32 0 0, u8s 64 (8 * 0 + r), .bool true] 0 handle) = true := by kernel_rfl
theorem runT120_0_1 : ((List.range 8).all fun r => lawG Tryz.prog 64 20000 3 [.complex .f32 1 0, .complex .f32 2 0, .complex .f32 0 0, u8s 64 (8 * 0 + r), .bool true] 0 handle) = true := allT161
theorem allT162 : ((List.range 8).all fun r => lawG Tryz.prog 64 20000 3 [.complex .f32 1 0, .complex .f32 2 0, .complex .f32 0 0, u8s 64 (8 * 1 + r), .bool false] 0 handle) = true := by kernel_rfl
theorem runT120_1_0 : ((List.range 8).all fun r => lawG Tryz.prog 64 20000 3 [.complex .f32 1 0, .complex .f32 2 0, .complex .f32 0 0, u8s 64 (8 * 1 + r), .bool false] 0 handle) = true := allT162
theorem allT163 : ((List.range 8).all fun r => lawG Tryz.prog 64 20000 3 [.complex .f32 1 0, .complex .f32 2 0, .complex .f32 0 0, u8s 64 (8 * 1 + r), .bool true] 0 handle) = true := by kernel_rfl
theorem runT120_1_1 : ((List.range 8).all fun r => lawG Tryz.prog 64 20000 3 [.complex .f32 1 0, .complex .f32 2 0, .complex .f32 0 0, u8s 64 (8 * 1 + r), .bool true] 0 handle) = true := allT163
theorem allT164 : ((List.range 8).all fun r => lawG Tryz.prog 64 20000 3 [.complex .f32 1 0, .complex .f32 2 0, .complex .f32 0 0, u8s 64 (8 * 2 + r), .bool false] 0 handle) = true := by kernel_rfl
theorem runT120_2_0 : ((List.range 8).all fun r => lawG Tryz.prog 64 20000 3 [.complex .f32 1 0, .complex .f32 2 0, .complex .f32 0 0, u8s 64 (8 * 2 + r), .bool false] 0 handle) = true := allT164

end Go.Ex
