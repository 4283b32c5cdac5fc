/- Of the law's runs, some: one run of the executor for each choice of the arguments' residues. -/
import Derived.Test.YtegiienbnmijcaaGreatDoorIntr
import Derived.KernelRfl
namespace Go.Ex
open Go.Proofs

theorem allT150 : ((List.range 8).all fun r => lawG Tryz.prog 64 20000 3 [.complex .f32 1 0, .complex .f32 0 0, .complex .f32 2 0, u8s 64 (8 * 3 + r), .bool false] 0 handle) = true := by kernel_rfl
theorem runT102_3_0 : ((List.range 8).all fun r => lawG Tryz.prog 64 20000 3 [.complex .f32 1 0, .complex .f32 0 0, .complex .f32 2 0, u8s 64 (8 * 3 + r), .bool false] 0 handle) = true := allT150
theorem allT151 : ((List.range 8).all fun r => lawG Tryz.prog 64 20000 3 [.complex .f32 1 0, .complex .f32 0 0, .complex .f32 2 0, u8s 64 (8 * 3 + r), .bool true] 0 handle) = true := by kernel_rfl
theorem runT102_3_1 : ((List.range 8).all fun r => lawG Tryz.prog 64 20000 3 [.complex .f32 1 0, .complex .f32 0 0, .complex .f32 2 0, u8s 64 (8 * 3 + r), .bool true] 0 handle) = true := allT151
theorem allT152 : ((List.range 8).all fun r => lawG Tryz.prog 64 20000 3 [.complex .f32 1 0, .complex .f32 0 0, .complex .f32 2 0, u8s 64 (8 * 4 + r), .bool false] 0 handle) = true := by kernel_rfl
theorem runT102_4_0 : ((List.range 8).all fun r => lawG Tryz.prog 64 20000 3 [.complex .f32 1 0, .complex .f32 0 0, .complex .f32 2 0, u8s 64 (8 * 4 + r), .bool false] 0 handle) = true := allT152
theorem allT153 : ((List.range 8).all fun r => lawG Tryz.prog 64 20000 3 [.complex .f32 1 0, .complex .f32 0 0, .complex .f32 2 0, u8s 64 (8 * 4 + r), .bool true] 0 handle) = true := by kernel_rfl
theorem runT102_4_1 : ((List.range 8).all fun r => lawG Tryz.prog 64 20000 3 [.complex .f32 1 0, .complex .f32 0 0, .complex .f32 2 0, u8s 64 (8 * 4 + r), .bool true] 0 handle) = true := allT153
theorem allT154 : ((List.range 8).all fun r => lawG Tryz.prog 64 20000 3 [.complex .f32 1 0, .complex .f32 0 0, .complex .f32 2 0, u8s 64 (8 * 5 + r), .bool false] 0 handle) = true := by kernel_rfl
theorem runT102_5_0 : ((List.range 8).all fun r => lawG Tryz.prog 64 20000 3 [.complex .f32 1 0, .complex .f32 0 0, .complex .f32 2 0, u8s 64 (8 * 5 + r), .bool false] 0 handle) = true := allT154

end Go.Ex
