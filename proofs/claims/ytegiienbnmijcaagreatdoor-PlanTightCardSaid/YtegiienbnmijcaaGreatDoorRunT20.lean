/- Of the law's runs, some: one run of the executor for each choice of the arguments' residues. -/
import Derived.Test.YtegiienbnmijcaaGreatDoorIntr
import Derived.KernelRfl
namespace Go.Ex
open Go.Proofs

theorem allT100 : ((List.range 8).all fun r => lawG Tryz.prog 64 20000 3 [.complex .f32 1 0, .complex .f32 1 0, .complex .f32 0 0, u8s 64 (8 * 2 + r), .bool false] 0 handle) = true := by kernel_rfl
theorem runT110_2_0 : ((List.range 8).all fun r => lawG Tryz.prog 64 20000 3 [.complex .f32 1 0, .complex .f32 1 0, .complex .f32 0 0, u8s 64 (8 * 2 + r), .bool false] 0 handle) = true := allT100
theorem allT101 : ((List.range 8).all fun r => lawG Tryz.prog 64 20000 3 [.complex .f32 1 0, .complex .f32 1 0, .complex .f32 0 0, u8s 64 (8 * 2 + r), .bool true] 0 handle) = true := by kernel_rfl
theorem runT110_2_1 : ((List.range 8).all fun r => lawG Tryz.prog 64 20000 3 [.complex .f32 1 0, .complex .f32 1 0, .complex .f32 0 0, u8s 64 (8 * 2 + r), .bool true] 0 handle) = true := allT101
theorem allT102 : ((List.range 8).all fun r => lawG Tryz.prog 64 20000 3 [.complex .f32 1 0, .complex .f32 1 0, .complex .f32 0 0, u8s 64 (8 * 3 + r), .bool false] 0 handle) = true := by kernel_rfl
theorem runT110_3_0 : ((List.range 8).all fun r => lawG Tryz.prog 64 20000 3 [.complex .f32 1 0, .complex .f32 1 0, .complex .f32 0 0, u8s 64 (8 * 3 + r), .bool false] 0 handle) = true := allT102
theorem allT103 : ((List.range 8).all fun r => lawG Tryz.prog 64 20000 3 [.complex .f32 1 0, .complex .f32 1 0, .complex .f32 0 0, u8s 64 (8 * 3 + r), .bool true] 0 handle) = true := by kernel_rfl
theorem runT110_3_1 : ((List.range 8).all fun r => lawG Tryz.prog 64 20000 3 [.complex .f32 1 0, .complex .f32 1 0, .complex .f32 0 0, u8s 64 (8 * 3 + r), .bool true] 0 handle) = true := allT103
theorem allT104 : ((List.range 8).all fun r => lawG Tryz.prog 64 20000 3 [.complex .f32 1 0, .complex .f32 1 0, .complex .f32 0 0, u8s 64 (8 * 4 + r), .bool false] 0 handle) = true := by kernel_rfl
theorem runT110_4_0 : ((List.range 8).all fun r => lawG Tryz.prog 64 20000 3 [.complex .f32 1 0, .complex .f32 1 0, .complex .f32 0 0, u8s 64 (8 * 4 + r), .bool false] 0 handle) = true := allT104

end Go.Ex
