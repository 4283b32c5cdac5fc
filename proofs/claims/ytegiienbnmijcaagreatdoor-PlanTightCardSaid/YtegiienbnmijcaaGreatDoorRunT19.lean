/- Of the law's runs, some: one run of the executor for each choice of the arguments' residues. -/
import Derived.Test.YtegiienbnmijcaaGreatDoorIntr
import Derived.KernelRfl
namespace Go.Ex
open Go.Proofs

theorem allT95 : ((List.range 8).all fun r => lawG Tryz.prog 64 20000 3 [.complex .f32 1 0, .complex .f32 0 0, .complex .f32 1 0, u8s 64 (8 * 7 + r), .bool true] 0 handle) = true := by kernel_rfl
theorem runT101_7_1 : ((List.range 8).all fun r => lawG Tryz.prog 64 20000 3 [.complex .f32 1 0, .complex .f32 0 0, .complex .f32 1 0, u8s 64 (8 * 7 + r), .bool true] 0 handle) = true := allT95
theorem allT96 : ((List.range 8).all fun r => lawG Tryz.prog 64 20000 3 [.complex .f32 1 0, .complex .f32 1 0, .complex .f32 0 0, u8s 64 (8 * 0 + r), .bool false] 0 handle) = true := by kernel_rfl
theorem runT110_0_0 : ((List.range 8).all fun r => lawG Tryz.prog 64 20000 3 [.complex .f32 1 0, .complex .f32 1 0, .complex .f32 0 0, u8s 64 (8 * 0 + r), .bool false] 0 handle) = true := allT96
theorem allT97 : ((List.range 8).all fun r => lawG Tryz.prog 64 20000 3 [.complex .f32 1 0, .complex .f32 1 0, .complex .f32 0 0, u8s 64 (8 * 0 + r), .bool true] 0 handle) = true := by kernel_rfl
theorem runT110_0_1 : ((List.range 8).all fun r => lawG Tryz.prog 64 20000 3 [.complex .f32 1 0, .complex .f32 1 0, .complex .f32 0 0, u8s 64 (8 * 0 + r), .bool true] 0 handle) = true := allT97
theorem allT98 : ((List.range 8).all fun r => lawG Tryz.prog 64 20000 3 [.complex .f32 1 0, .complex .f32 1 0, .complex .f32 0 0, u8s 64 (8 * 1 + r), .bool false] 0 handle) = true := by kernel_rfl
theorem runT110_1_0 : ((List.range 8).all fun r => lawG Tryz.prog 64 20000 3 [.complex .f32 1 0, .complex .f32 1 0, .complex .f32 0 0, u8s 64 (8 * 1 + r), .bool false] 0 handle) = true := allT98
theorem allT99 : ((List.range 8).all fun r => lawG Tryz.prog 64 20000 3 [.complex .f32 1 0, .complex .f32 1 0, .complex .f32 0 0, u8s 64 (8 * 1 + r), .bool true] 0 handle) = true := by kernel_rfl
theorem runT110_1_1 : ((List.range 8).all fun r => lawG Tryz.prog 64 20000 3 [.complex .f32 1 0, .complex .f32 1 0, .complex .f32 0 0, u8s 64 (8 * 1 + r), .bool true] 0 handle) = true := allT99

end Go.Ex
