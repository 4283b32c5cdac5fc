/- Of the law's runs, some: one run of the executor for each choice of the arguments' residues. -/
import Derived.Test.YtegiienbnmijcaaGreatDoorIntr
import Derived.KernelRfl
namespace Go.Ex
open Go.Proofs

theorem allT50 : ((List.range 8).all fun r => lawG Tryz.prog 64 20000 3 [.complex .f32 1 0, .complex .f32 0 0, .complex .f32 0 0, u8s 64 (8 * 1 + r), .bool false] 0 handle) = true := by kernel_rfl
theorem runT100_1_0 : ((List.range 8).all fun r => lawG Tryz.prog 64 20000 3 [.complex .f32 1 0, .complex .f32 0 0, .complex .f32 0 0, u8s 64 (8 * 1 + r), .bool false] 0 handle) = true := allT50
theorem allT51 : ((List.range 8).all fun r => lawG Tryz.prog 64 20000 3 [.complex .f32 1 0, .complex .f32 0 0, .complex .f32 0 0, u8s 64 (8 * 1 + r), .bool true] 0 handle) = true := by kernel_rfl
theorem runT100_1_1 : ((List.range 8).all fun r => lawG Tryz.prog 64 20000 3 [.complex .f32 1 0, .complex .f32 0 0, .complex .f32 0 0, u8s 64 (8 * 1 + r), .bool true] 0 handle) = true := allT51
theorem allT52 : ((List.range 8).all fun r => lawG Tryz.prog 64 20000 3 [.complex .f32 1 0, .complex .f32 0 0, .complex .f32 0 0, u8s 64 (8 * 2 + r), .bool false] 0 handle) = true := by kernel_rfl
theorem runT100_2_0 : ((List.range 8).all fun r => lawG Tryz.prog 64 20000 3 [.complex .f32 1 0, .complex .f32 0 0, .complex .f32 0 0, u8s 64 (8 * 2 + r), .bool false] 0 handle) = true := allT52
theorem allT53 : ((List.range 8).all fun r => lawG Tryz.prog 64 20000 3 [.complex .f32 1 0, .complex .f32 0 0, .complex .f32 0 0, u8s 64 (8 * 2 + r), .bool true] 0 handle) = true := by kernel_rfl
theorem runT100_2_1 : ((List.range 8).all fun r => lawG Tryz.prog 64 20000 3 [.complex .f32 1 0, .complex .f32 0 0, .complex .f32 0 0, u8s 64 (8 * 2 + r), .bool true] 0 handle) = true := allT53
theorem allT54 : ((List.range 8).all fun r => lawG Tryz.prog 64 20000 3 [.complex .f32 1 0, .complex .f32 0 0, .complex .f32 0 0, u8s 64 (8 * 3 + r), .bool false] 0 handle) = true := by kernel_rfl
theorem runT100_3_0 : ((List.range 8).all fun r => lawG Tryz.prog 64 20000 3 [.complex .f32 1 0, .complex .f32 0 0, .complex .f32 0 0, u8s 64 (8 * 3 + r), .bool false] 0 handle) = true := allT54

end Go.Ex
