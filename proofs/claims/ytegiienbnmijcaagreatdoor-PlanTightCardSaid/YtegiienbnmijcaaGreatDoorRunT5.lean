/- Of the law's runs, some: one run of the executor for each choice of the arguments' residues. -/
import Derived.Test.YtegiienbnmijcaaGreatDoorIntr
import Derived.KernelRfl
namespace Go.Ex
open Go.Proofs

theorem allT25 : ((List.range 8).all fun r => lawG Tryz.prog 64 20000 3 [.complex .f32 0 0, .complex .f32 0 0, .complex .f32 1 0, u8s 64 (8 * 4 + r), .bool true] 0 handle) = true := by kernel_rfl
theorem runT001_4_1 : ((List.range 8).all fun r => lawG Tryz.prog 64 20000 3 [.complex .f32 0 0, .complex .f32 0 0, .complex .f32 1 0, u8s 64 (8 * 4 + r), .bool true] 0 handle) = true := allT25
theorem allT26 : ((List.range 8).all fun r => lawG Tryz.prog 64 20000 3 [.complex .f32 0 0, .complex .f32 0 0, .complex .f32 1 0, u8s 64 (8 * 5 + r), .bool false] 0 handle) = true := by kernel_rfl
theorem runT001_5_0 : ((List.range 8).all fun r => lawG Tryz.prog 64 20000 3 [.complex .f32 0 0, .complex .f32 0 0, .complex .f32 1 0, u8s 64 (8 * 5 + r), .bool false] 0 handle) = true := allT26
theorem allT27 : ((List.range 8).all fun r => lawG Tryz.prog 64 20000 3 [.complex .f32 0 0, .complex .f32 0 0, .complex .f32 1 0, u8s 64 (8 * 5 + r), .bool true] 0 handle) = true := by kernel_rfl
theorem runT001_5_1 : ((List.range 8).all fun r => lawG Tryz.prog 64 20000 3 [.complex .f32 0 0, .complex .f32 0 0, .complex .f32 1 0, u8s 64 (8 * 5 + r), .bool true] 0 handle) = true := allT27
theorem allT28 : ((List.range 8).all fun r => lawG Tryz.prog 64 20000 3 [.complex .f32 0 0, .complex .f32 0 0, .complex .f32 1 0, u8s 64 (8 * 6 + r), .bool false] 0 handle) = true := by kernel_rfl
theorem runT001_6_0 : ((List.range 8).all fun r => lawG Tryz.prog 64 20000 3 [.complex .f32 0 0, .complex .f32 0 0, .complex .f32 1 0, u8s 64 (8 * 6 + r), .bool false] 0 handle) = true := allT28
theorem allT29 : ((List.range 8).all fun r => lawG Tryz.prog 64 20000 3 [.complex .f32 0 0, .complex .f32 0 0, .complex .f32 1 0, u8s 64 (8 * 6 + r), .bool true] 0 handle) = true := by kernel_rfl
theorem runT001_6_1 : ((List.range 8).all fun r => lawG Tryz.prog 64 20000 3 [.complex .f32 0 0, .complex .f32 0 0, .complex .f32 1 0, u8s 64 (8 * 6 + r), .bool true] 0 handle) = true := allT29

end Go.Ex
