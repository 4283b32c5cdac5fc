/- Of the law's runs, some: one run of the executor for each choice of the arguments' residues. -/
import Derived.Test.YtegiienbnmijcaaGreatDoorIntr
import Derived.KernelRfl
namespace Go.Ex
open Go.Proofs

theorem allT90 : ((List.range 8).all fun r => lawG Tryz.prog 64 20000 3 [.complex .f32 1 0, .complex .f32 0 0, .complex .f32 1 0, u8s 64 (8 * 5 + r), .bool false] 0 handle) = true := by kernel_rfl
theorem runT101_5_0 : ((List.range 8).all fun r => lawG Tryz.prog 64 20000 3 [.complex .f32 1 0, .complex .f32 0 0, .complex .f32 1 0, u8s 64 (8 * 5 + r), .bool false] 0 handle) = true := allT90
theorem allT91 : ((List.range 8).all fun r => lawG Tryz.prog 64 20000 3 [.complex .f32 1 0, .complex .f32 0 0, .complex .f32 1 0, u8s 64 (8 * 5 + r), .bool true] 0 handle) = true := by kernel_rfl
theorem runT101_5_1 : ((List.range 8).all fun r => lawG Tryz.prog 64 20000 3 [.complex .f32 1 0, .complex .f32 0 0, .complex .f32 1 0, u8s 64 (8 * 5 + r), .bool true] 0 handle) = true := allT91
theorem allT92 : ((List.range 8).all fun r => lawG Tryz.prog 64 20000 3 [.complex .f32 1 0, .complex .f32 0 0, .complex .f32 1 0, u8s 64 (8 * 6 + r), .bool false] 0 handle) = true := by kernel_rfl
theorem runT101_6_0 : ((List.range 8).all fun r => lawG Tryz.prog 64 20000 3 [.complex .f32 1 0, .complex .f32 0 0, .complex .f32 1 0, u8s 64 (8 * 6 + r), .bool false] 0 handle) = true := allT92
theorem allT93 : ((List.range 8).all fun r => lawG Tryz.prog 64 20000 3 [.complex .f32 1 0, .complex .f32 0 0, .complex .f32 1 0, u8s 64 (8 * 6 + r), .bool true] 0 handle) = true := by kernel_rfl
theorem runT101_6_1 : ((List.range 8).all fun r => lawG Tryz.prog 64 20000 3 [.complex .f32 1 0, .complex .f32 0 0, .complex .f32 1 0, u8s 64 (8 * 6 + r), .bool true] 0 handle) = true := allT93
theorem allT94 : ((List.range 8).all fun r => lawG Tryz.prog 64 20000 3 [.complex .f32 1 0, .complex .f32 0 0, .complex .f32 1 0, u8s 64 (8 * 7 + r), .bool false] 0 handle) = true := by kernel_rfl
theorem runT101_7_0 : ((List.range 8).all fun r => lawG Tryz.prog 64 20000 3 [.complex .f32 1 0, .complex .f32 0 0, .complex .f32 1 0, u8s 64 (8 * 7 + r), .bool false] 0 handle) = true := allT94

end Go.Ex
