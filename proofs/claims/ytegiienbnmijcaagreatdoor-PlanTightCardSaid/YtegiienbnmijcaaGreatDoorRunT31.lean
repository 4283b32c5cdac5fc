/- Of the law's runs, some: one run of the executor for each choice of the arguments' residues. -/
import Derived.Test.YtegiienbnmijcaaGreatDoorIntr
import Derived.KernelRfl
namespace Go.Ex
open Go.Proofs

theorem allT155 : ((List.range 8).all fun r => lawG Tryz.prog 64 20000 3 [.complex .f32 1 0, .complex .f32 0 0, .complex .f32 2 0, u8s 64 (8 * 5 + r), .bool true] 0 handle) = true := by kernel_rfl
theorem runT102_5_1 : ((List.range 8).all fun r => lawG Tryz.prog 64 20000 3 [.complex .f32 1 0, .complex .f32 0 0, .complex .f32 2 0, u8s 64 (8 * 5 + r), .bool true] 0 handle) = true := allT155
theorem allT156 : ((List.range 8).all fun r => lawG Tryz.prog 64 20000 3 [.complex .f32 1 0, .complex .f32 0 0, .complex .f32 2 0, u8s 64 (8 * 6 + r), .bool false] 0 handle) = true := by kernel_rfl
theorem runT102_6_0 : ((List.range 8).all fun r => lawG Tryz.prog 64 20000 3 [.complex .f32 1 0, .complex .f32 0 0, .complex .f32 2 0, u8s 64 (8 * 6 + r), .bool false] 0 handle) = true := allT156
theorem allT157 : ((List.range 8).all fun r => lawG Tryz.prog 64 20000 3 [.complex .f32 1 0, .complex .f32 0 0, .complex .f32 2 0, u8s 64 (8 * 6 + r), .bool true] 0 handle) = true := by kernel_rfl
theorem runT102_6_1 : ((List.range 8).all fun r => lawG Tryz.prog 64 20000 3 [.complex .f32 1 0, .complex .f32 0 0, .complex .f32 2 0, u8s 64 (8 * 6 + r), .bool true] 0 handle) = true := allT157
theorem allT158 : ((List.range 8).all fun r => lawG Tryz.prog 64 20000 3 [.complex .f32 1 0, .complex .f32 0 0, .complex .f32 2 0, u8s 64 (8 * 7 + r), .bool false] 0 handle) = true := by kernel_rfl
theorem runT102_7_0 : ((List.range 8).all fun r => lawG Tryz.prog 64 20000 3 [.complex .f32 1 0, .complex .f32 0 0, .complex .f32 2 0, u8s 64 (8 * 7 + r), .bool false] 0 handle) = true := allT158
theorem allT159 : ((List.range 8).all fun r => lawG Tryz.prog 64 20000 3 [.complex .f32 1 0, .complex .f32 0 0, .complex .f32 2 0, u8s 64 (8 * 7 + r), .bool true] 0 handle) = true := by kernel_rfl
theorem runT102_7_1 : ((List.range 8).all fun r => lawG Tryz.prog 64 20000 3 [.complex .f32 1 0, .complex .f32 0 0, .complex .f32 2 0, u8s 64 (8 * 7 + r), .bool true] 0 handle) = true := allT159

end Go.Ex
