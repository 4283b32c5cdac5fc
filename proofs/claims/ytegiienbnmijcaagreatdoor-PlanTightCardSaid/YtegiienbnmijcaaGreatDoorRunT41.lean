/- Of the law's runs, some: one run of the executor for each choice of the arguments' residues. -/
import Derived.Test.YtegiienbnmijcaaGreatDoorIntr
import Derived.KernelRfl
namespace Go.Ex
open Go.Proofs

theorem allT205 : ((List.range 8).all fun r => lawG Tryz.prog 64 20000 3 [.complex .f32 2 0, .complex .f32 1 0, .complex .f32 0 0, u8s 64 (8 * 6 + r), .bool true] 0 handle) = true := by kernel_rfl
theorem runT210_6_1 : ((List.range 8).all fun r => lawG Tryz.prog 64 20000 3 [.complex .f32 2 0, .complex .f32 1 0, .complex .f32 0 0, u8s 64 (8 * 6 + r), .bool true] 0 handle) = true := allT205
theorem allT206 : ((List.range 8).all fun r => lawG Tryz.prog 64 20000 3 [.complex .f32 2 0, .complex .f32 1 0, .complex .f32 0 0, u8s 64 (8 * 7 + r), .bool false] 0 handle) = true := by kernel_rfl
theorem runT210_7_0 : ((List.range 8).all fun r => lawG Tryz.prog 64 20000 3 [.complex .f32 2 0, .complex .f32 1 0, .complex .f32 0 0, u8s 64 (8 * 7 + r), .bool false] 0 handle) = true := allT206
theorem allT207 : ((List.range 8).all fun r => lawG Tryz.prog 64 20000 3 [.complex .f32 2 0, .complex .f32 1 0, .complex .f32 0 0, u8s 64 (8 * 7 + r), .bool true] 0 handle) = true := by kernel_rfl
theorem runT210_7_1 : ((List.range 8).all fun r => lawG Tryz.prog 64 20000 3 [.complex .f32 2 0, .complex .f32 1 0, .complex .f32 0 0, u8s 64 (8 * 7 + r), .bool true] 0 handle) = true := allT207

end Go.Ex
