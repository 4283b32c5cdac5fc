/- Of the law's runs, some: one run of the executor for each choice of the arguments' residues. -/
import Derived.Test.YtegiienbnmijcaaGreatDoorIntr
import Derived.KernelRfl
namespace Go.Ex
open Go.Proofs

theorem allT180 : ((List.range 8).all fun r => lawG Tryz.prog 64 20000 3 [.complex .f32 2 0, .complex .f32 0 0, .complex .f32 1 0, u8s 64 (8 * 2 + r), .bool false] 0 handle) = true := by kernel_rfl
theorem runT201_2_0 : ((List.range 8).all fun r => lawG Tryz.prog 64 20000 3 [.complex .f32 2 0, .complex .f32 0 0, .complex .f32 1 0, u8s 64 (8 * 2 + r), .bool false] 0 handle) = true := allT180
theorem allT181 : ((List.range 8).all fun r => lawG Tryz.prog 64 20000 3 [.complex .f32 2 0, .complex .f32 0 0, .complex .f32 1 0, u8s 64 (8 * 2 + r), .bool true] 0 handle) = true := by kernel_rfl
theorem runT201_2_1 : ((List.range 8).all fun r => lawG Tryz.prog 64 20000 3 [.complex .f32 2 0, .complex .f32 0 0, .complex .f32 1 0, u8s 64 (8 * 2 + r), .bool true] 0 handle) = true := allT181
theorem allT182 : ((List.range 8).all fun r => lawG Tryz.prog 64 20000 3 [.complex .f32 2 0, .complex .f32 0 0, .complex .f32 1 0, u8s 64 (8 * 3 + r), .bool false] 0 handle) = true := by kernel_rfl
theorem runT201_3_0 : ((List.range 8).all fun r => lawG Tryz.prog 64 20000 3 [.complex .f32 2 0, .complex .f32 0 0, .complex .f32 1 0, u8s 64 (8 * 3 + r), .bool false] 0 handle) = true := allT182
theorem allT183 : ((List.range 8).all fun r => lawG Tryz.prog 64 20000 3 [.complex .f32 2 0, .complex .f32 0 0, .complex .f32 1 0, u8s 64 (8 * 3 + r), .bool true] 0 handle) = true := by kernel_rfl
theorem runT201_3_1 : ((List.range 8).all fun r => lawG Tryz.prog 64 20000 3 [.complex .f32 2 0, .complex .f32 0 0, .complex .f32 1 0, u8s 64 (8 * 3 + r), .bool true] 0 handle) = true := allT183
theorem allT184 : ((List.range 8).all fun r => lawG Tryz.prog 64 20000 3 [.complex .f32 2 0, .complex .f32 0 0, .complex .f32 1 0, u8s 64 (8 * 4 + r), .bool false] 0 handle) = true := by kernel_rfl
theorem runT201_4_0 : ((List.range 8).all fun r => lawG Tryz.prog 64 20000 3 [.complex .f32 2 0, .complex .f32 0 0, .complex .f32 1 0, u8s 64 (8 * 4 + r), .bool false] 0 handle) = true := allT184

end Go.Ex
