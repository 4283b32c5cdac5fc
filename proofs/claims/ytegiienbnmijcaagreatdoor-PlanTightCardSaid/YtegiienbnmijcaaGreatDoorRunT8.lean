/- Of the law's runs, some: one run of the executor for each choice of the arguments' residues. -/
import Derived.Test.YtegiienbnmijcaaGreatDoorIntr
import Derived.KernelRfl
namespace Go.Ex
open Go.Proofs

theorem allT40 : ((List.range 8).all fun r => lawG Tryz.prog 64 20000 3 [.complex .f32 0 0, .complex .f32 1 0, .complex .f32 0 0, u8s 64 (8 * 4 + r), .bool false] 0 handle) = true := by kernel_rfl
theorem runT010_4_0 : ((List.range 8).all fun r => lawG Tryz.prog 64 20000 3 [.complex .f32 0 0, .complex .f32 1 0, .complex .f32 0 0, u8s 64 (8 * 4 + r), .bool false] 0 handle) = true := allT40
theorem allT41 : ((List.range 8).all fun r => lawG Tryz.prog 64 20000 3 [.complex .f32 0 0, .complex .f32 1 0, .complex .f32 0 0, u8s 64 (8 * 4 + r), .bool true] 0 handle) = true := by kernel_rfl
theorem runT010_4_1 : ((List.range 8).all fun r => lawG Tryz.prog 64 20000 3 [.complex .f32 0 0, .complex .f32 1 0, .complex .f32 0 0, u8s 64 (8 * 4 + r), .bool true] 0 handle) = true := allT41
theorem allT42 : ((List.range 8).all fun r => lawG Tryz.prog 64 20000 3 [.complex .f32 0 0, .complex .f32 1 0, .complex .f32 0 0, u8s 64 (8 * 5 + r), .bool false] 0 handle) = true := by kernel_rfl
theorem runT010_5_0 : ((List.range 8).all fun r => lawG Tryz.prog 64 20000 3 [.complex .f32 0 0, .complex .f32 1 0, .complex .f32 0 0, u8s 64 (8 * 5 + r), .bool false] 0 handle) = true := allT42
theorem allT43 : ((List.range 8).all fun r => lawG Tryz.prog 64 20000 3 [.complex .f32 0 0, .complex .f32 1 0, .complex .f32 0 0, u8s 64 (8 * 5 + r), .bool true] 0 handle) = true := by kernel_rfl
theorem runT010_5_1 : ((List.range 8).all fun r => lawG Tryz.prog 64 20000 3 [.complex .f32 0 0, .complex .f32 1 0, .complex .f32 0 0, u8s 64 (8 * 5 + r), .bool true] 0 handle) = true := allT43
theorem allT44 : ((List.range 8).all fun r => lawG Tryz.prog 64 20000 3 [.complex .f32 0 0, .complex .f32 1 0, .complex .f32 0 0, u8s 64 (8 * 6 + r), .bool false] 0 handle) = true := by kernel_rfl
theorem runT010_6_0 : ((List.range 8).all fun r => lawG Tryz.prog 64 20000 3 [.complex .f32 0 0, .complex .f32 1 0, .complex .f32 0 0, u8s 64 (8 * 6 + r), .bool false] 0 handle) = true := allT44

end Go.Ex
