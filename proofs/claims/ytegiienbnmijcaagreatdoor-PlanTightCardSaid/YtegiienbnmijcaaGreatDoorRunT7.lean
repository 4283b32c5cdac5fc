/- Of the law's runs, some: one run of the executor for each choice of the arguments' residues. -/
import Derived.Test.YtegiienbnmijcaaGreatDoorIntr
import Derived.KernelRfl
namespace Go.Ex
open Go.Proofs

theorem allT35 : ((List.range 8).all fun r => lawG Tryz.prog 64 20000 3 [.complex .f32 0 0, .complex .f32 1 0, .complex .f32 0 0, u8s 64 (8 * 1 + r), .bool true] 0 handle) = true := by kernel_rfl
theorem runT010_1_1 : ((List.range 8).all fun r => lawG Tryz.prog 64 20000 3 [.complex .f32 0 0, .complex .f32 1 0, .complex .f32 0 0, u8s 64 (8 * 1 + r), .bool true] 0 handle) = true := allT35
theorem allT36 : ((List.range 8).all fun r => lawG Tryz.prog 64 20000 3 [.complex .f32 0 0, .complex .f32 1 0, .complex .f32 0 0, u8s 64 (8 * 2 + r), .bool false] 0 handle) = true := by kernel_rfl
theorem runT010_2_0 : ((List.range 8).all fun r => lawG Tryz.prog 64 20000 3 [.complex .f32 0 0, .complex .f32 1 0, .complex .f32 0 0, u8s 64 (8 * 2 + r), .bool false] 0 handle) = true := allT36
theorem allT37 : ((List.range 8).all fun r => lawG Tryz.prog 64 20000 3 [.complex .f32 0 0, .complex .f32 1 0, .complex .f32 0 0, u8s 64 (8 * 2 + r), .bool true] 0 handle) = true := by kernel_rfl
theorem runT010_2_1 : ((List.range 8).all fun r => lawG Tryz.prog 64 20000 3 [.complex .f32 0 0, .complex .f32 1 0, .complex .f32 0 0, u8s 64 (8 * 2 + r), .bool true] 0 handle) = true := allT37
theorem allT38 : ((List.range 8).all fun r => lawG Tryz.prog 64 20000 3 [.complex .f32 0 0, .complex .f32 1 0, .complex .f32 0 0, u8s 64 (8 * 3 + r), .bool false] 0 handle) = true := by kernel_rfl
theorem runT010_3_0 : ((List.range 8).all fun r => lawG Tryz.prog 64 20000 3 [.complex .f32 0 0, .complex .f32 1 0, .complex .f32 0 0, u8s 64 (8 * 3 + r), .bool false] 0 handle) = true := allT38
theorem allT39 : ((List.range 8).all fun r => lawG Tryz.prog 64 20000 3 [.complex .f32 0 0, .complex .f32 1 0, .complex .f32 0 0, u8s 64 (8 * 3 + r), .bool true] 0 handle) = true := by kernel_rfl
theorem runT010_3_1 : ((List.range 8).all fun r => lawG Tryz.prog 64 20000 3 [.complex .f32 0 0, .complex .f32 1 0, .complex .f32 0 0, u8s 64 (8 * 3 + r), .bool true] 0 handle) = true := allT39

end Go.Ex
