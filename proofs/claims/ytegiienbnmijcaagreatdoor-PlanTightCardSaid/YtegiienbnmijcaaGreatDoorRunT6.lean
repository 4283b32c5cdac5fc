/- Of the law's runs, some: one run of the executor for each choice of the arguments' residues. -/
import Derived.Test.YtegiienbnmijcaaGreatDoorIntr
import Derived.KernelRfl
namespace Go.Ex
open Go.Proofs

theorem allT30 : ((List.range 8).all fun r => lawG Tryz.prog 64 20000 3 [.complex .f32 0 0, .complex .f32 0 0, .complex .f32 1 0, u8s 64 (8 * 7 + r), .bool false] 0 handle) = true := by kernel_rfl
theorem runT001_7_0 : ((List.range 8).all fun r => lawG Tryz.prog 64 20000 3 [.complex .f32 0 0, .complex .f32 0 0, .complex .f32 1 0, u8s 64 (8 * 7 + r), .bool false] 0 handle) = true := allT30
theorem allT31 : ((List.range 8).all fun r => lawG Tryz.prog 64 20000 3 [.complex .f32 0 0, .complex .f32 0 0, .complex .f32 1 0, u8s 64 (8 * 7 + r), .bool true] 0 handle) = true := by kernel_rfl
theorem runT001_7_1 : ((List.range 8).all fun r => lawG Tryz.prog 64 20000 3 [.complex .f32 0 0, .complex .f32 0 0, .complex .f32 1 0, u8s 64 (8 * 7 + r), .bool true] 0 handle) = true := allT31
theorem allT32 : ((List.range 8).all fun r => lawG Tryz.prog 64 20000 3 [.complex .f32 0 0, .complex .f32 1 0, .complex .f32 0 0, u8s 64 (8 * 0 + r), .bool false] 0 handle) = true := by kernel_rfl
theorem runT010_0_0 : ((List.range 8).all fun r => lawG Tryz.prog 64 20000 3 [.complex .f32 0 0, .complex .f32 1 0, .complex .f32 0 0, u8s 64 (8 * 0 + r), .bool false] 0 handle) = true := allT32
theorem allT33 : ((List.range 8).all fun r => lawG Tryz.prog 64 20000 3 [.complex .f32 0 0, .complex .f32 1 0, .complex .f32 0 0, u8s 64 (8 * 0 + r), .bool true] 0 handle) = true := by kernel_rfl
theorem runT010_0_1 : ((List.range 8).all fun r => lawG Tryz.prog 64 20000 3 [.complex .f32 0 0, .complex .f32 1 0, .complex .f32 0 0, u8s 64 (8 * 0 + r), .bool true] 0 handle) = true := allT33
theorem allT34 : ((List.range 8).all fun r => lawG Tryz.prog 64 20000 3 [.complex .f32 0 0, .complex .f32 1 0, .complex .f32 0 0, u8s 64 (8 * 1 + r), .bool false] 0 handle) = true := by kernel_rfl
theorem runT010_1_0 : ((List.range 8).all fun r => lawG Tryz.prog 64 20000 3 [.complex .f32 0 0, .complex .f32 1 0, .complex .f32 0 0, u8s 64 (8 * 1 + r), .bool false] 0 handle) = true := allT34

end Go.Ex
