/- Of the law's runs, some: one run of the executor for each choice of the arguments' residues. -/
import Derived.Test.YtegiienbnmijcaaGreatDoorIntr
import Derived.KernelRfl
namespace Go.Ex
open Go.Proofs

theorem allT140 : ((List.range 8).all fun r => lawG Tryz.prog 64 20000 3 [.complex .f32 0 0, .complex .f32 2 0, .complex .f32 1 0, u8s 64 (8 * 6 + r), .bool false] 0 handle) = true := by kernel_rfl
theorem runT021_6_0 : ((List.range 8).all fun r => lawG Tryz.prog 64 20000 3 [.complex .f32 0 0, .complex .f32 2 0, .complex .f32 1 0, u8s 64 (8 * 6 + r), .bool false] 0 handle) = true := allT140
theorem allT141 : ((List.range 8).all fun r => lawG Tryz.prog 64 20000 3 [.complex .f32 0 0, .complex .f32 2 0, .complex .f32 1 0, u8s 64 (8 * 6 + r), .bool true] 0 handle) = true := by kernel_rfl
theorem runT021_6_1 : ((List.range 8).all fun r => lawG Tryz.prog 64 20000 3 [.complex .f32 0 0, .complex .f32 2 0, .complex .f32 1 0, u8s 64 (8 * 6 + r), .bool true] 0 handle) = true := allT141
theorem allT142 : ((List.range 8).all fun r => lawG Tryz.prog 64 20000 3 [.complex .f32 0 0, .complex .f32 2 0, .complex .f32 1 0, u8s 64 (8 * 7 + r), .bool false] 0 handle) = true := by kernel_rfl
theorem runT021_7_0 : ((List.range 8).all fun r => lawG Tryz.prog 64 20000 3 [.complex .f32 0 0, .complex .f32 2 0, .complex .f32 1 0, u8s 64 (8 * 7 + r), .bool false] 0 handle) = true := allT142
theorem allT143 : ((List.range 8).all fun r => lawG Tryz.prog 64 20000 3 [.complex .f32 0 0, .complex .f32 2 0, .complex .f32 1 0, u8s 64 (8 * 7 + r), .bool true] 0 handle) = true := by kernel_rfl
theorem runT021_7_1 : ((List.range 8).all fun r => lawG Tryz.prog 64 20000 3 [.complex .f32 0 0, .complex .f32 2 0, .complex .f32 1 0, u8s 64 (8 * 7 + r), .bool true] 0 handle) = true := allT143
theorem allT144 : ((List.range 8).all fun r => lawG Tryz.prog 64 20000 3 [.complex .f32 1 0, .complex .f32 0 0, .complex .f32 2 0, u8s 64 (8 * 0 + r), .bool false] 0 handle) = true := by kernel_rfl
theorem runT102_0_0 : ((List.range 8).all fun r => lawG Tryz.prog 64 20000 3 [.complex .f32 1 0, .complex .f32 0 0, .complex .f32 2 0, u8s 64 (8 * 0 + r), .bool false] 0 handle) = true := allT144

end Go.Ex
