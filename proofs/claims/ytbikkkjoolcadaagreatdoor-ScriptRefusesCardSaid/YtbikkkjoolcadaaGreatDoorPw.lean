/- Of a fact on the whole program (its types lie as they must), the parts: together they pass the memory. -/
import Derived.Test.YtbikkkjoolcadaaGreatDoorRows
import Derived.JoinedOf
import Derived.KernelRfl
namespace Go.Proofs.YtbikkkjoolcadaaGreatDoor
open Go
set_option maxRecDepth 100000
theorem lay0 : ((List.range 48).all fun i => rowFine Tryz.prog (0 + i)) = true := by kernel_rfl
theorem lay1 : ((List.range 48).all fun i => rowFine Tryz.prog (48 + i)) = true := by kernel_rfl
theorem lay2 : ((List.range 48).all fun i => rowFine Tryz.prog (96 + i)) = true := by kernel_rfl
theorem lay3 : ((List.range 48).all fun i => rowFine Tryz.prog (144 + i)) = true := by kernel_rfl
theorem lay4 : ((List.range 48).all fun i => rowFine Tryz.prog (192 + i)) = true := by kernel_rfl
theorem lay5 : ((List.range 48).all fun i => rowFine Tryz.prog (240 + i)) = true := by kernel_rfl
theorem lay6 : ((List.range 48).all fun i => rowFine Tryz.prog (288 + i)) = true := by kernel_rfl
theorem lay7 : ((List.range 48).all fun i => rowFine Tryz.prog (336 + i)) = true := by kernel_rfl
theorem lay8 : ((List.range 48).all fun i => rowFine Tryz.prog (384 + i)) = true := by kernel_rfl
theorem lay9 : ((List.range 48).all fun i => rowFine Tryz.prog (432 + i)) = true := by kernel_rfl
theorem lay10 : ((List.range 48).all fun i => rowFine Tryz.prog (480 + i)) = true := by kernel_rfl
theorem lay11 : ((List.range 48).all fun i => rowFine Tryz.prog (528 + i)) = true := by kernel_rfl
theorem lay12 : ((List.range 48).all fun i => rowFine Tryz.prog (576 + i)) = true := by kernel_rfl
theorem lay13 : ((List.range 48).all fun i => rowFine Tryz.prog (624 + i)) = true := by kernel_rfl
theorem lay14 : ((List.range 48).all fun i => rowFine Tryz.prog (672 + i)) = true := by kernel_rfl
theorem lay15 : ((List.range 32).all fun i => rowFine Tryz.prog (720 + i)) = true := by kernel_rfl
theorem typesSize : Tryz.prog.types.size = 752 := by kernel_rfl
theorem layAll : (List.range Tryz.prog.types.size).all (rowFine Tryz.prog) = true := by
  rw [typesSize, List.all_eq_true]
  intro t ht
  have hl := List.mem_range.1 ht
  by_cases h0 : t < 48
  · have := List.all_eq_true.1 lay0 (t - 0) (List.mem_range.2 (by omega))
    rwa [show 0 + (t - 0) = t by omega] at this
  by_cases h1 : t < 96
  · have := List.all_eq_true.1 lay1 (t - 48) (List.mem_range.2 (by omega))
    rwa [show 48 + (t - 48) = t by omega] at this
  by_cases h2 : t < 144
  · have := List.all_eq_true.1 lay2 (t - 96) (List.mem_range.2 (by omega))
    rwa [show 96 + (t - 96) = t by omega] at this
  by_cases h3 : t < 192
  · have := List.all_eq_true.1 lay3 (t - 144) (List.mem_range.2 (by omega))
    rwa [show 144 + (t - 144) = t by omega] at this
  by_cases h4 : t < 240
  · have := List.all_eq_true.1 lay4 (t - 192) (List.mem_range.2 (by omega))
    rwa [show 192 + (t - 192) = t by omega] at this
  by_cases h5 : t < 288
  · have := List.all_eq_true.1 lay5 (t - 240) (List.mem_range.2 (by omega))
    rwa [show 240 + (t - 240) = t by omega] at this
  by_cases h6 : t < 336
  · have := List.all_eq_true.1 lay6 (t - 288) (List.mem_range.2 (by omega))
    rwa [show 288 + (t - 288) = t by omega] at this
  by_cases h7 : t < 384
  · have := List.all_eq_true.1 lay7 (t - 336) (List.mem_range.2 (by omega))
    rwa [show 336 + (t - 336) = t by omega] at this
  by_cases h8 : t < 432
  · have := List.all_eq_true.1 lay8 (t - 384) (List.mem_range.2 (by omega))
    rwa [show 384 + (t - 384) = t by omega] at this
  by_cases h9 : t < 480
  · have := List.all_eq_true.1 lay9 (t - 432) (List.mem_range.2 (by omega))
    rwa [show 432 + (t - 432) = t by omega] at this
  by_cases h10 : t < 528
  · have := List.all_eq_true.1 lay10 (t - 480) (List.mem_range.2 (by omega))
    rwa [show 480 + (t - 480) = t by omega] at this
  by_cases h11 : t < 576
  · have := List.all_eq_true.1 lay11 (t - 528) (List.mem_range.2 (by omega))
    rwa [show 528 + (t - 528) = t by omega] at this
  by_cases h12 : t < 624
  · have := List.all_eq_true.1 lay12 (t - 576) (List.mem_range.2 (by omega))
    rwa [show 576 + (t - 576) = t by omega] at this
  by_cases h13 : t < 672
  · have := List.all_eq_true.1 lay13 (t - 624) (List.mem_range.2 (by omega))
    rwa [show 624 + (t - 624) = t by omega] at this
  by_cases h14 : t < 720
  · have := List.all_eq_true.1 lay14 (t - 672) (List.mem_range.2 (by omega))
    rwa [show 672 + (t - 672) = t by omega] at this
  by_cases h15 : t < 752
  · have := List.all_eq_true.1 lay15 (t - 720) (List.mem_range.2 (by omega))
    rwa [show 720 + (t - 720) = t by omega] at this
  exact absurd hl (by omega)
theorem layG : (Tryz.prog.globals.all fun g => decide (g.type < Tryz.prog.types.size)) = true := by kernel_rfl
theorem layF : (Tryz.prog.funcs.all fun f => f.params.all fun t => decide (t < Tryz.prog.types.size)) = true := by kernel_rfl
theorem layIs : laidOutB Tryz.prog = true := by
  unfold laidOutB
  rw [layAll, layG, layF]
  rfl
end Go.Proofs.YtbikkkjoolcadaaGreatDoor
