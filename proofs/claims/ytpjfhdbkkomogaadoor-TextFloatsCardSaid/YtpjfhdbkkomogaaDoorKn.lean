/- The law's known(): one run of the executor, where two tables of the library are as laid. -/
import Derived.Test.YtpjfhdbkkomogaaDoorIntr
import Derived.KernelRfl
namespace Go.Ex
open Go.Proofs Go.RowKit
noncomputable section
def d64 : List Value := [.int .u8 0, .int .u8 1, .int .u8 56, .int .u8 2, .int .u8 57, .int .u8 49, .int .u8 28, .int .u8 3, .int .u8 61, .int .u8 58, .int .u8 42, .int .u8 50, .int .u8 38, .int .u8 29, .int .u8 17, .int .u8 4, .int .u8 62, .int .u8 47, .int .u8 59, .int .u8 36, .int .u8 45, .int .u8 43, .int .u8 51, .int .u8 22, .int .u8 53, .int .u8 39, .int .u8 33, .int .u8 30, .int .u8 24, .int .u8 18, .int .u8 12, .int .u8 5, .int .u8 63, .int .u8 55, .int .u8 48, .int .u8 27, .int .u8 60, .int .u8 41, .int .u8 37, .int .u8 16, .int .u8 46, .int .u8 35, .int .u8 44, .int .u8 21, .int .u8 52, .int .u8 32, .int .u8 23, .int .u8 11, .int .u8 54, .int .u8 26, .int .u8 40, .int .u8 15, .int .u8 34, .int .u8 20, .int .u8 31, .int .u8 10, .int .u8 25, .int .u8 14, .int .u8 19, .int .u8 9, .int .u8 13, .int .u8 8, .int .u8 7, .int .u8 6]
def p10 : List Value := [.int .u64 1, .int .u64 10, .int .u64 100, .int .u64 1000, .int .u64 10000, .int .u64 100000, .int .u64 1000000, .int .u64 10000000, .int .u64 100000000, .int .u64 1000000000, .int .u64 10000000000, .int .u64 100000000000, .int .u64 1000000000000, .int .u64 10000000000000, .int .u64 100000000000000, .int .u64 1000000000000000, .int .u64 10000000000000000, .int .u64 100000000000000000, .int .u64 1000000000000000000, .int .u64 10000000000000000000]
theorem knownBody : (bodyOf Tryd.prog 8).isSome = true := by kernel_rfl
theorem mixedT : Tryd.prog.follows .mixedOrders = true := by kernel_rfl
theorem knownRun : lawM Tryd.prog 64 20000 8 [] [(6, d64), (1, p10)] = true := by kernel_rfl
theorem d64_atoms : d64.all atom = true := by kernel_rfl
theorem d64_flat : d64.all (flat 2) = true := by kernel_rfl
theorem p10_atoms : p10.all atom = true := by kernel_rfl
theorem p10_flat : p10.all (flat 2) = true := by kernel_rfl
theorem known_calls (w : World) (e6 : TypeId) (z6 : Nat × Nat) (h6 : w.heap[6]? = some (.cells d64.toArray e6 z6)) (e1 : TypeId) (z1 : Nat × Nat) (h1 : w.heap[1]? = some (.cells p10.toArray e1 z1)) :
    Calls Tryd.prog 8 #[] w fun e w' => e = .returned (.bool true) ∧ Below w.heap.size w w' := by
  refine lawM_run (es := fun _ => 0) mixedT knownBody knownRun .nil w fun x hx => ?_
  rcases List.mem_cons.1 hx with rfl | hx
  · exact ⟨by decide, fun v hv => List.all_eq_true.1 d64_atoms v hv, _, e6, z6, h6, VRs.refl_of fun v hv => flat_refl _ 2 v (List.all_eq_true.1 d64_flat v hv)⟩
  · obtain rfl := List.mem_singleton.1 hx
    exact ⟨by decide, fun v hv => List.all_eq_true.1 p10_atoms v hv, _, e1, z1, h1, VRs.refl_of fun v hv => flat_refl _ 2 v (List.all_eq_true.1 p10_flat v hv)⟩
end
end Go.Ex
