/- Of the proof, a part (together they pass the memory). -/
import Derived.Test.YtbikkkjoolcadaaGreatDoorRunF0
import Derived.Test.YtbikkkjoolcadaaGreatDoorRunF1
import Derived.Test.YtbikkkjoolcadaaGreatDoorRunF2
import Derived.Test.YtbikkkjoolcadaaGreatDoorPvF
import Derived.WalkKit
import Derived.ProofKit
import Derived.OpenShut
import Derived.ChangeSame
import Derived.ChangeVars
import Derived.JoinedOf
import Derived.RowKit
import Derived.RowKitTokens
import Derived.LaidLaws
import Derived.LaidHandle
import Derived.LaidMore
import Derived.LaidSub
import Derived.Lay
import Derived.MakeChecks
import Derived.Lib.LaidTab
import Derived.Lib.ItoaNum
import Derived.Stop.Joined
import Derived.SevenTiedAt
namespace Go.Proofs.YtbikkkjoolcadaaGreatDoor.scriptRefuses
open Go.ChangeShapes Go.WideShapes Go.ChangeAt Go.RowKit
open Go.Ex
set_option linter.unusedVariables false
theorem own : ownKnob Tryz.prog.godebug = none := by kernel_rfl
theorem mixed : Tryz.prog.follows .mixedOrders = true := by kernel_rfl
theorem body : (bodyOf Tryz.prog 4).isSome = true := by kernel_rfl
theorem residue (a : Int) (q : Nat) (hq : 0 < q) : ∃ r : Nat, r < q ∧ a % (q : Int) = (r : Int) :=
  ⟨(a % (q : Int)).toNat, by have := Int.emod_nonneg a (b := q) (by omega); have := Int.emod_lt_of_pos a (b := q) (by omega); omega, by have := Int.emod_nonneg a (b := q) (by omega); omega⟩
/-- The walk, by the runs. -/
theorem walk (a0 : Int) (w0 : (Lit.int .u8 a0).wf = true) (w : World) (hw : Vs w) :
    Calls Tryz.prog 4 #[.int .u8 a0] w fun e w' => e = .returned (.bool true) ∧ Below w.heap.size w w' := by
  obtain ⟨r0, h0, e0⟩ := residue a0 14 (by omega)
  match r0, h0, e0 with
  | 0, _, e0 =>
    exact lawM_run (es := fun _ => 0) mixed body runF0 (.cons (u8s_VR _ w0 e0) .nil) w (gl_at _ hw)
  | 1, _, e0 =>
    exact lawM_run (es := fun _ => 0) mixed body runF1 (.cons (u8s_VR _ w0 e0) .nil) w (gl_at _ hw)
  | 2, _, e0 =>
    exact lawM_run (es := fun _ => 0) mixed body runF2 (.cons (u8s_VR _ w0 e0) .nil) w (gl_at _ hw)
  | 3, _, e0 =>
    exact lawM_run (es := fun _ => 0) mixed body runF3 (.cons (u8s_VR _ w0 e0) .nil) w (gl_at _ hw)
  | 4, _, e0 =>
    exact lawM_run (es := fun _ => 0) mixed body runF4 (.cons (u8s_VR _ w0 e0) .nil) w (gl_at _ hw)
  | 5, _, e0 =>
    exact lawM_run (es := fun _ => 0) mixed body runF5 (.cons (u8s_VR _ w0 e0) .nil) w (gl_at _ hw)
  | 6, _, e0 =>
    exact lawM_run (es := fun _ => 0) mixed body runF6 (.cons (u8s_VR _ w0 e0) .nil) w (gl_at _ hw)
  | 7, _, e0 =>
    exact lawM_run (es := fun _ => 0) mixed body runF7 (.cons (u8s_VR _ w0 e0) .nil) w (gl_at _ hw)
  | 8, _, e0 =>
    exact lawM_run (es := fun _ => 0) mixed body runF8 (.cons (u8s_VR _ w0 e0) .nil) w (gl_at _ hw)
  | 9, _, e0 =>
    exact lawM_run (es := fun _ => 0) mixed body runF9 (.cons (u8s_VR _ w0 e0) .nil) w (gl_at _ hw)
  | 10, _, e0 =>
    exact lawM_run (es := fun _ => 0) mixed body runF10 (.cons (u8s_VR _ w0 e0) .nil) w (gl_at _ hw)
  | 11, _, e0 =>
    exact lawM_run (es := fun _ => 0) mixed body runF11 (.cons (u8s_VR _ w0 e0) .nil) w (gl_at _ hw)
  | 12, _, e0 =>
    exact lawM_run (es := fun _ => 0) mixed body runF12 (.cons (u8s_VR _ w0 e0) .nil) w (gl_at _ hw)
  | 13, _, e0 =>
    exact lawM_run (es := fun _ => 0) mixed body runF13 (.cons (u8s_VR _ w0 e0) .nil) w (gl_at _ hw)
  | _ + 14, h, _ => exact absurd h (by omega)
end Go.Proofs.YtbikkkjoolcadaaGreatDoor.scriptRefuses
