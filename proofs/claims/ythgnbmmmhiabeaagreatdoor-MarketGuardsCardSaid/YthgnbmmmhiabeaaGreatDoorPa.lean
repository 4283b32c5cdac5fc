/- Of the proof, a part (together they pass the memory). -/
import Derived.Test.YthgnbmmmhiabeaaGreatDoorRunG0
import Derived.Test.YthgnbmmmhiabeaaGreatDoorRunG1
import Derived.Test.YthgnbmmmhiabeaaGreatDoorRunG2
import Derived.Test.YthgnbmmmhiabeaaGreatDoorRunG3
import Derived.Test.YthgnbmmmhiabeaaGreatDoorRunG4
import Derived.Test.YthgnbmmmhiabeaaGreatDoorRunG5
import Derived.Test.YthgnbmmmhiabeaaGreatDoorRunG6
import Derived.Test.YthgnbmmmhiabeaaGreatDoorRunG7
import Derived.Test.YthgnbmmmhiabeaaGreatDoorRunG8
import Derived.Test.YthgnbmmmhiabeaaGreatDoorRunG9
import Derived.Test.YthgnbmmmhiabeaaGreatDoorRunG10
import Derived.Test.YthgnbmmmhiabeaaGreatDoorRunG11
import Derived.Test.YthgnbmmmhiabeaaGreatDoorRunG12
import Derived.Test.YthgnbmmmhiabeaaGreatDoorRunG13
import Derived.Test.YthgnbmmmhiabeaaGreatDoorRunG14
import Derived.Test.YthgnbmmmhiabeaaGreatDoorRunG15
import Derived.Test.YthgnbmmmhiabeaaGreatDoorRows
import Derived.WalkKit
import Derived.ProofKit
import Derived.OpenShut
import Derived.ChangeSame
import Derived.ChangeVars
import Derived.JoinedOf
import Derived.RowKit
import Derived.RowKitTokens
import Derived.LaidLaws
import Derived.LaidHandle
import Derived.Stop.Joined
import Derived.SevenTiedAt
namespace Go.Proofs.YthgnbmmmhiabeaaGreatDoor.marketGuards
open Go.ChangeShapes Go.WideShapes Go.ChangeAt Go.RowKit
open Go.Ex
set_option linter.unusedVariables false

theorem own : ownKnob Tryz.prog.godebug = none := by kernel_rfl
theorem mixed : Tryz.prog.follows .mixedOrders = true := by kernel_rfl
theorem body : (bodyOf Tryz.prog 3).isSome = true := by kernel_rfl

theorem residue (a : Int) (q : Nat) (hq : 0 < q) : ∃ r : Nat, r < q ∧ a % (q : Int) = (r : Int) :=
  ⟨(a % (q : Int)).toNat, by have := Int.emod_nonneg a (b := q) (by omega); have := Int.emod_lt_of_pos a (b := q) (by omega); omega, by have := Int.emod_nonneg a (b := q) (by omega); omega⟩

theorem rtIs : (Tryz.prog.cutTypes.find? (·.1 == "internal/reflectlite.rtype")).map (·.2) = some 255 := by kernel_rfl
theorem oneRow : ((List.range Tryz.prog.types.size).filter fun t => Tryz.prog.rowNamed t [101, 114, 114, 111, 114]) = [27] := by kernel_rfl
theorem varIs : Tryz.prog.globalNamed "errors.errorType" = some 0 := by kernel_rfl
theorem handleIs : typeHandle Tryz.prog 27 = .pointer (some ⟨3, 27, none⟩) := by kernel_rfl

/-- What the condition gives: the variable's one cell. -/
theorem handle_of_laid {W : World} (h : laidMetH Tryz.prog Rows.marketGuardsRow.laid W) : ∃ e fz, W.heap[0]? = some (.cells #[.iface 255 (.agg #[.pointer (some ⟨3, 27, none⟩)])] e fz) := by
  have h' : laidMet Tryz.prog [] W ∧ handlesMet Tryz.prog Rows.marketGuardsRow.laid W := h
  obtain ⟨name, u, ty, e1, e2, e3, e4, e5⟩ := h'.2 _ (List.mem_singleton.2 rfl)
  have en : name = [101, 114, 114, 111, 114] := (Option.some.inj e1).symm
  subst en
  obtain rfl := Option.some.inj (rtIs.symm.trans e2)
  have hm : ty ∈ (List.range Tryz.prog.types.size).filter fun t => Tryz.prog.rowNamed t [101, 114, 114, 111, 114] := List.mem_filter.2 ⟨List.mem_range.2 e3, e4⟩
  rw [oneRow] at hm
  obtain rfl := List.mem_singleton.1 hm
  rw [handleIs] at e5
  have e6 : ((Tryz.prog.globalNamed "errors.errorType").bind fun g => match W.heap[g]? with
    | some (.cells cs _ _) => some cs
    | _ => none) = some #[.iface 255 (.agg #[.pointer (some ⟨3, 27, none⟩)])] := e5
  rw [varIs, Option.bind_some] at e6
  split at e6
  · rename_i cs e fz hw
    cases e6
    exact ⟨e, fz, hw⟩
  · cases e6

theorem handle_VR (es : Nat → Nat) : VR (mGS 64 es) handle (.iface 255 (.agg #[.pointer (some ⟨3, 27, none⟩)])) :=
  .iface _ _ _ (.agg' (fun u hu => by simp at hu; subst hu; rfl) ⟨.ptr (m := mGS 64 es) 3 27 (show 3 < 64 by omega), trivial⟩)

/-- The walk, by the runs. -/
theorem walk (a0 : Int) (a1 : Int) (w0 : (Lit.int .u8 a0).wf = true) (w1 : (Lit.int .i64 a1).wf = true) (w : World) {e : TypeId} {fz : Nat × Nat} (hw : w.heap[0]? = some (.cells #[.iface 255 (.agg #[.pointer (some ⟨3, 27, none⟩)])] e fz)) :
    Calls Tryz.prog 3 #[.int .u8 a0, .int .i64 a1] w fun e w' => e = .returned (.bool true) ∧ Below w.heap.size w w' := by
  obtain ⟨r0, h0, e0⟩ := residue a0 4 (by omega)
  match r0, h0, e0 with
  | 0, _, e0 =>
    obtain ⟨r1, h1, e1⟩ := residue a1 4 (by omega)
    match r1, h1, e1 with
    | 0, _, e1 =>
      exact lawG_run mixed body runG0_0 (.cons (u8s_VR _ w0 e0) (.cons (syi_VR (by omega) w1 e1) .nil)) (by omega) (handle_VR _) rfl w hw
    | 1, _, e1 =>
      exact lawG_run mixed body runG0_1 (.cons (u8s_VR _ w0 e0) (.cons (syi_VR (by omega) w1 e1) .nil)) (by omega) (handle_VR _) rfl w hw
    | 2, _, e1 =>
      exact lawG_run mixed body runG0_2 (.cons (u8s_VR _ w0 e0) (.cons (syi_VR (by omega) w1 e1) .nil)) (by omega) (handle_VR _) rfl w hw
    | 3, _, e1 =>
      exact lawG_run mixed body runG0_3 (.cons (u8s_VR _ w0 e0) (.cons (syi_VR (by omega) w1 e1) .nil)) (by omega) (handle_VR _) rfl w hw
    | _ + 4, h, _ => exact absurd h (by omega)
  | 1, _, e0 =>
    obtain ⟨r1, h1, e1⟩ := residue a1 4 (by omega)
    match r1, h1, e1 with
    | 0, _, e1 =>
      exact lawG_run mixed body runG1_0 (.cons (u8s_VR _ w0 e0) (.cons (syi_VR (by omega) w1 e1) .nil)) (by omega) (handle_VR _) rfl w hw
    | 1, _, e1 =>
      exact lawG_run mixed body runG1_1 (.cons (u8s_VR _ w0 e0) (.cons (syi_VR (by omega) w1 e1) .nil)) (by omega) (handle_VR _) rfl w hw
    | 2, _, e1 =>
      exact lawG_run mixed body runG1_2 (.cons (u8s_VR _ w0 e0) (.cons (syi_VR (by omega) w1 e1) .nil)) (by omega) (handle_VR _) rfl w hw
    | 3, _, e1 =>
      exact lawG_run mixed body runG1_3 (.cons (u8s_VR _ w0 e0) (.cons (syi_VR (by omega) w1 e1) .nil)) (by omega) (handle_VR _) rfl w hw
    | _ + 4, h, _ => exact absurd h (by omega)
  | 2, _, e0 =>
    obtain ⟨r1, h1, e1⟩ := residue a1 4 (by omega)
    match r1, h1, e1 with
    | 0, _, e1 =>
      exact lawG_run mixed body runG2_0 (.cons (u8s_VR _ w0 e0) (.cons (syi_VR (by omega) w1 e1) .nil)) (by omega) (handle_VR _) rfl w hw
    | 1, _, e1 =>
      exact lawG_run mixed body runG2_1 (.cons (u8s_VR _ w0 e0) (.cons (syi_VR (by omega) w1 e1) .nil)) (by omega) (handle_VR _) rfl w hw
    | 2, _, e1 =>
      exact lawG_run mixed body runG2_2 (.cons (u8s_VR _ w0 e0) (.cons (syi_VR (by omega) w1 e1) .nil)) (by omega) (handle_VR _) rfl w hw
    | 3, _, e1 =>
      exact lawG_run mixed body runG2_3 (.cons (u8s_VR _ w0 e0) (.cons (syi_VR (by omega) w1 e1) .nil)) (by omega) (handle_VR _) rfl w hw
    | _ + 4, h, _ => exact absurd h (by omega)
  | 3, _, e0 =>
    obtain ⟨r1, h1, e1⟩ := residue a1 4 (by omega)
    match r1, h1, e1 with
    | 0, _, e1 =>
      exact lawG_run mixed body runG3_0 (.cons (u8s_VR _ w0 e0) (.cons (syi_VR (by omega) w1 e1) .nil)) (by omega) (handle_VR _) rfl w hw
    | 1, _, e1 =>
      exact lawG_run mixed body runG3_1 (.cons (u8s_VR _ w0 e0) (.cons (syi_VR (by omega) w1 e1) .nil)) (by omega) (handle_VR _) rfl w hw
    | 2, _, e1 =>
      exact lawG_run mixed body runG3_2 (.cons (u8s_VR _ w0 e0) (.cons (syi_VR (by omega) w1 e1) .nil)) (by omega) (handle_VR _) rfl w hw
    | 3, _, e1 =>
      exact lawG_run mixed body runG3_3 (.cons (u8s_VR _ w0 e0) (.cons (syi_VR (by omega) w1 e1) .nil)) (by omega) (handle_VR _) rfl w hw
    | _ + 4, h, _ => exact absurd h (by omega)
  | _ + 4, h, _ => exact absurd h (by omega)
end Go.Proofs.YthgnbmmmhiabeaaGreatDoor.marketGuards
