/-
  For every argument, in every world in which the listed variable reads as the row says, the law returns true and turns nothing that lay before; the card ties that to the program's text.
  Every run is one of the executor (Ex1 to Ex3), checked by the kernel (Run0 and on): one for each choice of residues.
-/
import Derived.Test.YtbhkafbpkiagbaaGreatDoorRows
import Derived.Test.YtbhkafbpkiagbaaGreatDoorCards
import Derived.Test.YtbhkafbpkiagbaaGreatDoorTie
import Derived.Test.YtbhkafbpkiagbaaGreatDoorRunT0
import Derived.Test.YtbhkafbpkiagbaaGreatDoorRunT1
import Derived.Test.YtbhkafbpkiagbaaGreatDoorRunT2
import Derived.Test.YtbhkafbpkiagbaaGreatDoorRunT3
import Derived.Test.YtbhkafbpkiagbaaGreatDoorRunT4
import Derived.Test.YtbhkafbpkiagbaaGreatDoorRunT5
import Derived.Test.YtbhkafbpkiagbaaGreatDoorRunT6
import Derived.Test.YtbhkafbpkiagbaaGreatDoorRunT7
import Derived.Test.YtbhkafbpkiagbaaGreatDoorRunT8
import Derived.Test.YtbhkafbpkiagbaaGreatDoorRunT9
import Derived.Test.YtbhkafbpkiagbaaGreatDoorRunT10
import Derived.Test.YtbhkafbpkiagbaaGreatDoorRunT11
import Derived.Test.YtbhkafbpkiagbaaGreatDoorRunT12
import Derived.Test.YtbhkafbpkiagbaaGreatDoorRunT13
import Derived.WalkKit
import Derived.ProofKit
import Derived.OpenShut
import Derived.ChangeSame
import Derived.ChangeVars
import Derived.JoinedOf
import Derived.RowKit
import Derived.RowKitTokens
import Derived.LaidLaws
import Derived.LaidHandle
import Derived.Stop.Joined
import Derived.SevenTiedAt
namespace Go.Proofs.YtbhkafbpkiagbaaGreatDoor.tableMany
open Go.ChangeShapes Go.WideShapes Go.ChangeAt Go.RowKit
open Go.Ex
set_option linter.unusedVariables false

theorem own : ownKnob Tryz.prog.godebug = none := by kernel_rfl
theorem mixed : Tryz.prog.follows .mixedOrders = true := by kernel_rfl
theorem body : (bodyOf Tryz.prog 3).isSome = true := by kernel_rfl

theorem residue (a : Int) (q : Nat) (hq : 0 < q) : ∃ r : Nat, r < q ∧ a % (q : Int) = (r : Int) :=
  ⟨(a % (q : Int)).toNat, by have := Int.emod_nonneg a (b := q) (by omega); have := Int.emod_lt_of_pos a (b := q) (by omega); omega, by have := Int.emod_nonneg a (b := q) (by omega); omega⟩

theorem rtIs : (Tryz.prog.cutTypes.find? (·.1 == "internal/reflectlite.rtype")).map (·.2) = some 184 := by kernel_rfl
theorem oneRow : ((List.range Tryz.prog.types.size).filter fun t => Tryz.prog.rowNamed t [101, 114, 114, 111, 114]) = [40] := by kernel_rfl
theorem varIs : Tryz.prog.globalNamed "errors.errorType" = some 0 := by kernel_rfl
theorem handleIs : typeHandle Tryz.prog 40 = .pointer (some ⟨3, 40, none⟩) := by kernel_rfl

/-- What the condition gives: the variable's one cell. -/
theorem handle_of_laid {W : World} (h : laidMetH Tryz.prog Rows.tableManyRow.laid W) : ∃ e fz, W.heap[0]? = some (.cells #[.iface 184 (.agg #[.pointer (some ⟨3, 40, none⟩)])] e fz) := by
  have h' : laidMet Tryz.prog [] W ∧ handlesMet Tryz.prog Rows.tableManyRow.laid W := h
  obtain ⟨name, u, ty, e1, e2, e3, e4, e5⟩ := h'.2 _ (List.mem_singleton.2 rfl)
  have en : name = [101, 114, 114, 111, 114] := (Option.some.inj e1).symm
  subst en
  obtain rfl := Option.some.inj (rtIs.symm.trans e2)
  have hm : ty ∈ (List.range Tryz.prog.types.size).filter fun t => Tryz.prog.rowNamed t [101, 114, 114, 111, 114] := List.mem_filter.2 ⟨List.mem_range.2 e3, e4⟩
  rw [oneRow] at hm
  obtain rfl := List.mem_singleton.1 hm
  rw [handleIs] at e5
  have e6 : ((Tryz.prog.globalNamed "errors.errorType").bind fun g => match W.heap[g]? with
    | some (.cells cs _ _) => some cs
    | _ => none) = some #[.iface 184 (.agg #[.pointer (some ⟨3, 40, none⟩)])] := e5
  rw [varIs, Option.bind_some] at e6
  split at e6
  · rename_i cs e fz hw
    cases e6
    exact ⟨e, fz, hw⟩
  · cases e6

theorem handle_VR (es : Nat → Nat) : VR (mGS 64 es) handle (.iface 184 (.agg #[.pointer (some ⟨3, 40, none⟩)])) :=
  .iface _ _ _ (.agg' (fun u hu => by simp at hu; subst hu; rfl) ⟨.ptr (m := mGS 64 es) 3 40 (show 3 < 64 by omega), trivial⟩)

/-- The walk, by the runs. -/
theorem walk (a0 : Int) (a1 : Int) (w0 : (Lit.int .u8 a0).wf = true) (w1 : (Lit.int .u8 a1).wf = true) (w : World) {e : TypeId} {fz : Nat × Nat} (hw : w.heap[0]? = some (.cells #[.iface 184 (.agg #[.pointer (some ⟨3, 40, none⟩)])] e fz)) :
    Calls Tryz.prog 3 #[.int .u8 a0, .int .u8 a1] w fun e w' => e = .returned (.bool true) ∧ Below w.heap.size w w' := by
  obtain ⟨r0, h0, e0⟩ := residue a0 14 (by omega)
  match r0, h0, e0 with
  | 0, _, e0 =>
    obtain ⟨r1, h1, e1⟩ := residue a1 8 (by omega)
    match r1, h1, e1 with
    | 0, _, e1 =>
      exact lawG_run (es := fun _ => 0) mixed body runT0_0 (.cons (u8s_VR _ w0 e0) (.cons (u8s_VR _ w1 e1) .nil)) (by omega) (handle_VR _) rfl w hw
    | 1, _, e1 =>
      exact lawG_run (es := fun _ => 0) mixed body runT0_1 (.cons (u8s_VR _ w0 e0) (.cons (u8s_VR _ w1 e1) .nil)) (by omega) (handle_VR _) rfl w hw
    | 2, _, e1 =>
      exact lawG_run (es := fun _ => 0) mixed body runT0_2 (.cons (u8s_VR _ w0 e0) (.cons (u8s_VR _ w1 e1) .nil)) (by omega) (handle_VR _) rfl w hw
    | 3, _, e1 =>
      exact lawG_run (es := fun _ => 0) mixed body runT0_3 (.cons (u8s_VR _ w0 e0) (.cons (u8s_VR _ w1 e1) .nil)) (by omega) (handle_VR _) rfl w hw
    | 4, _, e1 =>
      exact lawG_run (es := fun _ => 0) mixed body runT0_4 (.cons (u8s_VR _ w0 e0) (.cons (u8s_VR _ w1 e1) .nil)) (by omega) (handle_VR _) rfl w hw
    | 5, _, e1 =>
      exact lawG_run (es := fun _ => 0) mixed body runT0_5 (.cons (u8s_VR _ w0 e0) (.cons (u8s_VR _ w1 e1) .nil)) (by omega) (handle_VR _) rfl w hw
    | 6, _, e1 =>
      exact lawG_run (es := fun _ => 0) mixed body runT0_6 (.cons (u8s_VR _ w0 e0) (.cons (u8s_VR _ w1 e1) .nil)) (by omega) (handle_VR _) rfl w hw
    | 7, _, e1 =>
      exact lawG_run (es := fun _ => 0) mixed body runT0_7 (.cons (u8s_VR _ w0 e0) (.cons (u8s_VR _ w1 e1) .nil)) (by omega) (handle_VR _) rfl w hw
    | _ + 8, h, _ => exact absurd h (by omega)
  | 1, _, e0 =>
    obtain ⟨r1, h1, e1⟩ := residue a1 8 (by omega)
    match r1, h1, e1 with
    | 0, _, e1 =>
      exact lawG_run (es := fun _ => 0) mixed body runT1_0 (.cons (u8s_VR _ w0 e0) (.cons (u8s_VR _ w1 e1) .nil)) (by omega) (handle_VR _) rfl w hw
    | 1, _, e1 =>
      exact lawG_run (es := fun _ => 0) mixed body runT1_1 (.cons (u8s_VR _ w0 e0) (.cons (u8s_VR _ w1 e1) .nil)) (by omega) (handle_VR _) rfl w hw
    | 2, _, e1 =>
      exact lawG_run (es := fun _ => 0) mixed body runT1_2 (.cons (u8s_VR _ w0 e0) (.cons (u8s_VR _ w1 e1) .nil)) (by omega) (handle_VR _) rfl w hw
    | 3, _, e1 =>
      exact lawG_run (es := fun _ => 0) mixed body runT1_3 (.cons (u8s_VR _ w0 e0) (.cons (u8s_VR _ w1 e1) .nil)) (by omega) (handle_VR _) rfl w hw
    | 4, _, e1 =>
      exact lawG_run (es := fun _ => 0) mixed body runT1_4 (.cons (u8s_VR _ w0 e0) (.cons (u8s_VR _ w1 e1) .nil)) (by omega) (handle_VR _) rfl w hw
    | 5, _, e1 =>
      exact lawG_run (es := fun _ => 0) mixed body runT1_5 (.cons (u8s_VR _ w0 e0) (.cons (u8s_VR _ w1 e1) .nil)) (by omega) (handle_VR _) rfl w hw
    | 6, _, e1 =>
      exact lawG_run (es := fun _ => 0) mixed body runT1_6 (.cons (u8s_VR _ w0 e0) (.cons (u8s_VR _ w1 e1) .nil)) (by omega) (handle_VR _) rfl w hw
    | 7, _, e1 =>
      exact lawG_run (es := fun _ => 0) mixed body runT1_7 (.cons (u8s_VR _ w0 e0) (.cons (u8s_VR _ w1 e1) .nil)) (by omega) (handle_VR _) rfl w hw
    | _ + 8, h, _ => exact absurd h (by omega)
  | 2, _, e0 =>
    obtain ⟨r1, h1, e1⟩ := residue a1 8 (by omega)
    match r1, h1, e1 with
    | 0, _, e1 =>
      exact lawG_run (es := fun _ => 0) mixed body runT2_0 (.cons (u8s_VR _ w0 e0) (.cons (u8s_VR _ w1 e1) .nil)) (by omega) (handle_VR _) rfl w hw
    | 1, _, e1 =>
      exact lawG_run (es := fun _ => 0) mixed body runT2_1 (.cons (u8s_VR _ w0 e0) (.cons (u8s_VR _ w1 e1) .nil)) (by omega) (handle_VR _) rfl w hw
    | 2, _, e1 =>
      exact lawG_run (es := fun _ => 0) mixed body runT2_2 (.cons (u8s_VR _ w0 e0) (.cons (u8s_VR _ w1 e1) .nil)) (by omega) (handle_VR _) rfl w hw
    | 3, _, e1 =>
      exact lawG_run (es := fun _ => 0) mixed body runT2_3 (.cons (u8s_VR _ w0 e0) (.cons (u8s_VR _ w1 e1) .nil)) (by omega) (handle_VR _) rfl w hw
    | 4, _, e1 =>
      exact lawG_run (es := fun _ => 0) mixed body runT2_4 (.cons (u8s_VR _ w0 e0) (.cons (u8s_VR _ w1 e1) .nil)) (by omega) (handle_VR _) rfl w hw
    | 5, _, e1 =>
      exact lawG_run (es := fun _ => 0) mixed body runT2_5 (.cons (u8s_VR _ w0 e0) (.cons (u8s_VR _ w1 e1) .nil)) (by omega) (handle_VR _) rfl w hw
    | 6, _, e1 =>
      exact lawG_run (es := fun _ => 0) mixed body runT2_6 (.cons (u8s_VR _ w0 e0) (.cons (u8s_VR _ w1 e1) .nil)) (by omega) (handle_VR _) rfl w hw
    | 7, _, e1 =>
      exact lawG_run (es := fun _ => 0) mixed body runT2_7 (.cons (u8s_VR _ w0 e0) (.cons (u8s_VR _ w1 e1) .nil)) (by omega) (handle_VR _) rfl w hw
    | _ + 8, h, _ => exact absurd h (by omega)
  | 3, _, e0 =>
    obtain ⟨r1, h1, e1⟩ := residue a1 8 (by omega)
    match r1, h1, e1 with
    | 0, _, e1 =>
      exact lawG_run (es := fun _ => 0) mixed body runT3_0 (.cons (u8s_VR _ w0 e0) (.cons (u8s_VR _ w1 e1) .nil)) (by omega) (handle_VR _) rfl w hw
    | 1, _, e1 =>
      exact lawG_run (es := fun _ => 0) mixed body runT3_1 (.cons (u8s_VR _ w0 e0) (.cons (u8s_VR _ w1 e1) .nil)) (by omega) (handle_VR _) rfl w hw
    | 2, _, e1 =>
      exact lawG_run (es := fun _ => 0) mixed body runT3_2 (.cons (u8s_VR _ w0 e0) (.cons (u8s_VR _ w1 e1) .nil)) (by omega) (handle_VR _) rfl w hw
    | 3, _, e1 =>
      exact lawG_run (es := fun _ => 0) mixed body runT3_3 (.cons (u8s_VR _ w0 e0) (.cons (u8s_VR _ w1 e1) .nil)) (by omega) (handle_VR _) rfl w hw
    | 4, _, e1 =>
      exact lawG_run (es := fun _ => 0) mixed body runT3_4 (.cons (u8s_VR _ w0 e0) (.cons (u8s_VR _ w1 e1) .nil)) (by omega) (handle_VR _) rfl w hw
    | 5, _, e1 =>
      exact lawG_run (es := fun _ => 0) mixed body runT3_5 (.cons (u8s_VR _ w0 e0) (.cons (u8s_VR _ w1 e1) .nil)) (by omega) (handle_VR _) rfl w hw
    | 6, _, e1 =>
      exact lawG_run (es := fun _ => 0) mixed body runT3_6 (.cons (u8s_VR _ w0 e0) (.cons (u8s_VR _ w1 e1) .nil)) (by omega) (handle_VR _) rfl w hw
    | 7, _, e1 =>
      exact lawG_run (es := fun _ => 0) mixed body runT3_7 (.cons (u8s_VR _ w0 e0) (.cons (u8s_VR _ w1 e1) .nil)) (by omega) (handle_VR _) rfl w hw
    | _ + 8, h, _ => exact absurd h (by omega)
  | 4, _, e0 =>
    obtain ⟨r1, h1, e1⟩ := residue a1 8 (by omega)
    match r1, h1, e1 with
    | 0, _, e1 =>
      exact lawG_run (es := fun _ => 0) mixed body runT4_0 (.cons (u8s_VR _ w0 e0) (.cons (u8s_VR _ w1 e1) .nil)) (by omega) (handle_VR _) rfl w hw
    | 1, _, e1 =>
      exact lawG_run (es := fun _ => 0) mixed body runT4_1 (.cons (u8s_VR _ w0 e0) (.cons (u8s_VR _ w1 e1) .nil)) (by omega) (handle_VR _) rfl w hw
    | 2, _, e1 =>
      exact lawG_run (es := fun _ => 0) mixed body runT4_2 (.cons (u8s_VR _ w0 e0) (.cons (u8s_VR _ w1 e1) .nil)) (by omega) (handle_VR _) rfl w hw
    | 3, _, e1 =>
      exact lawG_run (es := fun _ => 0) mixed body runT4_3 (.cons (u8s_VR _ w0 e0) (.cons (u8s_VR _ w1 e1) .nil)) (by omega) (handle_VR _) rfl w hw
    | 4, _, e1 =>
      exact lawG_run (es := fun _ => 0) mixed body runT4_4 (.cons (u8s_VR _ w0 e0) (.cons (u8s_VR _ w1 e1) .nil)) (by omega) (handle_VR _) rfl w hw
    | 5, _, e1 =>
      exact lawG_run (es := fun _ => 0) mixed body runT4_5 (.cons (u8s_VR _ w0 e0) (.cons (u8s_VR _ w1 e1) .nil)) (by omega) (handle_VR _) rfl w hw
    | 6, _, e1 =>
      exact lawG_run (es := fun _ => 0) mixed body runT4_6 (.cons (u8s_VR _ w0 e0) (.cons (u8s_VR _ w1 e1) .nil)) (by omega) (handle_VR _) rfl w hw
    | 7, _, e1 =>
      exact lawG_run (es := fun _ => 0) mixed body runT4_7 (.cons (u8s_VR _ w0 e0) (.cons (u8s_VR _ w1 e1) .nil)) (by omega) (handle_VR _) rfl w hw
    | _ + 8, h, _ => exact absurd h (by omega)
  | 5, _, e0 =>
    obtain ⟨r1, h1, e1⟩ := residue a1 8 (by omega)
    match r1, h1, e1 with
    | 0, _, e1 =>
      exact lawG_run (es := fun _ => 0) mixed body runT5_0 (.cons (u8s_VR _ w0 e0) (.cons (u8s_VR _ w1 e1) .nil)) (by omega) (handle_VR _) rfl w hw
    | 1, _, e1 =>
      exact lawG_run (es := fun _ => 0) mixed body runT5_1 (.cons (u8s_VR _ w0 e0) (.cons (u8s_VR _ w1 e1) .nil)) (by omega) (handle_VR _) rfl w hw
    | 2, _, e1 =>
      exact lawG_run (es := fun _ => 0) mixed body runT5_2 (.cons (u8s_VR _ w0 e0) (.cons (u8s_VR _ w1 e1) .nil)) (by omega) (handle_VR _) rfl w hw
    | 3, _, e1 =>
      exact lawG_run (es := fun _ => 0) mixed body runT5_3 (.cons (u8s_VR _ w0 e0) (.cons (u8s_VR _ w1 e1) .nil)) (by omega) (handle_VR _) rfl w hw
    | 4, _, e1 =>
      exact lawG_run (es := fun _ => 0) mixed body runT5_4 (.cons (u8s_VR _ w0 e0) (.cons (u8s_VR _ w1 e1) .nil)) (by omega) (handle_VR _) rfl w hw
    | 5, _, e1 =>
      exact lawG_run (es := fun _ => 0) mixed body runT5_5 (.cons (u8s_VR _ w0 e0) (.cons (u8s_VR _ w1 e1) .nil)) (by omega) (handle_VR _) rfl w hw
    | 6, _, e1 =>
      exact lawG_run (es := fun _ => 0) mixed body runT5_6 (.cons (u8s_VR _ w0 e0) (.cons (u8s_VR _ w1 e1) .nil)) (by omega) (handle_VR _) rfl w hw
    | 7, _, e1 =>
      exact lawG_run (es := fun _ => 0) mixed body runT5_7 (.cons (u8s_VR _ w0 e0) (.cons (u8s_VR _ w1 e1) .nil)) (by omega) (handle_VR _) rfl w hw
    | _ + 8, h, _ => exact absurd h (by omega)
  | 6, _, e0 =>
    obtain ⟨r1, h1, e1⟩ := residue a1 8 (by omega)
    match r1, h1, e1 with
    | 0, _, e1 =>
      exact lawG_run (es := fun _ => 0) mixed body runT6_0 (.cons (u8s_VR _ w0 e0) (.cons (u8s_VR _ w1 e1) .nil)) (by omega) (handle_VR _) rfl w hw
    | 1, _, e1 =>
      exact lawG_run (es := fun _ => 0) mixed body runT6_1 (.cons (u8s_VR _ w0 e0) (.cons (u8s_VR _ w1 e1) .nil)) (by omega) (handle_VR _) rfl w hw
    | 2, _, e1 =>
      exact lawG_run (es := fun _ => 0) mixed body runT6_2 (.cons (u8s_VR _ w0 e0) (.cons (u8s_VR _ w1 e1) .nil)) (by omega) (handle_VR _) rfl w hw
    | 3, _, e1 =>
      exact lawG_run (es := fun _ => 0) mixed body runT6_3 (.cons (u8s_VR _ w0 e0) (.cons (u8s_VR _ w1 e1) .nil)) (by omega) (handle_VR _) rfl w hw
    | 4, _, e1 =>
      exact lawG_run (es := fun _ => 0) mixed body runT6_4 (.cons (u8s_VR _ w0 e0) (.cons (u8s_VR _ w1 e1) .nil)) (by omega) (handle_VR _) rfl w hw
    | 5, _, e1 =>
      exact lawG_run (es := fun _ => 0) mixed body runT6_5 (.cons (u8s_VR _ w0 e0) (.cons (u8s_VR _ w1 e1) .nil)) (by omega) (handle_VR _) rfl w hw
    | 6, _, e1 =>
      exact lawG_run (es := fun _ => 0) mixed body runT6_6 (.cons (u8s_VR _ w0 e0) (.cons (u8s_VR _ w1 e1) .nil)) (by omega) (handle_VR _) rfl w hw
    | 7, _, e1 =>
      exact lawG_run (es := fun _ => 0) mixed body runT6_7 (.cons (u8s_VR _ w0 e0) (.cons (u8s_VR _ w1 e1) .nil)) (by omega) (handle_VR _) rfl w hw
    | _ + 8, h, _ => exact absurd h (by omega)
  | 7, _, e0 =>
    obtain ⟨r1, h1, e1⟩ := residue a1 8 (by omega)
    match r1, h1, e1 with
    | 0, _, e1 =>
      exact lawG_run (es := fun _ => 0) mixed body runT7_0 (.cons (u8s_VR _ w0 e0) (.cons (u8s_VR _ w1 e1) .nil)) (by omega) (handle_VR _) rfl w hw
    | 1, _, e1 =>
      exact lawG_run (es := fun _ => 0) mixed body runT7_1 (.cons (u8s_VR _ w0 e0) (.cons (u8s_VR _ w1 e1) .nil)) (by omega) (handle_VR _) rfl w hw
    | 2, _, e1 =>
      exact lawG_run (es := fun _ => 0) mixed body runT7_2 (.cons (u8s_VR _ w0 e0) (.cons (u8s_VR _ w1 e1) .nil)) (by omega) (handle_VR _) rfl w hw
    | 3, _, e1 =>
      exact lawG_run (es := fun _ => 0) mixed body runT7_3 (.cons (u8s_VR _ w0 e0) (.cons (u8s_VR _ w1 e1) .nil)) (by omega) (handle_VR _) rfl w hw
    | 4, _, e1 =>
      exact lawG_run (es := fun _ => 0) mixed body runT7_4 (.cons (u8s_VR _ w0 e0) (.cons (u8s_VR _ w1 e1) .nil)) (by omega) (handle_VR _) rfl w hw
    | 5, _, e1 =>
      exact lawG_run (es := fun _ => 0) mixed body runT7_5 (.cons (u8s_VR _ w0 e0) (.cons (u8s_VR _ w1 e1) .nil)) (by omega) (handle_VR _) rfl w hw
    | 6, _, e1 =>
      exact lawG_run (es := fun _ => 0) mixed body runT7_6 (.cons (u8s_VR _ w0 e0) (.cons (u8s_VR _ w1 e1) .nil)) (by omega) (handle_VR _) rfl w hw
    | 7, _, e1 =>
      exact lawG_run (es := fun _ => 0) mixed body runT7_7 (.cons (u8s_VR _ w0 e0) (.cons (u8s_VR _ w1 e1) .nil)) (by omega) (handle_VR _) rfl w hw
    | _ + 8, h, _ => exact absurd h (by omega)
  | 8, _, e0 =>
    obtain ⟨r1, h1, e1⟩ := residue a1 8 (by omega)
    match r1, h1, e1 with
    | 0, _, e1 =>
      exact lawG_run (es := fun _ => 0) mixed body runT8_0 (.cons (u8s_VR _ w0 e0) (.cons (u8s_VR _ w1 e1) .nil)) (by omega) (handle_VR _) rfl w hw
    | 1, _, e1 =>
      exact lawG_run (es := fun _ => 0) mixed body runT8_1 (.cons (u8s_VR _ w0 e0) (.cons (u8s_VR _ w1 e1) .nil)) (by omega) (handle_VR _) rfl w hw
    | 2, _, e1 =>
      exact lawG_run (es := fun _ => 0) mixed body runT8_2 (.cons (u8s_VR _ w0 e0) (.cons (u8s_VR _ w1 e1) .nil)) (by omega) (handle_VR _) rfl w hw
    | 3, _, e1 =>
      exact lawG_run (es := fun _ => 0) mixed body runT8_3 (.cons (u8s_VR _ w0 e0) (.cons (u8s_VR _ w1 e1) .nil)) (by omega) (handle_VR _) rfl w hw
    | 4, _, e1 =>
      exact lawG_run (es := fun _ => 0) mixed body runT8_4 (.cons (u8s_VR _ w0 e0) (.cons (u8s_VR _ w1 e1) .nil)) (by omega) (handle_VR _) rfl w hw
    | 5, _, e1 =>
      exact lawG_run (es := fun _ => 0) mixed body runT8_5 (.cons (u8s_VR _ w0 e0) (.cons (u8s_VR _ w1 e1) .nil)) (by omega) (handle_VR _) rfl w hw
    | 6, _, e1 =>
      exact lawG_run (es := fun _ => 0) mixed body runT8_6 (.cons (u8s_VR _ w0 e0) (.cons (u8s_VR _ w1 e1) .nil)) (by omega) (handle_VR _) rfl w hw
    | 7, _, e1 =>
      exact lawG_run (es := fun _ => 0) mixed body runT8_7 (.cons (u8s_VR _ w0 e0) (.cons (u8s_VR _ w1 e1) .nil)) (by omega) (handle_VR _) rfl w hw
    | _ + 8, h, _ => exact absurd h (by omega)
  | 9, _, e0 =>
    obtain ⟨r1, h1, e1⟩ := residue a1 8 (by omega)
    match r1, h1, e1 with
    | 0, _, e1 =>
      exact lawG_run (es := fun _ => 0) mixed body runT9_0 (.cons (u8s_VR _ w0 e0) (.cons (u8s_VR _ w1 e1) .nil)) (by omega) (handle_VR _) rfl w hw
    | 1, _, e1 =>
      exact lawG_run (es := fun _ => 0) mixed body runT9_1 (.cons (u8s_VR _ w0 e0) (.cons (u8s_VR _ w1 e1) .nil)) (by omega) (handle_VR _) rfl w hw
    | 2, _, e1 =>
      exact lawG_run (es := fun _ => 0) mixed body runT9_2 (.cons (u8s_VR _ w0 e0) (.cons (u8s_VR _ w1 e1) .nil)) (by omega) (handle_VR _) rfl w hw
    | 3, _, e1 =>
      exact lawG_run (es := fun _ => 0) mixed body runT9_3 (.cons (u8s_VR _ w0 e0) (.cons (u8s_VR _ w1 e1) .nil)) (by omega) (handle_VR _) rfl w hw
    | 4, _, e1 =>
      exact lawG_run (es := fun _ => 0) mixed body runT9_4 (.cons (u8s_VR _ w0 e0) (.cons (u8s_VR _ w1 e1) .nil)) (by omega) (handle_VR _) rfl w hw
    | 5, _, e1 =>
      exact lawG_run (es := fun _ => 0) mixed body runT9_5 (.cons (u8s_VR _ w0 e0) (.cons (u8s_VR _ w1 e1) .nil)) (by omega) (handle_VR _) rfl w hw
    | 6, _, e1 =>
      exact lawG_run (es := fun _ => 0) mixed body runT9_6 (.cons (u8s_VR _ w0 e0) (.cons (u8s_VR _ w1 e1) .nil)) (by omega) (handle_VR _) rfl w hw
    | 7, _, e1 =>
      exact lawG_run (es := fun _ => 0) mixed body runT9_7 (.cons (u8s_VR _ w0 e0) (.cons (u8s_VR _ w1 e1) .nil)) (by omega) (handle_VR _) rfl w hw
    | _ + 8, h, _ => exact absurd h (by omega)
  | 10, _, e0 =>
    obtain ⟨r1, h1, e1⟩ := residue a1 8 (by omega)
    match r1, h1, e1 with
    | 0, _, e1 =>
      exact lawG_run (es := fun _ => 0) mixed body runT10_0 (.cons (u8s_VR _ w0 e0) (.cons (u8s_VR _ w1 e1) .nil)) (by omega) (handle_VR _) rfl w hw
    | 1, _, e1 =>
      exact lawG_run (es := fun _ => 0) mixed body runT10_1 (.cons (u8s_VR _ w0 e0) (.cons (u8s_VR _ w1 e1) .nil)) (by omega) (handle_VR _) rfl w hw
    | 2, _, e1 =>
      exact lawG_run (es := fun _ => 0) mixed body runT10_2 (.cons (u8s_VR _ w0 e0) (.cons (u8s_VR _ w1 e1) .nil)) (by omega) (handle_VR _) rfl w hw
    | 3, _, e1 =>
      exact lawG_run (es := fun _ => 0) mixed body runT10_3 (.cons (u8s_VR _ w0 e0) (.cons (u8s_VR _ w1 e1) .nil)) (by omega) (handle_VR _) rfl w hw
    | 4, _, e1 =>
      exact lawG_run (es := fun _ => 0) mixed body runT10_4 (.cons (u8s_VR _ w0 e0) (.cons (u8s_VR _ w1 e1) .nil)) (by omega) (handle_VR _) rfl w hw
    | 5, _, e1 =>
      exact lawG_run (es := fun _ => 0) mixed body runT10_5 (.cons (u8s_VR _ w0 e0) (.cons (u8s_VR _ w1 e1) .nil)) (by omega) (handle_VR _) rfl w hw
    | 6, _, e1 =>
      exact lawG_run (es := fun _ => 0) mixed body runT10_6 (.cons (u8s_VR _ w0 e0) (.cons (u8s_VR _ w1 e1) .nil)) (by omega) (handle_VR _) rfl w hw
    | 7, _, e1 =>
      exact lawG_run (es := fun _ => 0) mixed body runT10_7 (.cons (u8s_VR _ w0 e0) (.cons (u8s_VR _ w1 e1) .nil)) (by omega) (handle_VR _) rfl w hw
    | _ + 8, h, _ => exact absurd h (by omega)
  | 11, _, e0 =>
    obtain ⟨r1, h1, e1⟩ := residue a1 8 (by omega)
    match r1, h1, e1 with
    | 0, _, e1 =>
      exact lawG_run (es := fun _ => 0) mixed body runT11_0 (.cons (u8s_VR _ w0 e0) (.cons (u8s_VR _ w1 e1) .nil)) (by omega) (handle_VR _) rfl w hw
    | 1, _, e1 =>
      exact lawG_run (es := fun _ => 0) mixed body runT11_1 (.cons (u8s_VR _ w0 e0) (.cons (u8s_VR _ w1 e1) .nil)) (by omega) (handle_VR _) rfl w hw
    | 2, _, e1 =>
      exact lawG_run (es := fun _ => 0) mixed body runT11_2 (.cons (u8s_VR _ w0 e0) (.cons (u8s_VR _ w1 e1) .nil)) (by omega) (handle_VR _) rfl w hw
    | 3, _, e1 =>
      exact lawG_run (es := fun _ => 0) mixed body runT11_3 (.cons (u8s_VR _ w0 e0) (.cons (u8s_VR _ w1 e1) .nil)) (by omega) (handle_VR _) rfl w hw
    | 4, _, e1 =>
      exact lawG_run (es := fun _ => 0) mixed body runT11_4 (.cons (u8s_VR _ w0 e0) (.cons (u8s_VR _ w1 e1) .nil)) (by omega) (handle_VR _) rfl w hw
    | 5, _, e1 =>
      exact lawG_run (es := fun _ => 0) mixed body runT11_5 (.cons (u8s_VR _ w0 e0) (.cons (u8s_VR _ w1 e1) .nil)) (by omega) (handle_VR _) rfl w hw
    | 6, _, e1 =>
      exact lawG_run (es := fun _ => 0) mixed body runT11_6 (.cons (u8s_VR _ w0 e0) (.cons (u8s_VR _ w1 e1) .nil)) (by omega) (handle_VR _) rfl w hw
    | 7, _, e1 =>
      exact lawG_run (es := fun _ => 0) mixed body runT11_7 (.cons (u8s_VR _ w0 e0) (.cons (u8s_VR _ w1 e1) .nil)) (by omega) (handle_VR _) rfl w hw
    | _ + 8, h, _ => exact absurd h (by omega)
  | 12, _, e0 =>
    obtain ⟨r1, h1, e1⟩ := residue a1 8 (by omega)
    match r1, h1, e1 with
    | 0, _, e1 =>
      exact lawG_run (es := fun _ => 0) mixed body runT12_0 (.cons (u8s_VR _ w0 e0) (.cons (u8s_VR _ w1 e1) .nil)) (by omega) (handle_VR _) rfl w hw
    | 1, _, e1 =>
      exact lawG_run (es := fun _ => 0) mixed body runT12_1 (.cons (u8s_VR _ w0 e0) (.cons (u8s_VR _ w1 e1) .nil)) (by omega) (handle_VR _) rfl w hw
    | 2, _, e1 =>
      exact lawG_run (es := fun _ => 0) mixed body runT12_2 (.cons (u8s_VR _ w0 e0) (.cons (u8s_VR _ w1 e1) .nil)) (by omega) (handle_VR _) rfl w hw
    | 3, _, e1 =>
      exact lawG_run (es := fun _ => 0) mixed body runT12_3 (.cons (u8s_VR _ w0 e0) (.cons (u8s_VR _ w1 e1) .nil)) (by omega) (handle_VR _) rfl w hw
    | 4, _, e1 =>
      exact lawG_run (es := fun _ => 0) mixed body runT12_4 (.cons (u8s_VR _ w0 e0) (.cons (u8s_VR _ w1 e1) .nil)) (by omega) (handle_VR _) rfl w hw
    | 5, _, e1 =>
      exact lawG_run (es := fun _ => 0) mixed body runT12_5 (.cons (u8s_VR _ w0 e0) (.cons (u8s_VR _ w1 e1) .nil)) (by omega) (handle_VR _) rfl w hw
    | 6, _, e1 =>
      exact lawG_run (es := fun _ => 0) mixed body runT12_6 (.cons (u8s_VR _ w0 e0) (.cons (u8s_VR _ w1 e1) .nil)) (by omega) (handle_VR _) rfl w hw
    | 7, _, e1 =>
      exact lawG_run (es := fun _ => 0) mixed body runT12_7 (.cons (u8s_VR _ w0 e0) (.cons (u8s_VR _ w1 e1) .nil)) (by omega) (handle_VR _) rfl w hw
    | _ + 8, h, _ => exact absurd h (by omega)
  | 13, _, e0 =>
    obtain ⟨r1, h1, e1⟩ := residue a1 8 (by omega)
    match r1, h1, e1 with
    | 0, _, e1 =>
      exact lawG_run (es := fun _ => 0) mixed body runT13_0 (.cons (u8s_VR _ w0 e0) (.cons (u8s_VR _ w1 e1) .nil)) (by omega) (handle_VR _) rfl w hw
    | 1, _, e1 =>
      exact lawG_run (es := fun _ => 0) mixed body runT13_1 (.cons (u8s_VR _ w0 e0) (.cons (u8s_VR _ w1 e1) .nil)) (by omega) (handle_VR _) rfl w hw
    | 2, _, e1 =>
      exact lawG_run (es := fun _ => 0) mixed body runT13_2 (.cons (u8s_VR _ w0 e0) (.cons (u8s_VR _ w1 e1) .nil)) (by omega) (handle_VR _) rfl w hw
    | 3, _, e1 =>
      exact lawG_run (es := fun _ => 0) mixed body runT13_3 (.cons (u8s_VR _ w0 e0) (.cons (u8s_VR _ w1 e1) .nil)) (by omega) (handle_VR _) rfl w hw
    | 4, _, e1 =>
      exact lawG_run (es := fun _ => 0) mixed body runT13_4 (.cons (u8s_VR _ w0 e0) (.cons (u8s_VR _ w1 e1) .nil)) (by omega) (handle_VR _) rfl w hw
    | 5, _, e1 =>
      exact lawG_run (es := fun _ => 0) mixed body runT13_5 (.cons (u8s_VR _ w0 e0) (.cons (u8s_VR _ w1 e1) .nil)) (by omega) (handle_VR _) rfl w hw
    | 6, _, e1 =>
      exact lawG_run (es := fun _ => 0) mixed body runT13_6 (.cons (u8s_VR _ w0 e0) (.cons (u8s_VR _ w1 e1) .nil)) (by omega) (handle_VR _) rfl w hw
    | 7, _, e1 =>
      exact lawG_run (es := fun _ => 0) mixed body runT13_7 (.cons (u8s_VR _ w0 e0) (.cons (u8s_VR _ w1 e1) .nil)) (by omega) (handle_VR _) rfl w hw
    | _ + 8, h, _ => exact absurd h (by omega)
  | _ + 14, h, _ => exact absurd h (by omega)

/-- A world that meets the condition: the settled one, the variable's cell laid. -/
noncomputable def laidWorld (os : Os) : World :=
  let w0 := World.holding Tryz.prog os ⟨#[], #[], []⟩
  { w0 with heap := w0.heap.modify ((Tryz.prog.globalNamed "errors.errorType").getD 0) fun
      | .cells _ t frozen => .cells #[laidHandle] t frozen
      | o => o }
where laidHandle : Value := .iface (((Tryz.prog.cutTypes.find? (·.1 == "internal/reflectlite.rtype")).map (·.2)).getD 0) (.agg #[typeHandle Tryz.prog ((((List.range Tryz.prog.types.size).filter fun t => Tryz.prog.rowNamed t [101, 114, 114, 111, 114])).headD 0)])
theorem laidWorld_met (os : Os) (args : Array Value) : laidMetH Tryz.prog Rows.tableManyRow.laid ((laidWorld os).forCall (fun _ _ => 0) ⟨#[], args, []⟩).memory :=
  laidMetH_of_parts (laidMet_nil _ _) (by kernel_rfl)

set_option maxRecDepth 100000 in
theorem lifted (os : Os) (started : os.Started) (H : Type) (enc : TypeId × Value → H) :
    ReturnsInHanded {} Tryz.checked os 3 .any (fun w args => (Rows.tableManySpec.pre enc Tryz.prog Tryz.f3 [] false w args ∧ laidMetH Tryz.prog Rows.tableManyRow.laid w) ∧ sizedMet enc Tryz.prog Tryz.f3 (OpenSpec.ofChange Rows.tableManySpec) false w args)
      (Rows.tableManySpec.post enc Tryz.prog Tryz.f3 false true false false) := by
  refine returnsInHanded_of_change_and (C := Tryz.checked) (X := fun w _ => laidMetH Tryz.prog Rows.tableManyRow.laid w) (fun _ _ _ hh h => h.of_heap hh) own started (by kernel_rfl) Tryz.func3
    (ChangeSpec.witness_at (enc := enc) (C := Tryz.checked) (os := os) (X := fun w _ => laidMetH Tryz.prog Rows.tableManyRow.laid w) false (laidWorld os) #[.int .u8 0, .int .u8 0] 8 rfl (by kernel_rfl) (by kernel_rfl) (by kernel_rfl) (by kernel_rfl) (by kernel_rfl) (laidWorld_met os _)) ?_
  intro W base args ds gs before hval0 hW _ _ hL _
  have hval : ∀ (j : Nat) t v, Tryz.f3.params[j]? = some t → args[j]? = some v → Value.okWide Tryz.prog W .any base t v := hval0
  have hW' := hW
  obtain ⟨p, q, hA0, hV0, rfl, hfz, hnd⟩ := hW
  have hA : DataW.TrodAll enc Tryz.prog W 0 (fun _ => true) true Tryz.f3.params.toList args.toList ds p := hA0
  have hV : DataW.TrodVars enc Tryz.prog W (fun _ => true) [] gs q := hV0
  rw [Tryz.params3] at hA hval
  obtain ⟨v0, vs0, d0, ds0, p0, q0, hargs, rfl, rfl, h0, r0⟩ := trodAll_cons hA
  obtain ⟨v1, vs1, d1, ds1, p1, q1, rfl, rfl, rfl, h1, r1⟩ := trodAll_cons r0
  obtain ⟨rfl, rfl, rfl⟩ := trodAll_nil r1
  obtain rfl : args = #[v0, v1] := by cases args; simp_all
  obtain ⟨rfl, rfl⟩ := trodVars_none hV
  obtain ⟨a0, rfl, rfl, rfl, w0⟩ := open_int Tryz.underlying5 (hval 0 5 v0 rfl rfl) h0
  obtain ⟨a1, rfl, rfl, rfl, w1⟩ := open_int Tryz.underlying5 (hval 1 5 v1 rfl rfl) h1
  clear hA0 hval0
  obtain ⟨eT, eF, hg⟩ := handle_of_laid hL
  simp only [List.append_nil] at hW'
  have e1 : Rows.tableManySpec.fn H ([.lit (.int .u8 a0), .lit (.int .u8 a1)] ++ []) = { results := [.lit (.bool true)], args := [.lit (.int .u8 a0), .lit (.int .u8 a1)] } := by simp [Rows.tableManySpec]
  refine (walk a0 a1 w0 w1 W hg).mono fun e W' ⟨he, hb⟩ => ?_
  subst he
  refine ⟨_, rfl, _, _, _, [], [], [], hW', ?_, ?_, ?_, hb.frame _, fun h => by cases h⟩
  · rw [e1]; exact trodAll_cons_mk (shut_bool Tryz.underlying4 true) trodAll_mk0
  · rw [e1]; exact (trodAll_cons_mk (shut_int Tryz.underlying5 w0) (trodAll_cons_mk (shut_int Tryz.underlying5 w1) trodAll_mk0))
  · rw [e1]; rfl

/-! ### What the row says of the call's text: off the list of what it can come to, once. -/
theorem clIs : Tryz.prog.closure 3 = [3, 4, 6, 7, 20, 40, 41, 64, 42, 65, 67, 92, 66, 91, 21, 43, 44, 68, 93, 94, 123, 69, 5, 15, 36, 62, 61, 37, 38, 16, 17, 18, 19, 39, 63, 8, 9, 22, 45, 46, 47, 23, 49, 33, 60, 48, 24, 50, 70, 72, 73, 96, 124, 125, 170, 141, 190, 168, 215, 246, 169, 194, 216, 247, 140, 97, 126, 171, 127, 82, 107, 71, 95, 74, 98, 75, 76, 51, 77, 79, 101, 78, 99, 128, 100, 130, 181, 182, 129, 172, 178, 173, 217, 174, 218, 219, 175, 220, 221, 248, 176, 177, 179, 180, 52, 80, 102, 131, 183, 184, 81, 103, 132, 145, 192, 193, 133, 104, 134, 186, 185, 223, 224, 222, 225, 187, 29, 54, 55, 56, 57, 87, 88, 89, 135, 136, 105, 137, 188, 189, 138, 106, 53, 83, 108, 139, 109, 142, 191, 143, 84, 110, 144, 163, 146, 195, 147, 196, 197, 226, 249, 111, 148, 198, 199, 229, 228, 251, 252, 268, 275, 227, 250, 232, 231, 254, 255, 256, 269, 276, 257, 230, 253, 200, 112, 149, 150, 151, 201, 202, 233, 258, 234, 237, 236, 260, 261, 262, 270, 277, 263, 235, 259, 203, 113, 114, 152, 165, 214, 245, 153, 204, 205, 85, 86, 115, 155, 154, 206, 157, 156, 207, 116, 159, 158, 208, 117, 160, 209, 238, 239, 240, 264, 271, 265, 272, 118, 161, 210, 213, 244, 162, 211, 212, 241, 242, 243, 266, 273, 267, 274, 119, 164, 120, 121, 166, 167, 25, 26, 28, 27, 10, 11, 30, 31, 32, 58, 59, 90, 122, 12, 13, 34, 14, 35] := by kernel_rfl
theorem inIs : Tryz.prog.inPlace 3 = ["math.Float64bits", "math.Float64frombits", "internal/bytealg.abigen_runtime_cmpstring", "internal/reflectlite.ValueOf", "(internal/reflectlite.Value).Type", "(internal/reflectlite.Value).IsNil", "internal/reflectlite.TypeOf", "(internal/reflectlite.Value).Elem", "(internal/reflectlite.Value).Set", "slices.overlaps[int64]", "slices.overlaps[rialto/api.Entry]", "slices.overlaps[*rialto/tree.node[rialto/api.Entry]]", "slices.overlaps[*rialto/tree.node[int64]]", "slices.overlaps[*rialto/index.Index]"] := by unfold Program.inPlace; rw [clIs]; kernel_rfl
theorem unIs : Tryz.prog.unfollowed 3 = true := by unfold Program.unfollowed; rw [clIs]; kernel_rfl
theorem reIs : Tryz.prog.recurses 3 = true := by unfold Program.recurses; rw [unIs]; rfl
theorem vaIs : Tryz.prog.varsNamed 3 = ["errors.errorType"] := by unfold Program.varsNamed; rw [clIs]; kernel_rfl
theorem goIs : Tryz.prog.goes 3 = false := by unfold Program.goes; rw [clIs, unIs]; kernel_rfl
theorem fnIs : Tryz.prog.funcNamed Rows.tableManyRow.func = some 3 := by kernel_rfl
theorem goesIs : false = Rows.tableManyRow.goesBy Tryz.prog := by
  unfold OpenClaim.goesBy Program.goesAt Program.goesFrom
  rw [fnIs, Option.any_some, goIs]
  rfl
theorem facts : joinedFacts Tryz.prog 3 Tryz.f3 Rows.tableManySpec Rows.tableManyRow = true := by
  unfold joinedFacts
  rw [inIs, unIs, reIs, vaIs]
  kernel_rfl


theorem over : Rows.TableManySaid :=
  OpenClaim.holds_of_wide 3 Tryz.f3 rfl rfl rfl rfl rfl rfl rfl ⟨rfl, rfl, rfl, rfl, rfl⟩ rfl rfl rfl rfl rfl (by kernel_rfl) Tryz.func3 facts
    (of_decide_eq_true (by kernel_rfl)) (by unfold Func.isWrapper; rw [if_neg (of_decide_eq_false (by kernel_rfl))]; exact ⟨rfl, rfl⟩)
    (fun os started H enc _ => lifted os started H enc)

/-- THE STATEMENT. -/
theorem proved : Rows.TableManyCardSaid :=
  Claim7.holds_tied_plain_at .later [] [.handle] true Rows.tableManyCard.stood.harness true
    over (fun _ h => by cases h) (by kernel_rfl) (fun _ h => by cases h) tableMany_row_tie rfl ⟨rfl, rfl⟩ (by kernel_rfl) rfl
    (fun f fn hf hfn => by
      obtain rfl : f = 3 := Option.some.inj ((show Tryz.prog.funcNamed Rows.tableManyRow.func = some 3 by kernel_rfl).symm.trans hf) |>.symm
      obtain rfl : fn = Tryz.f3 := (Option.some.inj (Tryz.func3.symm.trans hfn)).symm
      exact ⟨by kernel_rfl, fun j t ht => by
          rw [Tryz.params3] at ht
          rcases j with _ | _ | j
          · have h3 : t = 5 := by simpa using ht.symm
            subst h3
            exact (show Tryz.prog.wantsStandIn 5 = false by kernel_rfl)
          · have h3 : t = 5 := by simpa using ht.symm
            subst h3
            exact (show Tryz.prog.wantsStandIn 5 = false by kernel_rfl)
          · simp at ht⟩)
    goesIs
#print axioms proved
end Go.Proofs.YtbhkafbpkiagbaaGreatDoor.tableMany
