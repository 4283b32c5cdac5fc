/-
  For every argument, in every world in which the listed variable reads as the row says, the law returns true and turns nothing that lay before; the card ties that to the program's text.
  Every run is one of the executor (Ex1 to Ex3), checked by the kernel (Run0 and on): one for each choice of residues.
-/
import Derived.Test.YtibkcecpbiiplaaGreatDoorRows
import Derived.Test.YtibkcecpbiiplaaGreatDoorCards
import Derived.Test.YtibkcecpbiiplaaGreatDoorTie
import Derived.Test.YtibkcecpbiiplaaGreatDoorRunC0
import Derived.Test.YtibkcecpbiiplaaGreatDoorRunC1
import Derived.Test.YtibkcecpbiiplaaGreatDoorRunC2
import Derived.Test.YtibkcecpbiiplaaGreatDoorRunC3
import Derived.Test.YtibkcecpbiiplaaGreatDoorRunC4
import Derived.Test.YtibkcecpbiiplaaGreatDoorRunC5
import Derived.Test.YtibkcecpbiiplaaGreatDoorRunC6
import Derived.Test.YtibkcecpbiiplaaGreatDoorRunC7
import Derived.Test.YtibkcecpbiiplaaGreatDoorRunC8
import Derived.Test.YtibkcecpbiiplaaGreatDoorRunC9
import Derived.Test.YtibkcecpbiiplaaGreatDoorRunC10
import Derived.Test.YtibkcecpbiiplaaGreatDoorRunC11
import Derived.Test.YtibkcecpbiiplaaGreatDoorRunC12
import Derived.Test.YtibkcecpbiiplaaGreatDoorRunC13
import Derived.WalkKit
import Derived.ProofKit
import Derived.OpenShut
import Derived.ChangeSame
import Derived.ChangeVars
import Derived.JoinedOf
import Derived.RowKit
import Derived.RowKitTokens
import Derived.LaidLaws
import Derived.LaidHandle
import Derived.Stop.Joined
import Derived.SevenTiedAt
namespace Go.Proofs.YtibkcecpbiiplaaGreatDoor.marketCursors
open Go.ChangeShapes Go.WideShapes Go.ChangeAt Go.RowKit
open Go.Ex
set_option linter.unusedVariables false

theorem own : ownKnob Tryz.prog.godebug = none := by kernel_rfl
theorem mixed : Tryz.prog.follows .mixedOrders = true := by kernel_rfl
theorem body : (bodyOf Tryz.prog 3).isSome = true := by kernel_rfl

theorem residue (a : Int) (q : Nat) (hq : 0 < q) : ∃ r : Nat, r < q ∧ a % (q : Int) = (r : Int) :=
  ⟨(a % (q : Int)).toNat, by have := Int.emod_nonneg a (b := q) (by omega); have := Int.emod_lt_of_pos a (b := q) (by omega); omega, by have := Int.emod_nonneg a (b := q) (by omega); omega⟩

theorem rtIs : (Tryz.prog.cutTypes.find? (·.1 == "internal/reflectlite.rtype")).map (·.2) = some 236 := by kernel_rfl
theorem oneRow : ((List.range Tryz.prog.types.size).filter fun t => Tryz.prog.rowNamed t [101, 114, 114, 111, 114]) = [26] := by kernel_rfl
theorem varIs : Tryz.prog.globalNamed "errors.errorType" = some 0 := by kernel_rfl
theorem handleIs : typeHandle Tryz.prog 26 = .pointer (some ⟨3, 26, none⟩) := by kernel_rfl

/-- What the condition gives: the variable's one cell. -/
theorem handle_of_laid {W : World} (h : laidMetH Tryz.prog Rows.marketCursorsRow.laid W) : ∃ e fz, W.heap[0]? = some (.cells #[.iface 236 (.agg #[.pointer (some ⟨3, 26, none⟩)])] e fz) := by
  have h' : laidMet Tryz.prog [] W ∧ handlesMet Tryz.prog Rows.marketCursorsRow.laid W := h
  obtain ⟨name, u, ty, e1, e2, e3, e4, e5⟩ := h'.2 _ (List.mem_singleton.2 rfl)
  have en : name = [101, 114, 114, 111, 114] := (Option.some.inj e1).symm
  subst en
  obtain rfl := Option.some.inj (rtIs.symm.trans e2)
  have hm : ty ∈ (List.range Tryz.prog.types.size).filter fun t => Tryz.prog.rowNamed t [101, 114, 114, 111, 114] := List.mem_filter.2 ⟨List.mem_range.2 e3, e4⟩
  rw [oneRow] at hm
  obtain rfl := List.mem_singleton.1 hm
  rw [handleIs] at e5
  have e6 : ((Tryz.prog.globalNamed "errors.errorType").bind fun g => match W.heap[g]? with
    | some (.cells cs _ _) => some cs
    | _ => none) = some #[.iface 236 (.agg #[.pointer (some ⟨3, 26, none⟩)])] := e5
  rw [varIs, Option.bind_some] at e6
  split at e6
  · rename_i cs e fz hw
    cases e6
    exact ⟨e, fz, hw⟩
  · cases e6

theorem handle_VR (es : Nat → Nat) : VR (mGS 64 es) handle (.iface 236 (.agg #[.pointer (some ⟨3, 26, none⟩)])) :=
  .iface _ _ _ (.agg' (fun u hu => by simp at hu; subst hu; rfl) ⟨.ptr (m := mGS 64 es) 3 26 (show 3 < 64 by omega), trivial⟩)

/-- The walk, by the runs. -/
theorem walk (a0 : Int) (a1 : Int) (a2 : Bool) (w0 : (Lit.int .u8 a0).wf = true) (w1 : (Lit.int .u8 a1).wf = true) (w : World) {e : TypeId} {fz : Nat × Nat} (hw : w.heap[0]? = some (.cells #[.iface 236 (.agg #[.pointer (some ⟨3, 26, none⟩)])] e fz)) :
    Calls Tryz.prog 3 #[.int .u8 a0, .int .u8 a1, .bool a2] w fun e w' => e = .returned (.bool true) ∧ Below w.heap.size w w' := by
  obtain ⟨r0, h0, e0⟩ := residue a0 10 (by omega)
  match r0, h0, e0 with
  | 0, _, e0 =>
    obtain ⟨r1, h1, e1⟩ := residue a1 1 (by omega)
    match r1, h1, e1 with
    | 0, _, e1 =>
      cases a2 with
      | false =>
        exact lawG_run (es := fun _ => 0) mixed body runC0_0_0 (.cons (u8s_VR _ w0 e0) (.cons (u8s_VR _ w1 e1) (.cons (.bool false) .nil))) (by omega) (handle_VR _) rfl w hw
      | true =>
        exact lawG_run (es := fun _ => 0) mixed body runC0_0_1 (.cons (u8s_VR _ w0 e0) (.cons (u8s_VR _ w1 e1) (.cons (.bool true) .nil))) (by omega) (handle_VR _) rfl w hw
    | _ + 1, h, _ => exact absurd h (by omega)
  | 1, _, e0 =>
    obtain ⟨r1, h1, e1⟩ := residue a1 2 (by omega)
    match r1, h1, e1 with
    | 0, _, e1 =>
      cases a2 with
      | false =>
        exact lawG_run (es := fun _ => 0) mixed body runC1_0_0 (.cons (u8s_VR _ w0 e0) (.cons (u8s_VR _ w1 e1) (.cons (.bool false) .nil))) (by omega) (handle_VR _) rfl w hw
      | true =>
        exact lawG_run (es := fun _ => 0) mixed body runC1_0_1 (.cons (u8s_VR _ w0 e0) (.cons (u8s_VR _ w1 e1) (.cons (.bool true) .nil))) (by omega) (handle_VR _) rfl w hw
    | 1, _, e1 =>
      cases a2 with
      | false =>
        exact lawG_run (es := fun _ => 0) mixed body runC1_1_0 (.cons (u8s_VR _ w0 e0) (.cons (u8s_VR _ w1 e1) (.cons (.bool false) .nil))) (by omega) (handle_VR _) rfl w hw
      | true =>
        exact lawG_run (es := fun _ => 0) mixed body runC1_1_1 (.cons (u8s_VR _ w0 e0) (.cons (u8s_VR _ w1 e1) (.cons (.bool true) .nil))) (by omega) (handle_VR _) rfl w hw
    | _ + 2, h, _ => exact absurd h (by omega)
  | 2, _, e0 =>
    obtain ⟨r1, h1, e1⟩ := residue a1 3 (by omega)
    match r1, h1, e1 with
    | 0, _, e1 =>
      cases a2 with
      | false =>
        exact lawG_run (es := fun _ => 0) mixed body runC2_0_0 (.cons (u8s_VR _ w0 e0) (.cons (u8s_VR _ w1 e1) (.cons (.bool false) .nil))) (by omega) (handle_VR _) rfl w hw
      | true =>
        exact lawG_run (es := fun _ => 0) mixed body runC2_0_1 (.cons (u8s_VR _ w0 e0) (.cons (u8s_VR _ w1 e1) (.cons (.bool true) .nil))) (by omega) (handle_VR _) rfl w hw
    | 1, _, e1 =>
      cases a2 with
      | false =>
        exact lawG_run (es := fun _ => 0) mixed body runC2_1_0 (.cons (u8s_VR _ w0 e0) (.cons (u8s_VR _ w1 e1) (.cons (.bool false) .nil))) (by omega) (handle_VR _) rfl w hw
      | true =>
        exact lawG_run (es := fun _ => 0) mixed body runC2_1_1 (.cons (u8s_VR _ w0 e0) (.cons (u8s_VR _ w1 e1) (.cons (.bool true) .nil))) (by omega) (handle_VR _) rfl w hw
    | 2, _, e1 =>
      cases a2 with
      | false =>
        exact lawG_run (es := fun _ => 0) mixed body runC2_2_0 (.cons (u8s_VR _ w0 e0) (.cons (u8s_VR _ w1 e1) (.cons (.bool false) .nil))) (by omega) (handle_VR _) rfl w hw
      | true =>
        exact lawG_run (es := fun _ => 0) mixed body runC2_2_1 (.cons (u8s_VR _ w0 e0) (.cons (u8s_VR _ w1 e1) (.cons (.bool true) .nil))) (by omega) (handle_VR _) rfl w hw
    | _ + 3, h, _ => exact absurd h (by omega)
  | 3, _, e0 =>
    obtain ⟨r1, h1, e1⟩ := residue a1 4 (by omega)
    match r1, h1, e1 with
    | 0, _, e1 =>
      cases a2 with
      | false =>
        exact lawG_run (es := fun _ => 0) mixed body runC3_0_0 (.cons (u8s_VR _ w0 e0) (.cons (u8s_VR _ w1 e1) (.cons (.bool false) .nil))) (by omega) (handle_VR _) rfl w hw
      | true =>
        exact lawG_run (es := fun _ => 0) mixed body runC3_0_1 (.cons (u8s_VR _ w0 e0) (.cons (u8s_VR _ w1 e1) (.cons (.bool true) .nil))) (by omega) (handle_VR _) rfl w hw
    | 1, _, e1 =>
      cases a2 with
      | false =>
        exact lawG_run (es := fun _ => 0) mixed body runC3_1_0 (.cons (u8s_VR _ w0 e0) (.cons (u8s_VR _ w1 e1) (.cons (.bool false) .nil))) (by omega) (handle_VR _) rfl w hw
      | true =>
        exact lawG_run (es := fun _ => 0) mixed body runC3_1_1 (.cons (u8s_VR _ w0 e0) (.cons (u8s_VR _ w1 e1) (.cons (.bool true) .nil))) (by omega) (handle_VR _) rfl w hw
    | 2, _, e1 =>
      cases a2 with
      | false =>
        exact lawG_run (es := fun _ => 0) mixed body runC3_2_0 (.cons (u8s_VR _ w0 e0) (.cons (u8s_VR _ w1 e1) (.cons (.bool false) .nil))) (by omega) (handle_VR _) rfl w hw
      | true =>
        exact lawG_run (es := fun _ => 0) mixed body runC3_2_1 (.cons (u8s_VR _ w0 e0) (.cons (u8s_VR _ w1 e1) (.cons (.bool true) .nil))) (by omega) (handle_VR _) rfl w hw
    | 3, _, e1 =>
      cases a2 with
      | false =>
        exact lawG_run (es := fun _ => 0) mixed body runC3_3_0 (.cons (u8s_VR _ w0 e0) (.cons (u8s_VR _ w1 e1) (.cons (.bool false) .nil))) (by omega) (handle_VR _) rfl w hw
      | true =>
        exact lawG_run (es := fun _ => 0) mixed body runC3_3_1 (.cons (u8s_VR _ w0 e0) (.cons (u8s_VR _ w1 e1) (.cons (.bool true) .nil))) (by omega) (handle_VR _) rfl w hw
    | _ + 4, h, _ => exact absurd h (by omega)
  | 4, _, e0 =>
    obtain ⟨r1, h1, e1⟩ := residue a1 5 (by omega)
    match r1, h1, e1 with
    | 0, _, e1 =>
      cases a2 with
      | false =>
        exact lawG_run (es := fun _ => 0) mixed body runC4_0_0 (.cons (u8s_VR _ w0 e0) (.cons (u8s_VR _ w1 e1) (.cons (.bool false) .nil))) (by omega) (handle_VR _) rfl w hw
      | true =>
        exact lawG_run (es := fun _ => 0) mixed body runC4_0_1 (.cons (u8s_VR _ w0 e0) (.cons (u8s_VR _ w1 e1) (.cons (.bool true) .nil))) (by omega) (handle_VR _) rfl w hw
    | 1, _, e1 =>
      cases a2 with
      | false =>
        exact lawG_run (es := fun _ => 0) mixed body runC4_1_0 (.cons (u8s_VR _ w0 e0) (.cons (u8s_VR _ w1 e1) (.cons (.bool false) .nil))) (by omega) (handle_VR _) rfl w hw
      | true =>
        exact lawG_run (es := fun _ => 0) mixed body runC4_1_1 (.cons (u8s_VR _ w0 e0) (.cons (u8s_VR _ w1 e1) (.cons (.bool true) .nil))) (by omega) (handle_VR _) rfl w hw
    | 2, _, e1 =>
      cases a2 with
      | false =>
        exact lawG_run (es := fun _ => 0) mixed body runC4_2_0 (.cons (u8s_VR _ w0 e0) (.cons (u8s_VR _ w1 e1) (.cons (.bool false) .nil))) (by omega) (handle_VR _) rfl w hw
      | true =>
        exact lawG_run (es := fun _ => 0) mixed body runC4_2_1 (.cons (u8s_VR _ w0 e0) (.cons (u8s_VR _ w1 e1) (.cons (.bool true) .nil))) (by omega) (handle_VR _) rfl w hw
    | 3, _, e1 =>
      cases a2 with
      | false =>
        exact lawG_run (es := fun _ => 0) mixed body runC4_3_0 (.cons (u8s_VR _ w0 e0) (.cons (u8s_VR _ w1 e1) (.cons (.bool false) .nil))) (by omega) (handle_VR _) rfl w hw
      | true =>
        exact lawG_run (es := fun _ => 0) mixed body runC4_3_1 (.cons (u8s_VR _ w0 e0) (.cons (u8s_VR _ w1 e1) (.cons (.bool true) .nil))) (by omega) (handle_VR _) rfl w hw
    | 4, _, e1 =>
      cases a2 with
      | false =>
        exact lawG_run (es := fun _ => 0) mixed body runC4_4_0 (.cons (u8s_VR _ w0 e0) (.cons (u8s_VR _ w1 e1) (.cons (.bool false) .nil))) (by omega) (handle_VR _) rfl w hw
      | true =>
        exact lawG_run (es := fun _ => 0) mixed body runC4_4_1 (.cons (u8s_VR _ w0 e0) (.cons (u8s_VR _ w1 e1) (.cons (.bool true) .nil))) (by omega) (handle_VR _) rfl w hw
    | _ + 5, h, _ => exact absurd h (by omega)
  | 5, _, e0 =>
    obtain ⟨r1, h1, e1⟩ := residue a1 6 (by omega)
    match r1, h1, e1 with
    | 0, _, e1 =>
      cases a2 with
      | false =>
        exact lawG_run (es := fun _ => 0) mixed body runC5_0_0 (.cons (u8s_VR _ w0 e0) (.cons (u8s_VR _ w1 e1) (.cons (.bool false) .nil))) (by omega) (handle_VR _) rfl w hw
      | true =>
        exact lawG_run (es := fun _ => 0) mixed body runC5_0_1 (.cons (u8s_VR _ w0 e0) (.cons (u8s_VR _ w1 e1) (.cons (.bool true) .nil))) (by omega) (handle_VR _) rfl w hw
    | 1, _, e1 =>
      cases a2 with
      | false =>
        exact lawG_run (es := fun _ => 0) mixed body runC5_1_0 (.cons (u8s_VR _ w0 e0) (.cons (u8s_VR _ w1 e1) (.cons (.bool false) .nil))) (by omega) (handle_VR _) rfl w hw
      | true =>
        exact lawG_run (es := fun _ => 0) mixed body runC5_1_1 (.cons (u8s_VR _ w0 e0) (.cons (u8s_VR _ w1 e1) (.cons (.bool true) .nil))) (by omega) (handle_VR _) rfl w hw
    | 2, _, e1 =>
      cases a2 with
      | false =>
        exact lawG_run (es := fun _ => 0) mixed body runC5_2_0 (.cons (u8s_VR _ w0 e0) (.cons (u8s_VR _ w1 e1) (.cons (.bool false) .nil))) (by omega) (handle_VR _) rfl w hw
      | true =>
        exact lawG_run (es := fun _ => 0) mixed body runC5_2_1 (.cons (u8s_VR _ w0 e0) (.cons (u8s_VR _ w1 e1) (.cons (.bool true) .nil))) (by omega) (handle_VR _) rfl w hw
    | 3, _, e1 =>
      cases a2 with
      | false =>
        exact lawG_run (es := fun _ => 0) mixed body runC5_3_0 (.cons (u8s_VR _ w0 e0) (.cons (u8s_VR _ w1 e1) (.cons (.bool false) .nil))) (by omega) (handle_VR _) rfl w hw
      | true =>
        exact lawG_run (es := fun _ => 0) mixed body runC5_3_1 (.cons (u8s_VR _ w0 e0) (.cons (u8s_VR _ w1 e1) (.cons (.bool true) .nil))) (by omega) (handle_VR _) rfl w hw
    | 4, _, e1 =>
      cases a2 with
      | false =>
        exact lawG_run (es := fun _ => 0) mixed body runC5_4_0 (.cons (u8s_VR _ w0 e0) (.cons (u8s_VR _ w1 e1) (.cons (.bool false) .nil))) (by omega) (handle_VR _) rfl w hw
      | true =>
        exact lawG_run (es := fun _ => 0) mixed body runC5_4_1 (.cons (u8s_VR _ w0 e0) (.cons (u8s_VR _ w1 e1) (.cons (.bool true) .nil))) (by omega) (handle_VR _) rfl w hw
    | 5, _, e1 =>
      cases a2 with
      | false =>
        exact lawG_run (es := fun _ => 0) mixed body runC5_5_0 (.cons (u8s_VR _ w0 e0) (.cons (u8s_VR _ w1 e1) (.cons (.bool false) .nil))) (by omega) (handle_VR _) rfl w hw
      | true =>
        exact lawG_run (es := fun _ => 0) mixed body runC5_5_1 (.cons (u8s_VR _ w0 e0) (.cons (u8s_VR _ w1 e1) (.cons (.bool true) .nil))) (by omega) (handle_VR _) rfl w hw
    | _ + 6, h, _ => exact absurd h (by omega)
  | 6, _, e0 =>
    obtain ⟨r1, h1, e1⟩ := residue a1 7 (by omega)
    match r1, h1, e1 with
    | 0, _, e1 =>
      cases a2 with
      | false =>
        exact lawG_run (es := fun _ => 0) mixed body runC6_0_0 (.cons (u8s_VR _ w0 e0) (.cons (u8s_VR _ w1 e1) (.cons (.bool false) .nil))) (by omega) (handle_VR _) rfl w hw
      | true =>
        exact lawG_run (es := fun _ => 0) mixed body runC6_0_1 (.cons (u8s_VR _ w0 e0) (.cons (u8s_VR _ w1 e1) (.cons (.bool true) .nil))) (by omega) (handle_VR _) rfl w hw
    | 1, _, e1 =>
      cases a2 with
      | false =>
        exact lawG_run (es := fun _ => 0) mixed body runC6_1_0 (.cons (u8s_VR _ w0 e0) (.cons (u8s_VR _ w1 e1) (.cons (.bool false) .nil))) (by omega) (handle_VR _) rfl w hw
      | true =>
        exact lawG_run (es := fun _ => 0) mixed body runC6_1_1 (.cons (u8s_VR _ w0 e0) (.cons (u8s_VR _ w1 e1) (.cons (.bool true) .nil))) (by omega) (handle_VR _) rfl w hw
    | 2, _, e1 =>
      cases a2 with
      | false =>
        exact lawG_run (es := fun _ => 0) mixed body runC6_2_0 (.cons (u8s_VR _ w0 e0) (.cons (u8s_VR _ w1 e1) (.cons (.bool false) .nil))) (by omega) (handle_VR _) rfl w hw
      | true =>
        exact lawG_run (es := fun _ => 0) mixed body runC6_2_1 (.cons (u8s_VR _ w0 e0) (.cons (u8s_VR _ w1 e1) (.cons (.bool true) .nil))) (by omega) (handle_VR _) rfl w hw
    | 3, _, e1 =>
      cases a2 with
      | false =>
        exact lawG_run (es := fun _ => 0) mixed body runC6_3_0 (.cons (u8s_VR _ w0 e0) (.cons (u8s_VR _ w1 e1) (.cons (.bool false) .nil))) (by omega) (handle_VR _) rfl w hw
      | true =>
        exact lawG_run (es := fun _ => 0) mixed body runC6_3_1 (.cons (u8s_VR _ w0 e0) (.cons (u8s_VR _ w1 e1) (.cons (.bool true) .nil))) (by omega) (handle_VR _) rfl w hw
    | 4, _, e1 =>
      cases a2 with
      | false =>
        exact lawG_run (es := fun _ => 0) mixed body runC6_4_0 (.cons (u8s_VR _ w0 e0) (.cons (u8s_VR _ w1 e1) (.cons (.bool false) .nil))) (by omega) (handle_VR _) rfl w hw
      | true =>
        exact lawG_run (es := fun _ => 0) mixed body runC6_4_1 (.cons (u8s_VR _ w0 e0) (.cons (u8s_VR _ w1 e1) (.cons (.bool true) .nil))) (by omega) (handle_VR _) rfl w hw
    | 5, _, e1 =>
      cases a2 with
      | false =>
        exact lawG_run (es := fun _ => 0) mixed body runC6_5_0 (.cons (u8s_VR _ w0 e0) (.cons (u8s_VR _ w1 e1) (.cons (.bool false) .nil))) (by omega) (handle_VR _) rfl w hw
      | true =>
        exact lawG_run (es := fun _ => 0) mixed body runC6_5_1 (.cons (u8s_VR _ w0 e0) (.cons (u8s_VR _ w1 e1) (.cons (.bool true) .nil))) (by omega) (handle_VR _) rfl w hw
    | 6, _, e1 =>
      cases a2 with
      | false =>
        exact lawG_run (es := fun _ => 0) mixed body runC6_6_0 (.cons (u8s_VR _ w0 e0) (.cons (u8s_VR _ w1 e1) (.cons (.bool false) .nil))) (by omega) (handle_VR _) rfl w hw
      | true =>
        exact lawG_run (es := fun _ => 0) mixed body runC6_6_1 (.cons (u8s_VR _ w0 e0) (.cons (u8s_VR _ w1 e1) (.cons (.bool true) .nil))) (by omega) (handle_VR _) rfl w hw
    | _ + 7, h, _ => exact absurd h (by omega)
  | 7, _, e0 =>
    obtain ⟨r1, h1, e1⟩ := residue a1 8 (by omega)
    match r1, h1, e1 with
    | 0, _, e1 =>
      cases a2 with
      | false =>
        exact lawG_run (es := fun _ => 0) mixed body runC7_0_0 (.cons (u8s_VR _ w0 e0) (.cons (u8s_VR _ w1 e1) (.cons (.bool false) .nil))) (by omega) (handle_VR _) rfl w hw
      | true =>
        exact lawG_run (es := fun _ => 0) mixed body runC7_0_1 (.cons (u8s_VR _ w0 e0) (.cons (u8s_VR _ w1 e1) (.cons (.bool true) .nil))) (by omega) (handle_VR _) rfl w hw
    | 1, _, e1 =>
      cases a2 with
      | false =>
        exact lawG_run (es := fun _ => 0) mixed body runC7_1_0 (.cons (u8s_VR _ w0 e0) (.cons (u8s_VR _ w1 e1) (.cons (.bool false) .nil))) (by omega) (handle_VR _) rfl w hw
      | true =>
        exact lawG_run (es := fun _ => 0) mixed body runC7_1_1 (.cons (u8s_VR _ w0 e0) (.cons (u8s_VR _ w1 e1) (.cons (.bool true) .nil))) (by omega) (handle_VR _) rfl w hw
    | 2, _, e1 =>
      cases a2 with
      | false =>
        exact lawG_run (es := fun _ => 0) mixed body runC7_2_0 (.cons (u8s_VR _ w0 e0) (.cons (u8s_VR _ w1 e1) (.cons (.bool false) .nil))) (by omega) (handle_VR _) rfl w hw
      | true =>
        exact lawG_run (es := fun _ => 0) mixed body runC7_2_1 (.cons (u8s_VR _ w0 e0) (.cons (u8s_VR _ w1 e1) (.cons (.bool true) .nil))) (by omega) (handle_VR _) rfl w hw
    | 3, _, e1 =>
      cases a2 with
      | false =>
        exact lawG_run (es := fun _ => 0) mixed body runC7_3_0 (.cons (u8s_VR _ w0 e0) (.cons (u8s_VR _ w1 e1) (.cons (.bool false) .nil))) (by omega) (handle_VR _) rfl w hw
      | true =>
        exact lawG_run (es := fun _ => 0) mixed body runC7_3_1 (.cons (u8s_VR _ w0 e0) (.cons (u8s_VR _ w1 e1) (.cons (.bool true) .nil))) (by omega) (handle_VR _) rfl w hw
    | 4, _, e1 =>
      cases a2 with
      | false =>
        exact lawG_run (es := fun _ => 0) mixed body runC7_4_0 (.cons (u8s_VR _ w0 e0) (.cons (u8s_VR _ w1 e1) (.cons (.bool false) .nil))) (by omega) (handle_VR _) rfl w hw
      | true =>
        exact lawG_run (es := fun _ => 0) mixed body runC7_4_1 (.cons (u8s_VR _ w0 e0) (.cons (u8s_VR _ w1 e1) (.cons (.bool true) .nil))) (by omega) (handle_VR _) rfl w hw
    | 5, _, e1 =>
      cases a2 with
      | false =>
        exact lawG_run (es := fun _ => 0) mixed body runC7_5_0 (.cons (u8s_VR _ w0 e0) (.cons (u8s_VR _ w1 e1) (.cons (.bool false) .nil))) (by omega) (handle_VR _) rfl w hw
      | true =>
        exact lawG_run (es := fun _ => 0) mixed body runC7_5_1 (.cons (u8s_VR _ w0 e0) (.cons (u8s_VR _ w1 e1) (.cons (.bool true) .nil))) (by omega) (handle_VR _) rfl w hw
    | 6, _, e1 =>
      cases a2 with
      | false =>
        exact lawG_run (es := fun _ => 0) mixed body runC7_6_0 (.cons (u8s_VR _ w0 e0) (.cons (u8s_VR _ w1 e1) (.cons (.bool false) .nil))) (by omega) (handle_VR _) rfl w hw
      | true =>
        exact lawG_run (es := fun _ => 0) mixed body runC7_6_1 (.cons (u8s_VR _ w0 e0) (.cons (u8s_VR _ w1 e1) (.cons (.bool true) .nil))) (by omega) (handle_VR _) rfl w hw
    | 7, _, e1 =>
      cases a2 with
      | false =>
        exact lawG_run (es := fun _ => 0) mixed body runC7_7_0 (.cons (u8s_VR _ w0 e0) (.cons (u8s_VR _ w1 e1) (.cons (.bool false) .nil))) (by omega) (handle_VR _) rfl w hw
      | true =>
        exact lawG_run (es := fun _ => 0) mixed body runC7_7_1 (.cons (u8s_VR _ w0 e0) (.cons (u8s_VR _ w1 e1) (.cons (.bool true) .nil))) (by omega) (handle_VR _) rfl w hw
    | _ + 8, h, _ => exact absurd h (by omega)
  | 8, _, e0 =>
    obtain ⟨r1, h1, e1⟩ := residue a1 9 (by omega)
    match r1, h1, e1 with
    | 0, _, e1 =>
      cases a2 with
      | false =>
        exact lawG_run (es := fun _ => 0) mixed body runC8_0_0 (.cons (u8s_VR _ w0 e0) (.cons (u8s_VR _ w1 e1) (.cons (.bool false) .nil))) (by omega) (handle_VR _) rfl w hw
      | true =>
        exact lawG_run (es := fun _ => 0) mixed body runC8_0_1 (.cons (u8s_VR _ w0 e0) (.cons (u8s_VR _ w1 e1) (.cons (.bool true) .nil))) (by omega) (handle_VR _) rfl w hw
    | 1, _, e1 =>
      cases a2 with
      | false =>
        exact lawG_run (es := fun _ => 0) mixed body runC8_1_0 (.cons (u8s_VR _ w0 e0) (.cons (u8s_VR _ w1 e1) (.cons (.bool false) .nil))) (by omega) (handle_VR _) rfl w hw
      | true =>
        exact lawG_run (es := fun _ => 0) mixed body runC8_1_1 (.cons (u8s_VR _ w0 e0) (.cons (u8s_VR _ w1 e1) (.cons (.bool true) .nil))) (by omega) (handle_VR _) rfl w hw
    | 2, _, e1 =>
      cases a2 with
      | false =>
        exact lawG_run (es := fun _ => 0) mixed body runC8_2_0 (.cons (u8s_VR _ w0 e0) (.cons (u8s_VR _ w1 e1) (.cons (.bool false) .nil))) (by omega) (handle_VR _) rfl w hw
      | true =>
        exact lawG_run (es := fun _ => 0) mixed body runC8_2_1 (.cons (u8s_VR _ w0 e0) (.cons (u8s_VR _ w1 e1) (.cons (.bool true) .nil))) (by omega) (handle_VR _) rfl w hw
    | 3, _, e1 =>
      cases a2 with
      | false =>
        exact lawG_run (es := fun _ => 0) mixed body runC8_3_0 (.cons (u8s_VR _ w0 e0) (.cons (u8s_VR _ w1 e1) (.cons (.bool false) .nil))) (by omega) (handle_VR _) rfl w hw
      | true =>
        exact lawG_run (es := fun _ => 0) mixed body runC8_3_1 (.cons (u8s_VR _ w0 e0) (.cons (u8s_VR _ w1 e1) (.cons (.bool true) .nil))) (by omega) (handle_VR _) rfl w hw
    | 4, _, e1 =>
      cases a2 with
      | false =>
        exact lawG_run (es := fun _ => 0) mixed body runC8_4_0 (.cons (u8s_VR _ w0 e0) (.cons (u8s_VR _ w1 e1) (.cons (.bool false) .nil))) (by omega) (handle_VR _) rfl w hw
      | true =>
        exact lawG_run (es := fun _ => 0) mixed body runC8_4_1 (.cons (u8s_VR _ w0 e0) (.cons (u8s_VR _ w1 e1) (.cons (.bool true) .nil))) (by omega) (handle_VR _) rfl w hw
    | 5, _, e1 =>
      cases a2 with
      | false =>
        exact lawG_run (es := fun _ => 0) mixed body runC8_5_0 (.cons (u8s_VR _ w0 e0) (.cons (u8s_VR _ w1 e1) (.cons (.bool false) .nil))) (by omega) (handle_VR _) rfl w hw
      | true =>
        exact lawG_run (es := fun _ => 0) mixed body runC8_5_1 (.cons (u8s_VR _ w0 e0) (.cons (u8s_VR _ w1 e1) (.cons (.bool true) .nil))) (by omega) (handle_VR _) rfl w hw
    | 6, _, e1 =>
      cases a2 with
      | false =>
        exact lawG_run (es := fun _ => 0) mixed body runC8_6_0 (.cons (u8s_VR _ w0 e0) (.cons (u8s_VR _ w1 e1) (.cons (.bool false) .nil))) (by omega) (handle_VR _) rfl w hw
      | true =>
        exact lawG_run (es := fun _ => 0) mixed body runC8_6_1 (.cons (u8s_VR _ w0 e0) (.cons (u8s_VR _ w1 e1) (.cons (.bool true) .nil))) (by omega) (handle_VR _) rfl w hw
    | 7, _, e1 =>
      cases a2 with
      | false =>
        exact lawG_run (es := fun _ => 0) mixed body runC8_7_0 (.cons (u8s_VR _ w0 e0) (.cons (u8s_VR _ w1 e1) (.cons (.bool false) .nil))) (by omega) (handle_VR _) rfl w hw
      | true =>
        exact lawG_run (es := fun _ => 0) mixed body runC8_7_1 (.cons (u8s_VR _ w0 e0) (.cons (u8s_VR _ w1 e1) (.cons (.bool true) .nil))) (by omega) (handle_VR _) rfl w hw
    | 8, _, e1 =>
      cases a2 with
      | false =>
        exact lawG_run (es := fun _ => 0) mixed body runC8_8_0 (.cons (u8s_VR _ w0 e0) (.cons (u8s_VR _ w1 e1) (.cons (.bool false) .nil))) (by omega) (handle_VR _) rfl w hw
      | true =>
        exact lawG_run (es := fun _ => 0) mixed body runC8_8_1 (.cons (u8s_VR _ w0 e0) (.cons (u8s_VR _ w1 e1) (.cons (.bool true) .nil))) (by omega) (handle_VR _) rfl w hw
    | _ + 9, h, _ => exact absurd h (by omega)
  | 9, _, e0 =>
    obtain ⟨r1, h1, e1⟩ := residue a1 10 (by omega)
    match r1, h1, e1 with
    | 0, _, e1 =>
      cases a2 with
      | false =>
        exact lawG_run (es := fun _ => 0) mixed body runC9_0_0 (.cons (u8s_VR _ w0 e0) (.cons (u8s_VR _ w1 e1) (.cons (.bool false) .nil))) (by omega) (handle_VR _) rfl w hw
      | true =>
        exact lawG_run (es := fun _ => 0) mixed body runC9_0_1 (.cons (u8s_VR _ w0 e0) (.cons (u8s_VR _ w1 e1) (.cons (.bool true) .nil))) (by omega) (handle_VR _) rfl w hw
    | 1, _, e1 =>
      cases a2 with
      | false =>
        exact lawG_run (es := fun _ => 0) mixed body runC9_1_0 (.cons (u8s_VR _ w0 e0) (.cons (u8s_VR _ w1 e1) (.cons (.bool false) .nil))) (by omega) (handle_VR _) rfl w hw
      | true =>
        exact lawG_run (es := fun _ => 0) mixed body runC9_1_1 (.cons (u8s_VR _ w0 e0) (.cons (u8s_VR _ w1 e1) (.cons (.bool true) .nil))) (by omega) (handle_VR _) rfl w hw
    | 2, _, e1 =>
      cases a2 with
      | false =>
        exact lawG_run (es := fun _ => 0) mixed body runC9_2_0 (.cons (u8s_VR _ w0 e0) (.cons (u8s_VR _ w1 e1) (.cons (.bool false) .nil))) (by omega) (handle_VR _) rfl w hw
      | true =>
        exact lawG_run (es := fun _ => 0) mixed body runC9_2_1 (.cons (u8s_VR _ w0 e0) (.cons (u8s_VR _ w1 e1) (.cons (.bool true) .nil))) (by omega) (handle_VR _) rfl w hw
    | 3, _, e1 =>
      cases a2 with
      | false =>
        exact lawG_run (es := fun _ => 0) mixed body runC9_3_0 (.cons (u8s_VR _ w0 e0) (.cons (u8s_VR _ w1 e1) (.cons (.bool false) .nil))) (by omega) (handle_VR _) rfl w hw
      | true =>
        exact lawG_run (es := fun _ => 0) mixed body runC9_3_1 (.cons (u8s_VR _ w0 e0) (.cons (u8s_VR _ w1 e1) (.cons (.bool true) .nil))) (by omega) (handle_VR _) rfl w hw
    | 4, _, e1 =>
      cases a2 with
      | false =>
        exact lawG_run (es := fun _ => 0) mixed body runC9_4_0 (.cons (u8s_VR _ w0 e0) (.cons (u8s_VR _ w1 e1) (.cons (.bool false) .nil))) (by omega) (handle_VR _) rfl w hw
      | true =>
        exact lawG_run (es := fun _ => 0) mixed body runC9_4_1 (.cons (u8s_VR _ w0 e0) (.cons (u8s_VR _ w1 e1) (.cons (.bool true) .nil))) (by omega) (handle_VR _) rfl w hw
    | 5, _, e1 =>
      cases a2 with
      | false =>
        exact lawG_run (es := fun _ => 0) mixed body runC9_5_0 (.cons (u8s_VR _ w0 e0) (.cons (u8s_VR _ w1 e1) (.cons (.bool false) .nil))) (by omega) (handle_VR _) rfl w hw
      | true =>
        exact lawG_run (es := fun _ => 0) mixed body runC9_5_1 (.cons (u8s_VR _ w0 e0) (.cons (u8s_VR _ w1 e1) (.cons (.bool true) .nil))) (by omega) (handle_VR _) rfl w hw
    | 6, _, e1 =>
      cases a2 with
      | false =>
        exact lawG_run (es := fun _ => 0) mixed body runC9_6_0 (.cons (u8s_VR _ w0 e0) (.cons (u8s_VR _ w1 e1) (.cons (.bool false) .nil))) (by omega) (handle_VR _) rfl w hw
      | true =>
        exact lawG_run (es := fun _ => 0) mixed body runC9_6_1 (.cons (u8s_VR _ w0 e0) (.cons (u8s_VR _ w1 e1) (.cons (.bool true) .nil))) (by omega) (handle_VR _) rfl w hw
    | 7, _, e1 =>
      cases a2 with
      | false =>
        exact lawG_run (es := fun _ => 0) mixed body runC9_7_0 (.cons (u8s_VR _ w0 e0) (.cons (u8s_VR _ w1 e1) (.cons (.bool false) .nil))) (by omega) (handle_VR _) rfl w hw
      | true =>
        exact lawG_run (es := fun _ => 0) mixed body runC9_7_1 (.cons (u8s_VR _ w0 e0) (.cons (u8s_VR _ w1 e1) (.cons (.bool true) .nil))) (by omega) (handle_VR _) rfl w hw
    | 8, _, e1 =>
      cases a2 with
      | false =>
        exact lawG_run (es := fun _ => 0) mixed body runC9_8_0 (.cons (u8s_VR _ w0 e0) (.cons (u8s_VR _ w1 e1) (.cons (.bool false) .nil))) (by omega) (handle_VR _) rfl w hw
      | true =>
        exact lawG_run (es := fun _ => 0) mixed body runC9_8_1 (.cons (u8s_VR _ w0 e0) (.cons (u8s_VR _ w1 e1) (.cons (.bool true) .nil))) (by omega) (handle_VR _) rfl w hw
    | 9, _, e1 =>
      cases a2 with
      | false =>
        exact lawG_run (es := fun _ => 0) mixed body runC9_9_0 (.cons (u8s_VR _ w0 e0) (.cons (u8s_VR _ w1 e1) (.cons (.bool false) .nil))) (by omega) (handle_VR _) rfl w hw
      | true =>
        exact lawG_run (es := fun _ => 0) mixed body runC9_9_1 (.cons (u8s_VR _ w0 e0) (.cons (u8s_VR _ w1 e1) (.cons (.bool true) .nil))) (by omega) (handle_VR _) rfl w hw
    | _ + 10, h, _ => exact absurd h (by omega)
  | _ + 10, h, _ => exact absurd h (by omega)

/-- A world that meets the condition: the settled one, the variable's cell laid. -/
noncomputable def laidWorld (os : Os) : World :=
  let w0 := World.holding Tryz.prog os ⟨#[], #[], []⟩
  { w0 with heap := w0.heap.modify ((Tryz.prog.globalNamed "errors.errorType").getD 0) fun
      | .cells _ t frozen => .cells #[laidHandle] t frozen
      | o => o }
where laidHandle : Value := .iface (((Tryz.prog.cutTypes.find? (·.1 == "internal/reflectlite.rtype")).map (·.2)).getD 0) (.agg #[typeHandle Tryz.prog ((((List.range Tryz.prog.types.size).filter fun t => Tryz.prog.rowNamed t [101, 114, 114, 111, 114])).headD 0)])
theorem laidWorld_met (os : Os) (args : Array Value) : laidMetH Tryz.prog Rows.marketCursorsRow.laid ((laidWorld os).forCall (fun _ _ => 0) ⟨#[], args, []⟩).memory :=
  laidMetH_of_parts (laidMet_nil _ _) (by kernel_rfl)

set_option maxRecDepth 100000 in
theorem lifted (os : Os) (started : os.Started) (H : Type) (enc : TypeId × Value → H) :
    ReturnsInHanded {} Tryz.checked os 3 .any (fun w args => (Rows.marketCursorsSpec.pre enc Tryz.prog Tryz.f3 [] false w args ∧ laidMetH Tryz.prog Rows.marketCursorsRow.laid w) ∧ sizedMet enc Tryz.prog Tryz.f3 (OpenSpec.ofChange Rows.marketCursorsSpec) false w args)
      (Rows.marketCursorsSpec.post enc Tryz.prog Tryz.f3 false true false false) := by
  refine returnsInHanded_of_change_and (C := Tryz.checked) (X := fun w _ => laidMetH Tryz.prog Rows.marketCursorsRow.laid w) (fun _ _ _ hh h => h.of_heap hh) own started (by kernel_rfl) Tryz.func3
    (ChangeSpec.witness_at (enc := enc) (C := Tryz.checked) (os := os) (X := fun w _ => laidMetH Tryz.prog Rows.marketCursorsRow.laid w) false (laidWorld os) #[.int .u8 0, .int .u8 0, .bool false] 8 rfl (by kernel_rfl) (by kernel_rfl) (by kernel_rfl) (by kernel_rfl) (by kernel_rfl) (laidWorld_met os _)) ?_
  intro W base args ds gs before hval0 hW _ _ hL _
  have hval : ∀ (j : Nat) t v, Tryz.f3.params[j]? = some t → args[j]? = some v → Value.okWide Tryz.prog W .any base t v := hval0
  have hW' := hW
  obtain ⟨p, q, hA0, hV0, rfl, hfz, hnd⟩ := hW
  have hA : DataW.TrodAll enc Tryz.prog W 0 (fun _ => true) true Tryz.f3.params.toList args.toList ds p := hA0
  have hV : DataW.TrodVars enc Tryz.prog W (fun _ => true) [] gs q := hV0
  rw [Tryz.params3] at hA hval
  obtain ⟨v0, vs0, d0, ds0, p0, q0, hargs, rfl, rfl, h0, r0⟩ := trodAll_cons hA
  obtain ⟨v1, vs1, d1, ds1, p1, q1, rfl, rfl, rfl, h1, r1⟩ := trodAll_cons r0
  obtain ⟨v2, vs2, d2, ds2, p2, q2, rfl, rfl, rfl, h2, r2⟩ := trodAll_cons r1
  obtain ⟨rfl, rfl, rfl⟩ := trodAll_nil r2
  obtain rfl : args = #[v0, v1, v2] := by cases args; simp_all
  obtain ⟨rfl, rfl⟩ := trodVars_none hV
  obtain ⟨a0, rfl, rfl, rfl, w0⟩ := open_int Tryz.underlying5 (hval 0 5 v0 rfl rfl) h0
  obtain ⟨a1, rfl, rfl, rfl, w1⟩ := open_int Tryz.underlying5 (hval 1 5 v1 rfl rfl) h1
  obtain ⟨a2, rfl, rfl, rfl⟩ := open_bool Tryz.underlying4 (hval 2 4 v2 rfl rfl) h2
  clear hA0 hval0
  obtain ⟨eT, eF, hg⟩ := handle_of_laid hL
  simp only [List.append_nil] at hW'
  have e1 : Rows.marketCursorsSpec.fn H ([.lit (.int .u8 a0), .lit (.int .u8 a1), .lit (.bool a2)] ++ []) = { results := [.lit (.bool true)], args := [.lit (.int .u8 a0), .lit (.int .u8 a1), .lit (.bool a2)] } := by simp [Rows.marketCursorsSpec]
  refine (walk a0 a1 a2 w0 w1 W hg).mono fun e W' ⟨he, hb⟩ => ?_
  subst he
  refine ⟨_, rfl, _, _, _, [], [], [], hW', ?_, ?_, ?_, hb.frame _, fun h => by cases h⟩
  · rw [e1]; exact trodAll_cons_mk (shut_bool Tryz.underlying4 true) trodAll_mk0
  · rw [e1]; exact (trodAll_cons_mk (shut_int Tryz.underlying5 w0) (trodAll_cons_mk (shut_int Tryz.underlying5 w1) (trodAll_cons_mk (shut_bool Tryz.underlying4 a2) trodAll_mk0)))
  · rw [e1]; rfl

/-! ### What the row says of the call's text: off the list of what it can come to, once. -/
theorem clIs : Tryz.prog.closure 3 = [3, 4, 18, 55, 56, 19, 57, 46, 58, 109, 162, 222, 221, 126, 163, 59, 110, 111, 112, 113, 164, 223, 60, 44, 99, 12, 45, 47, 20, 7, 33, 34, 76, 75, 135, 189, 225, 77, 136, 78, 79, 80, 137, 190, 134, 188, 243, 308, 237, 306, 360, 177, 236, 138, 191, 244, 256, 315, 316, 176, 234, 235, 305, 253, 314, 303, 358, 395, 304, 359, 396, 252, 245, 192, 246, 310, 309, 362, 363, 361, 364, 311, 41, 93, 94, 95, 96, 149, 150, 151, 247, 248, 193, 249, 312, 313, 250, 194, 81, 83, 84, 139, 195, 251, 196, 161, 220, 254, 140, 197, 255, 97, 257, 317, 318, 258, 319, 320, 365, 397, 198, 259, 321, 322, 368, 367, 399, 400, 416, 423, 366, 398, 371, 370, 402, 403, 404, 417, 424, 405, 369, 401, 323, 108, 160, 158, 219, 281, 288, 342, 389, 280, 283, 285, 336, 337, 338, 386, 414, 339, 340, 387, 287, 199, 200, 260, 269, 330, 375, 261, 324, 325, 141, 142, 201, 263, 262, 326, 265, 264, 327, 202, 267, 266, 328, 203, 268, 329, 372, 373, 374, 406, 418, 407, 419, 107, 155, 214, 278, 335, 157, 217, 218, 282, 284, 286, 341, 388, 343, 390, 204, 215, 205, 206, 270, 271, 30, 82, 85, 143, 207, 272, 331, 273, 332, 144, 86, 87, 145, 208, 274, 88, 66, 120, 52, 104, 35, 36, 16, 89, 146, 209, 98, 152, 211, 275, 230, 299, 300, 333, 376, 377, 408, 378, 345, 346, 379, 409, 410, 420, 380, 381, 382, 383, 276, 212, 213, 277, 334, 385, 413, 384, 411, 421, 412, 422, 425, 431, 437, 426, 434, 427, 428, 435, 436, 438, 429, 430, 432, 433, 210, 43, 26, 65, 67, 68, 121, 123, 173, 122, 171, 228, 172, 229, 290, 296, 349, 291, 344, 292, 293, 347, 348, 391, 294, 295, 297, 298, 124, 133, 186, 187, 242, 174, 231, 301, 232, 302, 350, 351, 392, 352, 353, 393, 394, 415, 354, 355, 356, 357, 175, 233, 125, 178, 238, 37, 90, 15, 51, 50, 103, 21, 61, 10, 5, 22, 23, 62, 114, 115, 165, 116, 166, 168, 167, 224, 63, 117, 118, 169, 226, 227, 289, 170, 25, 24, 64, 119, 6, 27, 28, 69, 127, 128, 129, 70, 131, 91, 147, 130, 71, 132, 179, 181, 182, 240, 307, 180, 239, 183, 241, 184, 185, 72, 74, 73, 29, 31, 32, 8, 9, 38, 39, 92, 148, 40, 11, 42, 13, 48, 49, 100, 101, 102, 153, 154, 216, 279, 14, 17, 53, 54, 105, 156, 159, 106] := by kernel_rfl
theorem inIs : Tryz.prog.inPlace 3 = ["math.Float64bits", "internal/bytealg.abigen_runtime_cmpstring", "internal/reflectlite.ValueOf", "(internal/reflectlite.Value).Type", "(internal/reflectlite.Value).IsNil", "internal/reflectlite.TypeOf", "(internal/reflectlite.Value).Elem", "(internal/reflectlite.Value).Set", "slices.overlaps[int64]", "slices.overlaps[rialto/api.Entry]", "slices.overlaps[*rialto/tree.node[rialto/api.Entry]]", "slices.overlaps[*rialto/tree.node[int64]]", "math.Float64frombits", "slices.overlaps[*rialto/index.Index]"] := by unfold Program.inPlace; rw [clIs]; kernel_rfl
theorem unIs : Tryz.prog.unfollowed 3 = true := by unfold Program.unfollowed; rw [clIs]; kernel_rfl
theorem reIs : Tryz.prog.recurses 3 = true := by unfold Program.recurses; rw [unIs]; rfl
theorem vaIs : Tryz.prog.varsNamed 3 = ["errors.errorType"] := by unfold Program.varsNamed; rw [clIs]; kernel_rfl
theorem goIs : Tryz.prog.goes 3 = false := by unfold Program.goes; rw [clIs, unIs]; kernel_rfl
theorem fnIs : Tryz.prog.funcNamed Rows.marketCursorsRow.func = some 3 := by kernel_rfl
theorem goesIs : false = Rows.marketCursorsRow.goesBy Tryz.prog := by
  unfold OpenClaim.goesBy Program.goesAt Program.goesFrom
  rw [fnIs, Option.any_some, goIs]
  rfl
theorem facts : joinedFacts Tryz.prog 3 Tryz.f3 Rows.marketCursorsSpec Rows.marketCursorsRow = true := by
  unfold joinedFacts
  rw [inIs, unIs, reIs, vaIs]
  kernel_rfl


theorem over : Rows.MarketCursorsSaid :=
  OpenClaim.holds_of_wide 3 Tryz.f3 rfl rfl rfl rfl rfl rfl rfl ⟨rfl, rfl, rfl, rfl, rfl⟩ rfl rfl rfl rfl rfl (by kernel_rfl) Tryz.func3 facts
    (of_decide_eq_true (by kernel_rfl)) (by unfold Func.isWrapper; rw [if_neg (of_decide_eq_false (by kernel_rfl))]; exact ⟨rfl, rfl⟩)
    (fun os started H enc _ => lifted os started H enc)

/-- THE STATEMENT. -/
theorem proved : Rows.MarketCursorsCardSaid :=
  Claim7.holds_tied_plain_at .later [] [.handle] true Rows.marketCursorsCard.stood.harness true
    over (fun _ h => by cases h) (by kernel_rfl) (fun _ h => by cases h) marketCursors_row_tie rfl ⟨rfl, rfl⟩ (by kernel_rfl) rfl
    (fun f fn hf hfn => by
      obtain rfl : f = 3 := Option.some.inj ((show Tryz.prog.funcNamed Rows.marketCursorsRow.func = some 3 by kernel_rfl).symm.trans hf) |>.symm
      obtain rfl : fn = Tryz.f3 := (Option.some.inj (Tryz.func3.symm.trans hfn)).symm
      exact ⟨by kernel_rfl, fun j t ht => by
          rw [Tryz.params3] at ht
          rcases j with _ | _ | _ | j
          · have h3 : t = 5 := by simpa using ht.symm
            subst h3
            exact (show Tryz.prog.wantsStandIn 5 = false by kernel_rfl)
          · have h3 : t = 5 := by simpa using ht.symm
            subst h3
            exact (show Tryz.prog.wantsStandIn 5 = false by kernel_rfl)
          · have h3 : t = 4 := by simpa using ht.symm
            subst h3
            exact (show Tryz.prog.wantsStandIn 4 = false by kernel_rfl)
          · simp at ht⟩)
    goesIs
#print axioms proved
end Go.Proofs.YtibkcecpbiiplaaGreatDoor.marketCursors
