/-
  For every argument, in every world in which the listed variable reads as the row says, the law returns true and turns nothing that lay before; the card ties that to the program's text.
  Every run is one of the executor (Ex1 to Ex3), checked by the kernel (Run0 and on): one for each choice of residues.
-/
import Derived.Test.YtegiienbnmijcaaGreatDoorRows
import Derived.Test.YtegiienbnmijcaaGreatDoorCards
import Derived.Test.YtegiienbnmijcaaGreatDoorTie
import Derived.Test.YtegiienbnmijcaaGreatDoorRunT0
import Derived.Test.YtegiienbnmijcaaGreatDoorRunT1
import Derived.Test.YtegiienbnmijcaaGreatDoorRunT2
import Derived.Test.YtegiienbnmijcaaGreatDoorRunT3
import Derived.Test.YtegiienbnmijcaaGreatDoorRunT4
import Derived.Test.YtegiienbnmijcaaGreatDoorRunT5
import Derived.Test.YtegiienbnmijcaaGreatDoorRunT6
import Derived.Test.YtegiienbnmijcaaGreatDoorRunT7
import Derived.Test.YtegiienbnmijcaaGreatDoorRunT8
import Derived.Test.YtegiienbnmijcaaGreatDoorRunT9
import Derived.Test.YtegiienbnmijcaaGreatDoorRunT10
import Derived.Test.YtegiienbnmijcaaGreatDoorRunT11
import Derived.Test.YtegiienbnmijcaaGreatDoorRunT12
import Derived.Test.YtegiienbnmijcaaGreatDoorRunT13
import Derived.Test.YtegiienbnmijcaaGreatDoorRunT14
import Derived.Test.YtegiienbnmijcaaGreatDoorRunT15
import Derived.Test.YtegiienbnmijcaaGreatDoorRunT16
import Derived.Test.YtegiienbnmijcaaGreatDoorRunT17
import Derived.Test.YtegiienbnmijcaaGreatDoorRunT18
import Derived.Test.YtegiienbnmijcaaGreatDoorRunT19
import Derived.Test.YtegiienbnmijcaaGreatDoorRunT20
import Derived.Test.YtegiienbnmijcaaGreatDoorRunT21
import Derived.Test.YtegiienbnmijcaaGreatDoorRunT22
import Derived.Test.YtegiienbnmijcaaGreatDoorRunT23
import Derived.Test.YtegiienbnmijcaaGreatDoorRunT24
import Derived.Test.YtegiienbnmijcaaGreatDoorRunT25
import Derived.Test.YtegiienbnmijcaaGreatDoorRunT26
import Derived.Test.YtegiienbnmijcaaGreatDoorRunT27
import Derived.Test.YtegiienbnmijcaaGreatDoorRunT28
import Derived.Test.YtegiienbnmijcaaGreatDoorRunT29
import Derived.Test.YtegiienbnmijcaaGreatDoorRunT30
import Derived.Test.YtegiienbnmijcaaGreatDoorRunT31
import Derived.Test.YtegiienbnmijcaaGreatDoorRunT32
import Derived.Test.YtegiienbnmijcaaGreatDoorRunT33
import Derived.Test.YtegiienbnmijcaaGreatDoorRunT34
import Derived.Test.YtegiienbnmijcaaGreatDoorRunT35
import Derived.Test.YtegiienbnmijcaaGreatDoorRunT36
import Derived.Test.YtegiienbnmijcaaGreatDoorRunT37
import Derived.Test.YtegiienbnmijcaaGreatDoorRunT38
import Derived.Test.YtegiienbnmijcaaGreatDoorRunT39
import Derived.Test.YtegiienbnmijcaaGreatDoorRunT40
import Derived.Test.YtegiienbnmijcaaGreatDoorRunT41
import Derived.WalkKit
import Derived.ProofKit
import Derived.OpenShut
import Derived.ChangeSame
import Derived.ChangeVars
import Derived.JoinedOf
import Derived.RowKit
import Derived.RowKitTokens
import Derived.LaidLaws
import Derived.LaidHandle
import Derived.Stop.Joined
import Derived.SevenTiedAt
namespace Go.Proofs.YtegiienbnmijcaaGreatDoor.planTight
open Go.ChangeShapes Go.WideShapes Go.ChangeAt Go.RowKit
open Go.Ex
set_option linter.unusedVariables false

theorem own : ownKnob Tryz.prog.godebug = none := by kernel_rfl
theorem mixed : Tryz.prog.follows .mixedOrders = true := by kernel_rfl
theorem body : (bodyOf Tryz.prog 3).isSome = true := by kernel_rfl

theorem residue (a : Int) (q : Nat) (hq : 0 < q) : ∃ r : Nat, r < q ∧ a % (q : Int) = (r : Int) :=
  ⟨(a % (q : Int)).toNat, by have := Int.emod_nonneg a (b := q) (by omega); have := Int.emod_lt_of_pos a (b := q) (by omega); omega, by have := Int.emod_nonneg a (b := q) (by omega); omega⟩

theorem rtIs : (Tryz.prog.cutTypes.find? (·.1 == "internal/reflectlite.rtype")).map (·.2) = some 250 := by kernel_rfl
theorem oneRow : ((List.range Tryz.prog.types.size).filter fun t => Tryz.prog.rowNamed t [101, 114, 114, 111, 114]) = [49] := by kernel_rfl
theorem varIs : Tryz.prog.globalNamed "errors.errorType" = some 0 := by kernel_rfl
theorem handleIs : typeHandle Tryz.prog 49 = .pointer (some ⟨3, 49, none⟩) := by kernel_rfl

/-- What the condition gives: the variable's one cell. -/
theorem handle_of_laid {W : World} (h : laidMetH Tryz.prog Rows.planTightRow.laid W) : ∃ e fz, W.heap[0]? = some (.cells #[.iface 250 (.agg #[.pointer (some ⟨3, 49, none⟩)])] e fz) := by
  have h' : laidMet Tryz.prog [] W ∧ handlesMet Tryz.prog Rows.planTightRow.laid W := h
  obtain ⟨name, u, ty, e1, e2, e3, e4, e5⟩ := h'.2 _ (List.mem_singleton.2 rfl)
  have en : name = [101, 114, 114, 111, 114] := (Option.some.inj e1).symm
  subst en
  obtain rfl := Option.some.inj (rtIs.symm.trans e2)
  have hm : ty ∈ (List.range Tryz.prog.types.size).filter fun t => Tryz.prog.rowNamed t [101, 114, 114, 111, 114] := List.mem_filter.2 ⟨List.mem_range.2 e3, e4⟩
  rw [oneRow] at hm
  obtain rfl := List.mem_singleton.1 hm
  rw [handleIs] at e5
  have e6 : ((Tryz.prog.globalNamed "errors.errorType").bind fun g => match W.heap[g]? with
    | some (.cells cs _ _) => some cs
    | _ => none) = some #[.iface 250 (.agg #[.pointer (some ⟨3, 49, none⟩)])] := e5
  rw [varIs, Option.bind_some] at e6
  split at e6
  · rename_i cs e fz hw
    cases e6
    exact ⟨e, fz, hw⟩
  · cases e6

theorem handle_VR (es : Nat → Nat) : VR (mGS 64 es) handle (.iface 250 (.agg #[.pointer (some ⟨3, 49, none⟩)])) :=
  .iface _ _ _ (.agg' (fun u hu => by simp at hu; subst hu; rfl) ⟨.ptr (m := mGS 64 es) 3 49 (show 3 < 64 by omega), trivial⟩)

/-- The walk, by the runs. -/
theorem walk (a0 : Int) (a1 : Int) (a2 : Int) (a3 : Int) (a4 : Bool) (w0 : (Lit.int .i8 a0).wf = true) (w1 : (Lit.int .i8 a1).wf = true) (w2 : (Lit.int .i8 a2).wf = true) (w3 : (Lit.int .u8 a3).wf = true) (w : World) {e : TypeId} {fz : Nat × Nat} (hw : w.heap[0]? = some (.cells #[.iface 250 (.agg #[.pointer (some ⟨3, 49, none⟩)])] e fz)) :
    Calls Tryz.prog 3 #[.int .i8 a0, .int .i8 a1, .int .i8 a2, .int .u8 a3, .bool a4] w fun e w' => e = .returned (.bool true) ∧ Below w.heap.size w w' := by
  rcases ord3 (G := 64) (by omega) w0 w1 w2 with ⟨es, v0, v1, v2⟩ | ⟨es, v0, v1, v2⟩ | ⟨es, v0, v1, v2⟩ | ⟨es, v0, v1, v2⟩ | ⟨es, v0, v1, v2⟩ | ⟨es, v0, v1, v2⟩ | ⟨es, v0, v1, v2⟩ | ⟨es, v0, v1, v2⟩ | ⟨es, v0, v1, v2⟩ | ⟨es, v0, v1, v2⟩ | ⟨es, v0, v1, v2⟩ | ⟨es, v0, v1, v2⟩ | ⟨es, v0, v1, v2⟩
  · obtain ⟨r3, h3, e3⟩ := residue a3 64 (by omega)
    have hq3 : r3 / 8 = 0 ∨ r3 / 8 = 1 ∨ r3 / 8 = 2 ∨ r3 / 8 = 3 ∨ r3 / 8 = 4 ∨ r3 / 8 = 5 ∨ r3 / 8 = 6 ∨ r3 / 8 = 7 := by omega
    rcases hq3 with hq3 | hq3 | hq3 | hq3 | hq3 | hq3 | hq3 | hq3
    · cases a4 with
      | false =>
        have hk : lawG Tryz.prog 64 20000 3 [.complex .f32 0 0, .complex .f32 0 0, .complex .f32 0 0, u8s 64 (8 * 0 + r3 % 8), .bool false] 0 handle = true := List.all_eq_true.1 runT000_0_0 _ (List.mem_range.2 (by omega))
        rw [show 8 * 0 + r3 % 8 = r3 by omega] at hk
        exact lawG_run (es := es) mixed body hk (.cons (v0) (.cons (v1) (.cons (v2) (.cons (u8s_VR _ w3 e3) (.cons (.bool false) .nil))))) (by omega) (handle_VR _) rfl w hw
      | true =>
        have hk : lawG Tryz.prog 64 20000 3 [.complex .f32 0 0, .complex .f32 0 0, .complex .f32 0 0, u8s 64 (8 * 0 + r3 % 8), .bool true] 0 handle = true := List.all_eq_true.1 runT000_0_1 _ (List.mem_range.2 (by omega))
        rw [show 8 * 0 + r3 % 8 = r3 by omega] at hk
        exact lawG_run (es := es) mixed body hk (.cons (v0) (.cons (v1) (.cons (v2) (.cons (u8s_VR _ w3 e3) (.cons (.bool true) .nil))))) (by omega) (handle_VR _) rfl w hw
    · cases a4 with
      | false =>
        have hk : lawG Tryz.prog 64 20000 3 [.complex .f32 0 0, .complex .f32 0 0, .complex .f32 0 0, u8s 64 (8 * 1 + r3 % 8), .bool false] 0 handle = true := List.all_eq_true.1 runT000_1_0 _ (List.mem_range.2 (by omega))
        rw [show 8 * 1 + r3 % 8 = r3 by omega] at hk
        exact lawG_run (es := es) mixed body hk (.cons (v0) (.cons (v1) (.cons (v2) (.cons (u8s_VR _ w3 e3) (.cons (.bool false) .nil))))) (by omega) (handle_VR _) rfl w hw
      | true =>
        have hk : lawG Tryz.prog 64 20000 3 [.complex .f32 0 0, .complex .f32 0 0, .complex .f32 0 0, u8s 64 (8 * 1 + r3 % 8), .bool true] 0 handle = true := List.all_eq_true.1 runT000_1_1 _ (List.mem_range.2 (by omega))
        rw [show 8 * 1 + r3 % 8 = r3 by omega] at hk
        exact lawG_run (es := es) mixed body hk (.cons (v0) (.cons (v1) (.cons (v2) (.cons (u8s_VR _ w3 e3) (.cons (.bool true) .nil))))) (by omega) (handle_VR _) rfl w hw
    · cases a4 with
      | false =>
        have hk : lawG Tryz.prog 64 20000 3 [.complex .f32 0 0, .complex .f32 0 0, .complex .f32 0 0, u8s 64 (8 * 2 + r3 % 8), .bool false] 0 handle = true := List.all_eq_true.1 runT000_2_0 _ (List.mem_range.2 (by omega))
        rw [show 8 * 2 + r3 % 8 = r3 by omega] at hk
        exact lawG_run (es := es) mixed body hk (.cons (v0) (.cons (v1) (.cons (v2) (.cons (u8s_VR _ w3 e3) (.cons (.bool false) .nil))))) (by omega) (handle_VR _) rfl w hw
      | true =>
        have hk : lawG Tryz.prog 64 20000 3 [.complex .f32 0 0, .complex .f32 0 0, .complex .f32 0 0, u8s 64 (8 * 2 + r3 % 8), .bool true] 0 handle = true := List.all_eq_true.1 runT000_2_1 _ (List.mem_range.2 (by omega))
        rw [show 8 * 2 + r3 % 8 = r3 by omega] at hk
        exact lawG_run (es := es) mixed body hk (.cons (v0) (.cons (v1) (.cons (v2) (.cons (u8s_VR _ w3 e3) (.cons (.bool true) .nil))))) (by omega) (handle_VR _) rfl w hw
    · cases a4 with
      | false =>
        have hk : lawG Tryz.prog 64 20000 3 [.complex .f32 0 0, .complex .f32 0 0, .complex .f32 0 0, u8s 64 (8 * 3 + r3 % 8), .bool false] 0 handle = true := List.all_eq_true.1 runT000_3_0 _ (List.mem_range.2 (by omega))
        rw [show 8 * 3 + r3 % 8 = r3 by omega] at hk
        exact lawG_run (es := es) mixed body hk (.cons (v0) (.cons (v1) (.cons (v2) (.cons (u8s_VR _ w3 e3) (.cons (.bool false) .nil))))) (by omega) (handle_VR _) rfl w hw
      | true =>
        have hk : lawG Tryz.prog 64 20000 3 [.complex .f32 0 0, .complex .f32 0 0, .complex .f32 0 0, u8s 64 (8 * 3 + r3 % 8), .bool true] 0 handle = true := List.all_eq_true.1 runT000_3_1 _ (List.mem_range.2 (by omega))
        rw [show 8 * 3 + r3 % 8 = r3 by omega] at hk
        exact lawG_run (es := es) mixed body hk (.cons (v0) (.cons (v1) (.cons (v2) (.cons (u8s_VR _ w3 e3) (.cons (.bool true) .nil))))) (by omega) (handle_VR _) rfl w hw
    · cases a4 with
      | false =>
        have hk : lawG Tryz.prog 64 20000 3 [.complex .f32 0 0, .complex .f32 0 0, .complex .f32 0 0, u8s 64 (8 * 4 + r3 % 8), .bool false] 0 handle = true := List.all_eq_true.1 runT000_4_0 _ (List.mem_range.2 (by omega))
        rw [show 8 * 4 + r3 % 8 = r3 by omega] at hk
        exact lawG_run (es := es) mixed body hk (.cons (v0) (.cons (v1) (.cons (v2) (.cons (u8s_VR _ w3 e3) (.cons (.bool false) .nil))))) (by omega) (handle_VR _) rfl w hw
      | true =>
        have hk : lawG Tryz.prog 64 20000 3 [.complex .f32 0 0, .complex .f32 0 0, .complex .f32 0 0, u8s 64 (8 * 4 + r3 % 8), .bool true] 0 handle = true := List.all_eq_true.1 runT000_4_1 _ (List.mem_range.2 (by omega))
        rw [show 8 * 4 + r3 % 8 = r3 by omega] at hk
        exact lawG_run (es := es) mixed body hk (.cons (v0) (.cons (v1) (.cons (v2) (.cons (u8s_VR _ w3 e3) (.cons (.bool true) .nil))))) (by omega) (handle_VR _) rfl w hw
    · cases a4 with
      | false =>
        have hk : lawG Tryz.prog 64 20000 3 [.complex .f32 0 0, .complex .f32 0 0, .complex .f32 0 0, u8s 64 (8 * 5 + r3 % 8), .bool false] 0 handle = true := List.all_eq_true.1 runT000_5_0 _ (List.mem_range.2 (by omega))
        rw [show 8 * 5 + r3 % 8 = r3 by omega] at hk
        exact lawG_run (es := es) mixed body hk (.cons (v0) (.cons (v1) (.cons (v2) (.cons (u8s_VR _ w3 e3) (.cons (.bool false) .nil))))) (by omega) (handle_VR _) rfl w hw
      | true =>
        have hk : lawG Tryz.prog 64 20000 3 [.complex .f32 0 0, .complex .f32 0 0, .complex .f32 0 0, u8s 64 (8 * 5 + r3 % 8), .bool true] 0 handle = true := List.all_eq_true.1 runT000_5_1 _ (List.mem_range.2 (by omega))
        rw [show 8 * 5 + r3 % 8 = r3 by omega] at hk
        exact lawG_run (es := es) mixed body hk (.cons (v0) (.cons (v1) (.cons (v2) (.cons (u8s_VR _ w3 e3) (.cons (.bool true) .nil))))) (by omega) (handle_VR _) rfl w hw
    · cases a4 with
      | false =>
        have hk : lawG Tryz.prog 64 20000 3 [.complex .f32 0 0, .complex .f32 0 0, .complex .f32 0 0, u8s 64 (8 * 6 + r3 % 8), .bool false] 0 handle = true := List.all_eq_true.1 runT000_6_0 _ (List.mem_range.2 (by omega))
        rw [show 8 * 6 + r3 % 8 = r3 by omega] at hk
        exact lawG_run (es := es) mixed body hk (.cons (v0) (.cons (v1) (.cons (v2) (.cons (u8s_VR _ w3 e3) (.cons (.bool false) .nil))))) (by omega) (handle_VR _) rfl w hw
      | true =>
        have hk : lawG Tryz.prog 64 20000 3 [.complex .f32 0 0, .complex .f32 0 0, .complex .f32 0 0, u8s 64 (8 * 6 + r3 % 8), .bool true] 0 handle = true := List.all_eq_true.1 runT000_6_1 _ (List.mem_range.2 (by omega))
        rw [show 8 * 6 + r3 % 8 = r3 by omega] at hk
        exact lawG_run (es := es) mixed body hk (.cons (v0) (.cons (v1) (.cons (v2) (.cons (u8s_VR _ w3 e3) (.cons (.bool true) .nil))))) (by omega) (handle_VR _) rfl w hw
    · cases a4 with
      | false =>
        have hk : lawG Tryz.prog 64 20000 3 [.complex .f32 0 0, .complex .f32 0 0, .complex .f32 0 0, u8s 64 (8 * 7 + r3 % 8), .bool false] 0 handle = true := List.all_eq_true.1 runT000_7_0 _ (List.mem_range.2 (by omega))
        rw [show 8 * 7 + r3 % 8 = r3 by omega] at hk
        exact lawG_run (es := es) mixed body hk (.cons (v0) (.cons (v1) (.cons (v2) (.cons (u8s_VR _ w3 e3) (.cons (.bool false) .nil))))) (by omega) (handle_VR _) rfl w hw
      | true =>
        have hk : lawG Tryz.prog 64 20000 3 [.complex .f32 0 0, .complex .f32 0 0, .complex .f32 0 0, u8s 64 (8 * 7 + r3 % 8), .bool true] 0 handle = true := List.all_eq_true.1 runT000_7_1 _ (List.mem_range.2 (by omega))
        rw [show 8 * 7 + r3 % 8 = r3 by omega] at hk
        exact lawG_run (es := es) mixed body hk (.cons (v0) (.cons (v1) (.cons (v2) (.cons (u8s_VR _ w3 e3) (.cons (.bool true) .nil))))) (by omega) (handle_VR _) rfl w hw
  · obtain ⟨r3, h3, e3⟩ := residue a3 64 (by omega)
    have hq3 : r3 / 8 = 0 ∨ r3 / 8 = 1 ∨ r3 / 8 = 2 ∨ r3 / 8 = 3 ∨ r3 / 8 = 4 ∨ r3 / 8 = 5 ∨ r3 / 8 = 6 ∨ r3 / 8 = 7 := by omega
    rcases hq3 with hq3 | hq3 | hq3 | hq3 | hq3 | hq3 | hq3 | hq3
    · cases a4 with
      | false =>
        have hk : lawG Tryz.prog 64 20000 3 [.complex .f32 0 0, .complex .f32 0 0, .complex .f32 1 0, u8s 64 (8 * 0 + r3 % 8), .bool false] 0 handle = true := List.all_eq_true.1 runT001_0_0 _ (List.mem_range.2 (by omega))
        rw [show 8 * 0 + r3 % 8 = r3 by omega] at hk
        exact lawG_run (es := es) mixed body hk (.cons (v0) (.cons (v1) (.cons (v2) (.cons (u8s_VR _ w3 e3) (.cons (.bool false) .nil))))) (by omega) (handle_VR _) rfl w hw
      | true =>
        have hk : lawG Tryz.prog 64 20000 3 [.complex .f32 0 0, .complex .f32 0 0, .complex .f32 1 0, u8s 64 (8 * 0 + r3 % 8), .bool true] 0 handle = true := List.all_eq_true.1 runT001_0_1 _ (List.mem_range.2 (by omega))
        rw [show 8 * 0 + r3 % 8 = r3 by omega] at hk
        exact lawG_run (es := es) mixed body hk (.cons (v0) (.cons (v1) (.cons (v2) (.cons (u8s_VR _ w3 e3) (.cons (.bool true) .nil))))) (by omega) (handle_VR _) rfl w hw
    · cases a4 with
      | false =>
        have hk : lawG Tryz.prog 64 20000 3 [.complex .f32 0 0, .complex .f32 0 0, .complex .f32 1 0, u8s 64 (8 * 1 + r3 % 8), .bool false] 0 handle = true := List.all_eq_true.1 runT001_1_0 _ (List.mem_range.2 (by omega))
        rw [show 8 * 1 + r3 % 8 = r3 by omega] at hk
        exact lawG_run (es := es) mixed body hk (.cons (v0) (.cons (v1) (.cons (v2) (.cons (u8s_VR _ w3 e3) (.cons (.bool false) .nil))))) (by omega) (handle_VR _) rfl w hw
      | true =>
        have hk : lawG Tryz.prog 64 20000 3 [.complex .f32 0 0, .complex .f32 0 0, .complex .f32 1 0, u8s 64 (8 * 1 + r3 % 8), .bool true] 0 handle = true := List.all_eq_true.1 runT001_1_1 _ (List.mem_range.2 (by omega))
        rw [show 8 * 1 + r3 % 8 = r3 by omega] at hk
        exact lawG_run (es := es) mixed body hk (.cons (v0) (.cons (v1) (.cons (v2) (.cons (u8s_VR _ w3 e3) (.cons (.bool true) .nil))))) (by omega) (handle_VR _) rfl w hw
    · cases a4 with
      | false =>
        have hk : lawG Tryz.prog 64 20000 3 [.complex .f32 0 0, .complex .f32 0 0, .complex .f32 1 0, u8s 64 (8 * 2 + r3 % 8), .bool false] 0 handle = true := List.all_eq_true.1 runT001_2_0 _ (List.mem_range.2 (by omega))
        rw [show 8 * 2 + r3 % 8 = r3 by omega] at hk
        exact lawG_run (es := es) mixed body hk (.cons (v0) (.cons (v1) (.cons (v2) (.cons (u8s_VR _ w3 e3) (.cons (.bool false) .nil))))) (by omega) (handle_VR _) rfl w hw
      | true =>
        have hk : lawG Tryz.prog 64 20000 3 [.complex .f32 0 0, .complex .f32 0 0, .complex .f32 1 0, u8s 64 (8 * 2 + r3 % 8), .bool true] 0 handle = true := List.all_eq_true.1 runT001_2_1 _ (List.mem_range.2 (by omega))
        rw [show 8 * 2 + r3 % 8 = r3 by omega] at hk
        exact lawG_run (es := es) mixed body hk (.cons (v0) (.cons (v1) (.cons (v2) (.cons (u8s_VR _ w3 e3) (.cons (.bool true) .nil))))) (by omega) (handle_VR _) rfl w hw
    · cases a4 with
      | false =>
        have hk : lawG Tryz.prog 64 20000 3 [.complex .f32 0 0, .complex .f32 0 0, .complex .f32 1 0, u8s 64 (8 * 3 + r3 % 8), .bool false] 0 handle = true := List.all_eq_true.1 runT001_3_0 _ (List.mem_range.2 (by omega))
        rw [show 8 * 3 + r3 % 8 = r3 by omega] at hk
        exact lawG_run (es := es) mixed body hk (.cons (v0) (.cons (v1) (.cons (v2) (.cons (u8s_VR _ w3 e3) (.cons (.bool false) .nil))))) (by omega) (handle_VR _) rfl w hw
      | true =>
        have hk : lawG Tryz.prog 64 20000 3 [.complex .f32 0 0, .complex .f32 0 0, .complex .f32 1 0, u8s 64 (8 * 3 + r3 % 8), .bool true] 0 handle = true := List.all_eq_true.1 runT001_3_1 _ (List.mem_range.2 (by omega))
        rw [show 8 * 3 + r3 % 8 = r3 by omega] at hk
        exact lawG_run (es := es) mixed body hk (.cons (v0) (.cons (v1) (.cons (v2) (.cons (u8s_VR _ w3 e3) (.cons (.bool true) .nil))))) (by omega) (handle_VR _) rfl w hw
    · cases a4 with
      | false =>
        have hk : lawG Tryz.prog 64 20000 3 [.complex .f32 0 0, .complex .f32 0 0, .complex .f32 1 0, u8s 64 (8 * 4 + r3 % 8), .bool false] 0 handle = true := List.all_eq_true.1 runT001_4_0 _ (List.mem_range.2 (by omega))
        rw [show 8 * 4 + r3 % 8 = r3 by omega] at hk
        exact lawG_run (es := es) mixed body hk (.cons (v0) (.cons (v1) (.cons (v2) (.cons (u8s_VR _ w3 e3) (.cons (.bool false) .nil))))) (by omega) (handle_VR _) rfl w hw
      | true =>
        have hk : lawG Tryz.prog 64 20000 3 [.complex .f32 0 0, .complex .f32 0 0, .complex .f32 1 0, u8s 64 (8 * 4 + r3 % 8), .bool true] 0 handle = true := List.all_eq_true.1 runT001_4_1 _ (List.mem_range.2 (by omega))
        rw [show 8 * 4 + r3 % 8 = r3 by omega] at hk
        exact lawG_run (es := es) mixed body hk (.cons (v0) (.cons (v1) (.cons (v2) (.cons (u8s_VR _ w3 e3) (.cons (.bool true) .nil))))) (by omega) (handle_VR _) rfl w hw
    · cases a4 with
      | false =>
        have hk : lawG Tryz.prog 64 20000 3 [.complex .f32 0 0, .complex .f32 0 0, .complex .f32 1 0, u8s 64 (8 * 5 + r3 % 8), .bool false] 0 handle = true := List.all_eq_true.1 runT001_5_0 _ (List.mem_range.2 (by omega))
        rw [show 8 * 5 + r3 % 8 = r3 by omega] at hk
        exact lawG_run (es := es) mixed body hk (.cons (v0) (.cons (v1) (.cons (v2) (.cons (u8s_VR _ w3 e3) (.cons (.bool false) .nil))))) (by omega) (handle_VR _) rfl w hw
      | true =>
        have hk : lawG Tryz.prog 64 20000 3 [.complex .f32 0 0, .complex .f32 0 0, .complex .f32 1 0, u8s 64 (8 * 5 + r3 % 8), .bool true] 0 handle = true := List.all_eq_true.1 runT001_5_1 _ (List.mem_range.2 (by omega))
        rw [show 8 * 5 + r3 % 8 = r3 by omega] at hk
        exact lawG_run (es := es) mixed body hk (.cons (v0) (.cons (v1) (.cons (v2) (.cons (u8s_VR _ w3 e3) (.cons (.bool true) .nil))))) (by omega) (handle_VR _) rfl w hw
    · cases a4 with
      | false =>
        have hk : lawG Tryz.prog 64 20000 3 [.complex .f32 0 0, .complex .f32 0 0, .complex .f32 1 0, u8s 64 (8 * 6 + r3 % 8), .bool false] 0 handle = true := List.all_eq_true.1 runT001_6_0 _ (List.mem_range.2 (by omega))
        rw [show 8 * 6 + r3 % 8 = r3 by omega] at hk
        exact lawG_run (es := es) mixed body hk (.cons (v0) (.cons (v1) (.cons (v2) (.cons (u8s_VR _ w3 e3) (.cons (.bool false) .nil))))) (by omega) (handle_VR _) rfl w hw
      | true =>
        have hk : lawG Tryz.prog 64 20000 3 [.complex .f32 0 0, .complex .f32 0 0, .complex .f32 1 0, u8s 64 (8 * 6 + r3 % 8), .bool true] 0 handle = true := List.all_eq_true.1 runT001_6_1 _ (List.mem_range.2 (by omega))
        rw [show 8 * 6 + r3 % 8 = r3 by omega] at hk
        exact lawG_run (es := es) mixed body hk (.cons (v0) (.cons (v1) (.cons (v2) (.cons (u8s_VR _ w3 e3) (.cons (.bool true) .nil))))) (by omega) (handle_VR _) rfl w hw
    · cases a4 with
      | false =>
        have hk : lawG Tryz.prog 64 20000 3 [.complex .f32 0 0, .complex .f32 0 0, .complex .f32 1 0, u8s 64 (8 * 7 + r3 % 8), .bool false] 0 handle = true := List.all_eq_true.1 runT001_7_0 _ (List.mem_range.2 (by omega))
        rw [show 8 * 7 + r3 % 8 = r3 by omega] at hk
        exact lawG_run (es := es) mixed body hk (.cons (v0) (.cons (v1) (.cons (v2) (.cons (u8s_VR _ w3 e3) (.cons (.bool false) .nil))))) (by omega) (handle_VR _) rfl w hw
      | true =>
        have hk : lawG Tryz.prog 64 20000 3 [.complex .f32 0 0, .complex .f32 0 0, .complex .f32 1 0, u8s 64 (8 * 7 + r3 % 8), .bool true] 0 handle = true := List.all_eq_true.1 runT001_7_1 _ (List.mem_range.2 (by omega))
        rw [show 8 * 7 + r3 % 8 = r3 by omega] at hk
        exact lawG_run (es := es) mixed body hk (.cons (v0) (.cons (v1) (.cons (v2) (.cons (u8s_VR _ w3 e3) (.cons (.bool true) .nil))))) (by omega) (handle_VR _) rfl w hw
  · obtain ⟨r3, h3, e3⟩ := residue a3 64 (by omega)
    have hq3 : r3 / 8 = 0 ∨ r3 / 8 = 1 ∨ r3 / 8 = 2 ∨ r3 / 8 = 3 ∨ r3 / 8 = 4 ∨ r3 / 8 = 5 ∨ r3 / 8 = 6 ∨ r3 / 8 = 7 := by omega
    rcases hq3 with hq3 | hq3 | hq3 | hq3 | hq3 | hq3 | hq3 | hq3
    · cases a4 with
      | false =>
        have hk : lawG Tryz.prog 64 20000 3 [.complex .f32 0 0, .complex .f32 1 0, .complex .f32 0 0, u8s 64 (8 * 0 + r3 % 8), .bool false] 0 handle = true := List.all_eq_true.1 runT010_0_0 _ (List.mem_range.2 (by omega))
        rw [show 8 * 0 + r3 % 8 = r3 by omega] at hk
        exact lawG_run (es := es) mixed body hk (.cons (v0) (.cons (v1) (.cons (v2) (.cons (u8s_VR _ w3 e3) (.cons (.bool false) .nil))))) (by omega) (handle_VR _) rfl w hw
      | true =>
        have hk : lawG Tryz.prog 64 20000 3 [.complex .f32 0 0, .complex .f32 1 0, .complex .f32 0 0, u8s 64 (8 * 0 + r3 % 8), .bool true] 0 handle = true := List.all_eq_true.1 runT010_0_1 _ (List.mem_range.2 (by omega))
        rw [show 8 * 0 + r3 % 8 = r3 by omega] at hk
        exact lawG_run (es := es) mixed body hk (.cons (v0) (.cons (v1) (.cons (v2) (.cons (u8s_VR _ w3 e3) (.cons (.bool true) .nil))))) (by omega) (handle_VR _) rfl w hw
    · cases a4 with
      | false =>
        have hk : lawG Tryz.prog 64 20000 3 [.complex .f32 0 0, .complex .f32 1 0, .complex .f32 0 0, u8s 64 (8 * 1 + r3 % 8), .bool false] 0 handle = true := List.all_eq_true.1 runT010_1_0 _ (List.mem_range.2 (by omega))
        rw [show 8 * 1 + r3 % 8 = r3 by omega] at hk
        exact lawG_run (es := es) mixed body hk (.cons (v0) (.cons (v1) (.cons (v2) (.cons (u8s_VR _ w3 e3) (.cons (.bool false) .nil))))) (by omega) (handle_VR _) rfl w hw
      | true =>
        have hk : lawG Tryz.prog 64 20000 3 [.complex .f32 0 0, .complex .f32 1 0, .complex .f32 0 0, u8s 64 (8 * 1 + r3 % 8), .bool true] 0 handle = true := List.all_eq_true.1 runT010_1_1 _ (List.mem_range.2 (by omega))
        rw [show 8 * 1 + r3 % 8 = r3 by omega] at hk
        exact lawG_run (es := es) mixed body hk (.cons (v0) (.cons (v1) (.cons (v2) (.cons (u8s_VR _ w3 e3) (.cons (.bool true) .nil))))) (by omega) (handle_VR _) rfl w hw
    · cases a4 with
      | false =>
        have hk : lawG Tryz.prog 64 20000 3 [.complex .f32 0 0, .complex .f32 1 0, .complex .f32 0 0, u8s 64 (8 * 2 + r3 % 8), .bool false] 0 handle = true := List.all_eq_true.1 runT010_2_0 _ (List.mem_range.2 (by omega))
        rw [show 8 * 2 + r3 % 8 = r3 by omega] at hk
        exact lawG_run (es := es) mixed body hk (.cons (v0) (.cons (v1) (.cons (v2) (.cons (u8s_VR _ w3 e3) (.cons (.bool false) .nil))))) (by omega) (handle_VR _) rfl w hw
      | true =>
        have hk : lawG Tryz.prog 64 20000 3 [.complex .f32 0 0, .complex .f32 1 0, .complex .f32 0 0, u8s 64 (8 * 2 + r3 % 8), .bool true] 0 handle = true := List.all_eq_true.1 runT010_2_1 _ (List.mem_range.2 (by omega))
        rw [show 8 * 2 + r3 % 8 = r3 by omega] at hk
        exact lawG_run (es := es) mixed body hk (.cons (v0) (.cons (v1) (.cons (v2) (.cons (u8s_VR _ w3 e3) (.cons (.bool true) .nil))))) (by omega) (handle_VR _) rfl w hw
    · cases a4 with
      | false =>
        have hk : lawG Tryz.prog 64 20000 3 [.complex .f32 0 0, .complex .f32 1 0, .complex .f32 0 0, u8s 64 (8 * 3 + r3 % 8), .bool false] 0 handle = true := List.all_eq_true.1 runT010_3_0 _ (List.mem_range.2 (by omega))
        rw [show 8 * 3 + r3 % 8 = r3 by omega] at hk
        exact lawG_run (es := es) mixed body hk (.cons (v0) (.cons (v1) (.cons (v2) (.cons (u8s_VR _ w3 e3) (.cons (.bool false) .nil))))) (by omega) (handle_VR _) rfl w hw
      | true =>
        have hk : lawG Tryz.prog 64 20000 3 [.complex .f32 0 0, .complex .f32 1 0, .complex .f32 0 0, u8s 64 (8 * 3 + r3 % 8), .bool true] 0 handle = true := List.all_eq_true.1 runT010_3_1 _ (List.mem_range.2 (by omega))
        rw [show 8 * 3 + r3 % 8 = r3 by omega] at hk
        exact lawG_run (es := es) mixed body hk (.cons (v0) (.cons (v1) (.cons (v2) (.cons (u8s_VR _ w3 e3) (.cons (.bool true) .nil))))) (by omega) (handle_VR _) rfl w hw
    · cases a4 with
      | false =>
        have hk : lawG Tryz.prog 64 20000 3 [.complex .f32 0 0, .complex .f32 1 0, .complex .f32 0 0, u8s 64 (8 * 4 + r3 % 8), .bool false] 0 handle = true := List.all_eq_true.1 runT010_4_0 _ (List.mem_range.2 (by omega))
        rw [show 8 * 4 + r3 % 8 = r3 by omega] at hk
        exact lawG_run (es := es) mixed body hk (.cons (v0) (.cons (v1) (.cons (v2) (.cons (u8s_VR _ w3 e3) (.cons (.bool false) .nil))))) (by omega) (handle_VR _) rfl w hw
      | true =>
        have hk : lawG Tryz.prog 64 20000 3 [.complex .f32 0 0, .complex .f32 1 0, .complex .f32 0 0, u8s 64 (8 * 4 + r3 % 8), .bool true] 0 handle = true := List.all_eq_true.1 runT010_4_1 _ (List.mem_range.2 (by omega))
        rw [show 8 * 4 + r3 % 8 = r3 by omega] at hk
        exact lawG_run (es := es) mixed body hk (.cons (v0) (.cons (v1) (.cons (v2) (.cons (u8s_VR _ w3 e3) (.cons (.bool true) .nil))))) (by omega) (handle_VR _) rfl w hw
    · cases a4 with
      | false =>
        have hk : lawG Tryz.prog 64 20000 3 [.complex .f32 0 0, .complex .f32 1 0, .complex .f32 0 0, u8s 64 (8 * 5 + r3 % 8), .bool false] 0 handle = true := List.all_eq_true.1 runT010_5_0 _ (List.mem_range.2 (by omega))
        rw [show 8 * 5 + r3 % 8 = r3 by omega] at hk
        exact lawG_run (es := es) mixed body hk (.cons (v0) (.cons (v1) (.cons (v2) (.cons (u8s_VR _ w3 e3) (.cons (.bool false) .nil))))) (by omega) (handle_VR _) rfl w hw
      | true =>
        have hk : lawG Tryz.prog 64 20000 3 [.complex .f32 0 0, .complex .f32 1 0, .complex .f32 0 0, u8s 64 (8 * 5 + r3 % 8), .bool true] 0 handle = true := List.all_eq_true.1 runT010_5_1 _ (List.mem_range.2 (by omega))
        rw [show 8 * 5 + r3 % 8 = r3 by omega] at hk
        exact lawG_run (es := es) mixed body hk (.cons (v0) (.cons (v1) (.cons (v2) (.cons (u8s_VR _ w3 e3) (.cons (.bool true) .nil))))) (by omega) (handle_VR _) rfl w hw
    · cases a4 with
      | false =>
        have hk : lawG Tryz.prog 64 20000 3 [.complex .f32 0 0, .complex .f32 1 0, .complex .f32 0 0, u8s 64 (8 * 6 + r3 % 8), .bool false] 0 handle = true := List.all_eq_true.1 runT010_6_0 _ (List.mem_range.2 (by omega))
        rw [show 8 * 6 + r3 % 8 = r3 by omega] at hk
        exact lawG_run (es := es) mixed body hk (.cons (v0) (.cons (v1) (.cons (v2) (.cons (u8s_VR _ w3 e3) (.cons (.bool false) .nil))))) (by omega) (handle_VR _) rfl w hw
      | true =>
        have hk : lawG Tryz.prog 64 20000 3 [.complex .f32 0 0, .complex .f32 1 0, .complex .f32 0 0, u8s 64 (8 * 6 + r3 % 8), .bool true] 0 handle = true := List.all_eq_true.1 runT010_6_1 _ (List.mem_range.2 (by omega))
        rw [show 8 * 6 + r3 % 8 = r3 by omega] at hk
        exact lawG_run (es := es) mixed body hk (.cons (v0) (.cons (v1) (.cons (v2) (.cons (u8s_VR _ w3 e3) (.cons (.bool true) .nil))))) (by omega) (handle_VR _) rfl w hw
    · cases a4 with
      | false =>
        have hk : lawG Tryz.prog 64 20000 3 [.complex .f32 0 0, .complex .f32 1 0, .complex .f32 0 0, u8s 64 (8 * 7 + r3 % 8), .bool false] 0 handle = true := List.all_eq_true.1 runT010_7_0 _ (List.mem_range.2 (by omega))
        rw [show 8 * 7 + r3 % 8 = r3 by omega] at hk
        exact lawG_run (es := es) mixed body hk (.cons (v0) (.cons (v1) (.cons (v2) (.cons (u8s_VR _ w3 e3) (.cons (.bool false) .nil))))) (by omega) (handle_VR _) rfl w hw
      | true =>
        have hk : lawG Tryz.prog 64 20000 3 [.complex .f32 0 0, .complex .f32 1 0, .complex .f32 0 0, u8s 64 (8 * 7 + r3 % 8), .bool true] 0 handle = true := List.all_eq_true.1 runT010_7_1 _ (List.mem_range.2 (by omega))
        rw [show 8 * 7 + r3 % 8 = r3 by omega] at hk
        exact lawG_run (es := es) mixed body hk (.cons (v0) (.cons (v1) (.cons (v2) (.cons (u8s_VR _ w3 e3) (.cons (.bool true) .nil))))) (by omega) (handle_VR _) rfl w hw
  · obtain ⟨r3, h3, e3⟩ := residue a3 64 (by omega)
    have hq3 : r3 / 8 = 0 ∨ r3 / 8 = 1 ∨ r3 / 8 = 2 ∨ r3 / 8 = 3 ∨ r3 / 8 = 4 ∨ r3 / 8 = 5 ∨ r3 / 8 = 6 ∨ r3 / 8 = 7 := by omega
    rcases hq3 with hq3 | hq3 | hq3 | hq3 | hq3 | hq3 | hq3 | hq3
    · cases a4 with
      | false =>
        have hk : lawG Tryz.prog 64 20000 3 [.complex .f32 1 0, .complex .f32 0 0, .complex .f32 0 0, u8s 64 (8 * 0 + r3 % 8), .bool false] 0 handle = true := List.all_eq_true.1 runT100_0_0 _ (List.mem_range.2 (by omega))
        rw [show 8 * 0 + r3 % 8 = r3 by omega] at hk
        exact lawG_run (es := es) mixed body hk (.cons (v0) (.cons (v1) (.cons (v2) (.cons (u8s_VR _ w3 e3) (.cons (.bool false) .nil))))) (by omega) (handle_VR _) rfl w hw
      | true =>
        have hk : lawG Tryz.prog 64 20000 3 [.complex .f32 1 0, .complex .f32 0 0, .complex .f32 0 0, u8s 64 (8 * 0 + r3 % 8), .bool true] 0 handle = true := List.all_eq_true.1 runT100_0_1 _ (List.mem_range.2 (by omega))
        rw [show 8 * 0 + r3 % 8 = r3 by omega] at hk
        exact lawG_run (es := es) mixed body hk (.cons (v0) (.cons (v1) (.cons (v2) (.cons (u8s_VR _ w3 e3) (.cons (.bool true) .nil))))) (by omega) (handle_VR _) rfl w hw
    · cases a4 with
      | false =>
        have hk : lawG Tryz.prog 64 20000 3 [.complex .f32 1 0, .complex .f32 0 0, .complex .f32 0 0, u8s 64 (8 * 1 + r3 % 8), .bool false] 0 handle = true := List.all_eq_true.1 runT100_1_0 _ (List.mem_range.2 (by omega))
        rw [show 8 * 1 + r3 % 8 = r3 by omega] at hk
        exact lawG_run (es := es) mixed body hk (.cons (v0) (.cons (v1) (.cons (v2) (.cons (u8s_VR _ w3 e3) (.cons (.bool false) .nil))))) (by omega) (handle_VR _) rfl w hw
      | true =>
        have hk : lawG Tryz.prog 64 20000 3 [.complex .f32 1 0, .complex .f32 0 0, .complex .f32 0 0, u8s 64 (8 * 1 + r3 % 8), .bool true] 0 handle = true := List.all_eq_true.1 runT100_1_1 _ (List.mem_range.2 (by omega))
        rw [show 8 * 1 + r3 % 8 = r3 by omega] at hk
        exact lawG_run (es := es) mixed body hk (.cons (v0) (.cons (v1) (.cons (v2) (.cons (u8s_VR _ w3 e3) (.cons (.bool true) .nil))))) (by omega) (handle_VR _) rfl w hw
    · cases a4 with
      | false =>
        have hk : lawG Tryz.prog 64 20000 3 [.complex .f32 1 0, .complex .f32 0 0, .complex .f32 0 0, u8s 64 (8 * 2 + r3 % 8), .bool false] 0 handle = true := List.all_eq_true.1 runT100_2_0 _ (List.mem_range.2 (by omega))
        rw [show 8 * 2 + r3 % 8 = r3 by omega] at hk
        exact lawG_run (es := es) mixed body hk (.cons (v0) (.cons (v1) (.cons (v2) (.cons (u8s_VR _ w3 e3) (.cons (.bool false) .nil))))) (by omega) (handle_VR _) rfl w hw
      | true =>
        have hk : lawG Tryz.prog 64 20000 3 [.complex .f32 1 0, .complex .f32 0 0, .complex .f32 0 0, u8s 64 (8 * 2 + r3 % 8), .bool true] 0 handle = true := List.all_eq_true.1 runT100_2_1 _ (List.mem_range.2 (by omega))
        rw [show 8 * 2 + r3 % 8 = r3 by omega] at hk
        exact lawG_run (es := es) mixed body hk (.cons (v0) (.cons (v1) (.cons (v2) (.cons (u8s_VR _ w3 e3) (.cons (.bool true) .nil))))) (by omega) (handle_VR _) rfl w hw
    · cases a4 with
      | false =>
        have hk : lawG Tryz.prog 64 20000 3 [.complex .f32 1 0, .complex .f32 0 0, .complex .f32 0 0, u8s 64 (8 * 3 + r3 % 8), .bool false] 0 handle = true := List.all_eq_true.1 runT100_3_0 _ (List.mem_range.2 (by omega))
        rw [show 8 * 3 + r3 % 8 = r3 by omega] at hk
        exact lawG_run (es := es) mixed body hk (.cons (v0) (.cons (v1) (.cons (v2) (.cons (u8s_VR _ w3 e3) (.cons (.bool false) .nil))))) (by omega) (handle_VR _) rfl w hw
      | true =>
        have hk : lawG Tryz.prog 64 20000 3 [.complex .f32 1 0, .complex .f32 0 0, .complex .f32 0 0, u8s 64 (8 * 3 + r3 % 8), .bool true] 0 handle = true := List.all_eq_true.1 runT100_3_1 _ (List.mem_range.2 (by omega))
        rw [show 8 * 3 + r3 % 8 = r3 by omega] at hk
        exact lawG_run (es := es) mixed body hk (.cons (v0) (.cons (v1) (.cons (v2) (.cons (u8s_VR _ w3 e3) (.cons (.bool true) .nil))))) (by omega) (handle_VR _) rfl w hw
    · cases a4 with
      | false =>
        have hk : lawG Tryz.prog 64 20000 3 [.complex .f32 1 0, .complex .f32 0 0, .complex .f32 0 0, u8s 64 (8 * 4 + r3 % 8), .bool false] 0 handle = true := List.all_eq_true.1 runT100_4_0 _ (List.mem_range.2 (by omega))
        rw [show 8 * 4 + r3 % 8 = r3 by omega] at hk
        exact lawG_run (es := es) mixed body hk (.cons (v0) (.cons (v1) (.cons (v2) (.cons (u8s_VR _ w3 e3) (.cons (.bool false) .nil))))) (by omega) (handle_VR _) rfl w hw
      | true =>
        have hk : lawG Tryz.prog 64 20000 3 [.complex .f32 1 0, .complex .f32 0 0, .complex .f32 0 0, u8s 64 (8 * 4 + r3 % 8), .bool true] 0 handle = true := List.all_eq_true.1 runT100_4_1 _ (List.mem_range.2 (by omega))
        rw [show 8 * 4 + r3 % 8 = r3 by omega] at hk
        exact lawG_run (es := es) mixed body hk (.cons (v0) (.cons (v1) (.cons (v2) (.cons (u8s_VR _ w3 e3) (.cons (.bool true) .nil))))) (by omega) (handle_VR _) rfl w hw
    · cases a4 with
      | false =>
        have hk : lawG Tryz.prog 64 20000 3 [.complex .f32 1 0, .complex .f32 0 0, .complex .f32 0 0, u8s 64 (8 * 5 + r3 % 8), .bool false] 0 handle = true := List.all_eq_true.1 runT100_5_0 _ (List.mem_range.2 (by omega))
        rw [show 8 * 5 + r3 % 8 = r3 by omega] at hk
        exact lawG_run (es := es) mixed body hk (.cons (v0) (.cons (v1) (.cons (v2) (.cons (u8s_VR _ w3 e3) (.cons (.bool false) .nil))))) (by omega) (handle_VR _) rfl w hw
      | true =>
        have hk : lawG Tryz.prog 64 20000 3 [.complex .f32 1 0, .complex .f32 0 0, .complex .f32 0 0, u8s 64 (8 * 5 + r3 % 8), .bool true] 0 handle = true := List.all_eq_true.1 runT100_5_1 _ (List.mem_range.2 (by omega))
        rw [show 8 * 5 + r3 % 8 = r3 by omega] at hk
        exact lawG_run (es := es) mixed body hk (.cons (v0) (.cons (v1) (.cons (v2) (.cons (u8s_VR _ w3 e3) (.cons (.bool true) .nil))))) (by omega) (handle_VR _) rfl w hw
    · cases a4 with
      | false =>
        have hk : lawG Tryz.prog 64 20000 3 [.complex .f32 1 0, .complex .f32 0 0, .complex .f32 0 0, u8s 64 (8 * 6 + r3 % 8), .bool false] 0 handle = true := List.all_eq_true.1 runT100_6_0 _ (List.mem_range.2 (by omega))
        rw [show 8 * 6 + r3 % 8 = r3 by omega] at hk
        exact lawG_run (es := es) mixed body hk (.cons (v0) (.cons (v1) (.cons (v2) (.cons (u8s_VR _ w3 e3) (.cons (.bool false) .nil))))) (by omega) (handle_VR _) rfl w hw
      | true =>
        have hk : lawG Tryz.prog 64 20000 3 [.complex .f32 1 0, .complex .f32 0 0, .complex .f32 0 0, u8s 64 (8 * 6 + r3 % 8), .bool true] 0 handle = true := List.all_eq_true.1 runT100_6_1 _ (List.mem_range.2 (by omega))
        rw [show 8 * 6 + r3 % 8 = r3 by omega] at hk
        exact lawG_run (es := es) mixed body hk (.cons (v0) (.cons (v1) (.cons (v2) (.cons (u8s_VR _ w3 e3) (.cons (.bool true) .nil))))) (by omega) (handle_VR _) rfl w hw
    · cases a4 with
      | false =>
        have hk : lawG Tryz.prog 64 20000 3 [.complex .f32 1 0, .complex .f32 0 0, .complex .f32 0 0, u8s 64 (8 * 7 + r3 % 8), .bool false] 0 handle = true := List.all_eq_true.1 runT100_7_0 _ (List.mem_range.2 (by omega))
        rw [show 8 * 7 + r3 % 8 = r3 by omega] at hk
        exact lawG_run (es := es) mixed body hk (.cons (v0) (.cons (v1) (.cons (v2) (.cons (u8s_VR _ w3 e3) (.cons (.bool false) .nil))))) (by omega) (handle_VR _) rfl w hw
      | true =>
        have hk : lawG Tryz.prog 64 20000 3 [.complex .f32 1 0, .complex .f32 0 0, .complex .f32 0 0, u8s 64 (8 * 7 + r3 % 8), .bool true] 0 handle = true := List.all_eq_true.1 runT100_7_1 _ (List.mem_range.2 (by omega))
        rw [show 8 * 7 + r3 % 8 = r3 by omega] at hk
        exact lawG_run (es := es) mixed body hk (.cons (v0) (.cons (v1) (.cons (v2) (.cons (u8s_VR _ w3 e3) (.cons (.bool true) .nil))))) (by omega) (handle_VR _) rfl w hw
  · obtain ⟨r3, h3, e3⟩ := residue a3 64 (by omega)
    have hq3 : r3 / 8 = 0 ∨ r3 / 8 = 1 ∨ r3 / 8 = 2 ∨ r3 / 8 = 3 ∨ r3 / 8 = 4 ∨ r3 / 8 = 5 ∨ r3 / 8 = 6 ∨ r3 / 8 = 7 := by omega
    rcases hq3 with hq3 | hq3 | hq3 | hq3 | hq3 | hq3 | hq3 | hq3
    · cases a4 with
      | false =>
        have hk : lawG Tryz.prog 64 20000 3 [.complex .f32 0 0, .complex .f32 1 0, .complex .f32 1 0, u8s 64 (8 * 0 + r3 % 8), .bool false] 0 handle = true := List.all_eq_true.1 runT011_0_0 _ (List.mem_range.2 (by omega))
        rw [show 8 * 0 + r3 % 8 = r3 by omega] at hk
        exact lawG_run (es := es) mixed body hk (.cons (v0) (.cons (v1) (.cons (v2) (.cons (u8s_VR _ w3 e3) (.cons (.bool false) .nil))))) (by omega) (handle_VR _) rfl w hw
      | true =>
        have hk : lawG Tryz.prog 64 20000 3 [.complex .f32 0 0, .complex .f32 1 0, .complex .f32 1 0, u8s 64 (8 * 0 + r3 % 8), .bool true] 0 handle = true := List.all_eq_true.1 runT011_0_1 _ (List.mem_range.2 (by omega))
        rw [show 8 * 0 + r3 % 8 = r3 by omega] at hk
        exact lawG_run (es := es) mixed body hk (.cons (v0) (.cons (v1) (.cons (v2) (.cons (u8s_VR _ w3 e3) (.cons (.bool true) .nil))))) (by omega) (handle_VR _) rfl w hw
    · cases a4 with
      | false =>
        have hk : lawG Tryz.prog 64 20000 3 [.complex .f32 0 0, .complex .f32 1 0, .complex .f32 1 0, u8s 64 (8 * 1 + r3 % 8), .bool false] 0 handle = true := List.all_eq_true.1 runT011_1_0 _ (List.mem_range.2 (by omega))
        rw [show 8 * 1 + r3 % 8 = r3 by omega] at hk
        exact lawG_run (es := es) mixed body hk (.cons (v0) (.cons (v1) (.cons (v2) (.cons (u8s_VR _ w3 e3) (.cons (.bool false) .nil))))) (by omega) (handle_VR _) rfl w hw
      | true =>
        have hk : lawG Tryz.prog 64 20000 3 [.complex .f32 0 0, .complex .f32 1 0, .complex .f32 1 0, u8s 64 (8 * 1 + r3 % 8), .bool true] 0 handle = true := List.all_eq_true.1 runT011_1_1 _ (List.mem_range.2 (by omega))
        rw [show 8 * 1 + r3 % 8 = r3 by omega] at hk
        exact lawG_run (es := es) mixed body hk (.cons (v0) (.cons (v1) (.cons (v2) (.cons (u8s_VR _ w3 e3) (.cons (.bool true) .nil))))) (by omega) (handle_VR _) rfl w hw
    · cases a4 with
      | false =>
        have hk : lawG Tryz.prog 64 20000 3 [.complex .f32 0 0, .complex .f32 1 0, .complex .f32 1 0, u8s 64 (8 * 2 + r3 % 8), .bool false] 0 handle = true := List.all_eq_true.1 runT011_2_0 _ (List.mem_range.2 (by omega))
        rw [show 8 * 2 + r3 % 8 = r3 by omega] at hk
        exact lawG_run (es := es) mixed body hk (.cons (v0) (.cons (v1) (.cons (v2) (.cons (u8s_VR _ w3 e3) (.cons (.bool false) .nil))))) (by omega) (handle_VR _) rfl w hw
      | true =>
        have hk : lawG Tryz.prog 64 20000 3 [.complex .f32 0 0, .complex .f32 1 0, .complex .f32 1 0, u8s 64 (8 * 2 + r3 % 8), .bool true] 0 handle = true := List.all_eq_true.1 runT011_2_1 _ (List.mem_range.2 (by omega))
        rw [show 8 * 2 + r3 % 8 = r3 by omega] at hk
        exact lawG_run (es := es) mixed body hk (.cons (v0) (.cons (v1) (.cons (v2) (.cons (u8s_VR _ w3 e3) (.cons (.bool true) .nil))))) (by omega) (handle_VR _) rfl w hw
    · cases a4 with
      | false =>
        have hk : lawG Tryz.prog 64 20000 3 [.complex .f32 0 0, .complex .f32 1 0, .complex .f32 1 0, u8s 64 (8 * 3 + r3 % 8), .bool false] 0 handle = true := List.all_eq_true.1 runT011_3_0 _ (List.mem_range.2 (by omega))
        rw [show 8 * 3 + r3 % 8 = r3 by omega] at hk
        exact lawG_run (es := es) mixed body hk (.cons (v0) (.cons (v1) (.cons (v2) (.cons (u8s_VR _ w3 e3) (.cons (.bool false) .nil))))) (by omega) (handle_VR _) rfl w hw
      | true =>
        have hk : lawG Tryz.prog 64 20000 3 [.complex .f32 0 0, .complex .f32 1 0, .complex .f32 1 0, u8s 64 (8 * 3 + r3 % 8), .bool true] 0 handle = true := List.all_eq_true.1 runT011_3_1 _ (List.mem_range.2 (by omega))
        rw [show 8 * 3 + r3 % 8 = r3 by omega] at hk
        exact lawG_run (es := es) mixed body hk (.cons (v0) (.cons (v1) (.cons (v2) (.cons (u8s_VR _ w3 e3) (.cons (.bool true) .nil))))) (by omega) (handle_VR _) rfl w hw
    · cases a4 with
      | false =>
        have hk : lawG Tryz.prog 64 20000 3 [.complex .f32 0 0, .complex .f32 1 0, .complex .f32 1 0, u8s 64 (8 * 4 + r3 % 8), .bool false] 0 handle = true := List.all_eq_true.1 runT011_4_0 _ (List.mem_range.2 (by omega))
        rw [show 8 * 4 + r3 % 8 = r3 by omega] at hk
        exact lawG_run (es := es) mixed body hk (.cons (v0) (.cons (v1) (.cons (v2) (.cons (u8s_VR _ w3 e3) (.cons (.bool false) .nil))))) (by omega) (handle_VR _) rfl w hw
      | true =>
        have hk : lawG Tryz.prog 64 20000 3 [.complex .f32 0 0, .complex .f32 1 0, .complex .f32 1 0, u8s 64 (8 * 4 + r3 % 8), .bool true] 0 handle = true := List.all_eq_true.1 runT011_4_1 _ (List.mem_range.2 (by omega))
        rw [show 8 * 4 + r3 % 8 = r3 by omega] at hk
        exact lawG_run (es := es) mixed body hk (.cons (v0) (.cons (v1) (.cons (v2) (.cons (u8s_VR _ w3 e3) (.cons (.bool true) .nil))))) (by omega) (handle_VR _) rfl w hw
    · cases a4 with
      | false =>
        have hk : lawG Tryz.prog 64 20000 3 [.complex .f32 0 0, .complex .f32 1 0, .complex .f32 1 0, u8s 64 (8 * 5 + r3 % 8), .bool false] 0 handle = true := List.all_eq_true.1 runT011_5_0 _ (List.mem_range.2 (by omega))
        rw [show 8 * 5 + r3 % 8 = r3 by omega] at hk
        exact lawG_run (es := es) mixed body hk (.cons (v0) (.cons (v1) (.cons (v2) (.cons (u8s_VR _ w3 e3) (.cons (.bool false) .nil))))) (by omega) (handle_VR _) rfl w hw
      | true =>
        have hk : lawG Tryz.prog 64 20000 3 [.complex .f32 0 0, .complex .f32 1 0, .complex .f32 1 0, u8s 64 (8 * 5 + r3 % 8), .bool true] 0 handle = true := List.all_eq_true.1 runT011_5_1 _ (List.mem_range.2 (by omega))
        rw [show 8 * 5 + r3 % 8 = r3 by omega] at hk
        exact lawG_run (es := es) mixed body hk (.cons (v0) (.cons (v1) (.cons (v2) (.cons (u8s_VR _ w3 e3) (.cons (.bool true) .nil))))) (by omega) (handle_VR _) rfl w hw
    · cases a4 with
      | false =>
        have hk : lawG Tryz.prog 64 20000 3 [.complex .f32 0 0, .complex .f32 1 0, .complex .f32 1 0, u8s 64 (8 * 6 + r3 % 8), .bool false] 0 handle = true := List.all_eq_true.1 runT011_6_0 _ (List.mem_range.2 (by omega))
        rw [show 8 * 6 + r3 % 8 = r3 by omega] at hk
        exact lawG_run (es := es) mixed body hk (.cons (v0) (.cons (v1) (.cons (v2) (.cons (u8s_VR _ w3 e3) (.cons (.bool false) .nil))))) (by omega) (handle_VR _) rfl w hw
      | true =>
        have hk : lawG Tryz.prog 64 20000 3 [.complex .f32 0 0, .complex .f32 1 0, .complex .f32 1 0, u8s 64 (8 * 6 + r3 % 8), .bool true] 0 handle = true := List.all_eq_true.1 runT011_6_1 _ (List.mem_range.2 (by omega))
        rw [show 8 * 6 + r3 % 8 = r3 by omega] at hk
        exact lawG_run (es := es) mixed body hk (.cons (v0) (.cons (v1) (.cons (v2) (.cons (u8s_VR _ w3 e3) (.cons (.bool true) .nil))))) (by omega) (handle_VR _) rfl w hw
    · cases a4 with
      | false =>
        have hk : lawG Tryz.prog 64 20000 3 [.complex .f32 0 0, .complex .f32 1 0, .complex .f32 1 0, u8s 64 (8 * 7 + r3 % 8), .bool false] 0 handle = true := List.all_eq_true.1 runT011_7_0 _ (List.mem_range.2 (by omega))
        rw [show 8 * 7 + r3 % 8 = r3 by omega] at hk
        exact lawG_run (es := es) mixed body hk (.cons (v0) (.cons (v1) (.cons (v2) (.cons (u8s_VR _ w3 e3) (.cons (.bool false) .nil))))) (by omega) (handle_VR _) rfl w hw
      | true =>
        have hk : lawG Tryz.prog 64 20000 3 [.complex .f32 0 0, .complex .f32 1 0, .complex .f32 1 0, u8s 64 (8 * 7 + r3 % 8), .bool true] 0 handle = true := List.all_eq_true.1 runT011_7_1 _ (List.mem_range.2 (by omega))
        rw [show 8 * 7 + r3 % 8 = r3 by omega] at hk
        exact lawG_run (es := es) mixed body hk (.cons (v0) (.cons (v1) (.cons (v2) (.cons (u8s_VR _ w3 e3) (.cons (.bool true) .nil))))) (by omega) (handle_VR _) rfl w hw
  · obtain ⟨r3, h3, e3⟩ := residue a3 64 (by omega)
    have hq3 : r3 / 8 = 0 ∨ r3 / 8 = 1 ∨ r3 / 8 = 2 ∨ r3 / 8 = 3 ∨ r3 / 8 = 4 ∨ r3 / 8 = 5 ∨ r3 / 8 = 6 ∨ r3 / 8 = 7 := by omega
    rcases hq3 with hq3 | hq3 | hq3 | hq3 | hq3 | hq3 | hq3 | hq3
    · cases a4 with
      | false =>
        have hk : lawG Tryz.prog 64 20000 3 [.complex .f32 1 0, .complex .f32 0 0, .complex .f32 1 0, u8s 64 (8 * 0 + r3 % 8), .bool false] 0 handle = true := List.all_eq_true.1 runT101_0_0 _ (List.mem_range.2 (by omega))
        rw [show 8 * 0 + r3 % 8 = r3 by omega] at hk
        exact lawG_run (es := es) mixed body hk (.cons (v0) (.cons (v1) (.cons (v2) (.cons (u8s_VR _ w3 e3) (.cons (.bool false) .nil))))) (by omega) (handle_VR _) rfl w hw
      | true =>
        have hk : lawG Tryz.prog 64 20000 3 [.complex .f32 1 0, .complex .f32 0 0, .complex .f32 1 0, u8s 64 (8 * 0 + r3 % 8), .bool true] 0 handle = true := List.all_eq_true.1 runT101_0_1 _ (List.mem_range.2 (by omega))
        rw [show 8 * 0 + r3 % 8 = r3 by omega] at hk
        exact lawG_run (es := es) mixed body hk (.cons (v0) (.cons (v1) (.cons (v2) (.cons (u8s_VR _ w3 e3) (.cons (.bool true) .nil))))) (by omega) (handle_VR _) rfl w hw
    · cases a4 with
      | false =>
        have hk : lawG Tryz.prog 64 20000 3 [.complex .f32 1 0, .complex .f32 0 0, .complex .f32 1 0, u8s 64 (8 * 1 + r3 % 8), .bool false] 0 handle = true := List.all_eq_true.1 runT101_1_0 _ (List.mem_range.2 (by omega))
        rw [show 8 * 1 + r3 % 8 = r3 by omega] at hk
        exact lawG_run (es := es) mixed body hk (.cons (v0) (.cons (v1) (.cons (v2) (.cons (u8s_VR _ w3 e3) (.cons (.bool false) .nil))))) (by omega) (handle_VR _) rfl w hw
      | true =>
        have hk : lawG Tryz.prog 64 20000 3 [.complex .f32 1 0, .complex .f32 0 0, .complex .f32 1 0, u8s 64 (8 * 1 + r3 % 8), .bool true] 0 handle = true := List.all_eq_true.1 runT101_1_1 _ (List.mem_range.2 (by omega))
        rw [show 8 * 1 + r3 % 8 = r3 by omega] at hk
        exact lawG_run (es := es) mixed body hk (.cons (v0) (.cons (v1) (.cons (v2) (.cons (u8s_VR _ w3 e3) (.cons (.bool true) .nil))))) (by omega) (handle_VR _) rfl w hw
    · cases a4 with
      | false =>
        have hk : lawG Tryz.prog 64 20000 3 [.complex .f32 1 0, .complex .f32 0 0, .complex .f32 1 0, u8s 64 (8 * 2 + r3 % 8), .bool false] 0 handle = true := List.all_eq_true.1 runT101_2_0 _ (List.mem_range.2 (by omega))
        rw [show 8 * 2 + r3 % 8 = r3 by omega] at hk
        exact lawG_run (es := es) mixed body hk (.cons (v0) (.cons (v1) (.cons (v2) (.cons (u8s_VR _ w3 e3) (.cons (.bool false) .nil))))) (by omega) (handle_VR _) rfl w hw
      | true =>
        have hk : lawG Tryz.prog 64 20000 3 [.complex .f32 1 0, .complex .f32 0 0, .complex .f32 1 0, u8s 64 (8 * 2 + r3 % 8), .bool true] 0 handle = true := List.all_eq_true.1 runT101_2_1 _ (List.mem_range.2 (by omega))
        rw [show 8 * 2 + r3 % 8 = r3 by omega] at hk
        exact lawG_run (es := es) mixed body hk (.cons (v0) (.cons (v1) (.cons (v2) (.cons (u8s_VR _ w3 e3) (.cons (.bool true) .nil))))) (by omega) (handle_VR _) rfl w hw
    · cases a4 with
      | false =>
        have hk : lawG Tryz.prog 64 20000 3 [.complex .f32 1 0, .complex .f32 0 0, .complex .f32 1 0, u8s 64 (8 * 3 + r3 % 8), .bool false] 0 handle = true := List.all_eq_true.1 runT101_3_0 _ (List.mem_range.2 (by omega))
        rw [show 8 * 3 + r3 % 8 = r3 by omega] at hk
        exact lawG_run (es := es) mixed body hk (.cons (v0) (.cons (v1) (.cons (v2) (.cons (u8s_VR _ w3 e3) (.cons (.bool false) .nil))))) (by omega) (handle_VR _) rfl w hw
      | true =>
        have hk : lawG Tryz.prog 64 20000 3 [.complex .f32 1 0, .complex .f32 0 0, .complex .f32 1 0, u8s 64 (8 * 3 + r3 % 8), .bool true] 0 handle = true := List.all_eq_true.1 runT101_3_1 _ (List.mem_range.2 (by omega))
        rw [show 8 * 3 + r3 % 8 = r3 by omega] at hk
        exact lawG_run (es := es) mixed body hk (.cons (v0) (.cons (v1) (.cons (v2) (.cons (u8s_VR _ w3 e3) (.cons (.bool true) .nil))))) (by omega) (handle_VR _) rfl w hw
    · cases a4 with
      | false =>
        have hk : lawG Tryz.prog 64 20000 3 [.complex .f32 1 0, .complex .f32 0 0, .complex .f32 1 0, u8s 64 (8 * 4 + r3 % 8), .bool false] 0 handle = true := List.all_eq_true.1 runT101_4_0 _ (List.mem_range.2 (by omega))
        rw [show 8 * 4 + r3 % 8 = r3 by omega] at hk
        exact lawG_run (es := es) mixed body hk (.cons (v0) (.cons (v1) (.cons (v2) (.cons (u8s_VR _ w3 e3) (.cons (.bool false) .nil))))) (by omega) (handle_VR _) rfl w hw
      | true =>
        have hk : lawG Tryz.prog 64 20000 3 [.complex .f32 1 0, .complex .f32 0 0, .complex .f32 1 0, u8s 64 (8 * 4 + r3 % 8), .bool true] 0 handle = true := List.all_eq_true.1 runT101_4_1 _ (List.mem_range.2 (by omega))
        rw [show 8 * 4 + r3 % 8 = r3 by omega] at hk
        exact lawG_run (es := es) mixed body hk (.cons (v0) (.cons (v1) (.cons (v2) (.cons (u8s_VR _ w3 e3) (.cons (.bool true) .nil))))) (by omega) (handle_VR _) rfl w hw
    · cases a4 with
      | false =>
        have hk : lawG Tryz.prog 64 20000 3 [.complex .f32 1 0, .complex .f32 0 0, .complex .f32 1 0, u8s 64 (8 * 5 + r3 % 8), .bool false] 0 handle = true := List.all_eq_true.1 runT101_5_0 _ (List.mem_range.2 (by omega))
        rw [show 8 * 5 + r3 % 8 = r3 by omega] at hk
        exact lawG_run (es := es) mixed body hk (.cons (v0) (.cons (v1) (.cons (v2) (.cons (u8s_VR _ w3 e3) (.cons (.bool false) .nil))))) (by omega) (handle_VR _) rfl w hw
      | true =>
        have hk : lawG Tryz.prog 64 20000 3 [.complex .f32 1 0, .complex .f32 0 0, .complex .f32 1 0, u8s 64 (8 * 5 + r3 % 8), .bool true] 0 handle = true := List.all_eq_true.1 runT101_5_1 _ (List.mem_range.2 (by omega))
        rw [show 8 * 5 + r3 % 8 = r3 by omega] at hk
        exact lawG_run (es := es) mixed body hk (.cons (v0) (.cons (v1) (.cons (v2) (.cons (u8s_VR _ w3 e3) (.cons (.bool true) .nil))))) (by omega) (handle_VR _) rfl w hw
    · cases a4 with
      | false =>
        have hk : lawG Tryz.prog 64 20000 3 [.complex .f32 1 0, .complex .f32 0 0, .complex .f32 1 0, u8s 64 (8 * 6 + r3 % 8), .bool false] 0 handle = true := List.all_eq_true.1 runT101_6_0 _ (List.mem_range.2 (by omega))
        rw [show 8 * 6 + r3 % 8 = r3 by omega] at hk
        exact lawG_run (es := es) mixed body hk (.cons (v0) (.cons (v1) (.cons (v2) (.cons (u8s_VR _ w3 e3) (.cons (.bool false) .nil))))) (by omega) (handle_VR _) rfl w hw
      | true =>
        have hk : lawG Tryz.prog 64 20000 3 [.complex .f32 1 0, .complex .f32 0 0, .complex .f32 1 0, u8s 64 (8 * 6 + r3 % 8), .bool true] 0 handle = true := List.all_eq_true.1 runT101_6_1 _ (List.mem_range.2 (by omega))
        rw [show 8 * 6 + r3 % 8 = r3 by omega] at hk
        exact lawG_run (es := es) mixed body hk (.cons (v0) (.cons (v1) (.cons (v2) (.cons (u8s_VR _ w3 e3) (.cons (.bool true) .nil))))) (by omega) (handle_VR _) rfl w hw
    · cases a4 with
      | false =>
        have hk : lawG Tryz.prog 64 20000 3 [.complex .f32 1 0, .complex .f32 0 0, .complex .f32 1 0, u8s 64 (8 * 7 + r3 % 8), .bool false] 0 handle = true := List.all_eq_true.1 runT101_7_0 _ (List.mem_range.2 (by omega))
        rw [show 8 * 7 + r3 % 8 = r3 by omega] at hk
        exact lawG_run (es := es) mixed body hk (.cons (v0) (.cons (v1) (.cons (v2) (.cons (u8s_VR _ w3 e3) (.cons (.bool false) .nil))))) (by omega) (handle_VR _) rfl w hw
      | true =>
        have hk : lawG Tryz.prog 64 20000 3 [.complex .f32 1 0, .complex .f32 0 0, .complex .f32 1 0, u8s 64 (8 * 7 + r3 % 8), .bool true] 0 handle = true := List.all_eq_true.1 runT101_7_1 _ (List.mem_range.2 (by omega))
        rw [show 8 * 7 + r3 % 8 = r3 by omega] at hk
        exact lawG_run (es := es) mixed body hk (.cons (v0) (.cons (v1) (.cons (v2) (.cons (u8s_VR _ w3 e3) (.cons (.bool true) .nil))))) (by omega) (handle_VR _) rfl w hw
  · obtain ⟨r3, h3, e3⟩ := residue a3 64 (by omega)
    have hq3 : r3 / 8 = 0 ∨ r3 / 8 = 1 ∨ r3 / 8 = 2 ∨ r3 / 8 = 3 ∨ r3 / 8 = 4 ∨ r3 / 8 = 5 ∨ r3 / 8 = 6 ∨ r3 / 8 = 7 := by omega
    rcases hq3 with hq3 | hq3 | hq3 | hq3 | hq3 | hq3 | hq3 | hq3
    · cases a4 with
      | false =>
        have hk : lawG Tryz.prog 64 20000 3 [.complex .f32 1 0, .complex .f32 1 0, .complex .f32 0 0, u8s 64 (8 * 0 + r3 % 8), .bool false] 0 handle = true := List.all_eq_true.1 runT110_0_0 _ (List.mem_range.2 (by omega))
        rw [show 8 * 0 + r3 % 8 = r3 by omega] at hk
        exact lawG_run (es := es) mixed body hk (.cons (v0) (.cons (v1) (.cons (v2) (.cons (u8s_VR _ w3 e3) (.cons (.bool false) .nil))))) (by omega) (handle_VR _) rfl w hw
      | true =>
        have hk : lawG Tryz.prog 64 20000 3 [.complex .f32 1 0, .complex .f32 1 0, .complex .f32 0 0, u8s 64 (8 * 0 + r3 % 8), .bool true] 0 handle = true := List.all_eq_true.1 runT110_0_1 _ (List.mem_range.2 (by omega))
        rw [show 8 * 0 + r3 % 8 = r3 by omega] at hk
        exact lawG_run (es := es) mixed body hk (.cons (v0) (.cons (v1) (.cons (v2) (.cons (u8s_VR _ w3 e3) (.cons (.bool true) .nil))))) (by omega) (handle_VR _) rfl w hw
    · cases a4 with
      | false =>
        have hk : lawG Tryz.prog 64 20000 3 [.complex .f32 1 0, .complex .f32 1 0, .complex .f32 0 0, u8s 64 (8 * 1 + r3 % 8), .bool false] 0 handle = true := List.all_eq_true.1 runT110_1_0 _ (List.mem_range.2 (by omega))
        rw [show 8 * 1 + r3 % 8 = r3 by omega] at hk
        exact lawG_run (es := es) mixed body hk (.cons (v0) (.cons (v1) (.cons (v2) (.cons (u8s_VR _ w3 e3) (.cons (.bool false) .nil))))) (by omega) (handle_VR _) rfl w hw
      | true =>
        have hk : lawG Tryz.prog 64 20000 3 [.complex .f32 1 0, .complex .f32 1 0, .complex .f32 0 0, u8s 64 (8 * 1 + r3 % 8), .bool true] 0 handle = true := List.all_eq_true.1 runT110_1_1 _ (List.mem_range.2 (by omega))
        rw [show 8 * 1 + r3 % 8 = r3 by omega] at hk
        exact lawG_run (es := es) mixed body hk (.cons (v0) (.cons (v1) (.cons (v2) (.cons (u8s_VR _ w3 e3) (.cons (.bool true) .nil))))) (by omega) (handle_VR _) rfl w hw
    · cases a4 with
      | false =>
        have hk : lawG Tryz.prog 64 20000 3 [.complex .f32 1 0, .complex .f32 1 0, .complex .f32 0 0, u8s 64 (8 * 2 + r3 % 8), .bool false] 0 handle = true := List.all_eq_true.1 runT110_2_0 _ (List.mem_range.2 (by omega))
        rw [show 8 * 2 + r3 % 8 = r3 by omega] at hk
        exact lawG_run (es := es) mixed body hk (.cons (v0) (.cons (v1) (.cons (v2) (.cons (u8s_VR _ w3 e3) (.cons (.bool false) .nil))))) (by omega) (handle_VR _) rfl w hw
      | true =>
        have hk : lawG Tryz.prog 64 20000 3 [.complex .f32 1 0, .complex .f32 1 0, .complex .f32 0 0, u8s 64 (8 * 2 + r3 % 8), .bool true] 0 handle = true := List.all_eq_true.1 runT110_2_1 _ (List.mem_range.2 (by omega))
        rw [show 8 * 2 + r3 % 8 = r3 by omega] at hk
        exact lawG_run (es := es) mixed body hk (.cons (v0) (.cons (v1) (.cons (v2) (.cons (u8s_VR _ w3 e3) (.cons (.bool true) .nil))))) (by omega) (handle_VR _) rfl w hw
    · cases a4 with
      | false =>
        have hk : lawG Tryz.prog 64 20000 3 [.complex .f32 1 0, .complex .f32 1 0, .complex .f32 0 0, u8s 64 (8 * 3 + r3 % 8), .bool false] 0 handle = true := List.all_eq_true.1 runT110_3_0 _ (List.mem_range.2 (by omega))
        rw [show 8 * 3 + r3 % 8 = r3 by omega] at hk
        exact lawG_run (es := es) mixed body hk (.cons (v0) (.cons (v1) (.cons (v2) (.cons (u8s_VR _ w3 e3) (.cons (.bool false) .nil))))) (by omega) (handle_VR _) rfl w hw
      | true =>
        have hk : lawG Tryz.prog 64 20000 3 [.complex .f32 1 0, .complex .f32 1 0, .complex .f32 0 0, u8s 64 (8 * 3 + r3 % 8), .bool true] 0 handle = true := List.all_eq_true.1 runT110_3_1 _ (List.mem_range.2 (by omega))
        rw [show 8 * 3 + r3 % 8 = r3 by omega] at hk
        exact lawG_run (es := es) mixed body hk (.cons (v0) (.cons (v1) (.cons (v2) (.cons (u8s_VR _ w3 e3) (.cons (.bool true) .nil))))) (by omega) (handle_VR _) rfl w hw
    · cases a4 with
      | false =>
        have hk : lawG Tryz.prog 64 20000 3 [.complex .f32 1 0, .complex .f32 1 0, .complex .f32 0 0, u8s 64 (8 * 4 + r3 % 8), .bool false] 0 handle = true := List.all_eq_true.1 runT110_4_0 _ (List.mem_range.2 (by omega))
        rw [show 8 * 4 + r3 % 8 = r3 by omega] at hk
        exact lawG_run (es := es) mixed body hk (.cons (v0) (.cons (v1) (.cons (v2) (.cons (u8s_VR _ w3 e3) (.cons (.bool false) .nil))))) (by omega) (handle_VR _) rfl w hw
      | true =>
        have hk : lawG Tryz.prog 64 20000 3 [.complex .f32 1 0, .complex .f32 1 0, .complex .f32 0 0, u8s 64 (8 * 4 + r3 % 8), .bool true] 0 handle = true := List.all_eq_true.1 runT110_4_1 _ (List.mem_range.2 (by omega))
        rw [show 8 * 4 + r3 % 8 = r3 by omega] at hk
        exact lawG_run (es := es) mixed body hk (.cons (v0) (.cons (v1) (.cons (v2) (.cons (u8s_VR _ w3 e3) (.cons (.bool true) .nil))))) (by omega) (handle_VR _) rfl w hw
    · cases a4 with
      | false =>
        have hk : lawG Tryz.prog 64 20000 3 [.complex .f32 1 0, .complex .f32 1 0, .complex .f32 0 0, u8s 64 (8 * 5 + r3 % 8), .bool false] 0 handle = true := List.all_eq_true.1 runT110_5_0 _ (List.mem_range.2 (by omega))
        rw [show 8 * 5 + r3 % 8 = r3 by omega] at hk
        exact lawG_run (es := es) mixed body hk (.cons (v0) (.cons (v1) (.cons (v2) (.cons (u8s_VR _ w3 e3) (.cons (.bool false) .nil))))) (by omega) (handle_VR _) rfl w hw
      | true =>
        have hk : lawG Tryz.prog 64 20000 3 [.complex .f32 1 0, .complex .f32 1 0, .complex .f32 0 0, u8s 64 (8 * 5 + r3 % 8), .bool true] 0 handle = true := List.all_eq_true.1 runT110_5_1 _ (List.mem_range.2 (by omega))
        rw [show 8 * 5 + r3 % 8 = r3 by omega] at hk
        exact lawG_run (es := es) mixed body hk (.cons (v0) (.cons (v1) (.cons (v2) (.cons (u8s_VR _ w3 e3) (.cons (.bool true) .nil))))) (by omega) (handle_VR _) rfl w hw
    · cases a4 with
      | false =>
        have hk : lawG Tryz.prog 64 20000 3 [.complex .f32 1 0, .complex .f32 1 0, .complex .f32 0 0, u8s 64 (8 * 6 + r3 % 8), .bool false] 0 handle = true := List.all_eq_true.1 runT110_6_0 _ (List.mem_range.2 (by omega))
        rw [show 8 * 6 + r3 % 8 = r3 by omega] at hk
        exact lawG_run (es := es) mixed body hk (.cons (v0) (.cons (v1) (.cons (v2) (.cons (u8s_VR _ w3 e3) (.cons (.bool false) .nil))))) (by omega) (handle_VR _) rfl w hw
      | true =>
        have hk : lawG Tryz.prog 64 20000 3 [.complex .f32 1 0, .complex .f32 1 0, .complex .f32 0 0, u8s 64 (8 * 6 + r3 % 8), .bool true] 0 handle = true := List.all_eq_true.1 runT110_6_1 _ (List.mem_range.2 (by omega))
        rw [show 8 * 6 + r3 % 8 = r3 by omega] at hk
        exact lawG_run (es := es) mixed body hk (.cons (v0) (.cons (v1) (.cons (v2) (.cons (u8s_VR _ w3 e3) (.cons (.bool true) .nil))))) (by omega) (handle_VR _) rfl w hw
    · cases a4 with
      | false =>
        have hk : lawG Tryz.prog 64 20000 3 [.complex .f32 1 0, .complex .f32 1 0, .complex .f32 0 0, u8s 64 (8 * 7 + r3 % 8), .bool false] 0 handle = true := List.all_eq_true.1 runT110_7_0 _ (List.mem_range.2 (by omega))
        rw [show 8 * 7 + r3 % 8 = r3 by omega] at hk
        exact lawG_run (es := es) mixed body hk (.cons (v0) (.cons (v1) (.cons (v2) (.cons (u8s_VR _ w3 e3) (.cons (.bool false) .nil))))) (by omega) (handle_VR _) rfl w hw
      | true =>
        have hk : lawG Tryz.prog 64 20000 3 [.complex .f32 1 0, .complex .f32 1 0, .complex .f32 0 0, u8s 64 (8 * 7 + r3 % 8), .bool true] 0 handle = true := List.all_eq_true.1 runT110_7_1 _ (List.mem_range.2 (by omega))
        rw [show 8 * 7 + r3 % 8 = r3 by omega] at hk
        exact lawG_run (es := es) mixed body hk (.cons (v0) (.cons (v1) (.cons (v2) (.cons (u8s_VR _ w3 e3) (.cons (.bool true) .nil))))) (by omega) (handle_VR _) rfl w hw
  · obtain ⟨r3, h3, e3⟩ := residue a3 64 (by omega)
    have hq3 : r3 / 8 = 0 ∨ r3 / 8 = 1 ∨ r3 / 8 = 2 ∨ r3 / 8 = 3 ∨ r3 / 8 = 4 ∨ r3 / 8 = 5 ∨ r3 / 8 = 6 ∨ r3 / 8 = 7 := by omega
    rcases hq3 with hq3 | hq3 | hq3 | hq3 | hq3 | hq3 | hq3 | hq3
    · cases a4 with
      | false =>
        have hk : lawG Tryz.prog 64 20000 3 [.complex .f32 0 0, .complex .f32 1 0, .complex .f32 2 0, u8s 64 (8 * 0 + r3 % 8), .bool false] 0 handle = true := List.all_eq_true.1 runT012_0_0 _ (List.mem_range.2 (by omega))
        rw [show 8 * 0 + r3 % 8 = r3 by omega] at hk
        exact lawG_run (es := es) mixed body hk (.cons (v0) (.cons (v1) (.cons (v2) (.cons (u8s_VR _ w3 e3) (.cons (.bool false) .nil))))) (by omega) (handle_VR _) rfl w hw
      | true =>
        have hk : lawG Tryz.prog 64 20000 3 [.complex .f32 0 0, .complex .f32 1 0, .complex .f32 2 0, u8s 64 (8 * 0 + r3 % 8), .bool true] 0 handle = true := List.all_eq_true.1 runT012_0_1 _ (List.mem_range.2 (by omega))
        rw [show 8 * 0 + r3 % 8 = r3 by omega] at hk
        exact lawG_run (es := es) mixed body hk (.cons (v0) (.cons (v1) (.cons (v2) (.cons (u8s_VR _ w3 e3) (.cons (.bool true) .nil))))) (by omega) (handle_VR _) rfl w hw
    · cases a4 with
      | false =>
        have hk : lawG Tryz.prog 64 20000 3 [.complex .f32 0 0, .complex .f32 1 0, .complex .f32 2 0, u8s 64 (8 * 1 + r3 % 8), .bool false] 0 handle = true := List.all_eq_true.1 runT012_1_0 _ (List.mem_range.2 (by omega))
        rw [show 8 * 1 + r3 % 8 = r3 by omega] at hk
        exact lawG_run (es := es) mixed body hk (.cons (v0) (.cons (v1) (.cons (v2) (.cons (u8s_VR _ w3 e3) (.cons (.bool false) .nil))))) (by omega) (handle_VR _) rfl w hw
      | true =>
        have hk : lawG Tryz.prog 64 20000 3 [.complex .f32 0 0, .complex .f32 1 0, .complex .f32 2 0, u8s 64 (8 * 1 + r3 % 8), .bool true] 0 handle = true := List.all_eq_true.1 runT012_1_1 _ (List.mem_range.2 (by omega))
        rw [show 8 * 1 + r3 % 8 = r3 by omega] at hk
        exact lawG_run (es := es) mixed body hk (.cons (v0) (.cons (v1) (.cons (v2) (.cons (u8s_VR _ w3 e3) (.cons (.bool true) .nil))))) (by omega) (handle_VR _) rfl w hw
    · cases a4 with
      | false =>
        have hk : lawG Tryz.prog 64 20000 3 [.complex .f32 0 0, .complex .f32 1 0, .complex .f32 2 0, u8s 64 (8 * 2 + r3 % 8), .bool false] 0 handle = true := List.all_eq_true.1 runT012_2_0 _ (List.mem_range.2 (by omega))
        rw [show 8 * 2 + r3 % 8 = r3 by omega] at hk
        exact lawG_run (es := es) mixed body hk (.cons (v0) (.cons (v1) (.cons (v2) (.cons (u8s_VR _ w3 e3) (.cons (.bool false) .nil))))) (by omega) (handle_VR _) rfl w hw
      | true =>
        have hk : lawG Tryz.prog 64 20000 3 [.complex .f32 0 0, .complex .f32 1 0, .complex .f32 2 0, u8s 64 (8 * 2 + r3 % 8), .bool true] 0 handle = true := List.all_eq_true.1 runT012_2_1 _ (List.mem_range.2 (by omega))
        rw [show 8 * 2 + r3 % 8 = r3 by omega] at hk
        exact lawG_run (es := es) mixed body hk (.cons (v0) (.cons (v1) (.cons (v2) (.cons (u8s_VR _ w3 e3) (.cons (.bool true) .nil))))) (by omega) (handle_VR _) rfl w hw
    · cases a4 with
      | false =>
        have hk : lawG Tryz.prog 64 20000 3 [.complex .f32 0 0, .complex .f32 1 0, .complex .f32 2 0, u8s 64 (8 * 3 + r3 % 8), .bool false] 0 handle = true := List.all_eq_true.1 runT012_3_0 _ (List.mem_range.2 (by omega))
        rw [show 8 * 3 + r3 % 8 = r3 by omega] at hk
        exact lawG_run (es := es) mixed body hk (.cons (v0) (.cons (v1) (.cons (v2) (.cons (u8s_VR _ w3 e3) (.cons (.bool false) .nil))))) (by omega) (handle_VR _) rfl w hw
      | true =>
        have hk : lawG Tryz.prog 64 20000 3 [.complex .f32 0 0, .complex .f32 1 0, .complex .f32 2 0, u8s 64 (8 * 3 + r3 % 8), .bool true] 0 handle = true := List.all_eq_true.1 runT012_3_1 _ (List.mem_range.2 (by omega))
        rw [show 8 * 3 + r3 % 8 = r3 by omega] at hk
        exact lawG_run (es := es) mixed body hk (.cons (v0) (.cons (v1) (.cons (v2) (.cons (u8s_VR _ w3 e3) (.cons (.bool true) .nil))))) (by omega) (handle_VR _) rfl w hw
    · cases a4 with
      | false =>
        have hk : lawG Tryz.prog 64 20000 3 [.complex .f32 0 0, .complex .f32 1 0, .complex .f32 2 0, u8s 64 (8 * 4 + r3 % 8), .bool false] 0 handle = true := List.all_eq_true.1 runT012_4_0 _ (List.mem_range.2 (by omega))
        rw [show 8 * 4 + r3 % 8 = r3 by omega] at hk
        exact lawG_run (es := es) mixed body hk (.cons (v0) (.cons (v1) (.cons (v2) (.cons (u8s_VR _ w3 e3) (.cons (.bool false) .nil))))) (by omega) (handle_VR _) rfl w hw
      | true =>
        have hk : lawG Tryz.prog 64 20000 3 [.complex .f32 0 0, .complex .f32 1 0, .complex .f32 2 0, u8s 64 (8 * 4 + r3 % 8), .bool true] 0 handle = true := List.all_eq_true.1 runT012_4_1 _ (List.mem_range.2 (by omega))
        rw [show 8 * 4 + r3 % 8 = r3 by omega] at hk
        exact lawG_run (es := es) mixed body hk (.cons (v0) (.cons (v1) (.cons (v2) (.cons (u8s_VR _ w3 e3) (.cons (.bool true) .nil))))) (by omega) (handle_VR _) rfl w hw
    · cases a4 with
      | false =>
        have hk : lawG Tryz.prog 64 20000 3 [.complex .f32 0 0, .complex .f32 1 0, .complex .f32 2 0, u8s 64 (8 * 5 + r3 % 8), .bool false] 0 handle = true := List.all_eq_true.1 runT012_5_0 _ (List.mem_range.2 (by omega))
        rw [show 8 * 5 + r3 % 8 = r3 by omega] at hk
        exact lawG_run (es := es) mixed body hk (.cons (v0) (.cons (v1) (.cons (v2) (.cons (u8s_VR _ w3 e3) (.cons (.bool false) .nil))))) (by omega) (handle_VR _) rfl w hw
      | true =>
        have hk : lawG Tryz.prog 64 20000 3 [.complex .f32 0 0, .complex .f32 1 0, .complex .f32 2 0, u8s 64 (8 * 5 + r3 % 8), .bool true] 0 handle = true := List.all_eq_true.1 runT012_5_1 _ (List.mem_range.2 (by omega))
        rw [show 8 * 5 + r3 % 8 = r3 by omega] at hk
        exact lawG_run (es := es) mixed body hk (.cons (v0) (.cons (v1) (.cons (v2) (.cons (u8s_VR _ w3 e3) (.cons (.bool true) .nil))))) (by omega) (handle_VR _) rfl w hw
    · cases a4 with
      | false =>
        have hk : lawG Tryz.prog 64 20000 3 [.complex .f32 0 0, .complex .f32 1 0, .complex .f32 2 0, u8s 64 (8 * 6 + r3 % 8), .bool false] 0 handle = true := List.all_eq_true.1 runT012_6_0 _ (List.mem_range.2 (by omega))
        rw [show 8 * 6 + r3 % 8 = r3 by omega] at hk
        exact lawG_run (es := es) mixed body hk (.cons (v0) (.cons (v1) (.cons (v2) (.cons (u8s_VR _ w3 e3) (.cons (.bool false) .nil))))) (by omega) (handle_VR _) rfl w hw
      | true =>
        have hk : lawG Tryz.prog 64 20000 3 [.complex .f32 0 0, .complex .f32 1 0, .complex .f32 2 0, u8s 64 (8 * 6 + r3 % 8), .bool true] 0 handle = true := List.all_eq_true.1 runT012_6_1 _ (List.mem_range.2 (by omega))
        rw [show 8 * 6 + r3 % 8 = r3 by omega] at hk
        exact lawG_run (es := es) mixed body hk (.cons (v0) (.cons (v1) (.cons (v2) (.cons (u8s_VR _ w3 e3) (.cons (.bool true) .nil))))) (by omega) (handle_VR _) rfl w hw
    · cases a4 with
      | false =>
        have hk : lawG Tryz.prog 64 20000 3 [.complex .f32 0 0, .complex .f32 1 0, .complex .f32 2 0, u8s 64 (8 * 7 + r3 % 8), .bool false] 0 handle = true := List.all_eq_true.1 runT012_7_0 _ (List.mem_range.2 (by omega))
        rw [show 8 * 7 + r3 % 8 = r3 by omega] at hk
        exact lawG_run (es := es) mixed body hk (.cons (v0) (.cons (v1) (.cons (v2) (.cons (u8s_VR _ w3 e3) (.cons (.bool false) .nil))))) (by omega) (handle_VR _) rfl w hw
      | true =>
        have hk : lawG Tryz.prog 64 20000 3 [.complex .f32 0 0, .complex .f32 1 0, .complex .f32 2 0, u8s 64 (8 * 7 + r3 % 8), .bool true] 0 handle = true := List.all_eq_true.1 runT012_7_1 _ (List.mem_range.2 (by omega))
        rw [show 8 * 7 + r3 % 8 = r3 by omega] at hk
        exact lawG_run (es := es) mixed body hk (.cons (v0) (.cons (v1) (.cons (v2) (.cons (u8s_VR _ w3 e3) (.cons (.bool true) .nil))))) (by omega) (handle_VR _) rfl w hw
  · obtain ⟨r3, h3, e3⟩ := residue a3 64 (by omega)
    have hq3 : r3 / 8 = 0 ∨ r3 / 8 = 1 ∨ r3 / 8 = 2 ∨ r3 / 8 = 3 ∨ r3 / 8 = 4 ∨ r3 / 8 = 5 ∨ r3 / 8 = 6 ∨ r3 / 8 = 7 := by omega
    rcases hq3 with hq3 | hq3 | hq3 | hq3 | hq3 | hq3 | hq3 | hq3
    · cases a4 with
      | false =>
        have hk : lawG Tryz.prog 64 20000 3 [.complex .f32 0 0, .complex .f32 2 0, .complex .f32 1 0, u8s 64 (8 * 0 + r3 % 8), .bool false] 0 handle = true := List.all_eq_true.1 runT021_0_0 _ (List.mem_range.2 (by omega))
        rw [show 8 * 0 + r3 % 8 = r3 by omega] at hk
        exact lawG_run (es := es) mixed body hk (.cons (v0) (.cons (v1) (.cons (v2) (.cons (u8s_VR _ w3 e3) (.cons (.bool false) .nil))))) (by omega) (handle_VR _) rfl w hw
      | true =>
        have hk : lawG Tryz.prog 64 20000 3 [.complex .f32 0 0, .complex .f32 2 0, .complex .f32 1 0, u8s 64 (8 * 0 + r3 % 8), .bool true] 0 handle = true := List.all_eq_true.1 runT021_0_1 _ (List.mem_range.2 (by omega))
        rw [show 8 * 0 + r3 % 8 = r3 by omega] at hk
        exact lawG_run (es := es) mixed body hk (.cons (v0) (.cons (v1) (.cons (v2) (.cons (u8s_VR _ w3 e3) (.cons (.bool true) .nil))))) (by omega) (handle_VR _) rfl w hw
    · cases a4 with
      | false =>
        have hk : lawG Tryz.prog 64 20000 3 [.complex .f32 0 0, .complex .f32 2 0, .complex .f32 1 0, u8s 64 (8 * 1 + r3 % 8), .bool false] 0 handle = true := List.all_eq_true.1 runT021_1_0 _ (List.mem_range.2 (by omega))
        rw [show 8 * 1 + r3 % 8 = r3 by omega] at hk
        exact lawG_run (es := es) mixed body hk (.cons (v0) (.cons (v1) (.cons (v2) (.cons (u8s_VR _ w3 e3) (.cons (.bool false) .nil))))) (by omega) (handle_VR _) rfl w hw
      | true =>
        have hk : lawG Tryz.prog 64 20000 3 [.complex .f32 0 0, .complex .f32 2 0, .complex .f32 1 0, u8s 64 (8 * 1 + r3 % 8), .bool true] 0 handle = true := List.all_eq_true.1 runT021_1_1 _ (List.mem_range.2 (by omega))
        rw [show 8 * 1 + r3 % 8 = r3 by omega] at hk
        exact lawG_run (es := es) mixed body hk (.cons (v0) (.cons (v1) (.cons (v2) (.cons (u8s_VR _ w3 e3) (.cons (.bool true) .nil))))) (by omega) (handle_VR _) rfl w hw
    · cases a4 with
      | false =>
        have hk : lawG Tryz.prog 64 20000 3 [.complex .f32 0 0, .complex .f32 2 0, .complex .f32 1 0, u8s 64 (8 * 2 + r3 % 8), .bool false] 0 handle = true := List.all_eq_true.1 runT021_2_0 _ (List.mem_range.2 (by omega))
        rw [show 8 * 2 + r3 % 8 = r3 by omega] at hk
        exact lawG_run (es := es) mixed body hk (.cons (v0) (.cons (v1) (.cons (v2) (.cons (u8s_VR _ w3 e3) (.cons (.bool false) .nil))))) (by omega) (handle_VR _) rfl w hw
      | true =>
        have hk : lawG Tryz.prog 64 20000 3 [.complex .f32 0 0, .complex .f32 2 0, .complex .f32 1 0, u8s 64 (8 * 2 + r3 % 8), .bool true] 0 handle = true := List.all_eq_true.1 runT021_2_1 _ (List.mem_range.2 (by omega))
        rw [show 8 * 2 + r3 % 8 = r3 by omega] at hk
        exact lawG_run (es := es) mixed body hk (.cons (v0) (.cons (v1) (.cons (v2) (.cons (u8s_VR _ w3 e3) (.cons (.bool true) .nil))))) (by omega) (handle_VR _) rfl w hw
    · cases a4 with
      | false =>
        have hk : lawG Tryz.prog 64 20000 3 [.complex .f32 0 0, .complex .f32 2 0, .complex .f32 1 0, u8s 64 (8 * 3 + r3 % 8), .bool false] 0 handle = true := List.all_eq_true.1 runT021_3_0 _ (List.mem_range.2 (by omega))
        rw [show 8 * 3 + r3 % 8 = r3 by omega] at hk
        exact lawG_run (es := es) mixed body hk (.cons (v0) (.cons (v1) (.cons (v2) (.cons (u8s_VR _ w3 e3) (.cons (.bool false) .nil))))) (by omega) (handle_VR _) rfl w hw
      | true =>
        have hk : lawG Tryz.prog 64 20000 3 [.complex .f32 0 0, .complex .f32 2 0, .complex .f32 1 0, u8s 64 (8 * 3 + r3 % 8), .bool true] 0 handle = true := List.all_eq_true.1 runT021_3_1 _ (List.mem_range.2 (by omega))
        rw [show 8 * 3 + r3 % 8 = r3 by omega] at hk
        exact lawG_run (es := es) mixed body hk (.cons (v0) (.cons (v1) (.cons (v2) (.cons (u8s_VR _ w3 e3) (.cons (.bool true) .nil))))) (by omega) (handle_VR _) rfl w hw
    · cases a4 with
      | false =>
        have hk : lawG Tryz.prog 64 20000 3 [.complex .f32 0 0, .complex .f32 2 0, .complex .f32 1 0, u8s 64 (8 * 4 + r3 % 8), .bool false] 0 handle = true := List.all_eq_true.1 runT021_4_0 _ (List.mem_range.2 (by omega))
        rw [show 8 * 4 + r3 % 8 = r3 by omega] at hk
        exact lawG_run (es := es) mixed body hk (.cons (v0) (.cons (v1) (.cons (v2) (.cons (u8s_VR _ w3 e3) (.cons (.bool false) .nil))))) (by omega) (handle_VR _) rfl w hw
      | true =>
        have hk : lawG Tryz.prog 64 20000 3 [.complex .f32 0 0, .complex .f32 2 0, .complex .f32 1 0, u8s 64 (8 * 4 + r3 % 8), .bool true] 0 handle = true := List.all_eq_true.1 runT021_4_1 _ (List.mem_range.2 (by omega))
        rw [show 8 * 4 + r3 % 8 = r3 by omega] at hk
        exact lawG_run (es := es) mixed body hk (.cons (v0) (.cons (v1) (.cons (v2) (.cons (u8s_VR _ w3 e3) (.cons (.bool true) .nil))))) (by omega) (handle_VR _) rfl w hw
    · cases a4 with
      | false =>
        have hk : lawG Tryz.prog 64 20000 3 [.complex .f32 0 0, .complex .f32 2 0, .complex .f32 1 0, u8s 64 (8 * 5 + r3 % 8), .bool false] 0 handle = true := List.all_eq_true.1 runT021_5_0 _ (List.mem_range.2 (by omega))
        rw [show 8 * 5 + r3 % 8 = r3 by omega] at hk
        exact lawG_run (es := es) mixed body hk (.cons (v0) (.cons (v1) (.cons (v2) (.cons (u8s_VR _ w3 e3) (.cons (.bool false) .nil))))) (by omega) (handle_VR _) rfl w hw
      | true =>
        have hk : lawG Tryz.prog 64 20000 3 [.complex .f32 0 0, .complex .f32 2 0, .complex .f32 1 0, u8s 64 (8 * 5 + r3 % 8), .bool true] 0 handle = true := List.all_eq_true.1 runT021_5_1 _ (List.mem_range.2 (by omega))
        rw [show 8 * 5 + r3 % 8 = r3 by omega] at hk
        exact lawG_run (es := es) mixed body hk (.cons (v0) (.cons (v1) (.cons (v2) (.cons (u8s_VR _ w3 e3) (.cons (.bool true) .nil))))) (by omega) (handle_VR _) rfl w hw
    · cases a4 with
      | false =>
        have hk : lawG Tryz.prog 64 20000 3 [.complex .f32 0 0, .complex .f32 2 0, .complex .f32 1 0, u8s 64 (8 * 6 + r3 % 8), .bool false] 0 handle = true := List.all_eq_true.1 runT021_6_0 _ (List.mem_range.2 (by omega))
        rw [show 8 * 6 + r3 % 8 = r3 by omega] at hk
        exact lawG_run (es := es) mixed body hk (.cons (v0) (.cons (v1) (.cons (v2) (.cons (u8s_VR _ w3 e3) (.cons (.bool false) .nil))))) (by omega) (handle_VR _) rfl w hw
      | true =>
        have hk : lawG Tryz.prog 64 20000 3 [.complex .f32 0 0, .complex .f32 2 0, .complex .f32 1 0, u8s 64 (8 * 6 + r3 % 8), .bool true] 0 handle = true := List.all_eq_true.1 runT021_6_1 _ (List.mem_range.2 (by omega))
        rw [show 8 * 6 + r3 % 8 = r3 by omega] at hk
        exact lawG_run (es := es) mixed body hk (.cons (v0) (.cons (v1) (.cons (v2) (.cons (u8s_VR _ w3 e3) (.cons (.bool true) .nil))))) (by omega) (handle_VR _) rfl w hw
    · cases a4 with
      | false =>
        have hk : lawG Tryz.prog 64 20000 3 [.complex .f32 0 0, .complex .f32 2 0, .complex .f32 1 0, u8s 64 (8 * 7 + r3 % 8), .bool false] 0 handle = true := List.all_eq_true.1 runT021_7_0 _ (List.mem_range.2 (by omega))
        rw [show 8 * 7 + r3 % 8 = r3 by omega] at hk
        exact lawG_run (es := es) mixed body hk (.cons (v0) (.cons (v1) (.cons (v2) (.cons (u8s_VR _ w3 e3) (.cons (.bool false) .nil))))) (by omega) (handle_VR _) rfl w hw
      | true =>
        have hk : lawG Tryz.prog 64 20000 3 [.complex .f32 0 0, .complex .f32 2 0, .complex .f32 1 0, u8s 64 (8 * 7 + r3 % 8), .bool true] 0 handle = true := List.all_eq_true.1 runT021_7_1 _ (List.mem_range.2 (by omega))
        rw [show 8 * 7 + r3 % 8 = r3 by omega] at hk
        exact lawG_run (es := es) mixed body hk (.cons (v0) (.cons (v1) (.cons (v2) (.cons (u8s_VR _ w3 e3) (.cons (.bool true) .nil))))) (by omega) (handle_VR _) rfl w hw
  · obtain ⟨r3, h3, e3⟩ := residue a3 64 (by omega)
    have hq3 : r3 / 8 = 0 ∨ r3 / 8 = 1 ∨ r3 / 8 = 2 ∨ r3 / 8 = 3 ∨ r3 / 8 = 4 ∨ r3 / 8 = 5 ∨ r3 / 8 = 6 ∨ r3 / 8 = 7 := by omega
    rcases hq3 with hq3 | hq3 | hq3 | hq3 | hq3 | hq3 | hq3 | hq3
    · cases a4 with
      | false =>
        have hk : lawG Tryz.prog 64 20000 3 [.complex .f32 1 0, .complex .f32 0 0, .complex .f32 2 0, u8s 64 (8 * 0 + r3 % 8), .bool false] 0 handle = true := List.all_eq_true.1 runT102_0_0 _ (List.mem_range.2 (by omega))
        rw [show 8 * 0 + r3 % 8 = r3 by omega] at hk
        exact lawG_run (es := es) mixed body hk (.cons (v0) (.cons (v1) (.cons (v2) (.cons (u8s_VR _ w3 e3) (.cons (.bool false) .nil))))) (by omega) (handle_VR _) rfl w hw
      | true =>
        have hk : lawG Tryz.prog 64 20000 3 [.complex .f32 1 0, .complex .f32 0 0, .complex .f32 2 0, u8s 64 (8 * 0 + r3 % 8), .bool true] 0 handle = true := List.all_eq_true.1 runT102_0_1 _ (List.mem_range.2 (by omega))
        rw [show 8 * 0 + r3 % 8 = r3 by omega] at hk
        exact lawG_run (es := es) mixed body hk (.cons (v0) (.cons (v1) (.cons (v2) (.cons (u8s_VR _ w3 e3) (.cons (.bool true) .nil))))) (by omega) (handle_VR _) rfl w hw
    · cases a4 with
      | false =>
        have hk : lawG Tryz.prog 64 20000 3 [.complex .f32 1 0, .complex .f32 0 0, .complex .f32 2 0, u8s 64 (8 * 1 + r3 % 8), .bool false] 0 handle = true := List.all_eq_true.1 runT102_1_0 _ (List.mem_range.2 (by omega))
        rw [show 8 * 1 + r3 % 8 = r3 by omega] at hk
        exact lawG_run (es := es) mixed body hk (.cons (v0) (.cons (v1) (.cons (v2) (.cons (u8s_VR _ w3 e3) (.cons (.bool false) .nil))))) (by omega) (handle_VR _) rfl w hw
      | true =>
        have hk : lawG Tryz.prog 64 20000 3 [.complex .f32 1 0, .complex .f32 0 0, .complex .f32 2 0, u8s 64 (8 * 1 + r3 % 8), .bool true] 0 handle = true := List.all_eq_true.1 runT102_1_1 _ (List.mem_range.2 (by omega))
        rw [show 8 * 1 + r3 % 8 = r3 by omega] at hk
        exact lawG_run (es := es) mixed body hk (.cons (v0) (.cons (v1) (.cons (v2) (.cons (u8s_VR _ w3 e3) (.cons (.bool true) .nil))))) (by omega) (handle_VR _) rfl w hw
    · cases a4 with
      | false =>
        have hk : lawG Tryz.prog 64 20000 3 [.complex .f32 1 0, .complex .f32 0 0, .complex .f32 2 0, u8s 64 (8 * 2 + r3 % 8), .bool false] 0 handle = true := List.all_eq_true.1 runT102_2_0 _ (List.mem_range.2 (by omega))
        rw [show 8 * 2 + r3 % 8 = r3 by omega] at hk
        exact lawG_run (es := es) mixed body hk (.cons (v0) (.cons (v1) (.cons (v2) (.cons (u8s_VR _ w3 e3) (.cons (.bool false) .nil))))) (by omega) (handle_VR _) rfl w hw
      | true =>
        have hk : lawG Tryz.prog 64 20000 3 [.complex .f32 1 0, .complex .f32 0 0, .complex .f32 2 0, u8s 64 (8 * 2 + r3 % 8), .bool true] 0 handle = true := List.all_eq_true.1 runT102_2_1 _ (List.mem_range.2 (by omega))
        rw [show 8 * 2 + r3 % 8 = r3 by omega] at hk
        exact lawG_run (es := es) mixed body hk (.cons (v0) (.cons (v1) (.cons (v2) (.cons (u8s_VR _ w3 e3) (.cons (.bool true) .nil))))) (by omega) (handle_VR _) rfl w hw
    · cases a4 with
      | false =>
        have hk : lawG Tryz.prog 64 20000 3 [.complex .f32 1 0, .complex .f32 0 0, .complex .f32 2 0, u8s 64 (8 * 3 + r3 % 8), .bool false] 0 handle = true := List.all_eq_true.1 runT102_3_0 _ (List.mem_range.2 (by omega))
        rw [show 8 * 3 + r3 % 8 = r3 by omega] at hk
        exact lawG_run (es := es) mixed body hk (.cons (v0) (.cons (v1) (.cons (v2) (.cons (u8s_VR _ w3 e3) (.cons (.bool false) .nil))))) (by omega) (handle_VR _) rfl w hw
      | true =>
        have hk : lawG Tryz.prog 64 20000 3 [.complex .f32 1 0, .complex .f32 0 0, .complex .f32 2 0, u8s 64 (8 * 3 + r3 % 8), .bool true] 0 handle = true := List.all_eq_true.1 runT102_3_1 _ (List.mem_range.2 (by omega))
        rw [show 8 * 3 + r3 % 8 = r3 by omega] at hk
        exact lawG_run (es := es) mixed body hk (.cons (v0) (.cons (v1) (.cons (v2) (.cons (u8s_VR _ w3 e3) (.cons (.bool true) .nil))))) (by omega) (handle_VR _) rfl w hw
    · cases a4 with
      | false =>
        have hk : lawG Tryz.prog 64 20000 3 [.complex .f32 1 0, .complex .f32 0 0, .complex .f32 2 0, u8s 64 (8 * 4 + r3 % 8), .bool false] 0 handle = true := List.all_eq_true.1 runT102_4_0 _ (List.mem_range.2 (by omega))
        rw [show 8 * 4 + r3 % 8 = r3 by omega] at hk
        exact lawG_run (es := es) mixed body hk (.cons (v0) (.cons (v1) (.cons (v2) (.cons (u8s_VR _ w3 e3) (.cons (.bool false) .nil))))) (by omega) (handle_VR _) rfl w hw
      | true =>
        have hk : lawG Tryz.prog 64 20000 3 [.complex .f32 1 0, .complex .f32 0 0, .complex .f32 2 0, u8s 64 (8 * 4 + r3 % 8), .bool true] 0 handle = true := List.all_eq_true.1 runT102_4_1 _ (List.mem_range.2 (by omega))
        rw [show 8 * 4 + r3 % 8 = r3 by omega] at hk
        exact lawG_run (es := es) mixed body hk (.cons (v0) (.cons (v1) (.cons (v2) (.cons (u8s_VR _ w3 e3) (.cons (.bool true) .nil))))) (by omega) (handle_VR _) rfl w hw
    · cases a4 with
      | false =>
        have hk : lawG Tryz.prog 64 20000 3 [.complex .f32 1 0, .complex .f32 0 0, .complex .f32 2 0, u8s 64 (8 * 5 + r3 % 8), .bool false] 0 handle = true := List.all_eq_true.1 runT102_5_0 _ (List.mem_range.2 (by omega))
        rw [show 8 * 5 + r3 % 8 = r3 by omega] at hk
        exact lawG_run (es := es) mixed body hk (.cons (v0) (.cons (v1) (.cons (v2) (.cons (u8s_VR _ w3 e3) (.cons (.bool false) .nil))))) (by omega) (handle_VR _) rfl w hw
      | true =>
        have hk : lawG Tryz.prog 64 20000 3 [.complex .f32 1 0, .complex .f32 0 0, .complex .f32 2 0, u8s 64 (8 * 5 + r3 % 8), .bool true] 0 handle = true := List.all_eq_true.1 runT102_5_1 _ (List.mem_range.2 (by omega))
        rw [show 8 * 5 + r3 % 8 = r3 by omega] at hk
        exact lawG_run (es := es) mixed body hk (.cons (v0) (.cons (v1) (.cons (v2) (.cons (u8s_VR _ w3 e3) (.cons (.bool true) .nil))))) (by omega) (handle_VR _) rfl w hw
    · cases a4 with
      | false =>
        have hk : lawG Tryz.prog 64 20000 3 [.complex .f32 1 0, .complex .f32 0 0, .complex .f32 2 0, u8s 64 (8 * 6 + r3 % 8), .bool false] 0 handle = true := List.all_eq_true.1 runT102_6_0 _ (List.mem_range.2 (by omega))
        rw [show 8 * 6 + r3 % 8 = r3 by omega] at hk
        exact lawG_run (es := es) mixed body hk (.cons (v0) (.cons (v1) (.cons (v2) (.cons (u8s_VR _ w3 e3) (.cons (.bool false) .nil))))) (by omega) (handle_VR _) rfl w hw
      | true =>
        have hk : lawG Tryz.prog 64 20000 3 [.complex .f32 1 0, .complex .f32 0 0, .complex .f32 2 0, u8s 64 (8 * 6 + r3 % 8), .bool true] 0 handle = true := List.all_eq_true.1 runT102_6_1 _ (List.mem_range.2 (by omega))
        rw [show 8 * 6 + r3 % 8 = r3 by omega] at hk
        exact lawG_run (es := es) mixed body hk (.cons (v0) (.cons (v1) (.cons (v2) (.cons (u8s_VR _ w3 e3) (.cons (.bool true) .nil))))) (by omega) (handle_VR _) rfl w hw
    · cases a4 with
      | false =>
        have hk : lawG Tryz.prog 64 20000 3 [.complex .f32 1 0, .complex .f32 0 0, .complex .f32 2 0, u8s 64 (8 * 7 + r3 % 8), .bool false] 0 handle = true := List.all_eq_true.1 runT102_7_0 _ (List.mem_range.2 (by omega))
        rw [show 8 * 7 + r3 % 8 = r3 by omega] at hk
        exact lawG_run (es := es) mixed body hk (.cons (v0) (.cons (v1) (.cons (v2) (.cons (u8s_VR _ w3 e3) (.cons (.bool false) .nil))))) (by omega) (handle_VR _) rfl w hw
      | true =>
        have hk : lawG Tryz.prog 64 20000 3 [.complex .f32 1 0, .complex .f32 0 0, .complex .f32 2 0, u8s 64 (8 * 7 + r3 % 8), .bool true] 0 handle = true := List.all_eq_true.1 runT102_7_1 _ (List.mem_range.2 (by omega))
        rw [show 8 * 7 + r3 % 8 = r3 by omega] at hk
        exact lawG_run (es := es) mixed body hk (.cons (v0) (.cons (v1) (.cons (v2) (.cons (u8s_VR _ w3 e3) (.cons (.bool true) .nil))))) (by omega) (handle_VR _) rfl w hw
  · obtain ⟨r3, h3, e3⟩ := residue a3 64 (by omega)
    have hq3 : r3 / 8 = 0 ∨ r3 / 8 = 1 ∨ r3 / 8 = 2 ∨ r3 / 8 = 3 ∨ r3 / 8 = 4 ∨ r3 / 8 = 5 ∨ r3 / 8 = 6 ∨ r3 / 8 = 7 := by omega
    rcases hq3 with hq3 | hq3 | hq3 | hq3 | hq3 | hq3 | hq3 | hq3
    · cases a4 with
      | false =>
        have hk : lawG Tryz.prog 64 20000 3 [.complex .f32 1 0, .complex .f32 2 0, .complex .f32 0 0, u8s 64 (8 * 0 + r3 % 8), .bool false] 0 handle = true := List.all_eq_true.1 runT120_0_0 _ (List.mem_range.2 (by omega))
        rw [show 8 * 0 + r3 % 8 = r3 by omega] at hk
        exact lawG_run (es := es) mixed body hk (.cons (v0) (.cons (v1) (.cons (v2) (.cons (u8s_VR _ w3 e3) (.cons (.bool false) .nil))))) (by omega) (handle_VR _) rfl w hw
      | true =>
        have hk : lawG Tryz.prog 64 20000 3 [.complex .f32 1 0, .complex .f32 2 0, .complex .f32 0 0, u8s 64 (8 * 0 + r3 % 8), .bool true] 0 handle = true := List.all_eq_true.1 runT120_0_1 _ (List.mem_range.2 (by omega))
        rw [show 8 * 0 + r3 % 8 = r3 by omega] at hk
        exact lawG_run (es := es) mixed body hk (.cons (v0) (.cons (v1) (.cons (v2) (.cons (u8s_VR _ w3 e3) (.cons (.bool true) .nil))))) (by omega) (handle_VR _) rfl w hw
    · cases a4 with
      | false =>
        have hk : lawG Tryz.prog 64 20000 3 [.complex .f32 1 0, .complex .f32 2 0, .complex .f32 0 0, u8s 64 (8 * 1 + r3 % 8), .bool false] 0 handle = true := List.all_eq_true.1 runT120_1_0 _ (List.mem_range.2 (by omega))
        rw [show 8 * 1 + r3 % 8 = r3 by omega] at hk
        exact lawG_run (es := es) mixed body hk (.cons (v0) (.cons (v1) (.cons (v2) (.cons (u8s_VR _ w3 e3) (.cons (.bool false) .nil))))) (by omega) (handle_VR _) rfl w hw
      | true =>
        have hk : lawG Tryz.prog 64 20000 3 [.complex .f32 1 0, .complex .f32 2 0, .complex .f32 0 0, u8s 64 (8 * 1 + r3 % 8), .bool true] 0 handle = true := List.all_eq_true.1 runT120_1_1 _ (List.mem_range.2 (by omega))
        rw [show 8 * 1 + r3 % 8 = r3 by omega] at hk
        exact lawG_run (es := es) mixed body hk (.cons (v0) (.cons (v1) (.cons (v2) (.cons (u8s_VR _ w3 e3) (.cons (.bool true) .nil))))) (by omega) (handle_VR _) rfl w hw
    · cases a4 with
      | false =>
        have hk : lawG Tryz.prog 64 20000 3 [.complex .f32 1 0, .complex .f32 2 0, .complex .f32 0 0, u8s 64 (8 * 2 + r3 % 8), .bool false] 0 handle = true := List.all_eq_true.1 runT120_2_0 _ (List.mem_range.2 (by omega))
        rw [show 8 * 2 + r3 % 8 = r3 by omega] at hk
        exact lawG_run (es := es) mixed body hk (.cons (v0) (.cons (v1) (.cons (v2) (.cons (u8s_VR _ w3 e3) (.cons (.bool false) .nil))))) (by omega) (handle_VR _) rfl w hw
      | true =>
        have hk : lawG Tryz.prog 64 20000 3 [.complex .f32 1 0, .complex .f32 2 0, .complex .f32 0 0, u8s 64 (8 * 2 + r3 % 8), .bool true] 0 handle = true := List.all_eq_true.1 runT120_2_1 _ (List.mem_range.2 (by omega))
        rw [show 8 * 2 + r3 % 8 = r3 by omega] at hk
        exact lawG_run (es := es) mixed body hk (.cons (v0) (.cons (v1) (.cons (v2) (.cons (u8s_VR _ w3 e3) (.cons (.bool true) .nil))))) (by omega) (handle_VR _) rfl w hw
    · cases a4 with
      | false =>
        have hk : lawG Tryz.prog 64 20000 3 [.complex .f32 1 0, .complex .f32 2 0, .complex .f32 0 0, u8s 64 (8 * 3 + r3 % 8), .bool false] 0 handle = true := List.all_eq_true.1 runT120_3_0 _ (List.mem_range.2 (by omega))
        rw [show 8 * 3 + r3 % 8 = r3 by omega] at hk
        exact lawG_run (es := es) mixed body hk (.cons (v0) (.cons (v1) (.cons (v2) (.cons (u8s_VR _ w3 e3) (.cons (.bool false) .nil))))) (by omega) (handle_VR _) rfl w hw
      | true =>
        have hk : lawG Tryz.prog 64 20000 3 [.complex .f32 1 0, .complex .f32 2 0, .complex .f32 0 0, u8s 64 (8 * 3 + r3 % 8), .bool true] 0 handle = true := List.all_eq_true.1 runT120_3_1 _ (List.mem_range.2 (by omega))
        rw [show 8 * 3 + r3 % 8 = r3 by omega] at hk
        exact lawG_run (es := es) mixed body hk (.cons (v0) (.cons (v1) (.cons (v2) (.cons (u8s_VR _ w3 e3) (.cons (.bool true) .nil))))) (by omega) (handle_VR _) rfl w hw
    · cases a4 with
      | false =>
        have hk : lawG Tryz.prog 64 20000 3 [.complex .f32 1 0, .complex .f32 2 0, .complex .f32 0 0, u8s 64 (8 * 4 + r3 % 8), .bool false] 0 handle = true := List.all_eq_true.1 runT120_4_0 _ (List.mem_range.2 (by omega))
        rw [show 8 * 4 + r3 % 8 = r3 by omega] at hk
        exact lawG_run (es := es) mixed body hk (.cons (v0) (.cons (v1) (.cons (v2) (.cons (u8s_VR _ w3 e3) (.cons (.bool false) .nil))))) (by omega) (handle_VR _) rfl w hw
      | true =>
        have hk : lawG Tryz.prog 64 20000 3 [.complex .f32 1 0, .complex .f32 2 0, .complex .f32 0 0, u8s 64 (8 * 4 + r3 % 8), .bool true] 0 handle = true := List.all_eq_true.1 runT120_4_1 _ (List.mem_range.2 (by omega))
        rw [show 8 * 4 + r3 % 8 = r3 by omega] at hk
        exact lawG_run (es := es) mixed body hk (.cons (v0) (.cons (v1) (.cons (v2) (.cons (u8s_VR _ w3 e3) (.cons (.bool true) .nil))))) (by omega) (handle_VR _) rfl w hw
    · cases a4 with
      | false =>
        have hk : lawG Tryz.prog 64 20000 3 [.complex .f32 1 0, .complex .f32 2 0, .complex .f32 0 0, u8s 64 (8 * 5 + r3 % 8), .bool false] 0 handle = true := List.all_eq_true.1 runT120_5_0 _ (List.mem_range.2 (by omega))
        rw [show 8 * 5 + r3 % 8 = r3 by omega] at hk
        exact lawG_run (es := es) mixed body hk (.cons (v0) (.cons (v1) (.cons (v2) (.cons (u8s_VR _ w3 e3) (.cons (.bool false) .nil))))) (by omega) (handle_VR _) rfl w hw
      | true =>
        have hk : lawG Tryz.prog 64 20000 3 [.complex .f32 1 0, .complex .f32 2 0, .complex .f32 0 0, u8s 64 (8 * 5 + r3 % 8), .bool true] 0 handle = true := List.all_eq_true.1 runT120_5_1 _ (List.mem_range.2 (by omega))
        rw [show 8 * 5 + r3 % 8 = r3 by omega] at hk
        exact lawG_run (es := es) mixed body hk (.cons (v0) (.cons (v1) (.cons (v2) (.cons (u8s_VR _ w3 e3) (.cons (.bool true) .nil))))) (by omega) (handle_VR _) rfl w hw
    · cases a4 with
      | false =>
        have hk : lawG Tryz.prog 64 20000 3 [.complex .f32 1 0, .complex .f32 2 0, .complex .f32 0 0, u8s 64 (8 * 6 + r3 % 8), .bool false] 0 handle = true := List.all_eq_true.1 runT120_6_0 _ (List.mem_range.2 (by omega))
        rw [show 8 * 6 + r3 % 8 = r3 by omega] at hk
        exact lawG_run (es := es) mixed body hk (.cons (v0) (.cons (v1) (.cons (v2) (.cons (u8s_VR _ w3 e3) (.cons (.bool false) .nil))))) (by omega) (handle_VR _) rfl w hw
      | true =>
        have hk : lawG Tryz.prog 64 20000 3 [.complex .f32 1 0, .complex .f32 2 0, .complex .f32 0 0, u8s 64 (8 * 6 + r3 % 8), .bool true] 0 handle = true := List.all_eq_true.1 runT120_6_1 _ (List.mem_range.2 (by omega))
        rw [show 8 * 6 + r3 % 8 = r3 by omega] at hk
        exact lawG_run (es := es) mixed body hk (.cons (v0) (.cons (v1) (.cons (v2) (.cons (u8s_VR _ w3 e3) (.cons (.bool true) .nil))))) (by omega) (handle_VR _) rfl w hw
    · cases a4 with
      | false =>
        have hk : lawG Tryz.prog 64 20000 3 [.complex .f32 1 0, .complex .f32 2 0, .complex .f32 0 0, u8s 64 (8 * 7 + r3 % 8), .bool false] 0 handle = true := List.all_eq_true.1 runT120_7_0 _ (List.mem_range.2 (by omega))
        rw [show 8 * 7 + r3 % 8 = r3 by omega] at hk
        exact lawG_run (es := es) mixed body hk (.cons (v0) (.cons (v1) (.cons (v2) (.cons (u8s_VR _ w3 e3) (.cons (.bool false) .nil))))) (by omega) (handle_VR _) rfl w hw
      | true =>
        have hk : lawG Tryz.prog 64 20000 3 [.complex .f32 1 0, .complex .f32 2 0, .complex .f32 0 0, u8s 64 (8 * 7 + r3 % 8), .bool true] 0 handle = true := List.all_eq_true.1 runT120_7_1 _ (List.mem_range.2 (by omega))
        rw [show 8 * 7 + r3 % 8 = r3 by omega] at hk
        exact lawG_run (es := es) mixed body hk (.cons (v0) (.cons (v1) (.cons (v2) (.cons (u8s_VR _ w3 e3) (.cons (.bool true) .nil))))) (by omega) (handle_VR _) rfl w hw
  · obtain ⟨r3, h3, e3⟩ := residue a3 64 (by omega)
    have hq3 : r3 / 8 = 0 ∨ r3 / 8 = 1 ∨ r3 / 8 = 2 ∨ r3 / 8 = 3 ∨ r3 / 8 = 4 ∨ r3 / 8 = 5 ∨ r3 / 8 = 6 ∨ r3 / 8 = 7 := by omega
    rcases hq3 with hq3 | hq3 | hq3 | hq3 | hq3 | hq3 | hq3 | hq3
    · cases a4 with
      | false =>
        have hk : lawG Tryz.prog 64 20000 3 [.complex .f32 2 0, .complex .f32 0 0, .complex .f32 1 0, u8s 64 (8 * 0 + r3 % 8), .bool false] 0 handle = true := List.all_eq_true.1 runT201_0_0 _ (List.mem_range.2 (by omega))
        rw [show 8 * 0 + r3 % 8 = r3 by omega] at hk
        exact lawG_run (es := es) mixed body hk (.cons (v0) (.cons (v1) (.cons (v2) (.cons (u8s_VR _ w3 e3) (.cons (.bool false) .nil))))) (by omega) (handle_VR _) rfl w hw
      | true =>
        have hk : lawG Tryz.prog 64 20000 3 [.complex .f32 2 0, .complex .f32 0 0, .complex .f32 1 0, u8s 64 (8 * 0 + r3 % 8), .bool true] 0 handle = true := List.all_eq_true.1 runT201_0_1 _ (List.mem_range.2 (by omega))
        rw [show 8 * 0 + r3 % 8 = r3 by omega] at hk
        exact lawG_run (es := es) mixed body hk (.cons (v0) (.cons (v1) (.cons (v2) (.cons (u8s_VR _ w3 e3) (.cons (.bool true) .nil))))) (by omega) (handle_VR _) rfl w hw
    · cases a4 with
      | false =>
        have hk : lawG Tryz.prog 64 20000 3 [.complex .f32 2 0, .complex .f32 0 0, .complex .f32 1 0, u8s 64 (8 * 1 + r3 % 8), .bool false] 0 handle = true := List.all_eq_true.1 runT201_1_0 _ (List.mem_range.2 (by omega))
        rw [show 8 * 1 + r3 % 8 = r3 by omega] at hk
        exact lawG_run (es := es) mixed body hk (.cons (v0) (.cons (v1) (.cons (v2) (.cons (u8s_VR _ w3 e3) (.cons (.bool false) .nil))))) (by omega) (handle_VR _) rfl w hw
      | true =>
        have hk : lawG Tryz.prog 64 20000 3 [.complex .f32 2 0, .complex .f32 0 0, .complex .f32 1 0, u8s 64 (8 * 1 + r3 % 8), .bool true] 0 handle = true := List.all_eq_true.1 runT201_1_1 _ (List.mem_range.2 (by omega))
        rw [show 8 * 1 + r3 % 8 = r3 by omega] at hk
        exact lawG_run (es := es) mixed body hk (.cons (v0) (.cons (v1) (.cons (v2) (.cons (u8s_VR _ w3 e3) (.cons (.bool true) .nil))))) (by omega) (handle_VR _) rfl w hw
    · cases a4 with
      | false =>
        have hk : lawG Tryz.prog 64 20000 3 [.complex .f32 2 0, .complex .f32 0 0, .complex .f32 1 0, u8s 64 (8 * 2 + r3 % 8), .bool false] 0 handle = true := List.all_eq_true.1 runT201_2_0 _ (List.mem_range.2 (by omega))
        rw [show 8 * 2 + r3 % 8 = r3 by omega] at hk
        exact lawG_run (es := es) mixed body hk (.cons (v0) (.cons (v1) (.cons (v2) (.cons (u8s_VR _ w3 e3) (.cons (.bool false) .nil))))) (by omega) (handle_VR _) rfl w hw
      | true =>
        have hk : lawG Tryz.prog 64 20000 3 [.complex .f32 2 0, .complex .f32 0 0, .complex .f32 1 0, u8s 64 (8 * 2 + r3 % 8), .bool true] 0 handle = true := List.all_eq_true.1 runT201_2_1 _ (List.mem_range.2 (by omega))
        rw [show 8 * 2 + r3 % 8 = r3 by omega] at hk
        exact lawG_run (es := es) mixed body hk (.cons (v0) (.cons (v1) (.cons (v2) (.cons (u8s_VR _ w3 e3) (.cons (.bool true) .nil))))) (by omega) (handle_VR _) rfl w hw
    · cases a4 with
      | false =>
        have hk : lawG Tryz.prog 64 20000 3 [.complex .f32 2 0, .complex .f32 0 0, .complex .f32 1 0, u8s 64 (8 * 3 + r3 % 8), .bool false] 0 handle = true := List.all_eq_true.1 runT201_3_0 _ (List.mem_range.2 (by omega))
        rw [show 8 * 3 + r3 % 8 = r3 by omega] at hk
        exact lawG_run (es := es) mixed body hk (.cons (v0) (.cons (v1) (.cons (v2) (.cons (u8s_VR _ w3 e3) (.cons (.bool false) .nil))))) (by omega) (handle_VR _) rfl w hw
      | true =>
        have hk : lawG Tryz.prog 64 20000 3 [.complex .f32 2 0, .complex .f32 0 0, .complex .f32 1 0, u8s 64 (8 * 3 + r3 % 8), .bool true] 0 handle = true := List.all_eq_true.1 runT201_3_1 _ (List.mem_range.2 (by omega))
        rw [show 8 * 3 + r3 % 8 = r3 by omega] at hk
        exact lawG_run (es := es) mixed body hk (.cons (v0) (.cons (v1) (.cons (v2) (.cons (u8s_VR _ w3 e3) (.cons (.bool true) .nil))))) (by omega) (handle_VR _) rfl w hw
    · cases a4 with
      | false =>
        have hk : lawG Tryz.prog 64 20000 3 [.complex .f32 2 0, .complex .f32 0 0, .complex .f32 1 0, u8s 64 (8 * 4 + r3 % 8), .bool false] 0 handle = true := List.all_eq_true.1 runT201_4_0 _ (List.mem_range.2 (by omega))
        rw [show 8 * 4 + r3 % 8 = r3 by omega] at hk
        exact lawG_run (es := es) mixed body hk (.cons (v0) (.cons (v1) (.cons (v2) (.cons (u8s_VR _ w3 e3) (.cons (.bool false) .nil))))) (by omega) (handle_VR _) rfl w hw
      | true =>
        have hk : lawG Tryz.prog 64 20000 3 [.complex .f32 2 0, .complex .f32 0 0, .complex .f32 1 0, u8s 64 (8 * 4 + r3 % 8), .bool true] 0 handle = true := List.all_eq_true.1 runT201_4_1 _ (List.mem_range.2 (by omega))
        rw [show 8 * 4 + r3 % 8 = r3 by omega] at hk
        exact lawG_run (es := es) mixed body hk (.cons (v0) (.cons (v1) (.cons (v2) (.cons (u8s_VR _ w3 e3) (.cons (.bool true) .nil))))) (by omega) (handle_VR _) rfl w hw
    · cases a4 with
      | false =>
        have hk : lawG Tryz.prog 64 20000 3 [.complex .f32 2 0, .complex .f32 0 0, .complex .f32 1 0, u8s 64 (8 * 5 + r3 % 8), .bool false] 0 handle = true := List.all_eq_true.1 runT201_5_0 _ (List.mem_range.2 (by omega))
        rw [show 8 * 5 + r3 % 8 = r3 by omega] at hk
        exact lawG_run (es := es) mixed body hk (.cons (v0) (.cons (v1) (.cons (v2) (.cons (u8s_VR _ w3 e3) (.cons (.bool false) .nil))))) (by omega) (handle_VR _) rfl w hw
      | true =>
        have hk : lawG Tryz.prog 64 20000 3 [.complex .f32 2 0, .complex .f32 0 0, .complex .f32 1 0, u8s 64 (8 * 5 + r3 % 8), .bool true] 0 handle = true := List.all_eq_true.1 runT201_5_1 _ (List.mem_range.2 (by omega))
        rw [show 8 * 5 + r3 % 8 = r3 by omega] at hk
        exact lawG_run (es := es) mixed body hk (.cons (v0) (.cons (v1) (.cons (v2) (.cons (u8s_VR _ w3 e3) (.cons (.bool true) .nil))))) (by omega) (handle_VR _) rfl w hw
    · cases a4 with
      | false =>
        have hk : lawG Tryz.prog 64 20000 3 [.complex .f32 2 0, .complex .f32 0 0, .complex .f32 1 0, u8s 64 (8 * 6 + r3 % 8), .bool false] 0 handle = true := List.all_eq_true.1 runT201_6_0 _ (List.mem_range.2 (by omega))
        rw [show 8 * 6 + r3 % 8 = r3 by omega] at hk
        exact lawG_run (es := es) mixed body hk (.cons (v0) (.cons (v1) (.cons (v2) (.cons (u8s_VR _ w3 e3) (.cons (.bool false) .nil))))) (by omega) (handle_VR _) rfl w hw
      | true =>
        have hk : lawG Tryz.prog 64 20000 3 [.complex .f32 2 0, .complex .f32 0 0, .complex .f32 1 0, u8s 64 (8 * 6 + r3 % 8), .bool true] 0 handle = true := List.all_eq_true.1 runT201_6_1 _ (List.mem_range.2 (by omega))
        rw [show 8 * 6 + r3 % 8 = r3 by omega] at hk
        exact lawG_run (es := es) mixed body hk (.cons (v0) (.cons (v1) (.cons (v2) (.cons (u8s_VR _ w3 e3) (.cons (.bool true) .nil))))) (by omega) (handle_VR _) rfl w hw
    · cases a4 with
      | false =>
        have hk : lawG Tryz.prog 64 20000 3 [.complex .f32 2 0, .complex .f32 0 0, .complex .f32 1 0, u8s 64 (8 * 7 + r3 % 8), .bool false] 0 handle = true := List.all_eq_true.1 runT201_7_0 _ (List.mem_range.2 (by omega))
        rw [show 8 * 7 + r3 % 8 = r3 by omega] at hk
        exact lawG_run (es := es) mixed body hk (.cons (v0) (.cons (v1) (.cons (v2) (.cons (u8s_VR _ w3 e3) (.cons (.bool false) .nil))))) (by omega) (handle_VR _) rfl w hw
      | true =>
        have hk : lawG Tryz.prog 64 20000 3 [.complex .f32 2 0, .complex .f32 0 0, .complex .f32 1 0, u8s 64 (8 * 7 + r3 % 8), .bool true] 0 handle = true := List.all_eq_true.1 runT201_7_1 _ (List.mem_range.2 (by omega))
        rw [show 8 * 7 + r3 % 8 = r3 by omega] at hk
        exact lawG_run (es := es) mixed body hk (.cons (v0) (.cons (v1) (.cons (v2) (.cons (u8s_VR _ w3 e3) (.cons (.bool true) .nil))))) (by omega) (handle_VR _) rfl w hw
  · obtain ⟨r3, h3, e3⟩ := residue a3 64 (by omega)
    have hq3 : r3 / 8 = 0 ∨ r3 / 8 = 1 ∨ r3 / 8 = 2 ∨ r3 / 8 = 3 ∨ r3 / 8 = 4 ∨ r3 / 8 = 5 ∨ r3 / 8 = 6 ∨ r3 / 8 = 7 := by omega
    rcases hq3 with hq3 | hq3 | hq3 | hq3 | hq3 | hq3 | hq3 | hq3
    · cases a4 with
      | false =>
        have hk : lawG Tryz.prog 64 20000 3 [.complex .f32 2 0, .complex .f32 1 0, .complex .f32 0 0, u8s 64 (8 * 0 + r3 % 8), .bool false] 0 handle = true := List.all_eq_true.1 runT210_0_0 _ (List.mem_range.2 (by omega))
        rw [show 8 * 0 + r3 % 8 = r3 by omega] at hk
        exact lawG_run (es := es) mixed body hk (.cons (v0) (.cons (v1) (.cons (v2) (.cons (u8s_VR _ w3 e3) (.cons (.bool false) .nil))))) (by omega) (handle_VR _) rfl w hw
      | true =>
        have hk : lawG Tryz.prog 64 20000 3 [.complex .f32 2 0, .complex .f32 1 0, .complex .f32 0 0, u8s 64 (8 * 0 + r3 % 8), .bool true] 0 handle = true := List.all_eq_true.1 runT210_0_1 _ (List.mem_range.2 (by omega))
        rw [show 8 * 0 + r3 % 8 = r3 by omega] at hk
        exact lawG_run (es := es) mixed body hk (.cons (v0) (.cons (v1) (.cons (v2) (.cons (u8s_VR _ w3 e3) (.cons (.bool true) .nil))))) (by omega) (handle_VR _) rfl w hw
    · cases a4 with
      | false =>
        have hk : lawG Tryz.prog 64 20000 3 [.complex .f32 2 0, .complex .f32 1 0, .complex .f32 0 0, u8s 64 (8 * 1 + r3 % 8), .bool false] 0 handle = true := List.all_eq_true.1 runT210_1_0 _ (List.mem_range.2 (by omega))
        rw [show 8 * 1 + r3 % 8 = r3 by omega] at hk
        exact lawG_run (es := es) mixed body hk (.cons (v0) (.cons (v1) (.cons (v2) (.cons (u8s_VR _ w3 e3) (.cons (.bool false) .nil))))) (by omega) (handle_VR _) rfl w hw
      | true =>
        have hk : lawG Tryz.prog 64 20000 3 [.complex .f32 2 0, .complex .f32 1 0, .complex .f32 0 0, u8s 64 (8 * 1 + r3 % 8), .bool true] 0 handle = true := List.all_eq_true.1 runT210_1_1 _ (List.mem_range.2 (by omega))
        rw [show 8 * 1 + r3 % 8 = r3 by omega] at hk
        exact lawG_run (es := es) mixed body hk (.cons (v0) (.cons (v1) (.cons (v2) (.cons (u8s_VR _ w3 e3) (.cons (.bool true) .nil))))) (by omega) (handle_VR _) rfl w hw
    · cases a4 with
      | false =>
        have hk : lawG Tryz.prog 64 20000 3 [.complex .f32 2 0, .complex .f32 1 0, .complex .f32 0 0, u8s 64 (8 * 2 + r3 % 8), .bool false] 0 handle = true := List.all_eq_true.1 runT210_2_0 _ (List.mem_range.2 (by omega))
        rw [show 8 * 2 + r3 % 8 = r3 by omega] at hk
        exact lawG_run (es := es) mixed body hk (.cons (v0) (.cons (v1) (.cons (v2) (.cons (u8s_VR _ w3 e3) (.cons (.bool false) .nil))))) (by omega) (handle_VR _) rfl w hw
      | true =>
        have hk : lawG Tryz.prog 64 20000 3 [.complex .f32 2 0, .complex .f32 1 0, .complex .f32 0 0, u8s 64 (8 * 2 + r3 % 8), .bool true] 0 handle = true := List.all_eq_true.1 runT210_2_1 _ (List.mem_range.2 (by omega))
        rw [show 8 * 2 + r3 % 8 = r3 by omega] at hk
        exact lawG_run (es := es) mixed body hk (.cons (v0) (.cons (v1) (.cons (v2) (.cons (u8s_VR _ w3 e3) (.cons (.bool true) .nil))))) (by omega) (handle_VR _) rfl w hw
    · cases a4 with
      | false =>
        have hk : lawG Tryz.prog 64 20000 3 [.complex .f32 2 0, .complex .f32 1 0, .complex .f32 0 0, u8s 64 (8 * 3 + r3 % 8), .bool false] 0 handle = true := List.all_eq_true.1 runT210_3_0 _ (List.mem_range.2 (by omega))
        rw [show 8 * 3 + r3 % 8 = r3 by omega] at hk
        exact lawG_run (es := es) mixed body hk (.cons (v0) (.cons (v1) (.cons (v2) (.cons (u8s_VR _ w3 e3) (.cons (.bool false) .nil))))) (by omega) (handle_VR _) rfl w hw
      | true =>
        have hk : lawG Tryz.prog 64 20000 3 [.complex .f32 2 0, .complex .f32 1 0, .complex .f32 0 0, u8s 64 (8 * 3 + r3 % 8), .bool true] 0 handle = true := List.all_eq_true.1 runT210_3_1 _ (List.mem_range.2 (by omega))
        rw [show 8 * 3 + r3 % 8 = r3 by omega] at hk
        exact lawG_run (es := es) mixed body hk (.cons (v0) (.cons (v1) (.cons (v2) (.cons (u8s_VR _ w3 e3) (.cons (.bool true) .nil))))) (by omega) (handle_VR _) rfl w hw
    · cases a4 with
      | false =>
        have hk : lawG Tryz.prog 64 20000 3 [.complex .f32 2 0, .complex .f32 1 0, .complex .f32 0 0, u8s 64 (8 * 4 + r3 % 8), .bool false] 0 handle = true := List.all_eq_true.1 runT210_4_0 _ (List.mem_range.2 (by omega))
        rw [show 8 * 4 + r3 % 8 = r3 by omega] at hk
        exact lawG_run (es := es) mixed body hk (.cons (v0) (.cons (v1) (.cons (v2) (.cons (u8s_VR _ w3 e3) (.cons (.bool false) .nil))))) (by omega) (handle_VR _) rfl w hw
      | true =>
        have hk : lawG Tryz.prog 64 20000 3 [.complex .f32 2 0, .complex .f32 1 0, .complex .f32 0 0, u8s 64 (8 * 4 + r3 % 8), .bool true] 0 handle = true := List.all_eq_true.1 runT210_4_1 _ (List.mem_range.2 (by omega))
        rw [show 8 * 4 + r3 % 8 = r3 by omega] at hk
        exact lawG_run (es := es) mixed body hk (.cons (v0) (.cons (v1) (.cons (v2) (.cons (u8s_VR _ w3 e3) (.cons (.bool true) .nil))))) (by omega) (handle_VR _) rfl w hw
    · cases a4 with
      | false =>
        have hk : lawG Tryz.prog 64 20000 3 [.complex .f32 2 0, .complex .f32 1 0, .complex .f32 0 0, u8s 64 (8 * 5 + r3 % 8), .bool false] 0 handle = true := List.all_eq_true.1 runT210_5_0 _ (List.mem_range.2 (by omega))
        rw [show 8 * 5 + r3 % 8 = r3 by omega] at hk
        exact lawG_run (es := es) mixed body hk (.cons (v0) (.cons (v1) (.cons (v2) (.cons (u8s_VR _ w3 e3) (.cons (.bool false) .nil))))) (by omega) (handle_VR _) rfl w hw
      | true =>
        have hk : lawG Tryz.prog 64 20000 3 [.complex .f32 2 0, .complex .f32 1 0, .complex .f32 0 0, u8s 64 (8 * 5 + r3 % 8), .bool true] 0 handle = true := List.all_eq_true.1 runT210_5_1 _ (List.mem_range.2 (by omega))
        rw [show 8 * 5 + r3 % 8 = r3 by omega] at hk
        exact lawG_run (es := es) mixed body hk (.cons (v0) (.cons (v1) (.cons (v2) (.cons (u8s_VR _ w3 e3) (.cons (.bool true) .nil))))) (by omega) (handle_VR _) rfl w hw
    · cases a4 with
      | false =>
        have hk : lawG Tryz.prog 64 20000 3 [.complex .f32 2 0, .complex .f32 1 0, .complex .f32 0 0, u8s 64 (8 * 6 + r3 % 8), .bool false] 0 handle = true := List.all_eq_true.1 runT210_6_0 _ (List.mem_range.2 (by omega))
        rw [show 8 * 6 + r3 % 8 = r3 by omega] at hk
        exact lawG_run (es := es) mixed body hk (.cons (v0) (.cons (v1) (.cons (v2) (.cons (u8s_VR _ w3 e3) (.cons (.bool false) .nil))))) (by omega) (handle_VR _) rfl w hw
      | true =>
        have hk : lawG Tryz.prog 64 20000 3 [.complex .f32 2 0, .complex .f32 1 0, .complex .f32 0 0, u8s 64 (8 * 6 + r3 % 8), .bool true] 0 handle = true := List.all_eq_true.1 runT210_6_1 _ (List.mem_range.2 (by omega))
        rw [show 8 * 6 + r3 % 8 = r3 by omega] at hk
        exact lawG_run (es := es) mixed body hk (.cons (v0) (.cons (v1) (.cons (v2) (.cons (u8s_VR _ w3 e3) (.cons (.bool true) .nil))))) (by omega) (handle_VR _) rfl w hw
    · cases a4 with
      | false =>
        have hk : lawG Tryz.prog 64 20000 3 [.complex .f32 2 0, .complex .f32 1 0, .complex .f32 0 0, u8s 64 (8 * 7 + r3 % 8), .bool false] 0 handle = true := List.all_eq_true.1 runT210_7_0 _ (List.mem_range.2 (by omega))
        rw [show 8 * 7 + r3 % 8 = r3 by omega] at hk
        exact lawG_run (es := es) mixed body hk (.cons (v0) (.cons (v1) (.cons (v2) (.cons (u8s_VR _ w3 e3) (.cons (.bool false) .nil))))) (by omega) (handle_VR _) rfl w hw
      | true =>
        have hk : lawG Tryz.prog 64 20000 3 [.complex .f32 2 0, .complex .f32 1 0, .complex .f32 0 0, u8s 64 (8 * 7 + r3 % 8), .bool true] 0 handle = true := List.all_eq_true.1 runT210_7_1 _ (List.mem_range.2 (by omega))
        rw [show 8 * 7 + r3 % 8 = r3 by omega] at hk
        exact lawG_run (es := es) mixed body hk (.cons (v0) (.cons (v1) (.cons (v2) (.cons (u8s_VR _ w3 e3) (.cons (.bool true) .nil))))) (by omega) (handle_VR _) rfl w hw

/-- A world that meets the condition: the settled one, the variable's cell laid. -/
noncomputable def laidWorld (os : Os) : World :=
  let w0 := World.holding Tryz.prog os ⟨#[], #[], []⟩
  { w0 with heap := w0.heap.modify ((Tryz.prog.globalNamed "errors.errorType").getD 0) fun
      | .cells _ t frozen => .cells #[laidHandle] t frozen
      | o => o }
where laidHandle : Value := .iface (((Tryz.prog.cutTypes.find? (·.1 == "internal/reflectlite.rtype")).map (·.2)).getD 0) (.agg #[typeHandle Tryz.prog ((((List.range Tryz.prog.types.size).filter fun t => Tryz.prog.rowNamed t [101, 114, 114, 111, 114])).headD 0)])
theorem laidWorld_met (os : Os) (args : Array Value) : laidMetH Tryz.prog Rows.planTightRow.laid ((laidWorld os).forCall (fun _ _ => 0) ⟨#[], args, []⟩).memory :=
  laidMetH_of_parts (laidMet_nil _ _) (by kernel_rfl)

set_option maxRecDepth 100000 in
theorem lifted (os : Os) (started : os.Started) (H : Type) (enc : TypeId × Value → H) :
    ReturnsInHanded {} Tryz.checked os 3 .any (fun w args => (Rows.planTightSpec.pre enc Tryz.prog Tryz.f3 [] false w args ∧ laidMetH Tryz.prog Rows.planTightRow.laid w) ∧ sizedMet enc Tryz.prog Tryz.f3 (OpenSpec.ofChange Rows.planTightSpec) false w args)
      (Rows.planTightSpec.post enc Tryz.prog Tryz.f3 false true false false) := by
  refine returnsInHanded_of_change_and (C := Tryz.checked) (X := fun w _ => laidMetH Tryz.prog Rows.planTightRow.laid w) (fun _ _ _ hh h => h.of_heap hh) own started (by kernel_rfl) Tryz.func3
    (ChangeSpec.witness_at (enc := enc) (C := Tryz.checked) (os := os) (X := fun w _ => laidMetH Tryz.prog Rows.planTightRow.laid w) false (laidWorld os) #[.int .i8 0, .int .i8 0, .int .i8 0, .int .u8 0, .bool false] 8 rfl (by kernel_rfl) (by kernel_rfl) (by kernel_rfl) (by kernel_rfl) (by kernel_rfl) (laidWorld_met os _)) ?_
  intro W base args ds gs before hval0 hW _ _ hL _
  have hval : ∀ (j : Nat) t v, Tryz.f3.params[j]? = some t → args[j]? = some v → Value.okWide Tryz.prog W .any base t v := hval0
  have hW' := hW
  obtain ⟨p, q, hA0, hV0, rfl, hfz, hnd⟩ := hW
  have hA : DataW.TrodAll enc Tryz.prog W 0 (fun _ => true) true Tryz.f3.params.toList args.toList ds p := hA0
  have hV : DataW.TrodVars enc Tryz.prog W (fun _ => true) [] gs q := hV0
  rw [Tryz.params3] at hA hval
  obtain ⟨v0, vs0, d0, ds0, p0, q0, hargs, rfl, rfl, h0, r0⟩ := trodAll_cons hA
  obtain ⟨v1, vs1, d1, ds1, p1, q1, rfl, rfl, rfl, h1, r1⟩ := trodAll_cons r0
  obtain ⟨v2, vs2, d2, ds2, p2, q2, rfl, rfl, rfl, h2, r2⟩ := trodAll_cons r1
  obtain ⟨v3, vs3, d3, ds3, p3, q3, rfl, rfl, rfl, h3, r3⟩ := trodAll_cons r2
  obtain ⟨v4, vs4, d4, ds4, p4, q4, rfl, rfl, rfl, h4, r4⟩ := trodAll_cons r3
  obtain ⟨rfl, rfl, rfl⟩ := trodAll_nil r4
  obtain rfl : args = #[v0, v1, v2, v3, v4] := by cases args; simp_all
  obtain ⟨rfl, rfl⟩ := trodVars_none hV
  obtain ⟨a0, rfl, rfl, rfl, w0⟩ := open_int Tryz.underlying22 (hval 0 22 v0 rfl rfl) h0
  obtain ⟨a1, rfl, rfl, rfl, w1⟩ := open_int Tryz.underlying22 (hval 1 22 v1 rfl rfl) h1
  obtain ⟨a2, rfl, rfl, rfl, w2⟩ := open_int Tryz.underlying22 (hval 2 22 v2 rfl rfl) h2
  obtain ⟨a3, rfl, rfl, rfl, w3⟩ := open_int Tryz.underlying5 (hval 3 5 v3 rfl rfl) h3
  obtain ⟨a4, rfl, rfl, rfl⟩ := open_bool Tryz.underlying4 (hval 4 4 v4 rfl rfl) h4
  clear hA0 hval0
  obtain ⟨eT, eF, hg⟩ := handle_of_laid hL
  simp only [List.append_nil] at hW'
  have e1 : Rows.planTightSpec.fn H ([.lit (.int .i8 a0), .lit (.int .i8 a1), .lit (.int .i8 a2), .lit (.int .u8 a3), .lit (.bool a4)] ++ []) = { results := [.lit (.bool true)], args := [.lit (.int .i8 a0), .lit (.int .i8 a1), .lit (.int .i8 a2), .lit (.int .u8 a3), .lit (.bool a4)] } := by simp [Rows.planTightSpec]
  refine (walk a0 a1 a2 a3 a4 w0 w1 w2 w3 W hg).mono fun e W' ⟨he, hb⟩ => ?_
  subst he
  refine ⟨_, rfl, _, _, _, [], [], [], hW', ?_, ?_, ?_, hb.frame _, fun h => by cases h⟩
  · rw [e1]; exact trodAll_cons_mk (shut_bool Tryz.underlying4 true) trodAll_mk0
  · rw [e1]; exact (trodAll_cons_mk (shut_int Tryz.underlying22 w0) (trodAll_cons_mk (shut_int Tryz.underlying22 w1) (trodAll_cons_mk (shut_int Tryz.underlying22 w2) (trodAll_cons_mk (shut_int Tryz.underlying5 w3) (trodAll_cons_mk (shut_bool Tryz.underlying4 a4) trodAll_mk0)))))
  · rw [e1]; rfl

/-! ### What the row says of the call's text: off the list of what it can come to, once. -/
theorem clIs : Tryz.prog.closure 3 = [3, 4, 5, 13, 14, 39, 105, 106, 159, 107, 160, 162, 200, 161, 206, 40, 108, 109, 91, 147, 148, 199, 163, 12, 34, 101, 157, 156, 102, 103, 35, 36, 37, 38, 104, 158, 15, 41, 16, 17, 42, 110, 111, 112, 43, 114, 85, 142, 113, 44, 115, 164, 166, 167, 98, 153, 154, 205, 202, 252, 203, 253, 292, 204, 152, 254, 293, 201, 208, 255, 294, 256, 136, 197, 165, 207, 168, 209, 169, 170, 116, 72, 172, 212, 171, 210, 257, 211, 259, 303, 304, 258, 295, 269, 296, 330, 297, 331, 332, 298, 333, 334, 354, 299, 300, 301, 302, 117, 173, 213, 260, 305, 97, 124, 175, 214, 225, 267, 268, 215, 176, 216, 262, 261, 307, 308, 306, 309, 263, 29, 92, 93, 94, 95, 149, 150, 151, 217, 218, 177, 219, 264, 265, 220, 178, 64, 125, 179, 221, 180, 222, 266, 223, 126, 181, 224, 243, 226, 270, 227, 271, 272, 310, 335, 182, 228, 273, 274, 313, 312, 337, 338, 355, 362, 311, 336, 316, 315, 340, 341, 342, 356, 363, 343, 314, 339, 275, 183, 229, 230, 231, 276, 277, 317, 344, 318, 321, 320, 346, 347, 348, 357, 364, 349, 319, 345, 278, 184, 185, 232, 245, 289, 329, 233, 279, 280, 127, 128, 186, 235, 234, 281, 237, 236, 282, 187, 239, 238, 283, 188, 240, 284, 322, 323, 324, 350, 358, 351, 359, 189, 241, 285, 288, 328, 242, 286, 287, 325, 326, 327, 352, 360, 353, 361, 190, 244, 191, 192, 246, 247, 45, 46, 48, 47, 18, 49, 118, 119, 50, 51, 52, 53, 54, 20, 19, 25, 55, 56, 120, 57, 58, 59, 74, 137, 61, 63, 62, 65, 129, 193, 248, 290, 249, 291, 130, 66, 67, 131, 194, 250, 68, 60, 121, 122, 123, 174, 21, 69, 132, 195, 251, 70, 133, 196, 71, 135, 134, 139, 22, 73, 75, 138, 76, 77, 23, 78, 79, 7, 8, 24, 81, 82, 80, 140, 84, 83, 141, 26, 27, 86, 143, 87, 88, 89, 90, 144, 145, 146, 198, 10, 11, 30, 96, 99, 155, 100, 31, 32, 33, 6, 9, 28] := by kernel_rfl
theorem inIs : Tryz.prog.inPlace 3 = ["math.Float64bits", "math.Float64frombits", "internal/bytealg.abigen_runtime_cmpstring", "internal/reflectlite.ValueOf", "(internal/reflectlite.Value).Type", "(internal/reflectlite.Value).IsNil", "internal/reflectlite.TypeOf", "(internal/reflectlite.Value).Elem", "(internal/reflectlite.Value).Set", "slices.overlaps[int64]", "slices.overlaps[rialto/api.Entry]", "slices.overlaps[*rialto/tree.node[rialto/api.Entry]]", "slices.overlaps[*rialto/tree.node[int64]]"] := by unfold Program.inPlace; rw [clIs]; kernel_rfl
theorem unIs : Tryz.prog.unfollowed 3 = true := by unfold Program.unfollowed; rw [clIs]; kernel_rfl
theorem reIs : Tryz.prog.recurses 3 = true := by unfold Program.recurses; rw [unIs]; rfl
theorem vaIs : Tryz.prog.varsNamed 3 = ["errors.errorType"] := by unfold Program.varsNamed; rw [clIs]; kernel_rfl
theorem goIs : Tryz.prog.goes 3 = false := by unfold Program.goes; rw [clIs, unIs]; kernel_rfl
theorem fnIs : Tryz.prog.funcNamed Rows.planTightRow.func = some 3 := by kernel_rfl
theorem goesIs : false = Rows.planTightRow.goesBy Tryz.prog := by
  unfold OpenClaim.goesBy Program.goesAt Program.goesFrom
  rw [fnIs, Option.any_some, goIs]
  rfl
theorem facts : joinedFacts Tryz.prog 3 Tryz.f3 Rows.planTightSpec Rows.planTightRow = true := by
  unfold joinedFacts
  rw [inIs, unIs, reIs, vaIs]
  kernel_rfl


theorem over : Rows.PlanTightSaid :=
  OpenClaim.holds_of_wide 3 Tryz.f3 rfl rfl rfl rfl rfl rfl rfl ⟨rfl, rfl, rfl, rfl, rfl⟩ rfl rfl rfl rfl rfl (by kernel_rfl) Tryz.func3 facts
    (of_decide_eq_true (by kernel_rfl)) (by unfold Func.isWrapper; rw [if_neg (of_decide_eq_false (by kernel_rfl))]; exact ⟨rfl, rfl⟩)
    (fun os started H enc _ => lifted os started H enc)

/-- THE STATEMENT. -/
theorem proved : Rows.PlanTightCardSaid :=
  Claim7.holds_tied_plain_at .later [] [.handle] true Rows.planTightCard.stood.harness true
    over (fun _ h => by cases h) (by kernel_rfl) (fun _ h => by cases h) planTight_row_tie rfl ⟨rfl, rfl⟩ (by kernel_rfl) rfl
    (fun f fn hf hfn => by
      obtain rfl : f = 3 := Option.some.inj ((show Tryz.prog.funcNamed Rows.planTightRow.func = some 3 by kernel_rfl).symm.trans hf) |>.symm
      obtain rfl : fn = Tryz.f3 := (Option.some.inj (Tryz.func3.symm.trans hfn)).symm
      exact ⟨by kernel_rfl, fun j t ht => by
          rw [Tryz.params3] at ht
          rcases j with _ | _ | _ | _ | _ | j
          · have h3 : t = 22 := by simpa using ht.symm
            subst h3
            exact (show Tryz.prog.wantsStandIn 22 = false by kernel_rfl)
          · have h3 : t = 22 := by simpa using ht.symm
            subst h3
            exact (show Tryz.prog.wantsStandIn 22 = false by kernel_rfl)
          · have h3 : t = 22 := by simpa using ht.symm
            subst h3
            exact (show Tryz.prog.wantsStandIn 22 = false by kernel_rfl)
          · have h3 : t = 5 := by simpa using ht.symm
            subst h3
            exact (show Tryz.prog.wantsStandIn 5 = false by kernel_rfl)
          · have h3 : t = 4 := by simpa using ht.symm
            subst h3
            exact (show Tryz.prog.wantsStandIn 4 = false by kernel_rfl)
          · simp at ht⟩)
    goesIs
#print axioms proved
end Go.Proofs.YtegiienbnmijcaaGreatDoor.planTight
