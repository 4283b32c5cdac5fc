/-
  For every argument, in every world in which the listed variable reads as the row says, the law returns true and turns nothing that lay before; the card ties that to the program's text.
  Every run is one of the executor (Ex1 to Ex3), checked by the kernel (Run0 and on): one for each choice of residues.
-/
import Derived.Test.YtlmdgpflcfdhdaaGreatDoorRows
import Derived.Test.YtlmdgpflcfdhdaaGreatDoorCards
import Derived.Test.YtlmdgpflcfdhdaaGreatDoorTie
import Derived.Test.YtlmdgpflcfdhdaaGreatDoorRunN0
import Derived.Test.YtlmdgpflcfdhdaaGreatDoorRunN1
import Derived.Test.YtlmdgpflcfdhdaaGreatDoorRunN2
import Derived.Test.YtlmdgpflcfdhdaaGreatDoorRunN3
import Derived.Test.YtlmdgpflcfdhdaaGreatDoorRunN4
import Derived.Test.YtlmdgpflcfdhdaaGreatDoorRunN5
import Derived.Test.YtlmdgpflcfdhdaaGreatDoorRunN6
import Derived.Test.YtlmdgpflcfdhdaaGreatDoorRunN7
import Derived.WalkKit
import Derived.ProofKit
import Derived.OpenShut
import Derived.ChangeSame
import Derived.ChangeVars
import Derived.JoinedOf
import Derived.RowKit
import Derived.RowKitTokens
import Derived.LaidLaws
import Derived.LaidHandle
import Derived.Stop.Joined
import Derived.SevenTiedAt
namespace Go.Proofs.YtlmdgpflcfdhdaaGreatDoor.planNone
open Go.ChangeShapes Go.WideShapes Go.ChangeAt Go.RowKit
open Go.Ex
set_option linter.unusedVariables false

theorem own : ownKnob Tryz.prog.godebug = none := by kernel_rfl
theorem mixed : Tryz.prog.follows .mixedOrders = true := by kernel_rfl
theorem body : (bodyOf Tryz.prog 4).isSome = true := by kernel_rfl

theorem residue (a : Int) (q : Nat) (hq : 0 < q) : ∃ r : Nat, r < q ∧ a % (q : Int) = (r : Int) :=
  ⟨(a % (q : Int)).toNat, by have := Int.emod_nonneg a (b := q) (by omega); have := Int.emod_lt_of_pos a (b := q) (by omega); omega, by have := Int.emod_nonneg a (b := q) (by omega); omega⟩

theorem rtIs : (Tryz.prog.cutTypes.find? (·.1 == "internal/reflectlite.rtype")).map (·.2) = some 268 := by kernel_rfl
theorem oneRow : ((List.range Tryz.prog.types.size).filter fun t => Tryz.prog.rowNamed t [101, 114, 114, 111, 114]) = [40] := by kernel_rfl
theorem varIs : Tryz.prog.globalNamed "errors.errorType" = some 0 := by kernel_rfl
theorem handleIs : typeHandle Tryz.prog 40 = .pointer (some ⟨3, 40, none⟩) := by kernel_rfl

/-- What the condition gives: the variable's one cell. -/
theorem handle_of_laid {W : World} (h : laidMetH Tryz.prog Rows.planNoneRow.laid W) : ∃ e fz, W.heap[0]? = some (.cells #[.iface 268 (.agg #[.pointer (some ⟨3, 40, none⟩)])] e fz) := by
  have h' : laidMet Tryz.prog [] W ∧ handlesMet Tryz.prog Rows.planNoneRow.laid W := h
  obtain ⟨name, u, ty, e1, e2, e3, e4, e5⟩ := h'.2 _ (List.mem_singleton.2 rfl)
  have en : name = [101, 114, 114, 111, 114] := (Option.some.inj e1).symm
  subst en
  obtain rfl := Option.some.inj (rtIs.symm.trans e2)
  have hm : ty ∈ (List.range Tryz.prog.types.size).filter fun t => Tryz.prog.rowNamed t [101, 114, 114, 111, 114] := List.mem_filter.2 ⟨List.mem_range.2 e3, e4⟩
  rw [oneRow] at hm
  obtain rfl := List.mem_singleton.1 hm
  rw [handleIs] at e5
  have e6 : ((Tryz.prog.globalNamed "errors.errorType").bind fun g => match W.heap[g]? with
    | some (.cells cs _ _) => some cs
    | _ => none) = some #[.iface 268 (.agg #[.pointer (some ⟨3, 40, none⟩)])] := e5
  rw [varIs, Option.bind_some] at e6
  split at e6
  · rename_i cs e fz hw
    cases e6
    exact ⟨e, fz, hw⟩
  · cases e6

theorem handle_VR (es : Nat → Nat) : VR (mGS 64 es) handle (.iface 268 (.agg #[.pointer (some ⟨3, 40, none⟩)])) :=
  .iface _ _ _ (.agg' (fun u hu => by simp at hu; subst hu; rfl) ⟨.ptr (m := mGS 64 es) 3 40 (show 3 < 64 by omega), trivial⟩)

/-- The walk, by the runs. -/
theorem walk (a0 : Int) (a1 : Bool) (a2 : Int) (w0 : (Lit.int .u8 a0).wf = true) (w2 : (Lit.int .i8 a2).wf = true) (w : World) {e : TypeId} {fz : Nat × Nat} (hw : w.heap[0]? = some (.cells #[.iface 268 (.agg #[.pointer (some ⟨3, 40, none⟩)])] e fz)) :
    Calls Tryz.prog 4 #[.int .u8 a0, .bool a1, .int .i8 a2] w fun e w' => e = .returned (.bool true) ∧ Below w.heap.size w w' := by
  obtain ⟨r0, h0, e0⟩ := residue a0 4 (by omega)
  match r0, h0, e0 with
  | 0, _, e0 =>
    cases a1 with
    | false =>
        exact lawG_run mixed body run0_0_0 (.cons (u8s_VR _ w0 e0) (.cons (.bool false) (.cons (sy8_VR (by omega) w2) .nil))) (by omega) (handle_VR _) rfl w hw
    | true =>
        exact lawG_run mixed body run0_1_0 (.cons (u8s_VR _ w0 e0) (.cons (.bool true) (.cons (sy8_VR (by omega) w2) .nil))) (by omega) (handle_VR _) rfl w hw
  | 1, _, e0 =>
    cases a1 with
    | false =>
        exact lawG_run mixed body run1_0_0 (.cons (u8s_VR _ w0 e0) (.cons (.bool false) (.cons (sy8_VR (by omega) w2) .nil))) (by omega) (handle_VR _) rfl w hw
    | true =>
        exact lawG_run mixed body run1_1_0 (.cons (u8s_VR _ w0 e0) (.cons (.bool true) (.cons (sy8_VR (by omega) w2) .nil))) (by omega) (handle_VR _) rfl w hw
  | 2, _, e0 =>
    cases a1 with
    | false =>
        exact lawG_run mixed body run2_0_0 (.cons (u8s_VR _ w0 e0) (.cons (.bool false) (.cons (sy8_VR (by omega) w2) .nil))) (by omega) (handle_VR _) rfl w hw
    | true =>
        exact lawG_run mixed body run2_1_0 (.cons (u8s_VR _ w0 e0) (.cons (.bool true) (.cons (sy8_VR (by omega) w2) .nil))) (by omega) (handle_VR _) rfl w hw
  | 3, _, e0 =>
    cases a1 with
    | false =>
        exact lawG_run mixed body run3_0_0 (.cons (u8s_VR _ w0 e0) (.cons (.bool false) (.cons (sy8_VR (by omega) w2) .nil))) (by omega) (handle_VR _) rfl w hw
    | true =>
        exact lawG_run mixed body run3_1_0 (.cons (u8s_VR _ w0 e0) (.cons (.bool true) (.cons (sy8_VR (by omega) w2) .nil))) (by omega) (handle_VR _) rfl w hw
  | _ + 4, h, _ => exact absurd h (by omega)

/-- A world that meets the condition: the settled one, the variable's cell laid. -/
noncomputable def laidWorld (os : Os) : World :=
  let w0 := World.holding Tryz.prog os ⟨#[], #[], []⟩
  { w0 with heap := w0.heap.modify ((Tryz.prog.globalNamed "errors.errorType").getD 0) fun
      | .cells _ t frozen => .cells #[laidHandle] t frozen
      | o => o }
where laidHandle : Value := .iface (((Tryz.prog.cutTypes.find? (·.1 == "internal/reflectlite.rtype")).map (·.2)).getD 0) (.agg #[typeHandle Tryz.prog ((((List.range Tryz.prog.types.size).filter fun t => Tryz.prog.rowNamed t [101, 114, 114, 111, 114])).headD 0)])
theorem laidWorld_met (os : Os) (args : Array Value) : laidMetH Tryz.prog Rows.planNoneRow.laid ((laidWorld os).forCall (fun _ _ => 0) ⟨#[], args, []⟩).memory :=
  laidMetH_of_parts (laidMet_nil _ _) (by kernel_rfl)

set_option maxRecDepth 100000 in
theorem lifted (os : Os) (started : os.Started) (H : Type) (enc : TypeId × Value → H) :
    ReturnsInHanded {} Tryz.checked os 4 .any (fun w args => (Rows.planNoneSpec.pre enc Tryz.prog Tryz.f4 [] false w args ∧ laidMetH Tryz.prog Rows.planNoneRow.laid w) ∧ sizedMet enc Tryz.prog Tryz.f4 (OpenSpec.ofChange Rows.planNoneSpec) false w args)
      (Rows.planNoneSpec.post enc Tryz.prog Tryz.f4 false true false false) := by
  refine returnsInHanded_of_change_and (C := Tryz.checked) (X := fun w _ => laidMetH Tryz.prog Rows.planNoneRow.laid w) (fun _ _ _ hh h => h.of_heap hh) own started (by kernel_rfl) Tryz.func4
    (ChangeSpec.witness_at (enc := enc) (C := Tryz.checked) (os := os) (X := fun w _ => laidMetH Tryz.prog Rows.planNoneRow.laid w) false (laidWorld os) #[.int .u8 0, .bool false, .int .i8 0] 8 rfl (by kernel_rfl) (by kernel_rfl) (by kernel_rfl) (by kernel_rfl) (by kernel_rfl) (laidWorld_met os _)) ?_
  intro W base args ds gs before hval0 hW _ _ hL _
  have hval : ∀ (j : Nat) t v, Tryz.f4.params[j]? = some t → args[j]? = some v → Value.okWide Tryz.prog W .any base t v := hval0
  have hW' := hW
  obtain ⟨p, q, hA0, hV0, rfl, hfz, hnd⟩ := hW
  have hA : DataW.TrodAll enc Tryz.prog W 0 (fun _ => true) true Tryz.f4.params.toList args.toList ds p := hA0
  have hV : DataW.TrodVars enc Tryz.prog W (fun _ => true) [] gs q := hV0
  rw [Tryz.params4] at hA hval
  obtain ⟨v0, vs0, d0, ds0, p0, q0, hargs, rfl, rfl, h0, r0⟩ := trodAll_cons hA
  obtain ⟨v1, vs1, d1, ds1, p1, q1, rfl, rfl, rfl, h1, r1⟩ := trodAll_cons r0
  obtain ⟨v2, vs2, d2, ds2, p2, q2, rfl, rfl, rfl, h2, r2⟩ := trodAll_cons r1
  obtain ⟨rfl, rfl, rfl⟩ := trodAll_nil r2
  obtain rfl : args = #[v0, v1, v2] := by cases args; simp_all
  obtain ⟨rfl, rfl⟩ := trodVars_none hV
  obtain ⟨a0, rfl, rfl, rfl, w0⟩ := open_int Tryz.underlying5 (hval 0 5 v0 rfl rfl) h0
  obtain ⟨a1, rfl, rfl, rfl⟩ := open_bool Tryz.underlying4 (hval 1 4 v1 rfl rfl) h1
  obtain ⟨a2, rfl, rfl, rfl, w2⟩ := open_int Tryz.underlying50 (hval 2 50 v2 rfl rfl) h2
  clear hA0 hval0
  obtain ⟨eT, eF, hg⟩ := handle_of_laid hL
  simp only [List.append_nil] at hW'
  have e1 : Rows.planNoneSpec.fn H ([.lit (.int .u8 a0), .lit (.bool a1), .lit (.int .i8 a2)] ++ []) = { results := [.lit (.bool true)], args := [.lit (.int .u8 a0), .lit (.bool a1), .lit (.int .i8 a2)] } := by simp [Rows.planNoneSpec]
  refine (walk a0 a1 a2 w0 w2 W hg).mono fun e W' ⟨he, hb⟩ => ?_
  subst he
  refine ⟨_, rfl, _, _, _, [], [], [], hW', ?_, ?_, ?_, hb.frame _, fun h => by cases h⟩
  · rw [e1]; exact trodAll_cons_mk (shut_bool Tryz.underlying4 true) trodAll_mk0
  · rw [e1]; exact (trodAll_cons_mk (shut_int Tryz.underlying5 w0) (trodAll_cons_mk (shut_bool Tryz.underlying4 a1) (trodAll_cons_mk (shut_int Tryz.underlying50 w2) trodAll_mk0)))
  · rw [e1]; rfl

/-! ### What the row says of the call's text: off the list of what it can come to, once. -/
theorem clIs : Tryz.prog.closure 4 = [4, 16, 17, 43, 8, 26, 58, 59, 126, 60, 127, 129, 178, 128, 177, 27, 61, 62, 130, 179, 180, 217, 131, 6, 21, 54, 124, 123, 55, 56, 22, 23, 24, 25, 57, 125, 44, 83, 9, 10, 28, 63, 64, 65, 29, 67, 39, 78, 66, 30, 68, 132, 134, 135, 154, 209, 210, 262, 233, 285, 260, 309, 342, 261, 208, 310, 343, 232, 182, 218, 267, 219, 143, 192, 133, 181, 136, 183, 137, 138, 69, 106, 140, 186, 139, 184, 220, 185, 222, 277, 278, 221, 268, 274, 269, 313, 270, 314, 315, 271, 316, 317, 344, 272, 273, 275, 276, 70, 141, 187, 223, 279, 153, 142, 188, 224, 237, 287, 288, 225, 189, 226, 281, 280, 319, 320, 318, 321, 282, 35, 72, 73, 74, 75, 148, 149, 150, 227, 228, 190, 229, 283, 284, 230, 191, 71, 144, 193, 231, 194, 234, 286, 235, 145, 195, 236, 255, 238, 289, 239, 290, 291, 322, 345, 196, 240, 292, 293, 325, 324, 347, 348, 364, 371, 323, 346, 328, 327, 350, 351, 352, 365, 372, 353, 326, 349, 294, 197, 241, 242, 243, 295, 296, 329, 354, 330, 333, 332, 356, 357, 358, 366, 373, 359, 331, 355, 297, 198, 199, 244, 257, 308, 341, 245, 298, 299, 146, 147, 200, 247, 246, 300, 249, 248, 301, 201, 251, 250, 302, 202, 252, 303, 334, 335, 336, 360, 367, 361, 368, 203, 253, 304, 307, 340, 254, 305, 306, 337, 338, 339, 362, 369, 363, 370, 204, 256, 205, 206, 258, 259, 31, 32, 34, 33, 45, 84, 157, 158, 85, 86, 87, 88, 89, 47, 46, 52, 90, 91, 159, 92, 93, 94, 15, 41, 96, 98, 97, 99, 162, 212, 263, 311, 264, 312, 163, 100, 101, 164, 213, 265, 102, 95, 160, 161, 14, 40, 48, 103, 165, 214, 266, 104, 166, 215, 105, 168, 167, 170, 49, 107, 108, 169, 109, 110, 50, 111, 112, 20, 19, 51, 114, 115, 113, 171, 117, 116, 172, 13, 53, 118, 173, 119, 120, 121, 122, 174, 175, 176, 216, 11, 42, 79, 152, 155, 211, 156, 80, 81, 82, 18] := by kernel_rfl
theorem inIs : Tryz.prog.inPlace 4 = ["math.Float64bits", "math.Float64frombits", "internal/bytealg.abigen_runtime_cmpstring", "internal/reflectlite.ValueOf", "(internal/reflectlite.Value).Type", "(internal/reflectlite.Value).IsNil", "internal/reflectlite.TypeOf", "(internal/reflectlite.Value).Elem", "(internal/reflectlite.Value).Set", "slices.overlaps[int64]", "slices.overlaps[rialto/api.Entry]", "slices.overlaps[*rialto/tree.node[rialto/api.Entry]]", "slices.overlaps[*rialto/tree.node[int64]]"] := by unfold Program.inPlace; rw [clIs]; kernel_rfl
theorem unIs : Tryz.prog.unfollowed 4 = true := by unfold Program.unfollowed; rw [clIs]; kernel_rfl
theorem reIs : Tryz.prog.recurses 4 = true := by unfold Program.recurses; rw [unIs]; rfl
theorem vaIs : Tryz.prog.varsNamed 4 = ["errors.errorType"] := by unfold Program.varsNamed; rw [clIs]; kernel_rfl
theorem goIs : Tryz.prog.goes 4 = false := by unfold Program.goes; rw [clIs, unIs]; kernel_rfl
theorem fnIs : Tryz.prog.funcNamed Rows.planNoneRow.func = some 4 := by kernel_rfl
theorem goesIs : false = Rows.planNoneRow.goesBy Tryz.prog := by
  unfold OpenClaim.goesBy Program.goesAt Program.goesFrom
  rw [fnIs, Option.any_some, goIs]
  rfl
theorem facts : joinedFacts Tryz.prog 4 Tryz.f4 Rows.planNoneSpec Rows.planNoneRow = true := by
  unfold joinedFacts
  rw [inIs, unIs, reIs, vaIs]
  kernel_rfl


theorem over : Rows.PlanNoneSaid :=
  OpenClaim.holds_of_wide 4 Tryz.f4 rfl rfl rfl rfl rfl rfl rfl ⟨rfl, rfl, rfl, rfl, rfl⟩ rfl rfl rfl rfl rfl (by kernel_rfl) Tryz.func4 facts
    (of_decide_eq_true (by kernel_rfl)) (by unfold Func.isWrapper; rw [if_neg (of_decide_eq_false (by kernel_rfl))]; exact ⟨rfl, rfl⟩)
    (fun os started H enc _ => lifted os started H enc)

/-- THE STATEMENT. -/
theorem proved : Rows.PlanNoneCardSaid :=
  Claim7.holds_tied_plain_at .later [] [.handle] true Rows.planNoneCard.stood.harness true
    over (fun _ h => by cases h) (by kernel_rfl) (fun _ h => by cases h) planNone_row_tie rfl ⟨rfl, rfl⟩ (by kernel_rfl) rfl
    (fun f fn hf hfn => by
      obtain rfl : f = 4 := Option.some.inj ((show Tryz.prog.funcNamed Rows.planNoneRow.func = some 4 by kernel_rfl).symm.trans hf) |>.symm
      obtain rfl : fn = Tryz.f4 := (Option.some.inj (Tryz.func4.symm.trans hfn)).symm
      exact ⟨by kernel_rfl, fun j t ht => by
          rw [Tryz.params4] at ht
          rcases j with _ | _ | _ | j
          · have h3 : t = 5 := by simpa using ht.symm
            subst h3
            exact (show Tryz.prog.wantsStandIn 5 = false by kernel_rfl)
          · have h3 : t = 4 := by simpa using ht.symm
            subst h3
            exact (show Tryz.prog.wantsStandIn 4 = false by kernel_rfl)
          · have h3 : t = 50 := by simpa using ht.symm
            subst h3
            exact (show Tryz.prog.wantsStandIn 50 = false by kernel_rfl)
          · simp at ht⟩)
    goesIs
#print axioms proved
end Go.Proofs.YtlmdgpflcfdhdaaGreatDoor.planNone
