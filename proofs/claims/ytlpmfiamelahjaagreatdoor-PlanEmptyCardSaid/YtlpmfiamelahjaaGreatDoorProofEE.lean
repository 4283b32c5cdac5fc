/-
  For every argument, in every world in which the listed variable reads as the row says, the law returns true and turns nothing that lay before; the card ties that to the program's text.
  Every run is one of the executor (Ex1 to Ex3), checked by the kernel (Run0 and on): one for each choice of residues.
-/
import Derived.Test.YtlpmfiamelahjaaGreatDoorRows
import Derived.Test.YtlpmfiamelahjaaGreatDoorCards
import Derived.Test.YtlpmfiamelahjaaGreatDoorTie
import Derived.Test.YtlpmfiamelahjaaGreatDoorE6
import Derived.WalkKit
import Derived.ProofKit
import Derived.OpenShut
import Derived.ChangeSame
import Derived.ChangeVars
import Derived.JoinedOf
import Derived.RowKit
import Derived.RowKitTokens
import Derived.LaidLaws
import Derived.LaidHandle
import Derived.Stop.Joined
import Derived.SevenTiedAt
namespace Go.Proofs.YtlpmfiamelahjaaGreatDoor.planEmpty
open Go.ChangeShapes Go.WideShapes Go.ChangeAt Go.RowKit
open Go.Ex
set_option linter.unusedVariables false

theorem own : ownKnob Tryz.prog.godebug = none := by kernel_rfl
theorem mixed : Tryz.prog.follows .mixedOrders = true := by kernel_rfl
theorem rtIs : (Tryz.prog.cutTypes.find? (·.1 == "internal/reflectlite.rtype")).map (·.2) = some 257 := by kernel_rfl
theorem oneRow : ((List.range Tryz.prog.types.size).filter fun t => Tryz.prog.rowNamed t [101, 114, 114, 111, 114]) = [46] := by kernel_rfl
theorem varIs : Tryz.prog.globalNamed "errors.errorType" = some 0 := by kernel_rfl
theorem handleIs : typeHandle Tryz.prog 46 = .pointer (some ⟨3, 46, none⟩) := by kernel_rfl

/-- What the condition gives: the variable's one cell. -/
theorem handle_of_laid {W : World} (h : laidMetH Tryz.prog Rows.planEmptyRow.laid W) : ∃ e fz, W.heap[0]? = some (.cells #[.iface 257 (.agg #[.pointer (some ⟨3, 46, none⟩)])] e fz) := by
  have h' : laidMet Tryz.prog [] W ∧ handlesMet Tryz.prog Rows.planEmptyRow.laid W := h
  obtain ⟨name, u, ty, e1, e2, e3, e4, e5⟩ := h'.2 _ (List.mem_singleton.2 rfl)
  have en : name = [101, 114, 114, 111, 114] := (Option.some.inj e1).symm
  subst en
  obtain rfl := Option.some.inj (rtIs.symm.trans e2)
  have hm : ty ∈ (List.range Tryz.prog.types.size).filter fun t => Tryz.prog.rowNamed t [101, 114, 114, 111, 114] := List.mem_filter.2 ⟨List.mem_range.2 e3, e4⟩
  rw [oneRow] at hm
  obtain rfl := List.mem_singleton.1 hm
  rw [handleIs] at e5
  have e6 : ((Tryz.prog.globalNamed "errors.errorType").bind fun g => match W.heap[g]? with
    | some (.cells cs _ _) => some cs
    | _ => none) = some #[.iface 257 (.agg #[.pointer (some ⟨3, 46, none⟩)])] := e5
  rw [varIs, Option.bind_some] at e6
  split at e6
  · rename_i cs e fz hw
    cases e6
    exact ⟨e, fz, hw⟩
  · cases e6
theorem walk (a0 : Int) (a1 : Int) (a2 : Bool) (a3 : Bool) (a4 : Bool) (a5 : Bool) (w0 : (Lit.int .i8 a0).wf = true) (w1 : (Lit.int .i8 a1).wf = true) (w : World) {e : TypeId} {fz : Nat × Nat} (hw : w.heap[0]? = some (.cells #[.iface 257 (.agg #[.pointer (some ⟨3, 46, none⟩)])] e fz)) :
    Calls Tryz.prog 3 #[.int .i8 a0, .int .i8 a1, .bool a2, .bool a3, .bool a4, .bool a5] w fun e w' => e = .returned (.bool true) ∧ Below w.heap.size w w' := by
  have b0 : -128 ≤ a0 ∧ a0 ≤ 127 := by
    simp [Lit.wf, IntKind.min, IntKind.max, IntKind.signed, IntKind.bits] at w0
    omega
  have b1 : -128 ≤ a1 ∧ a1 ≤ 127 := by
    simp [Lit.wf, IntKind.min, IntKind.max, IntKind.signed, IntKind.bits] at w1
    omega
  exact Px.rialtolaw21_PlanEmpty.calls 404 a0 a1 a2 a3 a4 a5 true _ ⟨_, _, hw⟩ (Mb.empty_is a0 a1 b0.1 b0.2 b1.1 b1.2 a2 a3 a4 a5)

/-- A world that meets the condition: the settled one, the variable's cell laid. -/
noncomputable def laidWorld (os : Os) : World :=
  let w0 := World.holding Tryz.prog os ⟨#[], #[], []⟩
  { w0 with heap := w0.heap.modify ((Tryz.prog.globalNamed "errors.errorType").getD 0) fun
      | .cells _ t frozen => .cells #[laidHandle] t frozen
      | o => o }
where laidHandle : Value := .iface (((Tryz.prog.cutTypes.find? (·.1 == "internal/reflectlite.rtype")).map (·.2)).getD 0) (.agg #[typeHandle Tryz.prog ((((List.range Tryz.prog.types.size).filter fun t => Tryz.prog.rowNamed t [101, 114, 114, 111, 114])).headD 0)])
theorem laidWorld_met (os : Os) (args : Array Value) : laidMetH Tryz.prog Rows.planEmptyRow.laid ((laidWorld os).forCall (fun _ _ => 0) ⟨#[], args, []⟩).memory :=
  laidMetH_of_parts (laidMet_nil _ _) (by kernel_rfl)

set_option maxRecDepth 100000 in
theorem lifted (os : Os) (started : os.Started) (H : Type) (enc : TypeId × Value → H) :
    ReturnsInHanded {} Tryz.checked os 3 .any (fun w args => (Rows.planEmptySpec.pre enc Tryz.prog Tryz.f3 [] false w args ∧ laidMetH Tryz.prog Rows.planEmptyRow.laid w) ∧ sizedMet enc Tryz.prog Tryz.f3 (OpenSpec.ofChange Rows.planEmptySpec) false w args)
      (Rows.planEmptySpec.post enc Tryz.prog Tryz.f3 false true false false) := by
  refine returnsInHanded_of_change_and (C := Tryz.checked) (X := fun w _ => laidMetH Tryz.prog Rows.planEmptyRow.laid w) (fun _ _ _ hh h => h.of_heap hh) own started (by kernel_rfl) Tryz.func3
    (ChangeSpec.witness_at (enc := enc) (C := Tryz.checked) (os := os) (X := fun w _ => laidMetH Tryz.prog Rows.planEmptyRow.laid w) false (laidWorld os) #[.int .i8 0, .int .i8 0, .bool false, .bool false, .bool false, .bool false] 8 rfl (by kernel_rfl) (by kernel_rfl) (by kernel_rfl) (by kernel_rfl) (by kernel_rfl) (laidWorld_met os _)) ?_
  intro W base args ds gs before hval0 hW _ _ hL _
  have hval : ∀ (j : Nat) t v, Tryz.f3.params[j]? = some t → args[j]? = some v → Value.okWide Tryz.prog W .any base t v := hval0
  have hW' := hW
  obtain ⟨p, q, hA0, hV0, rfl, hfz, hnd⟩ := hW
  have hA : DataW.TrodAll enc Tryz.prog W 0 (fun _ => true) true Tryz.f3.params.toList args.toList ds p := hA0
  have hV : DataW.TrodVars enc Tryz.prog W (fun _ => true) [] gs q := hV0
  rw [Tryz.params3] at hA hval
  obtain ⟨v0, vs0, d0, ds0, p0, q0, hargs, rfl, rfl, h0, r0⟩ := trodAll_cons hA
  obtain ⟨v1, vs1, d1, ds1, p1, q1, rfl, rfl, rfl, h1, r1⟩ := trodAll_cons r0
  obtain ⟨v2, vs2, d2, ds2, p2, q2, rfl, rfl, rfl, h2, r2⟩ := trodAll_cons r1
  obtain ⟨v3, vs3, d3, ds3, p3, q3, rfl, rfl, rfl, h3, r3⟩ := trodAll_cons r2
  obtain ⟨v4, vs4, d4, ds4, p4, q4, rfl, rfl, rfl, h4, r4⟩ := trodAll_cons r3
  obtain ⟨v5, vs5, d5, ds5, p5, q5, rfl, rfl, rfl, h5, r5⟩ := trodAll_cons r4
  obtain ⟨rfl, rfl, rfl⟩ := trodAll_nil r5
  obtain rfl : args = #[v0, v1, v2, v3, v4, v5] := by cases args; simp_all
  obtain ⟨rfl, rfl⟩ := trodVars_none hV
  obtain ⟨a0, rfl, rfl, rfl, w0⟩ := open_int Tryz.underlying22 (hval 0 22 v0 rfl rfl) h0
  obtain ⟨a1, rfl, rfl, rfl, w1⟩ := open_int Tryz.underlying22 (hval 1 22 v1 rfl rfl) h1
  obtain ⟨a2, rfl, rfl, rfl⟩ := open_bool Tryz.underlying4 (hval 2 4 v2 rfl rfl) h2
  obtain ⟨a3, rfl, rfl, rfl⟩ := open_bool Tryz.underlying4 (hval 3 4 v3 rfl rfl) h3
  obtain ⟨a4, rfl, rfl, rfl⟩ := open_bool Tryz.underlying4 (hval 4 4 v4 rfl rfl) h4
  obtain ⟨a5, rfl, rfl, rfl⟩ := open_bool Tryz.underlying4 (hval 5 4 v5 rfl rfl) h5
  clear hA0 hval0
  obtain ⟨eT, eF, hg⟩ := handle_of_laid hL
  simp only [List.append_nil] at hW'
  have e1 : Rows.planEmptySpec.fn H ([.lit (.int .i8 a0), .lit (.int .i8 a1), .lit (.bool a2), .lit (.bool a3), .lit (.bool a4), .lit (.bool a5)] ++ []) = { results := [.lit (.bool true)], args := [.lit (.int .i8 a0), .lit (.int .i8 a1), .lit (.bool a2), .lit (.bool a3), .lit (.bool a4), .lit (.bool a5)] } := by simp [Rows.planEmptySpec]
  refine (walk a0 a1 a2 a3 a4 a5 w0 w1 W hg).mono fun e W' ⟨he, hb⟩ => ?_
  subst he
  refine ⟨_, rfl, _, _, _, [], [], [], hW', ?_, ?_, ?_, hb.frame _, fun h => by cases h⟩
  · rw [e1]; exact trodAll_cons_mk (shut_bool Tryz.underlying4 true) trodAll_mk0
  · rw [e1]; exact (trodAll_cons_mk (shut_int Tryz.underlying22 w0) (trodAll_cons_mk (shut_int Tryz.underlying22 w1) (trodAll_cons_mk (shut_bool Tryz.underlying4 a2) (trodAll_cons_mk (shut_bool Tryz.underlying4 a3) (trodAll_cons_mk (shut_bool Tryz.underlying4 a4) (trodAll_cons_mk (shut_bool Tryz.underlying4 a5) trodAll_mk0))))))
  · rw [e1]; rfl

/-! ### What the row says of the call's text: off the list of what it can come to, once. -/
theorem clIs : Tryz.prog.closure 3 = [3, 4, 8, 16, 17, 47, 118, 119, 170, 120, 171, 41, 113, 172, 209, 48, 121, 122, 133, 7, 13, 14, 173, 15, 42, 114, 168, 167, 115, 116, 43, 44, 45, 46, 117, 169, 18, 49, 19, 20, 50, 123, 124, 125, 51, 127, 93, 156, 126, 52, 128, 174, 176, 177, 105, 12, 37, 108, 38, 109, 39, 110, 165, 40, 112, 111, 166, 36, 211, 255, 292, 256, 150, 207, 175, 210, 178, 212, 179, 180, 129, 80, 182, 215, 181, 213, 257, 214, 259, 301, 302, 258, 293, 269, 294, 328, 295, 329, 330, 296, 331, 332, 352, 297, 298, 299, 300, 130, 183, 216, 260, 303, 104, 138, 185, 217, 228, 267, 268, 218, 186, 219, 262, 261, 305, 306, 304, 307, 263, 31, 99, 100, 101, 102, 161, 162, 163, 220, 221, 187, 222, 264, 265, 223, 188, 72, 139, 189, 224, 190, 225, 266, 226, 140, 191, 227, 246, 229, 270, 230, 271, 272, 308, 333, 192, 231, 273, 274, 311, 310, 335, 336, 353, 360, 309, 334, 314, 313, 338, 339, 340, 354, 361, 341, 312, 337, 275, 193, 232, 233, 234, 276, 277, 315, 342, 316, 319, 318, 344, 345, 346, 355, 362, 347, 317, 343, 278, 194, 195, 235, 248, 289, 327, 236, 279, 280, 141, 142, 196, 238, 237, 281, 240, 239, 282, 197, 242, 241, 283, 198, 243, 284, 320, 321, 322, 348, 356, 349, 357, 199, 244, 285, 288, 326, 245, 286, 287, 323, 324, 325, 350, 358, 351, 359, 200, 247, 201, 202, 249, 250, 53, 54, 56, 55, 21, 57, 131, 132, 58, 59, 60, 61, 62, 23, 22, 28, 63, 64, 134, 65, 66, 67, 82, 151, 69, 71, 70, 73, 143, 203, 251, 290, 252, 291, 144, 74, 75, 145, 204, 253, 76, 68, 135, 136, 137, 184, 24, 77, 146, 205, 254, 78, 147, 206, 79, 149, 148, 153, 25, 81, 83, 152, 84, 85, 26, 86, 87, 5, 9, 27, 89, 90, 88, 154, 92, 91, 155, 29, 30, 94, 157, 95, 96, 97, 98, 158, 159, 160, 208, 10, 11, 32, 103, 106, 164, 107, 33, 34, 35, 6] := by kernel_rfl
theorem inIs : Tryz.prog.inPlace 3 = ["math.Float64bits", "math.Float64frombits", "internal/bytealg.abigen_runtime_cmpstring", "internal/reflectlite.ValueOf", "(internal/reflectlite.Value).Type", "(internal/reflectlite.Value).IsNil", "internal/reflectlite.TypeOf", "(internal/reflectlite.Value).Elem", "(internal/reflectlite.Value).Set", "slices.overlaps[int64]", "slices.overlaps[rialto/api.Entry]", "slices.overlaps[*rialto/tree.node[rialto/api.Entry]]", "slices.overlaps[*rialto/tree.node[int64]]"] := by unfold Program.inPlace; rw [clIs]; kernel_rfl
theorem unIs : Tryz.prog.unfollowed 3 = true := by unfold Program.unfollowed; rw [clIs]; kernel_rfl
theorem reIs : Tryz.prog.recurses 3 = true := by unfold Program.recurses; rw [unIs]; rfl
theorem vaIs : Tryz.prog.varsNamed 3 = ["errors.errorType"] := by unfold Program.varsNamed; rw [clIs]; kernel_rfl
theorem goIs : Tryz.prog.goes 3 = false := by unfold Program.goes; rw [clIs, unIs]; kernel_rfl
theorem fnIs : Tryz.prog.funcNamed Rows.planEmptyRow.func = some 3 := by kernel_rfl
theorem goesIs : false = Rows.planEmptyRow.goesBy Tryz.prog := by
  unfold OpenClaim.goesBy Program.goesAt Program.goesFrom
  rw [fnIs, Option.any_some, goIs]
  rfl
theorem facts : joinedFacts Tryz.prog 3 Tryz.f3 Rows.planEmptySpec Rows.planEmptyRow = true := by
  unfold joinedFacts
  rw [inIs, unIs, reIs, vaIs]
  kernel_rfl


theorem over : Rows.PlanEmptySaid :=
  OpenClaim.holds_of_wide 3 Tryz.f3 rfl rfl rfl rfl rfl rfl rfl ⟨rfl, rfl, rfl, rfl, rfl⟩ rfl rfl rfl rfl rfl (by kernel_rfl) Tryz.func3 facts
    (of_decide_eq_true (by kernel_rfl)) (by unfold Func.isWrapper; rw [if_neg (of_decide_eq_false (by kernel_rfl))]; exact ⟨rfl, rfl⟩)
    (fun os started H enc _ => lifted os started H enc)

/-- THE STATEMENT. -/
theorem proved : Rows.PlanEmptyCardSaid :=
  Claim7.holds_tied_plain_at .later [] [.handle] true Rows.planEmptyCard.stood.harness true
    over (fun _ h => by cases h) (by kernel_rfl) (fun _ h => by cases h) planEmpty_row_tie rfl ⟨rfl, rfl⟩ (by kernel_rfl) rfl
    (fun f fn hf hfn => by
      obtain rfl : f = 3 := Option.some.inj ((show Tryz.prog.funcNamed Rows.planEmptyRow.func = some 3 by kernel_rfl).symm.trans hf) |>.symm
      obtain rfl : fn = Tryz.f3 := (Option.some.inj (Tryz.func3.symm.trans hfn)).symm
      exact ⟨by kernel_rfl, fun j t ht => by
          rw [Tryz.params3] at ht
          rcases j with _ | _ | _ | _ | _ | _ | j
          · have h3 : t = 22 := by simpa using ht.symm
            subst h3
            exact (show Tryz.prog.wantsStandIn 22 = false by kernel_rfl)
          · have h3 : t = 22 := by simpa using ht.symm
            subst h3
            exact (show Tryz.prog.wantsStandIn 22 = false by kernel_rfl)
          · have h3 : t = 4 := by simpa using ht.symm
            subst h3
            exact (show Tryz.prog.wantsStandIn 4 = false by kernel_rfl)
          · have h3 : t = 4 := by simpa using ht.symm
            subst h3
            exact (show Tryz.prog.wantsStandIn 4 = false by kernel_rfl)
          · have h3 : t = 4 := by simpa using ht.symm
            subst h3
            exact (show Tryz.prog.wantsStandIn 4 = false by kernel_rfl)
          · have h3 : t = 4 := by simpa using ht.symm
            subst h3
            exact (show Tryz.prog.wantsStandIn 4 = false by kernel_rfl)
          · simp at ht⟩)
    goesIs
#print axioms proved
end Go.Proofs.YtlpmfiamelahjaaGreatDoor.planEmpty
