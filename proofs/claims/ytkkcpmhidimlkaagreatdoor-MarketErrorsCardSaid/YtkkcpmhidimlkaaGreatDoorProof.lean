/-
  For every argument, in every world in which the listed variable reads as the row says, the law returns true and turns nothing that lay before; the card ties that to the program's text.
  Every run is one of the executor (Ex1 to Ex3), checked by the kernel (Run0 and on): one for each choice of residues.
-/
import Derived.Test.YtkkcpmhidimlkaaGreatDoorRows
import Derived.Test.YtkkcpmhidimlkaaGreatDoorCards
import Derived.Test.YtkkcpmhidimlkaaGreatDoorTie
import Derived.Test.YtkkcpmhidimlkaaGreatDoorRun0
import Derived.Test.YtkkcpmhidimlkaaGreatDoorRun1
import Derived.Test.YtkkcpmhidimlkaaGreatDoorRun2
import Derived.Test.YtkkcpmhidimlkaaGreatDoorRun3
import Derived.Test.YtkkcpmhidimlkaaGreatDoorRun4
import Derived.Test.YtkkcpmhidimlkaaGreatDoorRun5
import Derived.Test.YtkkcpmhidimlkaaGreatDoorRun6
import Derived.Test.YtkkcpmhidimlkaaGreatDoorRun7
import Derived.WalkKit
import Derived.ProofKit
import Derived.OpenShut
import Derived.ChangeSame
import Derived.ChangeVars
import Derived.JoinedOf
import Derived.RowKit
import Derived.RowKitTokens
import Derived.LaidLaws
import Derived.LaidHandle
import Derived.Stop.Joined
import Derived.SevenTiedAt
namespace Go.Proofs.YtkkcpmhidimlkaaGreatDoor.marketErrors
open Go.ChangeShapes Go.WideShapes Go.ChangeAt Go.RowKit
open Go.Ex
set_option linter.unusedVariables false

theorem own : ownKnob Tryz.prog.godebug = none := by kernel_rfl
theorem mixed : Tryz.prog.follows .mixedOrders = true := by kernel_rfl
theorem body : (bodyOf Tryz.prog 3).isSome = true := by kernel_rfl

theorem runs : ∀ (r0 : Nat) (h0 : r0 < 8), lawG Tryz.prog 64 20000 3 [u8s 8 r0] 0 handle = true := by
  intro r0 h0
  match r0, h0 with
  | 0, _ =>
    exact run0
  | 1, _ =>
    exact run1
  | 2, _ =>
    exact run2
  | 3, _ =>
    exact run3
  | 4, _ =>
    exact run4
  | 5, _ =>
    exact run5
  | 6, _ =>
    exact run6
  | 7, _ =>
    exact run7
  | _ + 8, h => exact absurd h (by omega)

theorem rtIs : (Tryz.prog.cutTypes.find? (·.1 == "internal/reflectlite.rtype")).map (·.2) = some 251 := by kernel_rfl
theorem oneRow : ((List.range Tryz.prog.types.size).filter fun t => Tryz.prog.rowNamed t [101, 114, 114, 111, 114]) = [26] := by kernel_rfl
theorem varIs : Tryz.prog.globalNamed "errors.errorType" = some 0 := by kernel_rfl
theorem handleIs : typeHandle Tryz.prog 26 = .pointer (some ⟨3, 26, none⟩) := by kernel_rfl

/-- What the condition gives: the variable's one cell. -/
theorem handle_of_laid {W : World} (h : laidMetH Tryz.prog Rows.marketErrorsRow.laid W) : ∃ e fz, W.heap[0]? = some (.cells #[.iface 251 (.agg #[.pointer (some ⟨3, 26, none⟩)])] e fz) := by
  have h' : laidMet Tryz.prog [] W ∧ handlesMet Tryz.prog Rows.marketErrorsRow.laid W := h
  obtain ⟨name, u, ty, e1, e2, e3, e4, e5⟩ := h'.2 _ (List.mem_singleton.2 rfl)
  have en : name = [101, 114, 114, 111, 114] := (Option.some.inj e1).symm
  subst en
  obtain rfl := Option.some.inj (rtIs.symm.trans e2)
  have hm : ty ∈ (List.range Tryz.prog.types.size).filter fun t => Tryz.prog.rowNamed t [101, 114, 114, 111, 114] := List.mem_filter.2 ⟨List.mem_range.2 e3, e4⟩
  rw [oneRow] at hm
  obtain rfl := List.mem_singleton.1 hm
  rw [handleIs] at e5
  have e6 : ((Tryz.prog.globalNamed "errors.errorType").bind fun g => match W.heap[g]? with
    | some (.cells cs _ _) => some cs
    | _ => none) = some #[.iface 251 (.agg #[.pointer (some ⟨3, 26, none⟩)])] := e5
  rw [varIs, Option.bind_some] at e6
  split at e6
  · rename_i cs e fz hw
    cases e6
    exact ⟨e, fz, hw⟩
  · cases e6

theorem handle_VR : VR (mG 64) handle (.iface 251 (.agg #[.pointer (some ⟨3, 26, none⟩)])) :=
  .iface _ _ _ (.agg' (fun u hu => by simp at hu; subst hu; rfl) ⟨.ptr (m := mG 64) 3 26 (show 3 < 64 by omega), trivial⟩)

/-- The walk, by the runs. -/
theorem walk (a0 : Int) (w0 : (Lit.int .u8 a0).wf = true) (w : World) {e : TypeId} {fz : Nat × Nat} (hw : w.heap[0]? = some (.cells #[.iface 251 (.agg #[.pointer (some ⟨3, 26, none⟩)])] e fz)) :
    Calls Tryz.prog 3 #[.int .u8 a0] w fun e w' => e = .returned (.bool true) ∧ Below w.heap.size w w' := by
  have e0 : a0 % ((8 : Nat) : Int) = ((a0 % 8).toNat : Int) := by omega
  have hr := runs (a0 % 8).toNat (by omega)
  exact lawG_run mixed body hr (.cons (u8s_VR _ w0 e0) .nil) (by omega) handle_VR rfl w hw

/-- A world that meets the condition: the settled one, the variable's cell laid. -/
noncomputable def laidWorld (os : Os) : World :=
  let w0 := World.holding Tryz.prog os ⟨#[], #[], []⟩
  { w0 with heap := w0.heap.modify ((Tryz.prog.globalNamed "errors.errorType").getD 0) fun
      | .cells _ t frozen => .cells #[laidHandle] t frozen
      | o => o }
where laidHandle : Value := .iface (((Tryz.prog.cutTypes.find? (·.1 == "internal/reflectlite.rtype")).map (·.2)).getD 0) (.agg #[typeHandle Tryz.prog ((((List.range Tryz.prog.types.size).filter fun t => Tryz.prog.rowNamed t [101, 114, 114, 111, 114])).headD 0)])
theorem laidWorld_met (os : Os) (args : Array Value) : laidMetH Tryz.prog Rows.marketErrorsRow.laid ((laidWorld os).forCall (fun _ _ => 0) ⟨#[], args, []⟩).memory :=
  laidMetH_of_parts (laidMet_nil _ _) (by kernel_rfl)

set_option maxRecDepth 100000 in
theorem lifted (os : Os) (started : os.Started) (H : Type) (enc : TypeId × Value → H) :
    ReturnsInHanded {} Tryz.checked os 3 .any (fun w args => (Rows.marketErrorsSpec.pre enc Tryz.prog Tryz.f3 [] false w args ∧ laidMetH Tryz.prog Rows.marketErrorsRow.laid w) ∧ sizedMet enc Tryz.prog Tryz.f3 (OpenSpec.ofChange Rows.marketErrorsSpec) false w args)
      (Rows.marketErrorsSpec.post enc Tryz.prog Tryz.f3 false true false false) := by
  refine returnsInHanded_of_change_and (C := Tryz.checked) (X := fun w _ => laidMetH Tryz.prog Rows.marketErrorsRow.laid w) (fun _ _ _ hh h => h.of_heap hh) own started (by kernel_rfl) Tryz.func3
    (ChangeSpec.witness_at (enc := enc) (C := Tryz.checked) (os := os) (X := fun w _ => laidMetH Tryz.prog Rows.marketErrorsRow.laid w) false (laidWorld os) #[.int .u8 0] 8 rfl (by kernel_rfl) (by kernel_rfl) (by kernel_rfl) (by kernel_rfl) (by kernel_rfl) (laidWorld_met os _)) ?_
  intro W base args ds gs before hval0 hW _ _ hL _
  have hval : ∀ (j : Nat) t v, Tryz.f3.params[j]? = some t → args[j]? = some v → Value.okWide Tryz.prog W .any base t v := hval0
  have hW' := hW
  obtain ⟨p, q, hA0, hV0, rfl, hfz, hnd⟩ := hW
  have hA : DataW.TrodAll enc Tryz.prog W 0 (fun _ => true) true Tryz.f3.params.toList args.toList ds p := hA0
  have hV : DataW.TrodVars enc Tryz.prog W (fun _ => true) [] gs q := hV0
  rw [Tryz.params3] at hA hval
  obtain ⟨v0, vs0, d0, ds0, p0, q0, hargs, rfl, rfl, h0, r0⟩ := trodAll_cons hA
  obtain ⟨rfl, rfl, rfl⟩ := trodAll_nil r0
  obtain rfl : args = #[v0] := by cases args; simp_all
  obtain ⟨rfl, rfl⟩ := trodVars_none hV
  obtain ⟨a0, rfl, rfl, rfl, w0⟩ := open_int Tryz.underlying5 (hval 0 5 v0 rfl rfl) h0
  clear hA0 hval0
  obtain ⟨eT, eF, hg⟩ := handle_of_laid hL
  simp only [List.append_nil] at hW'
  have e1 : Rows.marketErrorsSpec.fn H ([.lit (.int .u8 a0)] ++ []) = { results := [.lit (.bool true)], args := [.lit (.int .u8 a0)] } := by simp [Rows.marketErrorsSpec]
  refine (walk a0 w0 W hg).mono fun e W' ⟨he, hb⟩ => ?_
  subst he
  refine ⟨_, rfl, _, _, _, [], [], [], hW', ?_, ?_, ?_, hb.frame _, fun h => by cases h⟩
  · rw [e1]; exact trodAll_cons_mk (shut_bool Tryz.underlying4 true) trodAll_mk0
  · rw [e1]; exact (trodAll_cons_mk (shut_int Tryz.underlying5 w0) trodAll_mk0)
  · rw [e1]; rfl

/-! ### What the row says of the call's text: off the list of what it can come to, once. -/
theorem clIs : Tryz.prog.closure 3 = [3, 4, 5, 21, 22, 6, 24, 25, 26, 57, 108, 168, 167, 109, 110, 27, 58, 59, 60, 61, 111, 169, 28, 23, 56, 18, 51, 52, 19, 10, 38, 39, 79, 78, 134, 191, 171, 80, 135, 81, 82, 83, 136, 192, 133, 190, 238, 298, 232, 296, 349, 147, 211, 137, 193, 239, 250, 305, 306, 179, 230, 231, 295, 248, 304, 293, 347, 375, 294, 348, 376, 247, 240, 194, 241, 300, 299, 351, 352, 350, 353, 301, 49, 102, 103, 104, 105, 164, 165, 166, 242, 243, 195, 244, 302, 303, 245, 196, 84, 86, 87, 138, 197, 246, 198, 160, 217, 219, 139, 199, 249, 213, 251, 307, 308, 252, 309, 310, 354, 377, 200, 253, 311, 312, 357, 356, 379, 380, 393, 399, 355, 378, 360, 359, 382, 383, 384, 394, 400, 385, 358, 381, 313, 99, 159, 157, 163, 220, 221, 278, 331, 272, 274, 276, 325, 326, 327, 368, 391, 328, 279, 332, 222, 201, 202, 254, 263, 320, 364, 255, 314, 315, 140, 141, 203, 257, 256, 316, 259, 258, 317, 204, 261, 260, 318, 205, 262, 319, 361, 362, 363, 386, 395, 387, 396, 98, 154, 214, 271, 324, 156, 215, 216, 273, 275, 277, 329, 369, 330, 370, 161, 218, 206, 207, 264, 265, 35, 85, 88, 142, 208, 266, 321, 267, 322, 143, 89, 90, 144, 209, 268, 91, 69, 119, 55, 107, 40, 41, 92, 93, 146, 210, 269, 323, 365, 388, 226, 289, 290, 397, 401, 402, 411, 403, 334, 335, 404, 412, 413, 417, 405, 406, 407, 408, 389, 366, 367, 390, 398, 410, 416, 409, 414, 418, 415, 419, 420, 426, 432, 421, 429, 422, 423, 430, 431, 433, 424, 425, 427, 428, 270, 145, 31, 68, 70, 71, 120, 122, 176, 121, 174, 224, 175, 225, 280, 286, 338, 281, 333, 282, 283, 336, 337, 371, 284, 285, 287, 288, 123, 132, 94, 189, 237, 177, 227, 291, 228, 292, 339, 340, 372, 341, 342, 373, 374, 392, 343, 344, 345, 346, 178, 229, 124, 180, 233, 67, 118, 20, 54, 53, 106, 17, 50, 15, 7, 8, 29, 62, 63, 112, 64, 113, 115, 114, 170, 30, 65, 66, 116, 172, 173, 223, 117, 9, 32, 33, 72, 125, 126, 127, 73, 129, 130, 181, 128, 74, 131, 182, 184, 185, 235, 297, 183, 234, 186, 236, 187, 188, 75, 77, 76, 34, 36, 37, 11, 12, 42, 43, 95, 148, 149, 150, 212, 151, 152, 153, 13, 44, 46, 96, 155, 158, 97, 45, 14, 47, 48, 100, 162, 101, 16] := by kernel_rfl
theorem inIs : Tryz.prog.inPlace 3 = ["math.Float64bits", "internal/bytealg.abigen_runtime_cmpstring", "internal/reflectlite.ValueOf", "(internal/reflectlite.Value).Type", "(internal/reflectlite.Value).IsNil", "internal/reflectlite.TypeOf", "(internal/reflectlite.Value).Elem", "(internal/reflectlite.Value).Set", "slices.overlaps[int64]", "slices.overlaps[rialto/api.Entry]", "slices.overlaps[*rialto/tree.node[rialto/api.Entry]]", "slices.overlaps[*rialto/tree.node[int64]]", "math.Float64frombits"] := by unfold Program.inPlace; rw [clIs]; kernel_rfl
theorem unIs : Tryz.prog.unfollowed 3 = true := by unfold Program.unfollowed; rw [clIs]; kernel_rfl
theorem reIs : Tryz.prog.recurses 3 = true := by unfold Program.recurses; rw [unIs]; rfl
theorem vaIs : Tryz.prog.varsNamed 3 = ["errors.errorType"] := by unfold Program.varsNamed; rw [clIs]; kernel_rfl
theorem goIs : Tryz.prog.goes 3 = false := by unfold Program.goes; rw [clIs, unIs]; kernel_rfl
theorem fnIs : Tryz.prog.funcNamed Rows.marketErrorsRow.func = some 3 := by kernel_rfl
theorem goesIs : false = Rows.marketErrorsRow.goesBy Tryz.prog := by
  unfold OpenClaim.goesBy Program.goesAt Program.goesFrom
  rw [fnIs, Option.any_some, goIs]
  rfl
theorem facts : joinedFacts Tryz.prog 3 Tryz.f3 Rows.marketErrorsSpec Rows.marketErrorsRow = true := by
  unfold joinedFacts
  rw [inIs, unIs, reIs, vaIs]
  kernel_rfl


theorem over : Rows.MarketErrorsSaid :=
  OpenClaim.holds_of_wide 3 Tryz.f3 rfl rfl rfl rfl rfl rfl rfl ⟨rfl, rfl, rfl, rfl, rfl⟩ rfl rfl rfl rfl rfl (by kernel_rfl) Tryz.func3 facts
    (of_decide_eq_true (by kernel_rfl)) (by unfold Func.isWrapper; rw [if_neg (of_decide_eq_false (by kernel_rfl))]; exact ⟨rfl, rfl⟩)
    (fun os started H enc _ => lifted os started H enc)

/-- THE STATEMENT. -/
theorem proved : Rows.MarketErrorsCardSaid :=
  Claim7.holds_tied_plain_at .later [] [.handle] true Rows.marketErrorsCard.stood.harness true
    over (fun _ h => by cases h) (by kernel_rfl) (fun _ h => by cases h) marketErrors_row_tie rfl ⟨rfl, rfl⟩ (by kernel_rfl) rfl
    (fun f fn hf hfn => by
      obtain rfl : f = 3 := Option.some.inj ((show Tryz.prog.funcNamed Rows.marketErrorsRow.func = some 3 by kernel_rfl).symm.trans hf) |>.symm
      obtain rfl : fn = Tryz.f3 := (Option.some.inj (Tryz.func3.symm.trans hfn)).symm
      exact ⟨by kernel_rfl, fun j t ht => by
          rw [Tryz.params3] at ht
          rcases j with _ | j
          · have h3 : t = 5 := by simpa using ht.symm
            subst h3
            exact (show Tryz.prog.wantsStandIn 5 = false by kernel_rfl)
          · simp at ht⟩)
    goesIs
#print axioms proved
end Go.Proofs.YtkkcpmhidimlkaaGreatDoor.marketErrors
