/-
  For every argument, in every world in which the listed variable reads as the row says, the law returns true and turns nothing that lay before; the card ties that to the program's text.
  Every run is one of the executor (Ex1 to Ex3), checked by the kernel (Run0 and on): one for each choice of residues.
-/
import Derived.Test.YtimcnmojmbnafaaGreatDoorRows
import Derived.Test.YtimcnmojmbnafaaGreatDoorCards
import Derived.Test.YtimcnmojmbnafaaGreatDoorTie
import Derived.Test.YtimcnmojmbnafaaGreatDoorRunQ0
import Derived.Test.YtimcnmojmbnafaaGreatDoorRunQ1
import Derived.Test.YtimcnmojmbnafaaGreatDoorRunQ2
import Derived.Test.YtimcnmojmbnafaaGreatDoorRunQ3
import Derived.Test.YtimcnmojmbnafaaGreatDoorRunQ4
import Derived.Test.YtimcnmojmbnafaaGreatDoorRunQ5
import Derived.Test.YtimcnmojmbnafaaGreatDoorRunQ6
import Derived.WalkKit
import Derived.ProofKit
import Derived.OpenShut
import Derived.ChangeSame
import Derived.ChangeVars
import Derived.JoinedOf
import Derived.RowKit
import Derived.RowKitTokens
import Derived.LaidLaws
import Derived.LaidHandle
import Derived.Stop.Joined
import Derived.SevenTiedAt
namespace Go.Proofs.YtimcnmojmbnafaaGreatDoor.marketQuiet
open Go.ChangeShapes Go.WideShapes Go.ChangeAt Go.RowKit
open Go.Ex
set_option linter.unusedVariables false

theorem own : ownKnob Tryz.prog.godebug = none := by kernel_rfl
theorem mixed : Tryz.prog.follows .mixedOrders = true := by kernel_rfl
theorem body : (bodyOf Tryz.prog 4).isSome = true := by kernel_rfl

theorem residue (a : Int) (q : Nat) (hq : 0 < q) : ∃ r : Nat, r < q ∧ a % (q : Int) = (r : Int) :=
  ⟨(a % (q : Int)).toNat, by have := Int.emod_nonneg a (b := q) (by omega); have := Int.emod_lt_of_pos a (b := q) (by omega); omega, by have := Int.emod_nonneg a (b := q) (by omega); omega⟩

theorem rtIs : (Tryz.prog.cutTypes.find? (·.1 == "internal/reflectlite.rtype")).map (·.2) = some 220 := by kernel_rfl
theorem oneRow : ((List.range Tryz.prog.types.size).filter fun t => Tryz.prog.rowNamed t [101, 114, 114, 111, 114]) = [31] := by kernel_rfl
theorem varIs : Tryz.prog.globalNamed "errors.errorType" = some 0 := by kernel_rfl
theorem handleIs : typeHandle Tryz.prog 31 = .pointer (some ⟨3, 31, none⟩) := by kernel_rfl

/-- What the condition gives: the variable's one cell. -/
theorem handle_of_laid {W : World} (h : laidMetH Tryz.prog Rows.marketQuietRow.laid W) : ∃ e fz, W.heap[0]? = some (.cells #[.iface 220 (.agg #[.pointer (some ⟨3, 31, none⟩)])] e fz) := by
  have h' : laidMet Tryz.prog [] W ∧ handlesMet Tryz.prog Rows.marketQuietRow.laid W := h
  obtain ⟨name, u, ty, e1, e2, e3, e4, e5⟩ := h'.2 _ (List.mem_singleton.2 rfl)
  have en : name = [101, 114, 114, 111, 114] := (Option.some.inj e1).symm
  subst en
  obtain rfl := Option.some.inj (rtIs.symm.trans e2)
  have hm : ty ∈ (List.range Tryz.prog.types.size).filter fun t => Tryz.prog.rowNamed t [101, 114, 114, 111, 114] := List.mem_filter.2 ⟨List.mem_range.2 e3, e4⟩
  rw [oneRow] at hm
  obtain rfl := List.mem_singleton.1 hm
  rw [handleIs] at e5
  have e6 : ((Tryz.prog.globalNamed "errors.errorType").bind fun g => match W.heap[g]? with
    | some (.cells cs _ _) => some cs
    | _ => none) = some #[.iface 220 (.agg #[.pointer (some ⟨3, 31, none⟩)])] := e5
  rw [varIs, Option.bind_some] at e6
  split at e6
  · rename_i cs e fz hw
    cases e6
    exact ⟨e, fz, hw⟩
  · cases e6

theorem handle_VR (es : Nat → Nat) : VR (mGS 64 es) handle (.iface 220 (.agg #[.pointer (some ⟨3, 31, none⟩)])) :=
  .iface _ _ _ (.agg' (fun u hu => by simp at hu; subst hu; rfl) ⟨.ptr (m := mGS 64 es) 3 31 (show 3 < 64 by omega), trivial⟩)

/-- The walk, by the runs. -/
theorem walk (a0 : Int) (a1 : Bool) (w0 : (Lit.int .u8 a0).wf = true) (w : World) {e : TypeId} {fz : Nat × Nat} (hw : w.heap[0]? = some (.cells #[.iface 220 (.agg #[.pointer (some ⟨3, 31, none⟩)])] e fz)) :
    Calls Tryz.prog 4 #[.int .u8 a0, .bool a1] w fun e w' => e = .returned (.bool true) ∧ Below w.heap.size w w' := by
  obtain ⟨r0, h0, e0⟩ := residue a0 10 (by omega)
  match r0, h0, e0 with
  | 0, _, e0 =>
    cases a1 with
    | false =>
      exact lawG_run (es := fun _ => 0) mixed body run0_0 (.cons (u8s_VR _ w0 e0) (.cons (.bool false) .nil)) (by omega) (handle_VR _) rfl w hw
    | true =>
      exact lawG_run (es := fun _ => 0) mixed body run0_1 (.cons (u8s_VR _ w0 e0) (.cons (.bool true) .nil)) (by omega) (handle_VR _) rfl w hw
  | 1, _, e0 =>
    cases a1 with
    | false =>
      exact lawG_run (es := fun _ => 0) mixed body run1_0 (.cons (u8s_VR _ w0 e0) (.cons (.bool false) .nil)) (by omega) (handle_VR _) rfl w hw
    | true =>
      exact lawG_run (es := fun _ => 0) mixed body run1_1 (.cons (u8s_VR _ w0 e0) (.cons (.bool true) .nil)) (by omega) (handle_VR _) rfl w hw
  | 2, _, e0 =>
    cases a1 with
    | false =>
      exact lawG_run (es := fun _ => 0) mixed body run2_0 (.cons (u8s_VR _ w0 e0) (.cons (.bool false) .nil)) (by omega) (handle_VR _) rfl w hw
    | true =>
      exact lawG_run (es := fun _ => 0) mixed body run2_1 (.cons (u8s_VR _ w0 e0) (.cons (.bool true) .nil)) (by omega) (handle_VR _) rfl w hw
  | 3, _, e0 =>
    cases a1 with
    | false =>
      exact lawG_run (es := fun _ => 0) mixed body run3_0 (.cons (u8s_VR _ w0 e0) (.cons (.bool false) .nil)) (by omega) (handle_VR _) rfl w hw
    | true =>
      exact lawG_run (es := fun _ => 0) mixed body run3_1 (.cons (u8s_VR _ w0 e0) (.cons (.bool true) .nil)) (by omega) (handle_VR _) rfl w hw
  | 4, _, e0 =>
    cases a1 with
    | false =>
      exact lawG_run (es := fun _ => 0) mixed body run4_0 (.cons (u8s_VR _ w0 e0) (.cons (.bool false) .nil)) (by omega) (handle_VR _) rfl w hw
    | true =>
      exact lawG_run (es := fun _ => 0) mixed body run4_1 (.cons (u8s_VR _ w0 e0) (.cons (.bool true) .nil)) (by omega) (handle_VR _) rfl w hw
  | 5, _, e0 =>
    cases a1 with
    | false =>
      exact lawG_run (es := fun _ => 0) mixed body run5_0 (.cons (u8s_VR _ w0 e0) (.cons (.bool false) .nil)) (by omega) (handle_VR _) rfl w hw
    | true =>
      exact lawG_run (es := fun _ => 0) mixed body run5_1 (.cons (u8s_VR _ w0 e0) (.cons (.bool true) .nil)) (by omega) (handle_VR _) rfl w hw
  | 6, _, e0 =>
    cases a1 with
    | false =>
      exact lawG_run (es := fun _ => 0) mixed body run6_0 (.cons (u8s_VR _ w0 e0) (.cons (.bool false) .nil)) (by omega) (handle_VR _) rfl w hw
    | true =>
      exact lawG_run (es := fun _ => 0) mixed body run6_1 (.cons (u8s_VR _ w0 e0) (.cons (.bool true) .nil)) (by omega) (handle_VR _) rfl w hw
  | 7, _, e0 =>
    cases a1 with
    | false =>
      exact lawG_run (es := fun _ => 0) mixed body run7_0 (.cons (u8s_VR _ w0 e0) (.cons (.bool false) .nil)) (by omega) (handle_VR _) rfl w hw
    | true =>
      exact lawG_run (es := fun _ => 0) mixed body run7_1 (.cons (u8s_VR _ w0 e0) (.cons (.bool true) .nil)) (by omega) (handle_VR _) rfl w hw
  | 8, _, e0 =>
    cases a1 with
    | false =>
      exact lawG_run (es := fun _ => 0) mixed body run8_0 (.cons (u8s_VR _ w0 e0) (.cons (.bool false) .nil)) (by omega) (handle_VR _) rfl w hw
    | true =>
      exact lawG_run (es := fun _ => 0) mixed body run8_1 (.cons (u8s_VR _ w0 e0) (.cons (.bool true) .nil)) (by omega) (handle_VR _) rfl w hw
  | 9, _, e0 =>
    cases a1 with
    | false =>
      exact lawG_run (es := fun _ => 0) mixed body run9_0 (.cons (u8s_VR _ w0 e0) (.cons (.bool false) .nil)) (by omega) (handle_VR _) rfl w hw
    | true =>
      exact lawG_run (es := fun _ => 0) mixed body run9_1 (.cons (u8s_VR _ w0 e0) (.cons (.bool true) .nil)) (by omega) (handle_VR _) rfl w hw
  | _ + 10, h, _ => exact absurd h (by omega)

/-- A world that meets the condition: the settled one, the variable's cell laid. -/
noncomputable def laidWorld (os : Os) : World :=
  let w0 := World.holding Tryz.prog os ⟨#[], #[], []⟩
  { w0 with heap := w0.heap.modify ((Tryz.prog.globalNamed "errors.errorType").getD 0) fun
      | .cells _ t frozen => .cells #[laidHandle] t frozen
      | o => o }
where laidHandle : Value := .iface (((Tryz.prog.cutTypes.find? (·.1 == "internal/reflectlite.rtype")).map (·.2)).getD 0) (.agg #[typeHandle Tryz.prog ((((List.range Tryz.prog.types.size).filter fun t => Tryz.prog.rowNamed t [101, 114, 114, 111, 114])).headD 0)])
theorem laidWorld_met (os : Os) (args : Array Value) : laidMetH Tryz.prog Rows.marketQuietRow.laid ((laidWorld os).forCall (fun _ _ => 0) ⟨#[], args, []⟩).memory :=
  laidMetH_of_parts (laidMet_nil _ _) (by kernel_rfl)

set_option maxRecDepth 100000 in
theorem lifted (os : Os) (started : os.Started) (H : Type) (enc : TypeId × Value → H) :
    ReturnsInHanded {} Tryz.checked os 4 .any (fun w args => (Rows.marketQuietSpec.pre enc Tryz.prog Tryz.f4 [] false w args ∧ laidMetH Tryz.prog Rows.marketQuietRow.laid w) ∧ sizedMet enc Tryz.prog Tryz.f4 (OpenSpec.ofChange Rows.marketQuietSpec) false w args)
      (Rows.marketQuietSpec.post enc Tryz.prog Tryz.f4 false true false false) := by
  refine returnsInHanded_of_change_and (C := Tryz.checked) (X := fun w _ => laidMetH Tryz.prog Rows.marketQuietRow.laid w) (fun _ _ _ hh h => h.of_heap hh) own started (by kernel_rfl) Tryz.func4
    (ChangeSpec.witness_at (enc := enc) (C := Tryz.checked) (os := os) (X := fun w _ => laidMetH Tryz.prog Rows.marketQuietRow.laid w) false (laidWorld os) #[.int .u8 0, .bool false] 8 rfl (by kernel_rfl) (by kernel_rfl) (by kernel_rfl) (by kernel_rfl) (by kernel_rfl) (laidWorld_met os _)) ?_
  intro W base args ds gs before hval0 hW _ _ hL _
  have hval : ∀ (j : Nat) t v, Tryz.f4.params[j]? = some t → args[j]? = some v → Value.okWide Tryz.prog W .any base t v := hval0
  have hW' := hW
  obtain ⟨p, q, hA0, hV0, rfl, hfz, hnd⟩ := hW
  have hA : DataW.TrodAll enc Tryz.prog W 0 (fun _ => true) true Tryz.f4.params.toList args.toList ds p := hA0
  have hV : DataW.TrodVars enc Tryz.prog W (fun _ => true) [] gs q := hV0
  rw [Tryz.params4] at hA hval
  obtain ⟨v0, vs0, d0, ds0, p0, q0, hargs, rfl, rfl, h0, r0⟩ := trodAll_cons hA
  obtain ⟨v1, vs1, d1, ds1, p1, q1, rfl, rfl, rfl, h1, r1⟩ := trodAll_cons r0
  obtain ⟨rfl, rfl, rfl⟩ := trodAll_nil r1
  obtain rfl : args = #[v0, v1] := by cases args; simp_all
  obtain ⟨rfl, rfl⟩ := trodVars_none hV
  obtain ⟨a0, rfl, rfl, rfl, w0⟩ := open_int Tryz.underlying5 (hval 0 5 v0 rfl rfl) h0
  obtain ⟨a1, rfl, rfl, rfl⟩ := open_bool Tryz.underlying4 (hval 1 4 v1 rfl rfl) h1
  clear hA0 hval0
  obtain ⟨eT, eF, hg⟩ := handle_of_laid hL
  simp only [List.append_nil] at hW'
  have e1 : Rows.marketQuietSpec.fn H ([.lit (.int .u8 a0), .lit (.bool a1)] ++ []) = { results := [.lit (.bool true)], args := [.lit (.int .u8 a0), .lit (.bool a1)] } := by simp [Rows.marketQuietSpec]
  refine (walk a0 a1 w0 W hg).mono fun e W' ⟨he, hb⟩ => ?_
  subst he
  refine ⟨_, rfl, _, _, _, [], [], [], hW', ?_, ?_, ?_, hb.frame _, fun h => by cases h⟩
  · rw [e1]; exact trodAll_cons_mk (shut_bool Tryz.underlying4 true) trodAll_mk0
  · rw [e1]; exact (trodAll_cons_mk (shut_int Tryz.underlying5 w0) (trodAll_cons_mk (shut_bool Tryz.underlying4 a1) trodAll_mk0))
  · rw [e1]; rfl

/-! ### What the row says of the call's text: off the list of what it can come to, once. -/
theorem clIs : Tryz.prog.closure 4 = [4, 5, 17, 46, 47, 18, 48, 35, 49, 93, 133, 181, 180, 134, 135, 50, 94, 95, 96, 97, 136, 182, 51, 33, 79, 13, 34, 36, 19, 10, 28, 29, 65, 64, 109, 146, 184, 66, 110, 38, 67, 68, 82, 123, 111, 147, 187, 248, 178, 246, 298, 80, 122, 112, 148, 188, 201, 256, 257, 131, 176, 177, 245, 197, 254, 243, 296, 330, 244, 297, 331, 196, 189, 149, 190, 250, 249, 300, 301, 299, 302, 251, 53, 98, 99, 100, 101, 137, 138, 139, 191, 192, 150, 193, 252, 253, 194, 151, 69, 71, 72, 113, 152, 195, 153, 198, 255, 199, 114, 154, 200, 219, 202, 258, 259, 203, 260, 261, 303, 332, 155, 204, 262, 263, 306, 305, 334, 335, 355, 364, 304, 333, 309, 308, 337, 338, 339, 356, 365, 340, 307, 336, 264, 156, 205, 206, 207, 265, 266, 310, 341, 311, 314, 313, 343, 344, 345, 357, 366, 346, 312, 342, 267, 157, 158, 208, 221, 278, 322, 209, 268, 269, 115, 116, 159, 211, 210, 270, 213, 212, 271, 160, 215, 214, 272, 161, 216, 273, 315, 316, 317, 347, 358, 348, 359, 162, 217, 274, 277, 321, 218, 275, 276, 318, 319, 320, 349, 360, 350, 361, 163, 220, 164, 165, 222, 223, 30, 70, 73, 117, 166, 224, 279, 225, 280, 118, 74, 75, 119, 167, 226, 76, 62, 108, 45, 92, 31, 32, 77, 78, 121, 168, 227, 281, 323, 351, 171, 238, 239, 362, 367, 368, 377, 369, 283, 284, 370, 378, 379, 383, 371, 372, 373, 374, 352, 324, 325, 353, 363, 376, 382, 375, 380, 384, 381, 385, 386, 392, 398, 387, 395, 388, 389, 396, 397, 399, 390, 391, 393, 394, 228, 120, 27, 61, 63, 43, 87, 89, 127, 88, 125, 169, 126, 170, 229, 235, 287, 230, 282, 231, 232, 285, 286, 326, 233, 234, 236, 237, 90, 128, 39, 172, 240, 129, 173, 241, 174, 242, 288, 289, 327, 290, 291, 328, 329, 354, 292, 293, 294, 295, 130, 175, 91, 132, 179, 60, 107, 16, 44, 41, 86, 20, 52, 21, 6, 22, 23, 54, 102, 103, 140, 104, 141, 143, 142, 183, 55, 105, 106, 144, 185, 186, 247, 145, 24, 7, 25, 56, 11, 14, 37, 40, 81, 83, 124, 84, 85, 15, 42] := by kernel_rfl
theorem inIs : Tryz.prog.inPlace 4 = ["math.Float64bits", "internal/bytealg.abigen_runtime_cmpstring", "internal/reflectlite.ValueOf", "(internal/reflectlite.Value).Type", "(internal/reflectlite.Value).IsNil", "internal/reflectlite.TypeOf", "(internal/reflectlite.Value).Elem", "(internal/reflectlite.Value).Set", "slices.overlaps[int64]", "slices.overlaps[rialto/api.Entry]", "slices.overlaps[*rialto/tree.node[rialto/api.Entry]]", "slices.overlaps[*rialto/tree.node[int64]]", "math.Float64frombits"] := by unfold Program.inPlace; rw [clIs]; kernel_rfl
theorem unIs : Tryz.prog.unfollowed 4 = true := by unfold Program.unfollowed; rw [clIs]; kernel_rfl
theorem reIs : Tryz.prog.recurses 4 = true := by unfold Program.recurses; rw [unIs]; rfl
theorem vaIs : Tryz.prog.varsNamed 4 = ["errors.errorType"] := by unfold Program.varsNamed; rw [clIs]; kernel_rfl
theorem goIs : Tryz.prog.goes 4 = false := by unfold Program.goes; rw [clIs, unIs]; kernel_rfl
theorem fnIs : Tryz.prog.funcNamed Rows.marketQuietRow.func = some 4 := by kernel_rfl
theorem goesIs : false = Rows.marketQuietRow.goesBy Tryz.prog := by
  unfold OpenClaim.goesBy Program.goesAt Program.goesFrom
  rw [fnIs, Option.any_some, goIs]
  rfl
theorem facts : joinedFacts Tryz.prog 4 Tryz.f4 Rows.marketQuietSpec Rows.marketQuietRow = true := by
  unfold joinedFacts
  rw [inIs, unIs, reIs, vaIs]
  kernel_rfl


theorem over : Rows.MarketQuietSaid :=
  OpenClaim.holds_of_wide 4 Tryz.f4 rfl rfl rfl rfl rfl rfl rfl ⟨rfl, rfl, rfl, rfl, rfl⟩ rfl rfl rfl rfl rfl (by kernel_rfl) Tryz.func4 facts
    (of_decide_eq_true (by kernel_rfl)) (by unfold Func.isWrapper; rw [if_neg (of_decide_eq_false (by kernel_rfl))]; exact ⟨rfl, rfl⟩)
    (fun os started H enc _ => lifted os started H enc)

/-- THE STATEMENT. -/
theorem proved : Rows.MarketQuietCardSaid :=
  Claim7.holds_tied_plain_at .later [] [.handle] true Rows.marketQuietCard.stood.harness true
    over (fun _ h => by cases h) (by kernel_rfl) (fun _ h => by cases h) marketQuiet_row_tie rfl ⟨rfl, rfl⟩ (by kernel_rfl) rfl
    (fun f fn hf hfn => by
      obtain rfl : f = 4 := Option.some.inj ((show Tryz.prog.funcNamed Rows.marketQuietRow.func = some 4 by kernel_rfl).symm.trans hf) |>.symm
      obtain rfl : fn = Tryz.f4 := (Option.some.inj (Tryz.func4.symm.trans hfn)).symm
      exact ⟨by kernel_rfl, fun j t ht => by
          rw [Tryz.params4] at ht
          rcases j with _ | _ | j
          · have h3 : t = 5 := by simpa using ht.symm
            subst h3
            exact (show Tryz.prog.wantsStandIn 5 = false by kernel_rfl)
          · have h3 : t = 4 := by simpa using ht.symm
            subst h3
            exact (show Tryz.prog.wantsStandIn 4 = false by kernel_rfl)
          · simp at ht⟩)
    goesIs
#print axioms proved
end Go.Proofs.YtimcnmojmbnafaaGreatDoor.marketQuiet
