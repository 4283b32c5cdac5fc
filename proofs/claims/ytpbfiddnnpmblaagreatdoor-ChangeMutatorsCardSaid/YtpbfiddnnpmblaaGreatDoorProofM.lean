/-
  For every argument, in every world in which the listed variable reads as the row says, the law returns true and turns nothing that lay before; the card ties that to the program's text.
  Every run is one of the executor (Ex1 to Ex3), checked by the kernel (Run0 and on): one for each choice of residues.
-/
import Derived.Test.YtpbfiddnnpmblaaGreatDoorRows
import Derived.Test.YtpbfiddnnpmblaaGreatDoorCards
import Derived.Test.YtpbfiddnnpmblaaGreatDoorTie
import Derived.Test.YtpbfiddnnpmblaaGreatDoorRunM0
import Derived.Test.YtpbfiddnnpmblaaGreatDoorRunM1
import Derived.Test.YtpbfiddnnpmblaaGreatDoorRunM2
import Derived.WalkKit
import Derived.ProofKit
import Derived.OpenShut
import Derived.ChangeSame
import Derived.ChangeVars
import Derived.JoinedOf
import Derived.RowKit
import Derived.RowKitTokens
import Derived.LaidLaws
import Derived.LaidHandle
import Derived.Stop.Joined
import Derived.SevenTiedAt
namespace Go.Proofs.YtpbfiddnnpmblaaGreatDoor.changeMutators
open Go.ChangeShapes Go.WideShapes Go.ChangeAt Go.RowKit
open Go.Ex
set_option linter.unusedVariables false

theorem own : ownKnob Tryz.prog.godebug = none := by kernel_rfl
theorem mixed : Tryz.prog.follows .mixedOrders = true := by kernel_rfl
theorem body : (bodyOf Tryz.prog 3).isSome = true := by kernel_rfl

theorem residue (a : Int) (q : Nat) (hq : 0 < q) : ∃ r : Nat, r < q ∧ a % (q : Int) = (r : Int) :=
  ⟨(a % (q : Int)).toNat, by have := Int.emod_nonneg a (b := q) (by omega); have := Int.emod_lt_of_pos a (b := q) (by omega); omega, by have := Int.emod_nonneg a (b := q) (by omega); omega⟩

theorem rtIs : (Tryz.prog.cutTypes.find? (·.1 == "internal/reflectlite.rtype")).map (·.2) = some 225 := by kernel_rfl
theorem oneRow : ((List.range Tryz.prog.types.size).filter fun t => Tryz.prog.rowNamed t [101, 114, 114, 111, 114]) = [34] := by kernel_rfl
theorem varIs : Tryz.prog.globalNamed "errors.errorType" = some 0 := by kernel_rfl
theorem handleIs : typeHandle Tryz.prog 34 = .pointer (some ⟨3, 34, none⟩) := by kernel_rfl

/-- What the condition gives: the variable's one cell. -/
theorem handle_of_laid {W : World} (h : laidMetH Tryz.prog Rows.changeMutatorsRow.laid W) : ∃ e fz, W.heap[0]? = some (.cells #[.iface 225 (.agg #[.pointer (some ⟨3, 34, none⟩)])] e fz) := by
  have h' : laidMet Tryz.prog [] W ∧ handlesMet Tryz.prog Rows.changeMutatorsRow.laid W := h
  obtain ⟨name, u, ty, e1, e2, e3, e4, e5⟩ := h'.2 _ (List.mem_singleton.2 rfl)
  have en : name = [101, 114, 114, 111, 114] := (Option.some.inj e1).symm
  subst en
  obtain rfl := Option.some.inj (rtIs.symm.trans e2)
  have hm : ty ∈ (List.range Tryz.prog.types.size).filter fun t => Tryz.prog.rowNamed t [101, 114, 114, 111, 114] := List.mem_filter.2 ⟨List.mem_range.2 e3, e4⟩
  rw [oneRow] at hm
  obtain rfl := List.mem_singleton.1 hm
  rw [handleIs] at e5
  have e6 : ((Tryz.prog.globalNamed "errors.errorType").bind fun g => match W.heap[g]? with
    | some (.cells cs _ _) => some cs
    | _ => none) = some #[.iface 225 (.agg #[.pointer (some ⟨3, 34, none⟩)])] := e5
  rw [varIs, Option.bind_some] at e6
  split at e6
  · rename_i cs e fz hw
    cases e6
    exact ⟨e, fz, hw⟩
  · cases e6

theorem handle_VR (es : Nat → Nat) : VR (mGS 64 es) handle (.iface 225 (.agg #[.pointer (some ⟨3, 34, none⟩)])) :=
  .iface _ _ _ (.agg' (fun u hu => by simp at hu; subst hu; rfl) ⟨.ptr (m := mGS 64 es) 3 34 (show 3 < 64 by omega), trivial⟩)

/-- The walk, by the runs. -/
theorem walk (a0 : Int) (a1 : Int) (w0 : (Lit.int .u8 a0).wf = true) (w1 : (Lit.int .i64 a1).wf = true) (w : World) {e : TypeId} {fz : Nat × Nat} (hw : w.heap[0]? = some (.cells #[.iface 225 (.agg #[.pointer (some ⟨3, 34, none⟩)])] e fz)) :
    Calls Tryz.prog 3 #[.int .u8 a0, .int .i64 a1] w fun e w' => e = .returned (.bool true) ∧ Below w.heap.size w w' := by
  obtain ⟨r0, h0, e0⟩ := residue a0 5 (by omega)
  match r0, h0, e0 with
  | 0, _, e0 =>
    rcases ordK_VR (G := 64) (by omega) w1 7 with rfl | o1 | o1
    · exact lawG_run (es := fun _ => 0) mixed body runM0_0 (.cons (u8s_VR _ w0 e0) (.cons (.int _ _) .nil)) (by omega) (handle_VR _) rfl w hw
    · exact lawG_run mixed body runM0_1 (.cons (u8s_VR _ w0 e0) (.cons (o1) .nil)) (by omega) (handle_VR _) rfl w hw
    · exact lawG_run mixed body runM0_2 (.cons (u8s_VR _ w0 e0) (.cons (o1) .nil)) (by omega) (handle_VR _) rfl w hw
  | 1, _, e0 =>
    rcases ordK_VR (G := 64) (by omega) w1 7 with rfl | o1 | o1
    · exact lawG_run (es := fun _ => 0) mixed body runM1_0 (.cons (u8s_VR _ w0 e0) (.cons (.int _ _) .nil)) (by omega) (handle_VR _) rfl w hw
    · exact lawG_run mixed body runM1_1 (.cons (u8s_VR _ w0 e0) (.cons (o1) .nil)) (by omega) (handle_VR _) rfl w hw
    · exact lawG_run mixed body runM1_2 (.cons (u8s_VR _ w0 e0) (.cons (o1) .nil)) (by omega) (handle_VR _) rfl w hw
  | 2, _, e0 =>
    rcases ordK_VR (G := 64) (by omega) w1 7 with rfl | o1 | o1
    · exact lawG_run (es := fun _ => 0) mixed body runM2_0 (.cons (u8s_VR _ w0 e0) (.cons (.int _ _) .nil)) (by omega) (handle_VR _) rfl w hw
    · exact lawG_run mixed body runM2_1 (.cons (u8s_VR _ w0 e0) (.cons (o1) .nil)) (by omega) (handle_VR _) rfl w hw
    · exact lawG_run mixed body runM2_2 (.cons (u8s_VR _ w0 e0) (.cons (o1) .nil)) (by omega) (handle_VR _) rfl w hw
  | 3, _, e0 =>
    rcases ordK_VR (G := 64) (by omega) w1 7 with rfl | o1 | o1
    · exact lawG_run (es := fun _ => 0) mixed body runM3_0 (.cons (u8s_VR _ w0 e0) (.cons (.int _ _) .nil)) (by omega) (handle_VR _) rfl w hw
    · exact lawG_run mixed body runM3_1 (.cons (u8s_VR _ w0 e0) (.cons (o1) .nil)) (by omega) (handle_VR _) rfl w hw
    · exact lawG_run mixed body runM3_2 (.cons (u8s_VR _ w0 e0) (.cons (o1) .nil)) (by omega) (handle_VR _) rfl w hw
  | 4, _, e0 =>
    rcases ordK_VR (G := 64) (by omega) w1 7 with rfl | o1 | o1
    · exact lawG_run (es := fun _ => 0) mixed body runM4_0 (.cons (u8s_VR _ w0 e0) (.cons (.int _ _) .nil)) (by omega) (handle_VR _) rfl w hw
    · exact lawG_run mixed body runM4_1 (.cons (u8s_VR _ w0 e0) (.cons (o1) .nil)) (by omega) (handle_VR _) rfl w hw
    · exact lawG_run mixed body runM4_2 (.cons (u8s_VR _ w0 e0) (.cons (o1) .nil)) (by omega) (handle_VR _) rfl w hw
  | _ + 5, h, _ => exact absurd h (by omega)

/-- A world that meets the condition: the settled one, the variable's cell laid. -/
noncomputable def laidWorld (os : Os) : World :=
  let w0 := World.holding Tryz.prog os ⟨#[], #[], []⟩
  { w0 with heap := w0.heap.modify ((Tryz.prog.globalNamed "errors.errorType").getD 0) fun
      | .cells _ t frozen => .cells #[laidHandle] t frozen
      | o => o }
where laidHandle : Value := .iface (((Tryz.prog.cutTypes.find? (·.1 == "internal/reflectlite.rtype")).map (·.2)).getD 0) (.agg #[typeHandle Tryz.prog ((((List.range Tryz.prog.types.size).filter fun t => Tryz.prog.rowNamed t [101, 114, 114, 111, 114])).headD 0)])
theorem laidWorld_met (os : Os) (args : Array Value) : laidMetH Tryz.prog Rows.changeMutatorsRow.laid ((laidWorld os).forCall (fun _ _ => 0) ⟨#[], args, []⟩).memory :=
  laidMetH_of_parts (laidMet_nil _ _) (by kernel_rfl)

set_option maxRecDepth 100000 in
theorem lifted (os : Os) (started : os.Started) (H : Type) (enc : TypeId × Value → H) :
    ReturnsInHanded {} Tryz.checked os 3 .any (fun w args => (Rows.changeMutatorsSpec.pre enc Tryz.prog Tryz.f3 [] false w args ∧ laidMetH Tryz.prog Rows.changeMutatorsRow.laid w) ∧ sizedMet enc Tryz.prog Tryz.f3 (OpenSpec.ofChange Rows.changeMutatorsSpec) false w args)
      (Rows.changeMutatorsSpec.post enc Tryz.prog Tryz.f3 false true false false) := by
  refine returnsInHanded_of_change_and (C := Tryz.checked) (X := fun w _ => laidMetH Tryz.prog Rows.changeMutatorsRow.laid w) (fun _ _ _ hh h => h.of_heap hh) own started (by kernel_rfl) Tryz.func3
    (ChangeSpec.witness_at (enc := enc) (C := Tryz.checked) (os := os) (X := fun w _ => laidMetH Tryz.prog Rows.changeMutatorsRow.laid w) false (laidWorld os) #[.int .u8 0, .int .i64 0] 8 rfl (by kernel_rfl) (by kernel_rfl) (by kernel_rfl) (by kernel_rfl) (by kernel_rfl) (laidWorld_met os _)) ?_
  intro W base args ds gs before hval0 hW _ _ hL _
  have hval : ∀ (j : Nat) t v, Tryz.f3.params[j]? = some t → args[j]? = some v → Value.okWide Tryz.prog W .any base t v := hval0
  have hW' := hW
  obtain ⟨p, q, hA0, hV0, rfl, hfz, hnd⟩ := hW
  have hA : DataW.TrodAll enc Tryz.prog W 0 (fun _ => true) true Tryz.f3.params.toList args.toList ds p := hA0
  have hV : DataW.TrodVars enc Tryz.prog W (fun _ => true) [] gs q := hV0
  rw [Tryz.params3] at hA hval
  obtain ⟨v0, vs0, d0, ds0, p0, q0, hargs, rfl, rfl, h0, r0⟩ := trodAll_cons hA
  obtain ⟨v1, vs1, d1, ds1, p1, q1, rfl, rfl, rfl, h1, r1⟩ := trodAll_cons r0
  obtain ⟨rfl, rfl, rfl⟩ := trodAll_nil r1
  obtain rfl : args = #[v0, v1] := by cases args; simp_all
  obtain ⟨rfl, rfl⟩ := trodVars_none hV
  obtain ⟨a0, rfl, rfl, rfl, w0⟩ := open_int Tryz.underlying5 (hval 0 5 v0 rfl rfl) h0
  obtain ⟨a1, rfl, rfl, rfl, w1⟩ := open_int Tryz.underlying2 (hval 1 2 v1 rfl rfl) h1
  clear hA0 hval0
  obtain ⟨eT, eF, hg⟩ := handle_of_laid hL
  simp only [List.append_nil] at hW'
  have e1 : Rows.changeMutatorsSpec.fn H ([.lit (.int .u8 a0), .lit (.int .i64 a1)] ++ []) = { results := [.lit (.bool true)], args := [.lit (.int .u8 a0), .lit (.int .i64 a1)] } := by simp [Rows.changeMutatorsSpec]
  refine (walk a0 a1 w0 w1 W hg).mono fun e W' ⟨he, hb⟩ => ?_
  subst he
  refine ⟨_, rfl, _, _, _, [], [], [], hW', ?_, ?_, ?_, hb.frame _, fun h => by cases h⟩
  · rw [e1]; exact trodAll_cons_mk (shut_bool Tryz.underlying4 true) trodAll_mk0
  · rw [e1]; exact (trodAll_cons_mk (shut_int Tryz.underlying5 w0) (trodAll_cons_mk (shut_int Tryz.underlying2 w1) trodAll_mk0))
  · rw [e1]; rfl

/-! ### What the row says of the call's text: off the list of what it can come to, once. -/
theorem clIs : Tryz.prog.closure 3 = [3, 4, 16, 17, 46, 92, 55, 104, 93, 139, 141, 154, 140, 197, 47, 94, 95, 142, 198, 199, 242, 143, 15, 41, 88, 137, 136, 89, 90, 42, 43, 44, 45, 91, 138, 18, 19, 48, 96, 97, 98, 49, 100, 101, 144, 99, 50, 102, 145, 147, 148, 131, 195, 196, 241, 165, 212, 239, 272, 303, 240, 107, 273, 304, 164, 201, 76, 130, 243, 39, 83, 146, 200, 149, 202, 150, 151, 103, 12, 153, 205, 152, 203, 244, 204, 246, 282, 283, 245, 274, 216, 275, 305, 276, 306, 307, 277, 308, 309, 317, 278, 279, 280, 281, 64, 108, 155, 206, 247, 62, 68, 110, 156, 169, 214, 215, 157, 111, 158, 208, 207, 249, 250, 248, 251, 209, 40, 84, 85, 86, 87, 133, 134, 135, 159, 160, 112, 161, 210, 211, 162, 113, 31, 69, 114, 163, 115, 166, 213, 167, 70, 116, 168, 187, 170, 217, 171, 218, 219, 252, 284, 117, 172, 220, 221, 255, 254, 286, 287, 310, 318, 253, 285, 258, 257, 289, 290, 291, 311, 319, 292, 256, 288, 222, 118, 173, 174, 175, 223, 224, 259, 293, 260, 263, 262, 295, 296, 297, 312, 320, 298, 261, 294, 225, 119, 120, 176, 189, 236, 271, 177, 226, 227, 71, 72, 121, 179, 178, 228, 181, 180, 229, 122, 183, 182, 230, 123, 184, 231, 264, 265, 266, 299, 313, 300, 314, 124, 185, 232, 235, 270, 186, 233, 234, 267, 268, 269, 301, 315, 302, 316, 125, 188, 126, 127, 190, 191, 33, 51, 53, 52, 7, 6, 23, 22, 24, 63, 11, 25, 26, 58, 105, 28, 30, 29, 32, 73, 128, 192, 237, 193, 238, 74, 34, 35, 75, 129, 194, 36, 27, 65, 66, 67, 109, 20, 54, 56, 9, 37, 77, 38, 78, 79, 80, 132, 81, 82, 61, 13, 21, 57, 59, 106, 60, 5, 8, 10, 14] := by kernel_rfl
theorem inIs : Tryz.prog.inPlace 3 = ["math.Float64bits", "math.Float64frombits", "internal/bytealg.abigen_runtime_cmpstring", "internal/reflectlite.ValueOf", "(internal/reflectlite.Value).Type", "(internal/reflectlite.Value).IsNil", "internal/reflectlite.TypeOf", "(internal/reflectlite.Value).Elem", "(internal/reflectlite.Value).Set", "slices.overlaps[int64]", "slices.overlaps[rialto/api.Entry]", "slices.overlaps[*rialto/tree.node[rialto/api.Entry]]", "slices.overlaps[*rialto/tree.node[int64]]"] := by unfold Program.inPlace; rw [clIs]; kernel_rfl
theorem unIs : Tryz.prog.unfollowed 3 = true := by unfold Program.unfollowed; rw [clIs]; kernel_rfl
theorem reIs : Tryz.prog.recurses 3 = true := by unfold Program.recurses; rw [unIs]; rfl
theorem vaIs : Tryz.prog.varsNamed 3 = ["errors.errorType"] := by unfold Program.varsNamed; rw [clIs]; kernel_rfl
theorem goIs : Tryz.prog.goes 3 = false := by unfold Program.goes; rw [clIs, unIs]; kernel_rfl
theorem fnIs : Tryz.prog.funcNamed Rows.changeMutatorsRow.func = some 3 := by kernel_rfl
theorem goesIs : false = Rows.changeMutatorsRow.goesBy Tryz.prog := by
  unfold OpenClaim.goesBy Program.goesAt Program.goesFrom
  rw [fnIs, Option.any_some, goIs]
  rfl
theorem facts : joinedFacts Tryz.prog 3 Tryz.f3 Rows.changeMutatorsSpec Rows.changeMutatorsRow = true := by
  unfold joinedFacts
  rw [inIs, unIs, reIs, vaIs]
  kernel_rfl


theorem over : Rows.ChangeMutatorsSaid :=
  OpenClaim.holds_of_wide 3 Tryz.f3 rfl rfl rfl rfl rfl rfl rfl ⟨rfl, rfl, rfl, rfl, rfl⟩ rfl rfl rfl rfl rfl (by kernel_rfl) Tryz.func3 facts
    (of_decide_eq_true (by kernel_rfl)) (by unfold Func.isWrapper; rw [if_neg (of_decide_eq_false (by kernel_rfl))]; exact ⟨rfl, rfl⟩)
    (fun os started H enc _ => lifted os started H enc)

/-- THE STATEMENT. -/
theorem proved : Rows.ChangeMutatorsCardSaid :=
  Claim7.holds_tied_plain_at .later [] [.handle] true Rows.changeMutatorsCard.stood.harness true
    over (fun _ h => by cases h) (by kernel_rfl) (fun _ h => by cases h) changeMutators_row_tie rfl ⟨rfl, rfl⟩ (by kernel_rfl) rfl
    (fun f fn hf hfn => by
      obtain rfl : f = 3 := Option.some.inj ((show Tryz.prog.funcNamed Rows.changeMutatorsRow.func = some 3 by kernel_rfl).symm.trans hf) |>.symm
      obtain rfl : fn = Tryz.f3 := (Option.some.inj (Tryz.func3.symm.trans hfn)).symm
      exact ⟨by kernel_rfl, fun j t ht => by
          rw [Tryz.params3] at ht
          rcases j with _ | _ | j
          · have h3 : t = 5 := by simpa using ht.symm
            subst h3
            exact (show Tryz.prog.wantsStandIn 5 = false by kernel_rfl)
          · have h3 : t = 2 := by simpa using ht.symm
            subst h3
            exact (show Tryz.prog.wantsStandIn 2 = false by kernel_rfl)
          · simp at ht⟩)
    goesIs
#print axioms proved
end Go.Proofs.YtpbfiddnnpmblaaGreatDoor.changeMutators
