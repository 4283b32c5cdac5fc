/-
  For every argument, in every world in which the listed variable reads as the row says, the law returns true and turns nothing that lay before; the card ties that to the program's text.
  Every run is one of the executor (Ex1 to Ex3), checked by the kernel (Run0 and on): one for each choice of residues.
-/
import Derived.Test.YtipkgldmaaangaaGreatDoorRows
import Derived.Test.YtipkgldmaaangaaGreatDoorCards
import Derived.Test.YtipkgldmaaangaaGreatDoorTie
import Derived.Test.YtipkgldmaaangaaGreatDoorRunF0
import Derived.Test.YtipkgldmaaangaaGreatDoorRunF1
import Derived.Test.YtipkgldmaaangaaGreatDoorRunF2
import Derived.Test.YtipkgldmaaangaaGreatDoorRunF3
import Derived.Test.YtipkgldmaaangaaGreatDoorRunF4
import Derived.Test.YtipkgldmaaangaaGreatDoorRunF5
import Derived.Test.YtipkgldmaaangaaGreatDoorRunF6
import Derived.Test.YtipkgldmaaangaaGreatDoorRunF7
import Derived.Test.YtipkgldmaaangaaGreatDoorRunF8
import Derived.Test.YtipkgldmaaangaaGreatDoorRunF9
import Derived.Test.YtipkgldmaaangaaGreatDoorRunF10
import Derived.Test.YtipkgldmaaangaaGreatDoorRunF11
import Derived.Test.YtipkgldmaaangaaGreatDoorRunF12
import Derived.Test.YtipkgldmaaangaaGreatDoorRunF13
import Derived.Test.YtipkgldmaaangaaGreatDoorRunF14
import Derived.Test.YtipkgldmaaangaaGreatDoorRunF15
import Derived.Test.YtipkgldmaaangaaGreatDoorRunF16
import Derived.Test.YtipkgldmaaangaaGreatDoorRunF17
import Derived.Test.YtipkgldmaaangaaGreatDoorRunF18
import Derived.Test.YtipkgldmaaangaaGreatDoorRunF19
import Derived.WalkKit
import Derived.ProofKit
import Derived.OpenShut
import Derived.ChangeSame
import Derived.ChangeVars
import Derived.JoinedOf
import Derived.RowKit
import Derived.RowKitTokens
import Derived.LaidLaws
import Derived.LaidHandle
import Derived.Stop.Joined
import Derived.SevenTiedAt
namespace Go.Proofs.YtipkgldmaaangaaGreatDoor.changeFirst
open Go.ChangeShapes Go.WideShapes Go.ChangeAt Go.RowKit
open Go.Ex
set_option linter.unusedVariables false

theorem own : ownKnob Tryz.prog.godebug = none := by kernel_rfl
theorem mixed : Tryz.prog.follows .mixedOrders = true := by kernel_rfl
theorem body : (bodyOf Tryz.prog 3).isSome = true := by kernel_rfl

theorem runs : ∀ (r0 : Nat) (h0 : r0 < 5) (r1 : Nat) (h1 : r1 < 4), lawG Tryz.prog 64 60000 3 [u8s 5 r0, u8s 4 r1] 0 handle = true := by
  intro r0 h0 r1 h1
  match r0, h0 with
  | 0, _ =>
    match r1, h1 with
    | 0, _ =>
      exact run0_0
    | 1, _ =>
      exact run0_1
    | 2, _ =>
      exact run0_2
    | 3, _ =>
      exact run0_3
    | _ + 4, h => exact absurd h (by omega)
  | 1, _ =>
    match r1, h1 with
    | 0, _ =>
      exact run1_0
    | 1, _ =>
      exact run1_1
    | 2, _ =>
      exact run1_2
    | 3, _ =>
      exact run1_3
    | _ + 4, h => exact absurd h (by omega)
  | 2, _ =>
    match r1, h1 with
    | 0, _ =>
      exact run2_0
    | 1, _ =>
      exact run2_1
    | 2, _ =>
      exact run2_2
    | 3, _ =>
      exact run2_3
    | _ + 4, h => exact absurd h (by omega)
  | 3, _ =>
    match r1, h1 with
    | 0, _ =>
      exact run3_0
    | 1, _ =>
      exact run3_1
    | 2, _ =>
      exact run3_2
    | 3, _ =>
      exact run3_3
    | _ + 4, h => exact absurd h (by omega)
  | 4, _ =>
    match r1, h1 with
    | 0, _ =>
      exact run4_0
    | 1, _ =>
      exact run4_1
    | 2, _ =>
      exact run4_2
    | 3, _ =>
      exact run4_3
    | _ + 4, h => exact absurd h (by omega)
  | _ + 5, h => exact absurd h (by omega)

theorem rtIs : (Tryz.prog.cutTypes.find? (·.1 == "internal/reflectlite.rtype")).map (·.2) = some 223 := by kernel_rfl
theorem oneRow : ((List.range Tryz.prog.types.size).filter fun t => Tryz.prog.rowNamed t [101, 114, 114, 111, 114]) = [34] := by kernel_rfl
theorem varIs : Tryz.prog.globalNamed "errors.errorType" = some 0 := by kernel_rfl
theorem handleIs : typeHandle Tryz.prog 34 = .pointer (some ⟨3, 34, none⟩) := by kernel_rfl

/-- What the condition gives: the variable's one cell. -/
theorem handle_of_laid {W : World} (h : laidMetH Tryz.prog Rows.changeFirstRow.laid W) : ∃ e fz, W.heap[0]? = some (.cells #[.iface 223 (.agg #[.pointer (some ⟨3, 34, none⟩)])] e fz) := by
  have h' : laidMet Tryz.prog [] W ∧ handlesMet Tryz.prog Rows.changeFirstRow.laid W := h
  obtain ⟨name, u, ty, e1, e2, e3, e4, e5⟩ := h'.2 _ (List.mem_singleton.2 rfl)
  have en : name = [101, 114, 114, 111, 114] := (Option.some.inj e1).symm
  subst en
  obtain rfl := Option.some.inj (rtIs.symm.trans e2)
  have hm : ty ∈ (List.range Tryz.prog.types.size).filter fun t => Tryz.prog.rowNamed t [101, 114, 114, 111, 114] := List.mem_filter.2 ⟨List.mem_range.2 e3, e4⟩
  rw [oneRow] at hm
  obtain rfl := List.mem_singleton.1 hm
  rw [handleIs] at e5
  have e6 : ((Tryz.prog.globalNamed "errors.errorType").bind fun g => match W.heap[g]? with
    | some (.cells cs _ _) => some cs
    | _ => none) = some #[.iface 223 (.agg #[.pointer (some ⟨3, 34, none⟩)])] := e5
  rw [varIs, Option.bind_some] at e6
  split at e6
  · rename_i cs e fz hw
    cases e6
    exact ⟨e, fz, hw⟩
  · cases e6

theorem handle_VR : VR (mG 64) handle (.iface 223 (.agg #[.pointer (some ⟨3, 34, none⟩)])) :=
  .iface _ _ _ (.agg' (fun u hu => by simp at hu; subst hu; rfl) ⟨.ptr (m := mG 64) 3 34 (show 3 < 64 by omega), trivial⟩)

/-- The walk, by the runs. -/
theorem walk (a0 : Int) (a1 : Int) (w0 : (Lit.int .u8 a0).wf = true) (w1 : (Lit.int .u8 a1).wf = true) (w : World) {e : TypeId} {fz : Nat × Nat} (hw : w.heap[0]? = some (.cells #[.iface 223 (.agg #[.pointer (some ⟨3, 34, none⟩)])] e fz)) :
    Calls Tryz.prog 3 #[.int .u8 a0, .int .u8 a1] w fun e w' => e = .returned (.bool true) ∧ Below w.heap.size w w' := by
  have e0 : a0 % ((5 : Nat) : Int) = ((a0 % 5).toNat : Int) := by omega
  have e1 : a1 % ((4 : Nat) : Int) = ((a1 % 4).toNat : Int) := by omega
  have hr := runs (a0 % 5).toNat (by omega) (a1 % 4).toNat (by omega)
  exact lawG_run mixed body hr (.cons (u8s_VR _ w0 e0) (.cons (u8s_VR _ w1 e1) .nil)) (by omega) handle_VR rfl w hw

/-- A world that meets the condition: the settled one, the variable's cell laid. -/
noncomputable def laidWorld (os : Os) : World :=
  let w0 := World.holding Tryz.prog os ⟨#[], #[], []⟩
  { w0 with heap := w0.heap.modify ((Tryz.prog.globalNamed "errors.errorType").getD 0) fun
      | .cells _ t frozen => .cells #[laidHandle] t frozen
      | o => o }
where laidHandle : Value := .iface (((Tryz.prog.cutTypes.find? (·.1 == "internal/reflectlite.rtype")).map (·.2)).getD 0) (.agg #[typeHandle Tryz.prog ((((List.range Tryz.prog.types.size).filter fun t => Tryz.prog.rowNamed t [101, 114, 114, 111, 114])).headD 0)])
theorem laidWorld_met (os : Os) (args : Array Value) : laidMetH Tryz.prog Rows.changeFirstRow.laid ((laidWorld os).forCall (fun _ _ => 0) ⟨#[], args, []⟩).memory :=
  laidMetH_of_parts (laidMet_nil _ _) (by kernel_rfl)

set_option maxRecDepth 100000 in
theorem lifted (os : Os) (started : os.Started) (H : Type) (enc : TypeId × Value → H) :
    ReturnsInHanded {} Tryz.checked os 3 .any (fun w args => (Rows.changeFirstSpec.pre enc Tryz.prog Tryz.f3 [] false w args ∧ laidMetH Tryz.prog Rows.changeFirstRow.laid w) ∧ sizedMet enc Tryz.prog Tryz.f3 (OpenSpec.ofChange Rows.changeFirstSpec) false w args)
      (Rows.changeFirstSpec.post enc Tryz.prog Tryz.f3 false true false false) := by
  refine returnsInHanded_of_change_and (C := Tryz.checked) (X := fun w _ => laidMetH Tryz.prog Rows.changeFirstRow.laid w) (fun _ _ _ hh h => h.of_heap hh) own started (by kernel_rfl) Tryz.func3
    (ChangeSpec.witness_at (enc := enc) (C := Tryz.checked) (os := os) (X := fun w _ => laidMetH Tryz.prog Rows.changeFirstRow.laid w) false (laidWorld os) #[.int .u8 0, .int .u8 0] 8 rfl (by kernel_rfl) (by kernel_rfl) (by kernel_rfl) (by kernel_rfl) (by kernel_rfl) (laidWorld_met os _)) ?_
  intro W base args ds gs before hval0 hW _ _ hL _
  have hval : ∀ (j : Nat) t v, Tryz.f3.params[j]? = some t → args[j]? = some v → Value.okWide Tryz.prog W .any base t v := hval0
  have hW' := hW
  obtain ⟨p, q, hA0, hV0, rfl, hfz, hnd⟩ := hW
  have hA : DataW.TrodAll enc Tryz.prog W 0 (fun _ => true) true Tryz.f3.params.toList args.toList ds p := hA0
  have hV : DataW.TrodVars enc Tryz.prog W (fun _ => true) [] gs q := hV0
  rw [Tryz.params3] at hA hval
  obtain ⟨v0, vs0, d0, ds0, p0, q0, hargs, rfl, rfl, h0, r0⟩ := trodAll_cons hA
  obtain ⟨v1, vs1, d1, ds1, p1, q1, rfl, rfl, rfl, h1, r1⟩ := trodAll_cons r0
  obtain ⟨rfl, rfl, rfl⟩ := trodAll_nil r1
  obtain rfl : args = #[v0, v1] := by cases args; simp_all
  obtain ⟨rfl, rfl⟩ := trodVars_none hV
  obtain ⟨a0, rfl, rfl, rfl, w0⟩ := open_int Tryz.underlying5 (hval 0 5 v0 rfl rfl) h0
  obtain ⟨a1, rfl, rfl, rfl, w1⟩ := open_int Tryz.underlying5 (hval 1 5 v1 rfl rfl) h1
  clear hA0 hval0
  obtain ⟨eT, eF, hg⟩ := handle_of_laid hL
  simp only [List.append_nil] at hW'
  have e1 : Rows.changeFirstSpec.fn H ([.lit (.int .u8 a0), .lit (.int .u8 a1)] ++ []) = { results := [.lit (.bool true)], args := [.lit (.int .u8 a0), .lit (.int .u8 a1)] } := by simp [Rows.changeFirstSpec]
  refine (walk a0 a1 w0 w1 W hg).mono fun e W' ⟨he, hb⟩ => ?_
  subst he
  refine ⟨_, rfl, _, _, _, [], [], [], hW', ?_, ?_, ?_, hb.frame _, fun h => by cases h⟩
  · rw [e1]; exact trodAll_cons_mk (shut_bool Tryz.underlying4 true) trodAll_mk0
  · rw [e1]; exact (trodAll_cons_mk (shut_int Tryz.underlying5 w0) (trodAll_cons_mk (shut_int Tryz.underlying5 w1) trodAll_mk0))
  · rw [e1]; rfl

/-! ### What the row says of the call's text: off the list of what it can come to, once. -/
theorem clIs : Tryz.prog.closure 3 = [3, 5, 13, 14, 44, 85, 55, 104, 86, 137, 139, 155, 138, 196, 45, 87, 88, 140, 197, 198, 240, 141, 12, 39, 81, 135, 134, 82, 83, 40, 41, 42, 43, 84, 136, 15, 16, 46, 89, 90, 91, 47, 93, 94, 142, 92, 48, 95, 143, 145, 146, 152, 205, 206, 247, 166, 213, 245, 283, 309, 246, 108, 284, 310, 165, 200, 102, 154, 241, 57, 105, 144, 199, 147, 201, 148, 149, 96, 21, 151, 204, 150, 202, 242, 203, 244, 281, 282, 243, 273, 217, 274, 304, 275, 305, 306, 276, 307, 308, 318, 277, 278, 279, 280, 65, 109, 156, 207, 248, 63, 69, 111, 157, 170, 215, 216, 158, 112, 159, 209, 208, 250, 251, 249, 252, 210, 38, 77, 78, 79, 80, 131, 132, 133, 160, 161, 113, 162, 211, 212, 163, 114, 32, 70, 115, 164, 116, 167, 214, 168, 71, 117, 169, 188, 171, 218, 172, 219, 220, 253, 285, 118, 173, 221, 222, 256, 255, 287, 288, 311, 319, 254, 286, 259, 258, 290, 291, 292, 312, 320, 293, 257, 289, 223, 119, 174, 175, 176, 224, 225, 260, 294, 261, 264, 263, 296, 297, 298, 313, 321, 299, 262, 295, 226, 120, 121, 177, 190, 237, 272, 178, 227, 228, 72, 73, 122, 180, 179, 229, 182, 181, 230, 123, 184, 183, 231, 124, 185, 232, 265, 266, 267, 300, 314, 301, 315, 125, 186, 233, 236, 271, 187, 234, 235, 268, 269, 270, 302, 316, 303, 317, 126, 189, 127, 128, 191, 192, 34, 49, 51, 50, 8, 7, 24, 23, 25, 64, 20, 26, 27, 59, 106, 29, 31, 30, 33, 74, 129, 193, 238, 194, 239, 75, 35, 36, 76, 130, 195, 37, 28, 66, 67, 68, 110, 19, 54, 56, 18, 53, 103, 52, 97, 98, 99, 153, 100, 101, 62, 9, 22, 58, 60, 107, 61, 6, 10, 11] := by kernel_rfl
theorem inIs : Tryz.prog.inPlace 3 = ["math.Float64bits", "math.Float64frombits", "internal/bytealg.abigen_runtime_cmpstring", "internal/reflectlite.ValueOf", "(internal/reflectlite.Value).Type", "(internal/reflectlite.Value).IsNil", "internal/reflectlite.TypeOf", "(internal/reflectlite.Value).Elem", "(internal/reflectlite.Value).Set", "slices.overlaps[int64]", "slices.overlaps[rialto/api.Entry]", "slices.overlaps[*rialto/tree.node[rialto/api.Entry]]", "slices.overlaps[*rialto/tree.node[int64]]"] := by unfold Program.inPlace; rw [clIs]; kernel_rfl
theorem unIs : Tryz.prog.unfollowed 3 = true := by unfold Program.unfollowed; rw [clIs]; kernel_rfl
theorem reIs : Tryz.prog.recurses 3 = true := by unfold Program.recurses; rw [unIs]; rfl
theorem vaIs : Tryz.prog.varsNamed 3 = ["errors.errorType"] := by unfold Program.varsNamed; rw [clIs]; kernel_rfl
theorem goIs : Tryz.prog.goes 3 = false := by unfold Program.goes; rw [clIs, unIs]; kernel_rfl
theorem fnIs : Tryz.prog.funcNamed Rows.changeFirstRow.func = some 3 := by kernel_rfl
theorem goesIs : false = Rows.changeFirstRow.goesBy Tryz.prog := by
  unfold OpenClaim.goesBy Program.goesAt Program.goesFrom
  rw [fnIs, Option.any_some, goIs]
  rfl
theorem facts : joinedFacts Tryz.prog 3 Tryz.f3 Rows.changeFirstSpec Rows.changeFirstRow = true := by
  unfold joinedFacts
  rw [inIs, unIs, reIs, vaIs]
  kernel_rfl


theorem over : Rows.ChangeFirstSaid :=
  OpenClaim.holds_of_wide 3 Tryz.f3 rfl rfl rfl rfl rfl rfl rfl ⟨rfl, rfl, rfl, rfl, rfl⟩ rfl rfl rfl rfl rfl (by kernel_rfl) Tryz.func3 facts
    (of_decide_eq_true (by kernel_rfl)) (by unfold Func.isWrapper; rw [if_neg (of_decide_eq_false (by kernel_rfl))]; exact ⟨rfl, rfl⟩)
    (fun os started H enc _ => lifted os started H enc)

/-- THE STATEMENT. -/
theorem proved : Rows.ChangeFirstCardSaid :=
  Claim7.holds_tied_plain_at .later [] [.handle] true Rows.changeFirstCard.stood.harness true
    over (fun _ h => by cases h) (by kernel_rfl) (fun _ h => by cases h) changeFirst_row_tie rfl ⟨rfl, rfl⟩ (by kernel_rfl) rfl
    (fun f fn hf hfn => by
      obtain rfl : f = 3 := Option.some.inj ((show Tryz.prog.funcNamed Rows.changeFirstRow.func = some 3 by kernel_rfl).symm.trans hf) |>.symm
      obtain rfl : fn = Tryz.f3 := (Option.some.inj (Tryz.func3.symm.trans hfn)).symm
      exact ⟨by kernel_rfl, fun j t ht => by
          rw [Tryz.params3] at ht
          rcases j with _ | _ | j
          · have h3 : t = 5 := by simpa using ht.symm
            subst h3
            exact (show Tryz.prog.wantsStandIn 5 = false by kernel_rfl)
          · have h3 : t = 5 := by simpa using ht.symm
            subst h3
            exact (show Tryz.prog.wantsStandIn 5 = false by kernel_rfl)
          · simp at ht⟩)
    goesIs
#print axioms proved
end Go.Proofs.YtipkgldmaaangaaGreatDoor.changeFirst
