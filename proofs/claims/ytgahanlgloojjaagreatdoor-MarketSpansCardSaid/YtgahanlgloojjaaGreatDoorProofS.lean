/-
  For every argument, in every world in which the listed variable reads as the row says, the law returns true and turns nothing that lay before; the card ties that to the program's text.
  Every run is one of the executor (Ex1 to Ex3), checked by the kernel (Run0 and on): one for each choice of residues.
-/
import Derived.Test.YtgahanlgloojjaaGreatDoorRows
import Derived.Test.YtgahanlgloojjaaGreatDoorCards
import Derived.Test.YtgahanlgloojjaaGreatDoorTie
import Derived.Test.YtgahanlgloojjaaGreatDoorRunS0
import Derived.Test.YtgahanlgloojjaaGreatDoorRunS1
import Derived.Test.YtgahanlgloojjaaGreatDoorRunS2
import Derived.Test.YtgahanlgloojjaaGreatDoorRunS3
import Derived.Test.YtgahanlgloojjaaGreatDoorRunS4
import Derived.Test.YtgahanlgloojjaaGreatDoorRunS5
import Derived.WalkKit
import Derived.ProofKit
import Derived.OpenShut
import Derived.ChangeSame
import Derived.ChangeVars
import Derived.JoinedOf
import Derived.RowKit
import Derived.RowKitTokens
import Derived.LaidLaws
import Derived.LaidHandle
import Derived.Stop.Joined
import Derived.SevenTiedAt
namespace Go.Proofs.YtgahanlgloojjaaGreatDoor.marketSpans
open Go.ChangeShapes Go.WideShapes Go.ChangeAt Go.RowKit
open Go.Ex
set_option linter.unusedVariables false

theorem own : ownKnob Tryz.prog.godebug = none := by kernel_rfl
theorem mixed : Tryz.prog.follows .mixedOrders = true := by kernel_rfl
theorem body : (bodyOf Tryz.prog 3).isSome = true := by kernel_rfl


theorem rtIs : (Tryz.prog.cutTypes.find? (·.1 == "internal/reflectlite.rtype")).map (·.2) = some 225 := by kernel_rfl
theorem oneRow : ((List.range Tryz.prog.types.size).filter fun t => Tryz.prog.rowNamed t [101, 114, 114, 111, 114]) = [29] := by kernel_rfl
theorem varIs : Tryz.prog.globalNamed "errors.errorType" = some 0 := by kernel_rfl
theorem handleIs : typeHandle Tryz.prog 29 = .pointer (some ⟨3, 29, none⟩) := by kernel_rfl

/-- What the condition gives: the variable's one cell. -/
theorem handle_of_laid {W : World} (h : laidMetH Tryz.prog Rows.marketSpansRow.laid W) : ∃ e fz, W.heap[0]? = some (.cells #[.iface 225 (.agg #[.pointer (some ⟨3, 29, none⟩)])] e fz) := by
  have h' : laidMet Tryz.prog [] W ∧ handlesMet Tryz.prog Rows.marketSpansRow.laid W := h
  obtain ⟨name, u, ty, e1, e2, e3, e4, e5⟩ := h'.2 _ (List.mem_singleton.2 rfl)
  have en : name = [101, 114, 114, 111, 114] := (Option.some.inj e1).symm
  subst en
  obtain rfl := Option.some.inj (rtIs.symm.trans e2)
  have hm : ty ∈ (List.range Tryz.prog.types.size).filter fun t => Tryz.prog.rowNamed t [101, 114, 114, 111, 114] := List.mem_filter.2 ⟨List.mem_range.2 e3, e4⟩
  rw [oneRow] at hm
  obtain rfl := List.mem_singleton.1 hm
  rw [handleIs] at e5
  have e6 : ((Tryz.prog.globalNamed "errors.errorType").bind fun g => match W.heap[g]? with
    | some (.cells cs _ _) => some cs
    | _ => none) = some #[.iface 225 (.agg #[.pointer (some ⟨3, 29, none⟩)])] := e5
  rw [varIs, Option.bind_some] at e6
  split at e6
  · rename_i cs e fz hw
    cases e6
    exact ⟨e, fz, hw⟩
  · cases e6

theorem handle_VR {m : Mp} (hG : GR m 64) : VR m handle (.iface 225 (.agg #[.pointer (some ⟨3, 29, none⟩)])) := by
  obtain ⟨h1, h2⟩ := hG 3 (by omega)
  have h3 := VR.ptr (m := m) 3 29 h1
  rw [h2] at h3
  exact .iface _ _ _ (.agg' (fun u hu => by simp at hu; subst hu; rfl) ⟨h3, trivial⟩)
theorem glAt {m : Mp} (hG : GR m 64) {w : World} {e : TypeId} {fz : Nat × Nat} (hw : w.heap[0]? = some (.cells #[.iface 225 (.agg #[.pointer (some ⟨3, 29, none⟩)])] e fz)) : GlAt 64 m w [(0, [handle])] := fun x hx => by
  obtain rfl := List.mem_singleton.1 hx
  exact ⟨by omega, fun v hv => by obtain rfl := List.mem_singleton.1 hv; rfl, _, e, fz, hw, handle_VR hG, trivial⟩

/-- The walk, by the runs. -/
theorem walkOther {x : Value} {x' : Value} (hx : VR (mG 64) x x') (g : Bool) (w : World) {e : TypeId} {fz : Nat × Nat} (hw : w.heap[0]? = some (.cells #[.iface 225 (.agg #[.pointer (some ⟨3, 29, none⟩)])] e fz)) (hk : lawM Tryz.prog 64 20000 3 [x, .bool g] [(0, [handle])] = true) :
    Calls Tryz.prog 3 #[x', .bool g] w fun e w' => e = .returned (.bool true) ∧ Below w.heap.size w w' :=
  lawM_slice mixed body hk hx w (glAt (mG_GR _ _) hw)
theorem walkSome {len : Nat} (h1 : 0 < len) (h2 : len ≤ 12) (g : Bool) (w : World) {e : TypeId} {fz : Nat × Nat} (hw : w.heap[0]? = some (.cells #[.iface 225 (.agg #[.pointer (some ⟨3, 29, none⟩)])] e fz)) {b off cap : Nat} {zs : List Int} (hlen : len ≤ zs.length)
    (hcell : ∀ i, i < zs.length → w.cell? ⟨b, off + i, none⟩ = some (.int .i8 (zs.getD i 0))) (hwf : ∀ n ∈ zs, (Lit.int .i8 n).wf = true) :
    Calls Tryz.prog 3 #[.slice (some ⟨b, off, none⟩) len cap, .bool g] w fun e w' => e = .returned (.bool true) ∧ Below w.heap.size w w' := by
  have hne : b ≠ 0 := fun hb => by
    subst hb
    have h0 := hcell 0 (by omega)
    rcases off with _ | off
    · simp [World.cell?, hw] at h0
    · simp [World.cell?, hw] at h0
  refine lawW_i8 (G := 64) (fuel := 20000) (gl := [(0, [handle])]) mixed body h1 ?_ w (fun es bs off => glAt (mGW_GR _ es bs off) hw) (fun x hx => by obtain rfl := List.mem_singleton.1 hx; exact fun h => hne h.symm) hlen hcell hwf
  intro s hs
  have key : len = 1 ∨ len = 2 ∨ len = 3 ∨ len = 4 ∨ len = 5 ∨ len = 6 ∨ len = 7 ∨ len = 8 ∨ len = 9 ∨ len = 10 ∨ len = 11 ∨ len = 12 := by omega
  rcases key with rfl | rfl | rfl | rfl | rfl | rfl | rfl | rfl | rfl | rfl | rfl | rfl
  · cases g
    · match s, hs with
      | 0, _ => exact runSS1_0_false
      | 1, _ => exact runSS1_1_false
      | 2, _ => exact runSS1_2_false
      | _ + 3, h => exact absurd h (by omega)
    · match s, hs with
      | 0, _ => exact runSS1_0_true
      | 1, _ => exact runSS1_1_true
      | 2, _ => exact runSS1_2_true
      | _ + 3, h => exact absurd h (by omega)
  · cases g
    · match s, hs with
      | 0, _ => exact runSS2_0_false
      | 1, _ => exact runSS2_1_false
      | 2, _ => exact runSS2_2_false
      | _ + 3, h => exact absurd h (by omega)
    · match s, hs with
      | 0, _ => exact runSS2_0_true
      | 1, _ => exact runSS2_1_true
      | 2, _ => exact runSS2_2_true
      | _ + 3, h => exact absurd h (by omega)
  · cases g
    · match s, hs with
      | 0, _ => exact runSS3_0_false
      | 1, _ => exact runSS3_1_false
      | 2, _ => exact runSS3_2_false
      | _ + 3, h => exact absurd h (by omega)
    · match s, hs with
      | 0, _ => exact runSS3_0_true
      | 1, _ => exact runSS3_1_true
      | 2, _ => exact runSS3_2_true
      | _ + 3, h => exact absurd h (by omega)
  · cases g
    · match s, hs with
      | 0, _ => exact runSS4_0_false
      | 1, _ => exact runSS4_1_false
      | 2, _ => exact runSS4_2_false
      | _ + 3, h => exact absurd h (by omega)
    · match s, hs with
      | 0, _ => exact runSS4_0_true
      | 1, _ => exact runSS4_1_true
      | 2, _ => exact runSS4_2_true
      | _ + 3, h => exact absurd h (by omega)
  · cases g
    · match s, hs with
      | 0, _ => exact runSS5_0_false
      | 1, _ => exact runSS5_1_false
      | 2, _ => exact runSS5_2_false
      | _ + 3, h => exact absurd h (by omega)
    · match s, hs with
      | 0, _ => exact runSS5_0_true
      | 1, _ => exact runSS5_1_true
      | 2, _ => exact runSS5_2_true
      | _ + 3, h => exact absurd h (by omega)
  · cases g
    · match s, hs with
      | 0, _ => exact runSS6_0_false
      | 1, _ => exact runSS6_1_false
      | 2, _ => exact runSS6_2_false
      | _ + 3, h => exact absurd h (by omega)
    · match s, hs with
      | 0, _ => exact runSS6_0_true
      | 1, _ => exact runSS6_1_true
      | 2, _ => exact runSS6_2_true
      | _ + 3, h => exact absurd h (by omega)
  · cases g
    · match s, hs with
      | 0, _ => exact runSS7_0_false
      | 1, _ => exact runSS7_1_false
      | 2, _ => exact runSS7_2_false
      | _ + 3, h => exact absurd h (by omega)
    · match s, hs with
      | 0, _ => exact runSS7_0_true
      | 1, _ => exact runSS7_1_true
      | 2, _ => exact runSS7_2_true
      | _ + 3, h => exact absurd h (by omega)
  · cases g
    · match s, hs with
      | 0, _ => exact runSS8_0_false
      | 1, _ => exact runSS8_1_false
      | 2, _ => exact runSS8_2_false
      | _ + 3, h => exact absurd h (by omega)
    · match s, hs with
      | 0, _ => exact runSS8_0_true
      | 1, _ => exact runSS8_1_true
      | 2, _ => exact runSS8_2_true
      | _ + 3, h => exact absurd h (by omega)
  · cases g
    · match s, hs with
      | 0, _ => exact runSS9_0_false
      | 1, _ => exact runSS9_1_false
      | 2, _ => exact runSS9_2_false
      | _ + 3, h => exact absurd h (by omega)
    · match s, hs with
      | 0, _ => exact runSS9_0_true
      | 1, _ => exact runSS9_1_true
      | 2, _ => exact runSS9_2_true
      | _ + 3, h => exact absurd h (by omega)
  · cases g
    · match s, hs with
      | 0, _ => exact runSS10_0_false
      | 1, _ => exact runSS10_1_false
      | 2, _ => exact runSS10_2_false
      | _ + 3, h => exact absurd h (by omega)
    · match s, hs with
      | 0, _ => exact runSS10_0_true
      | 1, _ => exact runSS10_1_true
      | 2, _ => exact runSS10_2_true
      | _ + 3, h => exact absurd h (by omega)
  · cases g
    · match s, hs with
      | 0, _ => exact runSS11_0_false
      | 1, _ => exact runSS11_1_false
      | 2, _ => exact runSS11_2_false
      | _ + 3, h => exact absurd h (by omega)
    · match s, hs with
      | 0, _ => exact runSS11_0_true
      | 1, _ => exact runSS11_1_true
      | 2, _ => exact runSS11_2_true
      | _ + 3, h => exact absurd h (by omega)
  · cases g
    · match s, hs with
      | 0, _ => exact runSS12_0_false
      | 1, _ => exact runSS12_1_false
      | 2, _ => exact runSS12_2_false
      | _ + 3, h => exact absurd h (by omega)
    · match s, hs with
      | 0, _ => exact runSS12_0_true
      | 1, _ => exact runSS12_1_true
      | 2, _ => exact runSS12_2_true
      | _ + 3, h => exact absurd h (by omega)

/-- A world that meets the condition: the settled one, the variable's cell laid. -/

noncomputable def laidWorld (os : Os) : World :=
  let w0 := World.holding Tryz.prog os ⟨#[], #[], []⟩
  { w0 with heap := w0.heap.modify ((Tryz.prog.globalNamed "errors.errorType").getD 0) fun
      | .cells _ t frozen => .cells #[laidHandle] t frozen
      | o => o }
where laidHandle : Value := .iface (((Tryz.prog.cutTypes.find? (·.1 == "internal/reflectlite.rtype")).map (·.2)).getD 0) (.agg #[typeHandle Tryz.prog ((((List.range Tryz.prog.types.size).filter fun t => Tryz.prog.rowNamed t [101, 114, 114, 111, 114])).headD 0)])
theorem laidWorld_met (os : Os) (args : Array Value) : laidMetH Tryz.prog Rows.marketSpansRow.laid ((laidWorld os).forCall (fun _ _ => 0) ⟨#[], args, []⟩).memory :=
  laidMetH_of_parts (laidMet_nil _ _) (by kernel_rfl)

theorem cells8 : Tryz.prog.cellsOf 38 = 1 := by kernel_rfl
set_option maxRecDepth 100000 in
theorem lifted (os : Os) (started : os.Started) (H : Type) (enc : TypeId × Value → H) :
    ReturnsInHanded {} Tryz.checked os 3 .any (fun w args => (Rows.marketSpansSpec.pre enc Tryz.prog Tryz.f3 [] false w args ∧ laidMetH Tryz.prog Rows.marketSpansRow.laid w) ∧ sizedMet enc Tryz.prog Tryz.f3 (OpenSpec.ofChange Rows.marketSpansSpec) false w args)
      (Rows.marketSpansSpec.post enc Tryz.prog Tryz.f3 false true false false) := by
  refine returnsInHanded_of_change_and (C := Tryz.checked) (X := fun w _ => laidMetH Tryz.prog Rows.marketSpansRow.laid w) (fun _ _ _ hh h => h.of_heap hh) own started (by kernel_rfl) Tryz.func3
    (ChangeSpec.witness_at (enc := enc) (C := Tryz.checked) (os := os) (X := fun w _ => laidMetH Tryz.prog Rows.marketSpansRow.laid w) false (laidWorld os) #[.slice none 0 0, .bool false] 8 rfl (by kernel_rfl) (by kernel_rfl) (by kernel_rfl) (by kernel_rfl) (by kernel_rfl) (laidWorld_met os _)) ?_
  intro W base args ds gs before hval0 hW _ _ hL _
  have hval : ∀ (j : Nat) t v, Tryz.f3.params[j]? = some t → args[j]? = some v → Value.okWide Tryz.prog W .any base t v := hval0
  have hW' := hW
  obtain ⟨p, q, hA0, hV0, rfl, hfz, hnd⟩ := hW
  have hA : DataW.TrodAll enc Tryz.prog W 0 (fun _ => true) true Tryz.f3.params.toList args.toList ds p := hA0
  have hV : DataW.TrodVars enc Tryz.prog W (fun _ => true) [] gs q := hV0
  rw [Tryz.params3] at hA hval
  obtain ⟨v0, vs0, d0, ds0, p0, q0, hargs, rfl, rfl, h0, r0⟩ := trodAll_cons hA
  obtain ⟨v1, vs1, d1, ds1, p1, q1, rfl, rfl, rfl, h1, r1⟩ := trodAll_cons r0
  obtain ⟨rfl, rfl, rfl⟩ := trodAll_nil r1
  obtain rfl : args = #[v0, v1] := by cases args; simp_all
  obtain ⟨rfl, rfl⟩ := trodVars_none hV
  obtain ⟨a1, rfl, rfl, rfl⟩ := open_bool Tryz.underlying4 (hval 1 4 v1 rfl rfl) h1
  have hop := open_i8s Tryz.underlying22 Tryz.underlying38 cells8 (okWide_slice Tryz.underlying22 (hval 0 22 v0 rfl rfl)) h0
  clear hA0 hval0
  obtain ⟨eT, eF, hg⟩ := handle_of_laid hL
  simp only [List.append_nil] at hW'
  rcases hop with ⟨rfl, rfl, rfl, hag⟩ | ⟨a, len, cap, zs, rfl, hl, hz, rfl, rfl, hcell, hwz, hag⟩
  · have hw := walkOther (.slN 0 0) a1 W hg (by cases a1; exact runSN_false; exact runSN_true)
    have e1 : Rows.marketSpansSpec.fn H ([.nil, .lit (.bool a1)] ++ []) = { results := [.lit (.bool true)], args := [.nil, .lit (.bool a1)] } := by simp [Rows.marketSpansSpec]
    refine hw.mono fun e W' ⟨he, hb⟩ => ?_
    subst he
    refine ⟨_, rfl, _, _, _, [], [], [], hW', ?_, ?_, ?_, hb.frame _, fun h => by cases h⟩
    · rw [e1]; exact trodAll_cons_mk (shut_bool Tryz.underlying4 true) trodAll_mk0
    · rw [e1]; exact (trodAll_cons_mk (hag W' _) (trodAll_cons_mk (shut_bool Tryz.underlying4 a1) trodAll_mk0))
    · rw [e1]; rfl
  · have e1 : Rows.marketSpansSpec.fn H ([.slice (lits .i8 (zs.take len)) (lits .i8 (zs.drop len)), .lit (.bool a1)] ++ []) = { results := [.lit (.bool true)], args := [.slice (lits .i8 (zs.take len)) (lits .i8 (zs.drop len)), .lit (.bool a1)] } := by simp [Rows.marketSpansSpec]
    have hw : Calls Tryz.prog 3 #[.slice (some a) len cap, .bool a1] W fun e w' => e = .returned (.bool true) ∧ Below W.heap.size W w' := by
      rcases Nat.eq_zero_or_pos len with rfl | hpos
      · exact walkOther (.slx cap a) a1 W hg (by cases a1; exact runSE_false; exact runSE_true)
      · by_cases hlong : len ≤ 12
        · obtain ⟨b, off, rfl, hcell'⟩ := ints_at hcell (by omega)
          exact walkSome hpos hlong a1 W hg (by omega) hcell' hwz
        · exact walkOther (.slg 13 len cap a (by omega)) a1 W hg (by cases a1; exact runSG_false; exact runSG_true)
    refine hw.mono fun e W' ⟨he, hb⟩ => ?_
    subst he
    refine ⟨_, rfl, _, _, _, [], MemPlace.row a zs.length ++ ([] ++ []), [], hW', ?_, ?_, ?_, hb.frame _, fun h => by cases h⟩
    · rw [e1]; exact trodAll_cons_mk (shut_bool Tryz.underlying4 true) trodAll_mk0
    · rw [e1]; exact (trodAll_cons_mk (hag W' hb _ (fun b hb' => by simpa using hb')) (trodAll_cons_mk (shut_bool Tryz.underlying4 a1) trodAll_mk0))
    · rw [e1]; rfl

/-! ### What the row says of the call's text: off the list of what it can come to, once. -/
theorem clIs : Tryz.prog.closure 3 = [3, 4, 13, 43, 44, 14, 45, 31, 46, 91, 139, 187, 186, 140, 141, 47, 92, 93, 94, 95, 142, 188, 48, 29, 75, 8, 30, 32, 15, 6, 24, 25, 61, 60, 109, 151, 190, 62, 110, 36, 63, 64, 79, 128, 111, 152, 191, 251, 184, 250, 301, 77, 127, 112, 153, 192, 205, 259, 260, 136, 182, 183, 249, 201, 257, 247, 299, 333, 248, 300, 334, 200, 193, 154, 194, 253, 252, 303, 304, 302, 305, 254, 52, 97, 98, 99, 100, 143, 144, 145, 195, 196, 155, 197, 255, 256, 198, 156, 65, 67, 68, 113, 157, 199, 158, 202, 258, 203, 114, 159, 204, 223, 206, 261, 262, 207, 263, 264, 306, 335, 160, 208, 265, 266, 309, 308, 337, 338, 358, 367, 307, 336, 312, 311, 340, 341, 342, 359, 368, 343, 310, 339, 267, 161, 209, 210, 211, 268, 269, 313, 344, 314, 317, 316, 346, 347, 348, 360, 369, 349, 315, 345, 270, 162, 163, 212, 225, 281, 325, 213, 271, 272, 115, 116, 164, 215, 214, 273, 217, 216, 274, 165, 219, 218, 275, 166, 220, 276, 318, 319, 320, 350, 361, 351, 362, 167, 221, 277, 280, 324, 222, 278, 279, 321, 322, 323, 352, 363, 353, 364, 168, 224, 169, 170, 226, 227, 26, 66, 69, 117, 171, 228, 282, 229, 283, 118, 70, 71, 119, 172, 230, 72, 58, 108, 50, 96, 27, 28, 73, 74, 121, 173, 231, 284, 326, 354, 177, 242, 243, 365, 370, 371, 380, 372, 286, 287, 373, 381, 382, 386, 374, 375, 376, 377, 355, 327, 328, 356, 366, 379, 385, 378, 383, 387, 384, 388, 389, 395, 401, 390, 398, 391, 392, 399, 400, 402, 393, 394, 396, 397, 232, 120, 23, 57, 59, 41, 84, 86, 132, 85, 130, 175, 131, 176, 233, 239, 290, 234, 285, 235, 236, 288, 289, 329, 237, 238, 240, 241, 87, 133, 37, 178, 244, 134, 179, 245, 180, 246, 291, 292, 330, 293, 294, 331, 332, 357, 295, 296, 297, 298, 135, 181, 88, 137, 185, 56, 107, 16, 49, 39, 83, 17, 51, 18, 5, 19, 20, 53, 101, 102, 146, 103, 147, 149, 148, 189, 54, 104, 105, 42, 89, 90, 138, 150, 22, 21, 55, 106, 7, 9, 33, 34, 76, 122, 123, 124, 174, 125, 126, 82, 10, 35, 38, 78, 80, 129, 81, 11, 40, 12] := by kernel_rfl
theorem inIs : Tryz.prog.inPlace 3 = ["math.Float64bits", "internal/bytealg.abigen_runtime_cmpstring", "internal/reflectlite.ValueOf", "(internal/reflectlite.Value).Type", "(internal/reflectlite.Value).IsNil", "internal/reflectlite.TypeOf", "(internal/reflectlite.Value).Elem", "(internal/reflectlite.Value).Set", "slices.overlaps[int64]", "slices.overlaps[rialto/api.Entry]", "slices.overlaps[*rialto/tree.node[rialto/api.Entry]]", "slices.overlaps[*rialto/tree.node[int64]]", "math.Float64frombits"] := by unfold Program.inPlace; rw [clIs]; kernel_rfl
theorem unIs : Tryz.prog.unfollowed 3 = true := by unfold Program.unfollowed; rw [clIs]; kernel_rfl
theorem reIs : Tryz.prog.recurses 3 = true := by unfold Program.recurses; rw [unIs]; rfl
theorem vaIs : Tryz.prog.varsNamed 3 = ["errors.errorType"] := by unfold Program.varsNamed; rw [clIs]; kernel_rfl
theorem goIs : Tryz.prog.goes 3 = false := by unfold Program.goes; rw [clIs, unIs]; kernel_rfl
theorem fnIs : Tryz.prog.funcNamed Rows.marketSpansRow.func = some 3 := by kernel_rfl
theorem goesIs : false = Rows.marketSpansRow.goesBy Tryz.prog := by
  unfold OpenClaim.goesBy Program.goesAt Program.goesFrom
  rw [fnIs, Option.any_some, goIs]
  rfl
theorem facts : joinedFacts Tryz.prog 3 Tryz.f3 Rows.marketSpansSpec Rows.marketSpansRow = true := by
  unfold joinedFacts
  rw [inIs, unIs, reIs, vaIs]
  kernel_rfl


theorem over : Rows.MarketSpansSaid :=
  OpenClaim.holds_of_wide 3 Tryz.f3 rfl rfl rfl rfl rfl rfl rfl ⟨rfl, rfl, rfl, rfl, rfl⟩ rfl rfl rfl rfl rfl (by kernel_rfl) Tryz.func3 facts
    (of_decide_eq_true (by kernel_rfl)) (by unfold Func.isWrapper; rw [if_neg (of_decide_eq_false (by kernel_rfl))]; exact ⟨rfl, rfl⟩)
    (fun os started H enc _ => lifted os started H enc)

/-- THE STATEMENT. -/
theorem proved : Rows.MarketSpansCardSaid :=
  Claim7.holds_tied_plain_at .later [] [.handle] true Rows.marketSpansCard.stood.harness true
    over (fun _ h => by cases h) (by kernel_rfl) (fun _ h => by cases h) marketSpans_row_tie rfl ⟨rfl, rfl⟩ (by kernel_rfl) rfl
    (fun f fn hf hfn => by
      obtain rfl : f = 3 := Option.some.inj ((show Tryz.prog.funcNamed Rows.marketSpansRow.func = some 3 by kernel_rfl).symm.trans hf) |>.symm
      obtain rfl : fn = Tryz.f3 := (Option.some.inj (Tryz.func3.symm.trans hfn)).symm
      exact ⟨by kernel_rfl, fun j t ht => by
          rw [Tryz.params3] at ht
          rcases j with _ | _ | j
          · have h3 : t = 22 := by simpa using ht.symm
            subst h3
            exact (show Tryz.prog.wantsStandIn 22 = false by kernel_rfl)
          · have h3 : t = 4 := by simpa using ht.symm
            subst h3
            exact (show Tryz.prog.wantsStandIn 4 = false by kernel_rfl)
          · simp at ht⟩)
    goesIs
#print axioms proved
end Go.Proofs.YtgahanlgloojjaaGreatDoor.marketSpans
