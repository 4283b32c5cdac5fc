/-
  The law 'ViewWalks' returns true: a cursor goes through all rows on and back, and stands at the end behind the last one.
  For every two bytes, in every world in which the listed variable reads as the row says; the card ties that to the program's text. Every run is one of the executor (Ex1 to Ex3), checked by the kernel (Run0 and on): one for each pair of residues.
-/
import Derived.Test.YtocjkllkjbehgaaGreatDoorRows
import Derived.Test.YtocjkllkjbehgaaGreatDoorCards
import Derived.Test.YtocjkllkjbehgaaGreatDoorTie
import Derived.Test.YtocjkllkjbehgaaGreatDoorRun0
import Derived.Test.YtocjkllkjbehgaaGreatDoorRun1
import Derived.Test.YtocjkllkjbehgaaGreatDoorRun2
import Derived.Test.YtocjkllkjbehgaaGreatDoorRun3
import Derived.Test.YtocjkllkjbehgaaGreatDoorRun4
import Derived.Test.YtocjkllkjbehgaaGreatDoorRun5
import Derived.Test.YtocjkllkjbehgaaGreatDoorRun6
import Derived.Test.YtocjkllkjbehgaaGreatDoorRun7
import Derived.Test.YtocjkllkjbehgaaGreatDoorRun8
import Derived.Test.YtocjkllkjbehgaaGreatDoorRun9
import Derived.Test.YtocjkllkjbehgaaGreatDoorRun10
import Derived.Test.YtocjkllkjbehgaaGreatDoorRun11
import Derived.Test.YtocjkllkjbehgaaGreatDoorRun12
import Derived.Test.YtocjkllkjbehgaaGreatDoorRun13
import Derived.Test.YtocjkllkjbehgaaGreatDoorRun14
import Derived.Test.YtocjkllkjbehgaaGreatDoorRun15
import Derived.Test.YtocjkllkjbehgaaGreatDoorRun16
import Derived.Test.YtocjkllkjbehgaaGreatDoorRun17
import Derived.Test.YtocjkllkjbehgaaGreatDoorRun18
import Derived.Test.YtocjkllkjbehgaaGreatDoorRun19
import Derived.WalkKit
import Derived.ProofKit
import Derived.OpenShut
import Derived.ChangeSame
import Derived.ChangeVars
import Derived.JoinedOf
import Derived.RowKit
import Derived.RowKitTokens
import Derived.LaidLaws
import Derived.LaidHandle
import Derived.Stop.Joined
import Derived.SevenTiedAt
namespace Go.Proofs.YtocjkllkjbehgaaGreatDoor.viewWalks
open Go.ChangeShapes Go.WideShapes Go.ChangeAt Go.RowKit
open Go.Ex (lawF u8s u8s_VR lawF_run bodyOf)
set_option linter.unusedVariables false

theorem own : ownKnob Tryz.prog.godebug = none := by kernel_rfl
theorem mixed : Tryz.prog.follows .mixedOrders = true := by kernel_rfl
theorem body : (bodyOf Tryz.prog 3).isSome = true := by kernel_rfl

theorem runs : ∀ r : Nat, r < 20 → ∀ s : Nat, s < 3 → lawF Tryz.prog 64 20000 3 [u8s 20 r, u8s 3 s] = true
  | 0, _ => Go.Ex.run0
  | 1, _ => Go.Ex.run1
  | 2, _ => Go.Ex.run2
  | 3, _ => Go.Ex.run3
  | 4, _ => Go.Ex.run4
  | 5, _ => Go.Ex.run5
  | 6, _ => Go.Ex.run6
  | 7, _ => Go.Ex.run7
  | 8, _ => Go.Ex.run8
  | 9, _ => Go.Ex.run9
  | 10, _ => Go.Ex.run10
  | 11, _ => Go.Ex.run11
  | 12, _ => Go.Ex.run12
  | 13, _ => Go.Ex.run13
  | 14, _ => Go.Ex.run14
  | 15, _ => Go.Ex.run15
  | 16, _ => Go.Ex.run16
  | 17, _ => Go.Ex.run17
  | 18, _ => Go.Ex.run18
  | 19, _ => Go.Ex.run19
  | _ + 20, h => absurd h (by omega)

/-- The walk, by the runs. -/
theorem walk (a0 : Int) (a1 : Int) (w0 : (Lit.int .u8 a0).wf = true) (w1 : (Lit.int .u8 a1).wf = true) (w : World) :
    Calls Tryz.prog 3 #[.int .u8 a0, .int .u8 a1] w fun e w' => e = .returned (.bool true) ∧ Below w.heap.size w w' := by
  have h0 : a0 % ((20 : Nat) : Int) = ((a0 % 20).toNat : Int) := by omega
  have h1 : a1 % ((3 : Nat) : Int) = ((a1 % 3).toNat : Int) := by omega
  exact lawF_run mixed body (runs (a0 % 20).toNat (by omega) (a1 % 3).toNat (by omega)) (.cons (u8s_VR _ w0 h0) (.cons (u8s_VR _ w1 h1) .nil)) w

/-- A world that meets the condition: the settled one, the variable's cell laid. -/
noncomputable def laidWorld (os : Os) : World :=
  let w0 := World.holding Tryz.prog os ⟨#[], #[], []⟩
  { w0 with heap := w0.heap.modify ((Tryz.prog.globalNamed "errors.errorType").getD 0) fun
      | .cells _ t frozen => .cells #[laidHandle] t frozen
      | o => o }
where laidHandle : Value := .iface (((Tryz.prog.cutTypes.find? (·.1 == "internal/reflectlite.rtype")).map (·.2)).getD 0) (.agg #[typeHandle Tryz.prog ((((List.range Tryz.prog.types.size).filter fun t => Tryz.prog.rowNamed t [101, 114, 114, 111, 114])).headD 0)])
theorem laidWorld_met (os : Os) (args : Array Value) : laidMetH Tryz.prog Rows.viewWalksRow.laid ((laidWorld os).forCall (fun _ _ => 0) ⟨#[], args, []⟩).memory :=
  laidMetH_of_parts (laidMet_nil _ _) (by kernel_rfl)

set_option maxRecDepth 100000 in
theorem lifted (os : Os) (started : os.Started) (H : Type) (enc : TypeId × Value → H) :
    ReturnsInHanded {} Tryz.checked os 3 .any (fun w args => (Rows.viewWalksSpec.pre enc Tryz.prog Tryz.f3 [] false w args ∧ laidMetH Tryz.prog Rows.viewWalksRow.laid w) ∧ sizedMet enc Tryz.prog Tryz.f3 (OpenSpec.ofChange Rows.viewWalksSpec) false w args)
      (Rows.viewWalksSpec.post enc Tryz.prog Tryz.f3 false true false false) := by
  refine returnsInHanded_of_change_and (C := Tryz.checked) (X := fun w _ => laidMetH Tryz.prog Rows.viewWalksRow.laid w) (fun _ _ _ hh h => h.of_heap hh) own started (by kernel_rfl) Tryz.func3
    (ChangeSpec.witness_at (enc := enc) (C := Tryz.checked) (os := os) (X := fun w _ => laidMetH Tryz.prog Rows.viewWalksRow.laid w) false (laidWorld os) #[.int .u8 0, .int .u8 0] 8 rfl (by kernel_rfl) (by kernel_rfl) (by kernel_rfl) (by kernel_rfl) (by kernel_rfl) (laidWorld_met os _)) ?_
  intro W base args ds gs before hval0 hW _ _ hL _
  have hval : ∀ (j : Nat) t v, Tryz.f3.params[j]? = some t → args[j]? = some v → Value.okWide Tryz.prog W .any base t v := hval0
  have hW' := hW
  obtain ⟨p, q, hA0, hV0, rfl, hfz, hnd⟩ := hW
  have hA : DataW.TrodAll enc Tryz.prog W 0 (fun _ => true) true Tryz.f3.params.toList args.toList ds p := hA0
  have hV : DataW.TrodVars enc Tryz.prog W (fun _ => true) [] gs q := hV0
  rw [Tryz.params3] at hA hval
  obtain ⟨v0, vs0, d0, ds0, p0, q0, hargs, rfl, rfl, h0, r0⟩ := trodAll_cons hA
  obtain ⟨v1, vs1, d1, ds1, p1, q1, rfl, rfl, rfl, h1, r1⟩ := trodAll_cons r0
  obtain ⟨rfl, rfl, rfl⟩ := trodAll_nil r1
  obtain rfl : args = #[v0, v1] := by cases args; simp_all
  obtain ⟨rfl, rfl⟩ := trodVars_none hV
  obtain ⟨a0, rfl, rfl, rfl, w0⟩ := open_int Tryz.underlying5 (hval 0 5 v0 rfl rfl) h0
  obtain ⟨a1, rfl, rfl, rfl, w1⟩ := open_int Tryz.underlying5 (hval 1 5 v1 rfl rfl) h1
  clear hA0 hval0
  simp only [List.append_nil] at hW'
  have e1 : Rows.viewWalksSpec.fn H ([.lit (.int .u8 a0), .lit (.int .u8 a1)] ++ []) = { results := [.lit (.bool true)], args := [.lit (.int .u8 a0), .lit (.int .u8 a1)] } := by simp [Rows.viewWalksSpec]
  refine (walk a0 a1 w0 w1 W).mono fun e W' ⟨he, hb⟩ => ?_
  subst he
  refine ⟨_, rfl, _, _, _, [], [], [], hW', ?_, ?_, ?_, hb.frame _, fun h => by cases h⟩
  · rw [e1]; exact trodAll_cons_mk (shut_bool Tryz.underlying4 true) trodAll_mk0
  · rw [e1]; exact trodAll_cons_mk (shut_int Tryz.underlying5 w0) (trodAll_cons_mk (shut_int Tryz.underlying5 w1) trodAll_mk0)
  · rw [e1]; rfl

theorem over : Rows.ViewWalksSaid :=
  OpenClaim.holds_of_wide 3 Tryz.f3 rfl rfl rfl rfl rfl rfl rfl ⟨rfl, rfl, rfl, rfl, rfl⟩ rfl rfl rfl rfl rfl (by kernel_rfl) Tryz.func3 (by kernel_rfl)
    (of_decide_eq_true (by kernel_rfl)) (by unfold Func.isWrapper; rw [if_neg (of_decide_eq_false (by kernel_rfl))]; exact ⟨rfl, rfl⟩)
    (fun os started H enc _ => lifted os started H enc)

/-- THE STATEMENT. -/
theorem proved : Rows.ViewWalksCardSaid :=
  Claim7.holds_tied_plain_at .later [] [.handle] true Rows.viewWalksCard.stood.harness true
    over (fun _ h => by cases h) (by kernel_rfl) (fun _ h => by cases h) viewWalks_row_tie rfl ⟨rfl, rfl⟩ (by kernel_rfl) rfl
    (fun f fn hf hfn => by
      obtain rfl : f = 3 := Option.some.inj ((show Tryz.prog.funcNamed Rows.viewWalksRow.func = some 3 by kernel_rfl).symm.trans hf) |>.symm
      obtain rfl : fn = Tryz.f3 := (Option.some.inj (Tryz.func3.symm.trans hfn)).symm
      exact ⟨by kernel_rfl, fun j t ht => by
        rw [Tryz.params3] at ht
        have h3 : t = 5 := by
          rcases j with _ | _ | j
          · simpa using ht.symm
          · simpa using ht.symm
          · simp at ht
        subst h3
        exact (show Tryz.prog.wantsStandIn 5 = false by kernel_rfl)⟩)
    (by kernel_rfl)
#print axioms proved
end Go.Proofs.YtocjkllkjbehgaaGreatDoor.viewWalks
