/-
  For every two uint64s, in every world in which the listed variables read as the row says, the law TextFloats returns true and turns nothing that lay before; the card ties that to the program's text.
  Conditions: none beyond the row's own (the listed variables of the library read as their initialisers lay them).
-/
import Derived.Test.YtpjfhdbkkomogaaDoorRows
import Derived.Test.YtpjfhdbkkomogaaDoorCards
import Derived.Test.YtpjfhdbkkomogaaDoorTie
import Derived.Test.YtpjfhdbkkomogaaDoorLd
import Derived.Test.YtpjfhdbkkomogaaDoorLf
import Derived.WalkKit
import Derived.ProofKit
import Derived.OpenShut
import Derived.ChangeSame
import Derived.ChangeVars
import Derived.JoinedOf
import Derived.RowKit
import Derived.RowKitTokens
import Derived.LaidLaws
import Derived.LaidHandle
import Derived.Stop.Joined
import Derived.SevenTiedAt
namespace Go.Proofs.YtpjfhdbkkomogaaDoor.textFloats
open Go.ChangeShapes Go.WideShapes Go.ChangeAt Go.RowKit Go.ChangeMaps Mb

theorem walk (a b : Int) (ha0 : 0 ≤ a) (ha1 : a ≤ 18446744073709551615) (hb0 : 0 ≤ b) (hb1 : b ≤ 18446744073709551615) (w : World) (hw : Tabs w) : Calls Tryd.prog 6 #[.int .u64 a, .int .u64 b] w fun e w' => e = .returned (.bool true) ∧ Below w.heap.size w w' := by
  obtain ⟨x, rfl⟩ : ∃ x : Nat, a = x := ⟨a.toNat, by omega⟩
  obtain ⟨y, rfl⟩ : ∃ y : Nat, b = y := ⟨b.toNat, by omega⟩
  exact floats_walk x y (by omega) (by omega) w hw
theorem wf_u64 {n : Int} (h : (Lit.int .u64 n).wf = true) : 0 ≤ n ∧ n ≤ 18446744073709551615 := by
  simp [Lit.wf, IntKind.min, IntKind.max, IntKind.signed, IntKind.bits] at h
  omega
set_option maxRecDepth 100000 in
theorem lifted (os : Os) (started : os.Started) (H : Type) (enc : TypeId × Value → H) :
    ReturnsInHanded {} Tryd.checked os 6 .any (fun w args => (Rows.textFloatsSpec.pre enc Tryd.prog Tryd.f6 [] false w args ∧ laidMetH Tryd.prog Rows.textFloatsRow.laid w) ∧ sizedMet enc Tryd.prog Tryd.f6 (OpenSpec.ofChange Rows.textFloatsSpec) false w args)
      (Rows.textFloatsSpec.post enc Tryd.prog Tryd.f6 false true false false) := by
  refine returnsInHanded_of_change_and (C := Tryd.checked) (X := fun w _ => laidMetH Tryd.prog Rows.textFloatsRow.laid w) (fun _ _ _ hh h => h.of_heap hh) own started (by kernel_rfl) Tryd.func6
    (ChangeSpec.witness_shaped (enc := enc) (C := Tryd.checked) (os := os) (X := fun w _ => laidMetH Tryd.prog Rows.textFloatsRow.laid w) false (World.doorLaid Tryd.prog 400 os) #[.int .u64 0, .int .u64 0] 8 rfl (World.shaped_of_RefB (by kernel_rfl) (by kernel_rfl)) (by kernel_rfl) (by kernel_rfl) (by kernel_rfl) (door_met os _)) ?_
  intro W base args ds gs before hval0 hW _ _ hL _
  have hval : ∀ (j : Nat) t v, Tryd.f6.params[j]? = some t → args[j]? = some v → Value.okWide Tryd.prog W .any base t v := hval0
  have hW' := hW
  obtain ⟨p, q, hA0, hV0, rfl, hfz, hnd⟩ := hW
  have hA : DataW.TrodAll enc Tryd.prog W 0 (fun _ => true) true Tryd.f6.params.toList args.toList ds p := hA0
  have hV : DataW.TrodVars enc Tryd.prog W (fun _ => true) [] gs q := hV0
  rw [Tryd.params6] at hA hval
  obtain ⟨v0, vs0, d0, ds0, p0, q0, hargs, rfl, rfl, h0, r0⟩ := trodAll_cons hA
  obtain ⟨v1, vs1, d1, ds1, p1, q1, rfl, rfl, rfl, h1, r1⟩ := trodAll_cons r0
  obtain ⟨rfl, rfl, rfl⟩ := trodAll_nil r1
  obtain rfl : args = #[v0, v1] := by cases args; simp_all
  obtain ⟨rfl, rfl⟩ := trodVars_none hV
  obtain ⟨n, rfl, rfl, rfl, hn⟩ := open_int Tryd.underlying47 (hval 0 47 v0 rfl rfl) h0
  obtain ⟨sp, rfl, rfl, rfl, hsp⟩ := open_int Tryd.underlying47 (hval 1 47 v1 rfl rfl) h1
  clear hA0 hval0
  have hT := tabs_of hL
  obtain ⟨hn0, hn1⟩ := wf_u64 hn
  obtain ⟨hs0, hs1⟩ := wf_u64 hsp
  simp only [List.append_nil] at hW'
  have e1 : Rows.textFloatsSpec.fn H ([.lit (.int .u64 n), .lit (.int .u64 sp)] ++ []) = { results := [.lit (.bool true)], args := [.lit (.int .u64 n), .lit (.int .u64 sp)] } := by simp [Rows.textFloatsSpec]
  refine (walk n sp hn0 hn1 hs0 hs1 W hT).mono fun e W' ⟨he, hb⟩ => ?_
  subst he
  refine ⟨_, rfl, _, _, _, [], [], [], hW', ?_, ?_, ?_, hb.frame _, fun h => by cases h⟩
  · rw [e1]; exact trodAll_cons_mk (shut_bool Tryd.underlying4 true) trodAll_mk0
  · rw [e1]; exact trodAll_cons_mk (shut_int Tryd.underlying47 hn) (trodAll_cons_mk (shut_int Tryd.underlying47 hsp) trodAll_mk0)
  · rw [e1]; rfl
theorem over : Rows.TextFloatsSaid :=
  OpenClaim.holds_of_wide 6 Tryd.f6 rfl rfl rfl rfl rfl rfl rfl ⟨rfl, rfl, rfl, rfl, rfl⟩ rfl rfl rfl rfl rfl (by kernel_rfl) Tryd.func6 (by kernel_rfl)
    (of_decide_eq_true (by kernel_rfl)) (by unfold Func.isWrapper; rw [if_neg (of_decide_eq_false (by kernel_rfl))]; exact ⟨rfl, rfl⟩)
    (fun os started H enc _ => lifted os started H enc)
/-- THE STATEMENT. -/
theorem proved : Rows.TextFloatsCardSaid :=
  Claim7.holds_tied_plain_at .later [] [.data, .data, .data, .sentinel, .sentinel] true Rows.textFloatsCard.stood.harness true
    over (fun _ h => by cases h) (by kernel_rfl) (fun _ h => by cases h) textFloats_row_tie rfl ⟨rfl, rfl⟩ (by kernel_rfl) rfl
    (fun f fn hf hfn => by
      obtain rfl : f = 6 := Option.some.inj ((show Tryd.prog.funcNamed Rows.textFloatsRow.func = some 6 by kernel_rfl).symm.trans hf) |>.symm
      obtain rfl : fn = Tryd.f6 := (Option.some.inj (Tryd.func6.symm.trans hfn)).symm
      exact ⟨by kernel_rfl, fun j t ht => by
          rw [Tryd.params6] at ht
          rcases j with _ | j
          · have h3 : t = 47 := by simpa using ht.symm
            subst h3
            exact (show Tryd.prog.wantsStandIn 47 = false by kernel_rfl)
          · rcases j with _ | j
            · have h3 : t = 47 := by simpa using ht.symm
              subst h3
              exact (show Tryd.prog.wantsStandIn 47 = false by kernel_rfl)
            · simp at ht⟩)
    (by kernel_rfl)
#print axioms proved
end Go.Proofs.YtpjfhdbkkomogaaDoor.textFloats
