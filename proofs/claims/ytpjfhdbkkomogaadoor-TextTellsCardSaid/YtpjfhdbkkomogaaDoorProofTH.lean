/-
  For every value, every slice of values and every text, in every world in which the listed variables read as the row says, the law TextTells returns true and turns nothing that lay before; the card ties that to the program's text.
  Conditions: none beyond the row's own (the listed variables of the library read as their initialisers lay them).
-/
import Derived.Test.YtpjfhdbkkomogaaDoorRows
import Derived.Test.YtpjfhdbkkomogaaDoorCards
import Derived.Test.YtpjfhdbkkomogaaDoorTie
import Derived.Test.YtpjfhdbkkomogaaDoorH3
import Derived.Test.YtpjfhdbkkomogaaDoorH6
import Derived.Test.YtpjfhdbkkomogaaDoorH13
import Derived.WalkKit
import Derived.ProofKit
import Derived.OpenShut
import Derived.ChangeSame
import Derived.ChangeVars
import Derived.JoinedOf
import Derived.RowKit
import Derived.RowKitTokens
import Derived.LaidLaws
import Derived.LaidHandle
import Derived.Carry
import Derived.Stop.Joined
import Derived.SevenTiedAt
namespace Go.Proofs.YtpjfhdbkkomogaaDoor.textTells
open Go.ChangeShapes Go.WideShapes Go.ChangeAt Go.RowKit Go.ChangeMaps Mb

theorem laidOut : laidOutB Tryd.prog = true := by kernel_rfl
theorem walk (v : Px.S24) (A : Option Addr) (cap : Nat) (l : List Px.S24) (s : ByteArray) (hv : In v) (hc : l.length ≤ cap) (hm : cap ≤ maxLen) (w : World) (hC : Go.Proofs.YtpjfhdbkkomogaaDoorW.PrintWords.Kd.C Px.k24 w A l.length l) (hin : ∀ v ∈ l, In v) (hw : Errs w) :
    Calls Tryd.prog 3 #[.agg #[.int .i64 v.f0, .int .i64 v.f1, .string v.f2, .float .f64 v.f3], .slice A l.length cap, .string s] w fun e w' => e = .returned (.bool true) ∧ Below w.heap.size w w' := by
  obtain ⟨n, hn⟩ := tells_is v l s (by unfold maxLen at hm; omega) hv hin
  exact Px.rialtolaw4_TextTells.calls n v.f0 v.f1 v.f2 v.f3 A cap l s true w hC hc hw hn
set_option maxRecDepth 100000 in
theorem lifted (os : Os) (started : os.Started) (H : Type) (enc : TypeId × Value → H) :
    ReturnsInHanded {} Tryd.checked os 3 .any (fun w args => (Rows.textTellsSpec.pre enc Tryd.prog Tryd.f3 [] false w args ∧ laidMetH Tryd.prog Rows.textTellsRow.laid w) ∧ sizedMet enc Tryd.prog Tryd.f3 (OpenSpec.ofChange Rows.textTellsSpec) false w args)
      (Rows.textTellsSpec.post enc Tryd.prog Tryd.f3 false true false false) := by
  refine returnsInHanded_of_change_and (C := Tryd.checked) (X := fun w _ => laidMetH Tryd.prog Rows.textTellsRow.laid w) (fun _ _ _ hh h => h.of_heap hh) own started (by kernel_rfl) Tryd.func3
    (ChangeSpec.witness_shaped (enc := enc) (C := Tryd.checked) (os := os) (X := fun w _ => laidMetH Tryd.prog Rows.textTellsRow.laid w) false (World.doorLaid Tryd.prog 400 os) #[.agg #[.int .i64 0, .int .i64 0, .string ByteArray.empty, .float .f64 0], .slice none 0 0, .string ByteArray.empty] 8 rfl (World.shaped_of_RefB (by kernel_rfl) (by kernel_rfl)) (by kernel_rfl) (by kernel_rfl) (by kernel_rfl) (door_met os _)) ?_
  intro W base args ds gs before hval0 hW _ _ hL _
  have hval : ∀ (j : Nat) t v, Tryd.f3.params[j]? = some t → args[j]? = some v → Value.okWide Tryd.prog W .any base t v := hval0
  have hW' := hW
  obtain ⟨p, q, hA0, hV0, rfl, hfz, hnd⟩ := hW
  have hA : DataW.TrodAll enc Tryd.prog W 0 (fun _ => true) true Tryd.f3.params.toList args.toList ds p := hA0
  have hV : DataW.TrodVars enc Tryd.prog W (fun _ => true) [] gs q := hV0
  rw [Tryd.params3] at hA hval
  obtain ⟨v0, vs0, d0, ds0, p0, q0, hargs, rfl, rfl, h0, r0⟩ := trodAll_cons hA
  obtain ⟨v1, vs1, d1, ds1, p1, q1, rfl, rfl, rfl, h1, r1⟩ := trodAll_cons r0
  obtain ⟨v2, vs2, d2, ds2, p2, q2, rfl, rfl, rfl, h2, r2⟩ := trodAll_cons r1
  obtain ⟨rfl, rfl, rfl⟩ := trodAll_nil r2
  obtain rfl : args = #[v0, v1, v2] := by cases args; simp_all
  obtain ⟨rfl, rfl⟩ := trodVars_none hV
  have k0 := h0
  have k1 := h1
  have k2 := h2
  have lt0 : ∀ x ∈ p0, x.block < W.heap.size := by obtain ⟨m, hm⟩ := k0; exact DataW.trod_lt m _ _ _ hm
  have lt1 : ∀ x ∈ p1, x.block < W.heap.size := by obtain ⟨m, hm⟩ := k1; exact DataW.trod_lt m _ _ _ hm
  have lt2 : ∀ x ∈ p2, x.block < W.heap.size := by obtain ⟨m, hm⟩ := k2; exact DataW.trod_lt m _ _ _ hm
  obtain ⟨cs, rfl, hsz⟩ := okWide_struct Tryd.underlying24 (hval 0 24 v0 rfl rfl)
  obtain ⟨aw, lw, cw, rfl⟩ := okWide_slice Tryd.underlying25 (hval 1 25 v1 rfl rfl)
  obtain ⟨s, rfl, rfl, rfl, hs⟩ := open_string Tryd.underlying9 (hval 2 9 v2 rfl rfl) h2
  obtain ⟨fuel0, hf0⟩ := h0
  obtain ⟨v, hv, hcs, -⟩ := val_cells hf0
  obtain rfl : cs = #[.int .i64 v.f0, .int .i64 v.f1, .string v.f2, .float .f64 v.f3] := by
    cases cs
    simp [Value.cells] at hcs
    rw [hcs]
  obtain ⟨fuel1, hf1⟩ := h1
  obtain ⟨A, cap, l, hvl, hc, hm, hC, hin⟩ := open_vals hf1
  cases hvl
  clear hA0 hval0
  have hT := errs_of hL
  have e1 : Rows.textTellsSpec.fn H ([d0, d1, .lit (.string s.data.toList)] ++ []) = { results := [.lit (.bool true)], args := [d0, d1, .lit (.string s.data.toList)] } := by simp [Rows.textTellsSpec]
  refine (walk v aw cw l s hv hc hm W hC hin hT).mono fun e W' ⟨he, hb⟩ => ?_
  subst he
  refine ⟨_, rfl, _, _, _, [], p0 ++ (p1 ++ ([] ++ [])), [], hW', ?_, ?_, ?_, hb.frame _, fun h => by cases h⟩
  · rw [e1]; exact trodAll_cons_mk (shut_bool Tryd.underlying4 true) trodAll_mk0
  · rw [e1]; exact trodAll_cons_mk (Below.trod laidOut (by kernel_rfl) (of_decide_eq_true (by kernel_rfl)) k0 hb lt0) (trodAll_cons_mk (Below.trod laidOut (by kernel_rfl) (of_decide_eq_true (by kernel_rfl)) k1 hb lt1) (trodAll_cons_mk (Below.trod laidOut (by kernel_rfl) (of_decide_eq_true (by kernel_rfl)) k2 hb lt2) trodAll_mk0))
  · rw [e1]; rfl
theorem over : Rows.TextTellsSaid :=
  OpenClaim.holds_of_wide 3 Tryd.f3 rfl rfl rfl rfl rfl rfl rfl ⟨rfl, rfl, rfl, rfl, rfl⟩ rfl rfl rfl rfl rfl (by kernel_rfl) Tryd.func3 (by kernel_rfl)
    (of_decide_eq_true (by kernel_rfl)) (by unfold Func.isWrapper; rw [if_neg (of_decide_eq_false (by kernel_rfl))]; exact ⟨rfl, rfl⟩)
    (fun os started H enc _ => lifted os started H enc)
/-- THE STATEMENT. -/
theorem proved : Rows.TextTellsCardSaid :=
  Claim7.holds_tied_plain_at .later [] [.data, .data, .data, .sentinel, .sentinel] true Rows.textTellsCard.stood.harness true
    over (fun _ h => by cases h) (by kernel_rfl) (fun _ h => by cases h) textTells_row_tie rfl ⟨rfl, rfl⟩ (by kernel_rfl) rfl
    (fun f fn hf hfn => by
      obtain rfl : f = 3 := Option.some.inj ((show Tryd.prog.funcNamed Rows.textTellsRow.func = some 3 by kernel_rfl).symm.trans hf) |>.symm
      obtain rfl : fn = Tryd.f3 := (Option.some.inj (Tryd.func3.symm.trans hfn)).symm
      exact ⟨by kernel_rfl, fun j t ht => by
          rw [Tryd.params3] at ht
          rcases j with _ | _ | _ | j
          · have h3 : t = 24 := by simpa using ht.symm
            subst h3
            exact (show Tryd.prog.wantsStandIn 24 = false by kernel_rfl)
          · have h3 : t = 25 := by simpa using ht.symm
            subst h3
            exact (show Tryd.prog.wantsStandIn 25 = false by kernel_rfl)
          · have h3 : t = 9 := by simpa using ht.symm
            subst h3
            exact (show Tryd.prog.wantsStandIn 9 = false by kernel_rfl)
          · simp at ht⟩)
    (by kernel_rfl)
#print axioms proved
end Go.Proofs.YtpjfhdbkkomogaaDoor.textTells
