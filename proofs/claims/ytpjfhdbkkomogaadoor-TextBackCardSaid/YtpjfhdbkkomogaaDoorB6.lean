/- Texts of this claim, one behind the other. -/
import Derived.Test.YtpjfhdbkkomogaaDoorB0
import Derived.Test.YtpjfhdbkkomogaaDoorB4
import Derived.Test.YtpjfhdbkkomogaaDoorB5
import Derived.Test.YtpjfhdbkkomogaaDoorB3
/- Functions of this program as Lean functions, and that the calls answer as they do: printed by this session's printmore.py. -/
namespace Go.Proofs.YtpjfhdbkkomogaaDoor.Px
noncomputable section
open Go.RowKit Go.Proofs.YtpjfhdbkkomogaaDoor.Gvn Go.Proofs.YtpjfhdbkkomogaaDoorW.PrintWords Go.Proofs.YtpjfhdbkkomogaaDoorW.PrintLast Go.Proofs.YtpjfhdbkkomogaaDoorW.PrintMore
attribute [local go_sem] run_store_float max2_int min2_int max_two min_two max_three min_three max_four min_four   -- for this text's walks alone
set_option linter.unusedVariables false
set_option linter.unusedSimpArgs false

/-! ### rialtolaw4_TextBack: function 4 -/
def rialtolaw4_TextBack.l0 : Nat → List (S24) → Int → Option (Bool)
  | 0, _, _ => none
  | k + 1, x0, x3 => if x3 < (x0.length : Int) then (if 0 ≤ x3 then ((text_Print.f ((rd_T24 x0 x3).f0) ((rd_T24 x0 x3).f1) ((rd_T24 x0 x3).f2) ((rd_T24 x0 x3).f3)).bind fun t365 => ((text_Parse.f t365).bind fun bt366 => ((rialtoref2_Is.f k ((rd_T24 x0 x3).f0) ((rd_T24 x0 x3).f1) ((rd_T24 x0 x3).f2) ((rd_T24 x0 x3).f3)).bind fun t373 => (if t373 = true then (if bt366.2.2.2.2 = 0 then ((rialtoref2_Same.f bt366.1 bt366.2.1 bt366.2.2.1 bt366.2.2.2.1 ((rd_T24 x0 x3).f0) ((rd_T24 x0 x3).f1) ((rd_T24 x0 x3).f2) ((rd_T24 x0 x3).f3)).bind fun t375 => (if t375 = true then (rialtolaw4_TextBack.l0 k x0 (wrap64 (x3 + 1))) else (some false))) else (some false)) else ((text_Print.f ((rd_T24 x0 x3).f0) ((rd_T24 x0 x3).f1) ((rd_T24 x0 x3).f2) ((rd_T24 x0 x3).f3)).bind fun t377 => (if t377.toList = ([63] : List UInt8) then (some (bt366.2.2.2.2 == 30)) else (some false))))))) else (none)) else ((text_Row.f k x0).bind fun t358 => ((text_Read.f k t358).bind fun bt359 => (if bt359.2 = 0 then ((rialtohelp_Vals.f k x0 bt359.1).bind fun t363 => (some t363)) else (some false))))
def rialtolaw4_TextBack.f (k : Nat) (l0 : List (S24)) : Option (Bool) := (rialtolaw4_known.f).bind fun t356 => (if t356 = true then ((rialtohelp_Few.f k l0 12).bind fun t357 => (if t357 = true then (rialtolaw4_TextBack.l0 k l0 0) else (some true))) else (some false))
theorem rialtolaw4_TextBack.mono_l : ∀ k, (∀ y0 y1, LeO (rialtolaw4_TextBack.l0 k y0 y1) (rialtolaw4_TextBack.l0 (k + 1) y0 y1))
  | 0 => fun _ _ r h => by simp [rialtolaw4_TextBack.l0] at h
  | k + 1 => by
    have ih0 := rialtolaw4_TextBack.mono_l k
    · intro y0 y1
      unfold rialtolaw4_TextBack.l0
      repeat' first
      | (with_reducible exact ih0 _ _)
      | (with_reducible exact rialtohelp_Few.mono _ _ _)
      | (with_reducible exact rialtohelp_Vals.mono _ _ _)
      | (with_reducible exact rialtoref2_Is.mono _ _ _ _ _)
      | (with_reducible exact text_Read.mono _ _)
      | (with_reducible exact text_Row.mono _ _)
      | (with_reducible exact LeO.refl _)
      | (with_reducible exact LeO.none _)
      | (with_reducible refine LeO.ite ?_ ?_)
      | (with_reducible refine LeO.bind ?_ (fun _ => ?_))
      | exact ih0 _ _
      | exact rialtohelp_Few.mono _ _ _
      | exact rialtohelp_Vals.mono _ _ _
      | exact rialtoref2_Is.mono _ _ _ _ _
      | exact text_Read.mono _ _
      | exact text_Row.mono _ _
      | exact LeO.none _
      | refine LeO.ite ?_ ?_
      | refine LeO.bind ?_ (fun _ => ?_)
theorem rialtolaw4_TextBack.mono : ∀ a0 k, LeO (rialtolaw4_TextBack.f k a0) (rialtolaw4_TextBack.f (k + 1) a0) := by
  intro a0 k
  have ih0 := rialtolaw4_TextBack.mono_l k
  unfold rialtolaw4_TextBack.f
  repeat' first
      | (with_reducible exact ih0 _ _)
      | (with_reducible exact rialtohelp_Few.mono _ _ _)
      | (with_reducible exact rialtohelp_Vals.mono _ _ _)
      | (with_reducible exact rialtoref2_Is.mono _ _ _ _ _)
      | (with_reducible exact text_Read.mono _ _)
      | (with_reducible exact text_Row.mono _ _)
      | (with_reducible exact LeO.refl _)
      | (with_reducible exact LeO.none _)
      | (with_reducible refine LeO.ite ?_ ?_)
      | (with_reducible refine LeO.bind ?_ (fun _ => ?_))
      | exact ih0 _ _
      | exact rialtohelp_Few.mono _ _ _
      | exact rialtohelp_Vals.mono _ _ _
      | exact rialtoref2_Is.mono _ _ _ _ _
      | exact text_Read.mono _ _
      | exact text_Row.mono _ _
      | exact LeO.none _
      | refine LeO.ite ?_ ?_
      | refine LeO.bind ?_ (fun _ => ?_)
def rialtolaw4_TextBack.T11 : Bool × List (List Nat × List Nat) := (true, [([], []), ([0], [0]), ([1], [1]), ([2], [2]), ([2], [2]), ([2], [2]), ([4, 5, 2], [2, 4, 5]), ([6, 2], [2, 6]), ([3, 7, 2, 2], [2, 3, 7]), ([8, 2], [2, 8]), ([2, 9], [2, 9])])
def rialtolaw4_TextBack.B11 : List Nat := [0, 1, 3, 7, 7, 7, 55, 119, 255, 511, 1023]
theorem rialtolaw4_TextBack.tab11 : rtab .any (opsOf Tryd.f4 11) = rialtolaw4_TextBack.T11 := by kernel_rfl
theorem rialtolaw4_TextBack.bits11 : waitsOk rialtolaw4_TextBack.T11.2 rialtolaw4_TextBack.B11 = true := by kernel_rfl
set_option maxHeartbeats 8000000 in
set_option maxRecDepth 100000 in
theorem rialtolaw4_TextBack.calls (k : Nat) (A0 : Option Addr) (c0 : Nat) (l0 : List (S24)) (r : Bool) (w : World) (hr0 : Kd.C k24 w A0 l0.length l0) (hc0 : l0.length ≤ c0) (hT : Mb.Errs w) (h : rialtolaw4_TextBack.f k l0 = some r) :
    Calls Tryd.prog 4 #[.slice A0 l0.length c0] w fun e w' => e = .returned (.bool r) ∧ Below w.heap.size w w' := by
  have hu24 := Tryd.underlying24
  have HR0 := Aside0.mk hr0
  have HC0 := Aside0.mk hc0
  clear hr0 hc0
  have HB := Aside0.mk (Below.refl w.heap.size w)
  have HT := Aside0.mk hT
  clear hT
  have H : ((rialtolaw4_known.f).bind fun t356 => (if t356 = true then ((rialtohelp_Few.f k l0 12).bind fun t357 => (if t357 = true then (rialtolaw4_TextBack.l0 k l0 0) else (some true))) else (some false))) = some r := h
  clear h
  replace H := Option.bind_eq_some_iff.mp H
  obtain ⟨t356, A20, H⟩ := H
  replace H : (if t356 = true then ((rialtohelp_Few.f k l0 12).bind fun t357 => (if t357 = true then (rialtolaw4_TextBack.l0 k l0 0) else (some true))) else (some false)) = some r := H
  have A2 := Aside0.mk A20
  clear A20
  by_cases c3 : t356 = true
  · subst c3
    have H1 : ((rialtohelp_Few.f k l0 12).bind fun t357 => (if t357 = true then (rialtolaw4_TextBack.l0 k l0 0) else (some true))) = some r := by rw [if_pos rfl] at H; exact H
    clear H
    have H := H1
    clear H1
    replace H := Option.bind_eq_some_iff.mp H
    obtain ⟨t357, A40, H⟩ := H
    replace H : (if t357 = true then (rialtolaw4_TextBack.l0 k l0 0) else (some true)) = some r := H
    have A4 := Aside0.mk A40
    clear A40
    by_cases c5 : t357 = true
    · subst c5
      have H1 : (rialtolaw4_TextBack.l0 k l0 0) = some r := by rw [if_pos rfl] at H; exact H
      clear H
      have H := H1
      clear H1
      have H' := Aside0.mk H
      clear H
      have k23 := run23
      have k22 := run22
      go_enter Tryd.func4, Tryd.ntmps4
      go_wp2_with (first | ((with_reducible refine gate_callee (f := 8) rfl ?_); refine goesL_ (some 8) rfl rfl Tryd.func8 (by kernel_rfl) rfl #[] rfl (by (try simp only [List.map_toArray, List.map_cons, List.map_nil]); first | done | rfl | (simp only [List.length_drop, List.length_take]; rfl)) ?_; (with_reducible refine (rialtolaw4_known.calls  true _ ?side1 A2.out).mono ?_); (case side1 => exact Mb.Errs.mono HT.out (by repeat (first | (with_reducible first | exact HB.out | apply below_alloc | apply pw_below_drewN | apply below_drew1) | exact HB.out))); rintro e w6 ⟨rfl, hb⟩; refine ⟨_, rfl, ?_⟩; have n0_ := Aside0.mk (below_step (by repeat (first | (with_reducible first | exact HB.out | apply below_alloc | apply pw_below_drewN | apply below_drew1) | exact HB.out)) hb); clear HB; have HB := n0_; clear n0_; (try clear hb); (try clear hb2); (try clear hk); (try clear hi)) | ((with_reducible refine gate_callee (f := 9) rfl ?_); refine goesL_ (some 11) rfl rfl Tryd.func9 (by kernel_rfl) rfl #[.slice A0 l0.length c0, .int .i64 12] rfl (by (try simp only [List.map_toArray, List.map_cons, List.map_nil]); first | done | rfl | (simp only [List.length_drop, List.length_take]; rfl)) ?_; (with_reducible refine (rialtohelp_Few.calls k _ _ l0 12 true _ ?side1 ?side2 A4.out).mono ?_); (case side1 => repeat (first | exact (Kd.C_below HR0.out HB.out) | (with_reducible refine Kd.C_alloc ?_ _) | (with_reducible refine Kd.C_drewN ?_ _) | (with_reducible refine Kd.C_drew ?_))); (case side2 => exact HC0.out); rintro e w' ⟨rfl, ⟨nd, rfl⟩⟩; refine ⟨_, rfl, ?_⟩))
      go_loopg [3] k (fun kq v3 w' => ∃ (x3_1 : Int), v3 = .int .i64 x3_1 ∧ Aside0 (rialtolaw4_TextBack.l0 kq l0 x3_1 = some r) ∧ Aside0 (kq ≤ k) ∧ Aside0 (Below w.heap.size w w'))
      case atStart => exact ⟨(0), (by first | rfl | (simp; done) | (simp [*]; done)), H', ⟨Nat.le_refl _⟩, ⟨by repeat (first | (with_reducible first | exact HB.out | apply below_alloc | apply pw_below_drewN | apply below_drew1) | exact HB.out)⟩⟩
      case round =>
        clear H'
        try clear p2
        try clear c3
        try clear c4
        try clear c5
        obtain ⟨x3_1, rfl, HA, HK1, HB⟩ := hrel
        cases gk with
        | zero => exact absurd HA.out (by simp [rialtolaw4_TextBack.l0])
        | succ k1 =>
          have H := HA.out
          clear HA
          simp only [rialtolaw4_TextBack.l0] at H
          by_cases c7 : x3_1 < (l0.length : Int)
          · rw [if_pos c7] at H
            have c7b0 : decide (x3_1 < (l0.length : Int)) = true := decide_eq_true c7
            clear c7
            by_cases c8 : 0 ≤ x3_1
            · rw [if_pos c8] at H
              have c8b0 : decide (0 ≤ x3_1) = true := decide_eq_true c8
              clear c8
              replace H := Option.bind_eq_some_iff.mp H
              obtain ⟨t365, A90, H⟩ := H
              replace H : ((text_Parse.f t365).bind fun bt366 => ((rialtoref2_Is.f k1 ((rd_T24 l0 x3_1).f0) ((rd_T24 l0 x3_1).f1) ((rd_T24 l0 x3_1).f2) ((rd_T24 l0 x3_1).f3)).bind fun t373 => (if t373 = true then (if bt366.2.2.2.2 = 0 then ((rialtoref2_Same.f bt366.1 bt366.2.1 bt366.2.2.1 bt366.2.2.2.1 ((rd_T24 l0 x3_1).f0) ((rd_T24 l0 x3_1).f1) ((rd_T24 l0 x3_1).f2) ((rd_T24 l0 x3_1).f3)).bind fun t375 => (if t375 = true then (rialtolaw4_TextBack.l0 k1 l0 (wrap64 (x3_1 + 1))) else (some false))) else (some false)) else ((text_Print.f ((rd_T24 l0 x3_1).f0) ((rd_T24 l0 x3_1).f1) ((rd_T24 l0 x3_1).f2) ((rd_T24 l0 x3_1).f3)).bind fun t377 => (if t377.toList = ([63] : List UInt8) then (some (bt366.2.2.2.2 == 30)) else (some false)))))) = some r := H
              have A9 := Aside0.mk A90
              clear A90
              replace H := Option.bind_eq_some_iff.mp H
              obtain ⟨⟨t366, t367, t368, t369, t370⟩, A100, H⟩ := H
              replace H : ((rialtoref2_Is.f k1 ((rd_T24 l0 x3_1).f0) ((rd_T24 l0 x3_1).f1) ((rd_T24 l0 x3_1).f2) ((rd_T24 l0 x3_1).f3)).bind fun t373 => (if t373 = true then (if t370 = 0 then ((rialtoref2_Same.f t366 t367 t368 t369 ((rd_T24 l0 x3_1).f0) ((rd_T24 l0 x3_1).f1) ((rd_T24 l0 x3_1).f2) ((rd_T24 l0 x3_1).f3)).bind fun t375 => (if t375 = true then (rialtolaw4_TextBack.l0 k1 l0 (wrap64 (x3_1 + 1))) else (some false))) else (some false)) else ((text_Print.f ((rd_T24 l0 x3_1).f0) ((rd_T24 l0 x3_1).f1) ((rd_T24 l0 x3_1).f2) ((rd_T24 l0 x3_1).f3)).bind fun t377 => (if t377.toList = ([63] : List UInt8) then (some (t370 == 30)) else (some false))))) = some r := H
              have A10 := Aside0.mk A100
              clear A100
              replace H := Option.bind_eq_some_iff.mp H
              obtain ⟨t373, A110, H⟩ := H
              replace H : (if t373 = true then (if t370 = 0 then ((rialtoref2_Same.f t366 t367 t368 t369 ((rd_T24 l0 x3_1).f0) ((rd_T24 l0 x3_1).f1) ((rd_T24 l0 x3_1).f2) ((rd_T24 l0 x3_1).f3)).bind fun t375 => (if t375 = true then (rialtolaw4_TextBack.l0 k1 l0 (wrap64 (x3_1 + 1))) else (some false))) else (some false)) else ((text_Print.f ((rd_T24 l0 x3_1).f0) ((rd_T24 l0 x3_1).f1) ((rd_T24 l0 x3_1).f2) ((rd_T24 l0 x3_1).f3)).bind fun t377 => (if t377.toList = ([63] : List UInt8) then (some (t370 == 30)) else (some false)))) = some r := H
              have A11 := Aside0.mk A110
              clear A110
              by_cases c12 : t373 = true
              · subst c12
                have H1 : (if t370 = 0 then ((rialtoref2_Same.f t366 t367 t368 t369 ((rd_T24 l0 x3_1).f0) ((rd_T24 l0 x3_1).f1) ((rd_T24 l0 x3_1).f2) ((rd_T24 l0 x3_1).f3)).bind fun t375 => (if t375 = true then (rialtolaw4_TextBack.l0 k1 l0 (wrap64 (x3_1 + 1))) else (some false))) else (some false)) = some r := by rw [if_pos rfl] at H; exact H
                clear H
                have H := H1
                clear H1
                by_cases c13 : t370 = 0
                · rw [if_pos c13] at H
                  have c13b0 : (t370 == 0) = true := beq_iff_eq.mpr c13
                  have c13b1 : (t370 != 0) = false := bne_eq_false_iff_eq.mpr c13
                  clear c13
                  replace H := Option.bind_eq_some_iff.mp H
                  obtain ⟨t375, A140, H⟩ := H
                  replace H : (if t375 = true then (rialtolaw4_TextBack.l0 k1 l0 (wrap64 (x3_1 + 1))) else (some false)) = some r := H
                  have A14 := Aside0.mk A140
                  clear A140
                  by_cases c15 : t375 = true
                  · subst c15
                    have H1 : (rialtolaw4_TextBack.l0 k1 l0 (wrap64 (x3_1 + 1))) = some r := by rw [if_pos rfl] at H; exact H
                    clear H
                    have H := H1
                    clear H1
                    have H' := Aside0.mk H
                    clear H
                    have p364 : 0 ≤ (x3_1 : Int) := of_decide_eq_true (by first | (with_reducible assumption) | assumption)
                    have q364 : x3_1 < (l0.length : Int) := of_decide_eq_true (by first | (with_reducible assumption) | assumption)
                    obtain ⟨ad364, e364, hx364_0, hx364_1, hx364_2, hx364_3⟩ := at_T24 HR0.out x3_1 p364 q364
                    cases e364
                    replace hx364_0 := (HB.out.cell (World.block_lt_of_cell? w _ hx364_0)).trans hx364_0
                    replace hx364_1 := (HB.out.cell (World.block_lt_of_cell? w _ hx364_1)).trans hx364_1
                    replace hx364_2 := (HB.out.cell (World.block_lt_of_cell? w _ hx364_2)).trans hx364_2
                    replace hx364_3 := (HB.out.cell (World.block_lt_of_cell? w _ hx364_3)).trans hx364_3
                    replace p364 := eq_true p364
                    replace q364 := eq_true q364
                    try go_wp2_with (first | ((with_reducible refine gate_callee (f := 10) rfl ?_); refine goesL_ (some 24) rfl rfl Tryd.func10 (by kernel_rfl) rfl #[.agg #[.int .i64 ((rd_T24 l0 x3_1).f0), .int .i64 ((rd_T24 l0 x3_1).f1), .string ((rd_T24 l0 x3_1).f2), .float .f64 ((rd_T24 l0 x3_1).f3)]] rfl (by (try simp only [List.map_toArray, List.map_cons, List.map_nil]); first | done | rfl | (simp only [List.length_drop, List.length_take]; rfl)) ?_; (with_reducible refine (text_Print.calls ((rd_T24 l0 x3_1).f0) ((rd_T24 l0 x3_1).f1) ((rd_T24 l0 x3_1).f2) ((rd_T24 l0 x3_1).f3) t365 _ ?side1 A9.out).mono ?_); (case side1 => exact Mb.Errs.mono HT.out (by repeat (first | (with_reducible first | exact HB.out | apply below_alloc | apply pw_below_drewN | apply below_drew1) | exact HB.out))); rintro e w16 ⟨rfl, hb⟩; refine ⟨_, rfl, ?_⟩; have n0_ := Aside0.mk (below_step (by repeat (first | (with_reducible first | exact HB.out | apply below_alloc | apply pw_below_drewN | apply below_drew1) | exact HB.out)) hb); clear HB; have HB := n0_; clear n0_; (try clear hb); (try clear hb2); (try clear hk); (try clear hi)) | ((with_reducible refine gate_callee (f := 14) rfl ?_); refine goesL_ (some 25) rfl rfl Tryd.func14 (by kernel_rfl) rfl #[.string t365] rfl (by (try simp only [List.map_toArray, List.map_cons, List.map_nil]); first | done | rfl | (simp only [List.length_drop, List.length_take]; rfl)) ?_; (with_reducible refine (text_Parse.calls t365 t366 t367 t368 t369 t370 _ ?side1 A10.out).mono ?_); (case side1 => exact Mb.Errs.mono HT.out (by repeat (first | (with_reducible first | exact HB.out | apply below_alloc | apply pw_below_drewN | apply below_drew1) | exact HB.out))); rintro e w17 ⟨rfl, hb⟩; refine ⟨_, rfl, ?_⟩; have n0_ := Aside0.mk (below_step (by repeat (first | (with_reducible first | exact HB.out | apply below_alloc | apply pw_below_drewN | apply below_drew1) | exact HB.out)) hb); clear HB; have HB := n0_; clear n0_; (try clear hb); (try clear hb2); (try clear hk); (try clear hi)) | ((with_reducible refine gate_dst (N := 4) rfl ?_); refine box_event ?hg (N := 4) ?hd (cs := #[.int .i64 0, .int .i64 0, .string (⟨#[]⟩ : ByteArray), .float .f64 0]) (t := 24) ?hr ?_; (case hd => rfl); (case hg => rfl); (case hr => first | (go_simp; done) | (go_simp; rfl)); intro gb371 hg w18 hbox hb; have n0_ := Aside0.mk (below_step (by repeat (first | (with_reducible first | exact HB.out | apply below_alloc | apply pw_below_drewN | apply below_drew1) | exact HB.out)) hb); have n1_ := Aside0.mk (hbox); have n2_ := Aside0.mk ((by rw [hg]; exact (below_size (by repeat (first | (with_reducible first | exact HB.out | apply below_alloc | apply pw_below_drewN | apply below_drew1) | exact HB.out))) : w.heap.size ≤ gb371)); have n3_ := Aside0.mk ((by rw [hg]; exact (below_size (by repeat (first | (with_reducible first | exact HB.out | apply below_alloc | apply pw_below_drewN | apply below_drew1) | exact HB.out))) : w.heap.size ≤ gb371)); clear HB; have HB := n0_; have BK371 := n1_; have GW371 := n2_; have GE371 := n3_; clear n0_ n1_ n2_ n3_; clear hb hbox hg; have hcz19_0 : w18.cell? ⟨gb371, 0, none⟩ = some (.int .i64 0) := (blk_cell BK371.out 0).trans rfl; have hcz19_1 : w18.cell? ⟨gb371, 1, none⟩ = some (.int .i64 0) := (blk_cell BK371.out 1).trans rfl; have hcz19_2 : w18.cell? ⟨gb371, 2, none⟩ = some (.string (⟨#[]⟩ : ByteArray)) := (blk_cell BK371.out 2).trans rfl; have hcz19_3 : w18.cell? ⟨gb371, 3, none⟩ = some (.float .f64 0) := (blk_cell BK371.out 3).trans rfl; have hfz19_0 := blk_frozen BK371.out 0; have hfz19_1 := blk_frozen BK371.out 1; have hfz19_2 := blk_frozen BK371.out 2; have hfz19_3 := blk_frozen BK371.out 3; have p372 : 0 ≤ (x3_1 : Int) := of_decide_eq_true (by first | (with_reducible assumption) | assumption); have q372 : x3_1 < (l0.length : Int) := of_decide_eq_true (by first | (with_reducible assumption) | assumption); obtain ⟨ad372, e372, hx372_0, hx372_1, hx372_2, hx372_3⟩ := at_T24 HR0.out x3_1 p372 q372; obtain rfl : ad364 = ad372 := (by injection e372); have hn372_0 : ad364.block ≠ gb371 := Nat.ne_of_lt (Nat.lt_of_lt_of_le (by have := World.block_lt_of_cell? _ _ hx372_0; first | rwa [add_block] at this | exact this) GW371.out); have hn372_1 : ad364.block ≠ gb371 := Nat.ne_of_lt (Nat.lt_of_lt_of_le (by have := World.block_lt_of_cell? _ _ hx372_0; first | rwa [add_block] at this | exact this) GW371.out); have hn372_2 : ad364.block ≠ gb371 := Nat.ne_of_lt (Nat.lt_of_lt_of_le (by have := World.block_lt_of_cell? _ _ hx372_0; first | rwa [add_block] at this | exact this) GW371.out); have hn372_3 : ad364.block ≠ gb371 := Nat.ne_of_lt (Nat.lt_of_lt_of_le (by have := World.block_lt_of_cell? _ _ hx372_0; first | rwa [add_block] at this | exact this) GW371.out); replace hx372_0 := (HB.out.cell (World.block_lt_of_cell? w _ hx372_0)).trans hx372_0; replace hx372_1 := (HB.out.cell (World.block_lt_of_cell? w _ hx372_1)).trans hx372_1; replace hx372_2 := (HB.out.cell (World.block_lt_of_cell? w _ hx372_2)).trans hx372_2; replace hx372_3 := (HB.out.cell (World.block_lt_of_cell? w _ hx372_3)).trans hx372_3; replace hx372_0 := (cell_far (p := ⟨gb371, 0, none⟩) (by first | (rw [add_block]; exact hn372_0) | (show (Addr.add _ _).block ≠ _; rw [add_block]; exact hn372_0) | exact hn372_0) (.int .i64 t366)).trans hx372_0; replace hx372_1 := (cell_far (p := ⟨gb371, 0, none⟩) (by first | (rw [add_block]; exact hn372_0) | (show (Addr.add _ _).block ≠ _; rw [add_block]; exact hn372_0) | exact hn372_0) (.int .i64 t366)).trans hx372_1; replace hx372_2 := (cell_far (p := ⟨gb371, 0, none⟩) (by first | (rw [add_block]; exact hn372_0) | (show (Addr.add _ _).block ≠ _; rw [add_block]; exact hn372_0) | exact hn372_0) (.int .i64 t366)).trans hx372_2; replace hx372_3 := (cell_far (p := ⟨gb371, 0, none⟩) (by first | (rw [add_block]; exact hn372_0) | (show (Addr.add _ _).block ≠ _; rw [add_block]; exact hn372_0) | exact hn372_0) (.int .i64 t366)).trans hx372_3; replace hx372_0 := (cell_far (p := ⟨gb371, 1, none⟩) (by first | (rw [add_block]; exact hn372_1) | (show (Addr.add _ _).block ≠ _; rw [add_block]; exact hn372_1) | exact hn372_1) (.int .i64 t367)).trans hx372_0; replace hx372_1 := (cell_far (p := ⟨gb371, 1, none⟩) (by first | (rw [add_block]; exact hn372_1) | (show (Addr.add _ _).block ≠ _; rw [add_block]; exact hn372_1) | exact hn372_1) (.int .i64 t367)).trans hx372_1; replace hx372_2 := (cell_far (p := ⟨gb371, 1, none⟩) (by first | (rw [add_block]; exact hn372_1) | (show (Addr.add _ _).block ≠ _; rw [add_block]; exact hn372_1) | exact hn372_1) (.int .i64 t367)).trans hx372_2; replace hx372_3 := (cell_far (p := ⟨gb371, 1, none⟩) (by first | (rw [add_block]; exact hn372_1) | (show (Addr.add _ _).block ≠ _; rw [add_block]; exact hn372_1) | exact hn372_1) (.int .i64 t367)).trans hx372_3; replace hx372_0 := (cell_far (p := ⟨gb371, 2, none⟩) (by first | (rw [add_block]; exact hn372_2) | (show (Addr.add _ _).block ≠ _; rw [add_block]; exact hn372_2) | exact hn372_2) (.string t368)).trans hx372_0; replace hx372_1 := (cell_far (p := ⟨gb371, 2, none⟩) (by first | (rw [add_block]; exact hn372_2) | (show (Addr.add _ _).block ≠ _; rw [add_block]; exact hn372_2) | exact hn372_2) (.string t368)).trans hx372_1; replace hx372_2 := (cell_far (p := ⟨gb371, 2, none⟩) (by first | (rw [add_block]; exact hn372_2) | (show (Addr.add _ _).block ≠ _; rw [add_block]; exact hn372_2) | exact hn372_2) (.string t368)).trans hx372_2; replace hx372_3 := (cell_far (p := ⟨gb371, 2, none⟩) (by first | (rw [add_block]; exact hn372_2) | (show (Addr.add _ _).block ≠ _; rw [add_block]; exact hn372_2) | exact hn372_2) (.string t368)).trans hx372_3; replace hx372_0 := (cell_far (p := ⟨gb371, 3, none⟩) (by first | (rw [add_block]; exact hn372_3) | (show (Addr.add _ _).block ≠ _; rw [add_block]; exact hn372_3) | exact hn372_3) (.float .f64 t369)).trans hx372_0; replace hx372_1 := (cell_far (p := ⟨gb371, 3, none⟩) (by first | (rw [add_block]; exact hn372_3) | (show (Addr.add _ _).block ≠ _; rw [add_block]; exact hn372_3) | exact hn372_3) (.float .f64 t369)).trans hx372_1; replace hx372_2 := (cell_far (p := ⟨gb371, 3, none⟩) (by first | (rw [add_block]; exact hn372_3) | (show (Addr.add _ _).block ≠ _; rw [add_block]; exact hn372_3) | exact hn372_3) (.float .f64 t369)).trans hx372_2; replace hx372_3 := (cell_far (p := ⟨gb371, 3, none⟩) (by first | (rw [add_block]; exact hn372_3) | (show (Addr.add _ _).block ≠ _; rw [add_block]; exact hn372_3) | exact hn372_3) (.float .f64 t369)).trans hx372_3; clear hn372_0; clear hn372_1; clear hn372_2; clear hn372_3; replace p372 := eq_true p372; replace q372 := eq_true q372) | ((with_reducible refine gate_callee (f := 20) rfl ?_); refine goesL_ (some 32) rfl rfl Tryd.func20 (by kernel_rfl) rfl #[.agg #[.int .i64 ((rd_T24 l0 x3_1).f0), .int .i64 ((rd_T24 l0 x3_1).f1), .string ((rd_T24 l0 x3_1).f2), .float .f64 ((rd_T24 l0 x3_1).f3)]] rfl (by (try simp only [List.map_toArray, List.map_cons, List.map_nil]); first | done | rfl | (simp only [List.length_drop, List.length_take]; rfl)) ?_; (with_reducible refine (rialtoref2_Is.calls k1 ((rd_T24 l0 x3_1).f0) ((rd_T24 l0 x3_1).f1) ((rd_T24 l0 x3_1).f2) ((rd_T24 l0 x3_1).f3) true _ A11.out).mono ?_); rintro e w20 ⟨rfl, hb⟩; refine ⟨_, rfl, ?_⟩; have n0_ := Aside0.mk (blk_below (g := gb371) (o := .cells #[.int .i64 t366, .int .i64 t367, .string t368, .float .f64 t369] 24 (0, 0)) (by (with_reducible repeat (first | refine blk_drewN ?_ _ | refine blk_drew ?_ | refine blk_alloc ?_ _)); refine blk_put (cs := #[.int .i64 t366, .int .i64 t367, .string t368, .float .f64 0]) ?_ 3 _ rfl; (with_reducible repeat (first | refine blk_drewN ?_ _ | refine blk_drew ?_ | refine blk_alloc ?_ _)); refine blk_put (cs := #[.int .i64 t366, .int .i64 t367, .string (⟨#[]⟩ : ByteArray), .float .f64 0]) ?_ 2 _ rfl; (with_reducible repeat (first | refine blk_drewN ?_ _ | refine blk_drew ?_ | refine blk_alloc ?_ _)); refine blk_put (cs := #[.int .i64 t366, .int .i64 0, .string (⟨#[]⟩ : ByteArray), .float .f64 0]) ?_ 1 _ rfl; (with_reducible repeat (first | refine blk_drewN ?_ _ | refine blk_drew ?_ | refine blk_alloc ?_ _)); refine blk_put (cs := #[.int .i64 0, .int .i64 0, .string (⟨#[]⟩ : ByteArray), .float .f64 0]) ?_ 0 _ rfl; (with_reducible repeat (first | refine blk_drewN ?_ _ | refine blk_drew ?_ | refine blk_alloc ?_ _)); exact BK371.out) hb); have n1_ := Aside0.mk (below_step (by repeat (first | (with_reducible first | exact HB.out | apply below_alloc | apply pw_below_drewN | apply below_drew1 | refine below_set ?_ GE371.out) | exact HB.out)) hb); clear BK371; clear HB; have BK371 := n0_; have HB := n1_; clear n0_ n1_; (try clear hb); (try clear hb2); (try clear hk); (try clear hi)))
                    have n0_ := Aside0.mk (blk_drew BK371.out)
                    have n1_ := Aside0.mk (below_drew1 HB.out)
                    clear BK371
                    clear HB
                    have BK371 := n0_
                    have HB := n1_
                    clear n0_ n1_
                    have p374 : 0 ≤ (x3_1 : Int) := of_decide_eq_true (by first | (with_reducible assumption) | assumption)
                    have q374 : x3_1 < (l0.length : Int) := of_decide_eq_true (by first | (with_reducible assumption) | assumption)
                    obtain ⟨ad374, e374, hx374_0, hx374_1, hx374_2, hx374_3⟩ := at_T24 HR0.out x3_1 p374 q374
                    have hw374_3 := hx374_3
                    have hw374_2 := hx374_2
                    have hw374_1 := hx374_1
                    have hw374_0 := hx374_0
                    obtain rfl : ad364 = ad374 := (by injection e374)
                    replace hx374_0 := (HB.out.cell (World.block_lt_of_cell? w _ hx374_0)).trans hx374_0
                    replace hx374_1 := (HB.out.cell (World.block_lt_of_cell? w _ hx374_1)).trans hx374_1
                    replace hx374_2 := (HB.out.cell (World.block_lt_of_cell? w _ hx374_2)).trans hx374_2
                    replace hx374_3 := (HB.out.cell (World.block_lt_of_cell? w _ hx374_3)).trans hx374_3
                    replace p374 := eq_true p374
                    replace q374 := eq_true q374
                    refine start_ (n := 11) (S := fun w' => w'.cell? ⟨gb371, 0, none⟩ = some (.int .i64 t366) ∧ w'.cell? ⟨gb371, 1, none⟩ = some (.int .i64 t367) ∧ w'.cell? ⟨gb371, 2, none⟩ = some (.string t368) ∧ w'.cell? ⟨gb371, 3, none⟩ = some (.float .f64 t369) ∧ w'.cell? (ad364.add ((x3_1).toNat * 4)) = some (.int .i64 ((rd_T24 l0 x3_1).f0)) ∧ w'.cell? ⟨(ad364.add ((x3_1).toNat * 4)).block, (ad364.add ((x3_1).toNat * 4)).off + 1, none⟩ = some (.int .i64 ((rd_T24 l0 x3_1).f1)) ∧ w'.cell? ⟨(ad364.add ((x3_1).toNat * 4)).block, (ad364.add ((x3_1).toNat * 4)).off + 2, none⟩ = some (.string ((rd_T24 l0 x3_1).f2)) ∧ w'.cell? ⟨(ad364.add ((x3_1).toNat * 4)).block, (ad364.add ((x3_1).toNat * 4)).off + 3, none⟩ = some (.float .f64 ((rd_T24 l0 x3_1).f3))) (ds := []) #[false, false, false, false, false, false, false, false, false, false, false] (by kernel_rfl) rfl rfl ⟨(blk_cell BK371.out 0).trans rfl, (blk_cell BK371.out 1).trans rfl, (blk_cell BK371.out 2).trans rfl, (blk_cell BK371.out 3).trans rfl, ((HB.out.cell (World.block_lt_of_cell? w _ hw374_0)).trans hw374_0), ((HB.out.cell (World.block_lt_of_cell? w _ hw374_1)).trans hw374_1), ((HB.out.cell (World.block_lt_of_cell? w _ hw374_2)).trans hw374_2), ((HB.out.cell (World.block_lt_of_cell? w _ hw374_3)).trans hw374_3)⟩ (fun hHeld => ?_); refine with_tabW rialtolaw4_TextBack.tab11 rialtolaw4_TextBack.bits11 (fun HT_ HW_ => ?_)
                    generalize w20.drew = w21 at BK371 HB hx374_0 hx374_1 hx374_2 hx374_3 hHeld ⊢
                    refine pure_ (i := 0) (N := some 44) (v := ?_) (a' := ?_) #[true, false, false, false, false, false, false, false, false, false, false] rfl rfl (any_of HT_.out (by kernel_rfl)) (fun _ _ _ h => h) (Or.inl ⟨by rfl, ?_⟩) ?_ ?_
                    rotate_left
                    · intro w'
                      go_simp
                      with_reducible rfl
                    rotate_left
                    · simp only [Act.put, List.setIfInBounds_toArray, List.set_cons_zero, List.set_cons_succ, i64_w, i32_w]
                      rfl
                    refine pure_ (i := 1) (N := some 45) (v := ?_) (a' := ?_) #[true, true, false, false, false, false, false, false, false, false, false] rfl rfl (any_of HT_.out (by kernel_rfl)) (fun _ _ _ h => h) (Or.inl ⟨by rfl, ?_⟩) ?_ ?_
                    rotate_left
                    · intro w'
                      go_simp
                      with_reducible rfl
                    rotate_left
                    · simp only [Act.put, List.setIfInBounds_toArray, List.set_cons_zero, List.set_cons_succ, i64_w, i32_w]
                      rfl
                    refine pure_ (i := 2) (N := some 46) (v := ?_) (a' := ?_) #[true, true, true, false, false, false, false, false, false, false, false] rfl rfl (any_of HT_.out (by kernel_rfl)) (fun _ _ _ h => h) (Or.inl ⟨by rfl, ?_⟩) ?_ ?_
                    rotate_left
                    · intro w'
                      go_simp
                      with_reducible rfl
                    rotate_left
                    · simp only [Act.put, List.setIfInBounds_toArray, List.set_cons_zero, List.set_cons_succ, i64_w, i32_w]
                      rfl
                    refine pure_ (i := 4) (N := some 48) (v := ?_) (a' := ?_) #[true, true, true, false, true, false, false, false, false, false, false] rfl rfl (any_of HT_.out (by kernel_rfl)) (fun _ _ _ h => h) (Or.inl ⟨by rfl, ?_⟩) ?_ ?_
                    rotate_left
                    · intro w'
                      go_simp
                      with_reducible rfl
                    rotate_left
                    · simp only [Act.put, List.setIfInBounds_toArray, List.set_cons_zero, List.set_cons_succ, i64_w, i32_w]
                      rfl
                    refine pure_ (i := 5) (N := some 49) (v := ?_) (a' := ?_) #[true, true, true, false, true, true, false, false, false, false, false] rfl rfl (any_of HT_.out (by kernel_rfl)) (fun _ _ _ h => h) (Or.inl ⟨by rfl, ?_⟩) ?_ ?_
                    rotate_left
                    · intro w'
                      go_simp
                      with_reducible rfl
                    rotate_left
                    · simp only [Act.put, List.setIfInBounds_toArray, List.set_cons_zero, List.set_cons_succ, i64_w, i32_w]
                      rfl
                    refine pure_ (i := 6) (N := some 50) (v := ?_) (a' := ?_) #[true, true, true, false, true, true, true, false, false, false, false] rfl rfl (any_of HT_.out (by kernel_rfl)) (fun _ _ _ h => h) (Or.inl ⟨by rfl, ?_⟩) ?_ ?_
                    rotate_left
                    · intro w'
                      go_simp
                      with_reducible rfl
                    rotate_left
                    · simp only [Act.put, List.setIfInBounds_toArray, List.set_cons_zero, List.set_cons_succ, i64_w, i32_w]
                      rfl
                    refine take_ (i := 3) (N := some 47) (v := ?_) (a' := ?_) #[true, true, true, true, true, true, true, false, false, false, false] rfl rfl (take_ofW HT_.out HW_.out (by kernel_rfl)) (fun _ _ _ h => h) (Or.inl ⟨by rfl, ?_⟩) hHeld ?_ ?_
                    rotate_left
                    · rintro w' ⟨s0, s1, s2, s3, s4, s5, s6, s7⟩
                      go_simp
                      with_reducible rfl
                    rotate_left
                    · simp only [Act.put, List.setIfInBounds_toArray, List.set_cons_zero, List.set_cons_succ, i64_w, i32_w]
                      rfl
                    refine take_ (i := 7) (N := some 51) (v := ?_) (a' := ?_) #[true, true, true, true, true, true, true, true, false, false, false] rfl rfl (take_ofW HT_.out HW_.out (by kernel_rfl)) (fun _ _ _ h => h) (Or.inl ⟨by rfl, ?_⟩) hHeld ?_ ?_
                    rotate_left
                    · rintro w' ⟨s0, s1, s2, s3, s4, s5, s6, s7⟩
                      go_simp
                      with_reducible rfl
                    rotate_left
                    · simp only [Act.put, List.setIfInBounds_toArray, List.set_cons_zero, List.set_cons_succ, i64_w, i32_w]
                      rfl
                    refine one_ (i := 8) (N := some 52) #[true, true, true, true, true, true, true, true, true, false, false] rfl rfl (one_of HT_.out (by kernel_rfl)) (by decide) (fun K hK => ?_)
                    refine goes_ Tryd.func18 (by kernel_rfl) rfl #[.agg #[.int .i64 t366, .int .i64 t367, .string t368, .float .f64 t369], .agg #[.int .i64 ((rd_T24 l0 x3_1).f0), .int .i64 ((rd_T24 l0 x3_1).f1), .string ((rd_T24 l0 x3_1).f2), .float .f64 ((rd_T24 l0 x3_1).f3)]] (by rfl) rfl rfl (by (try simp only [List.map_toArray, List.map_cons, List.map_nil]); first | done | rfl | (simp only [List.length_drop, List.length_take]; rfl)) ?_
                    with_reducible refine (rialtoref2_Same.calls t366 t367 t368 t369 ((rd_T24 l0 x3_1).f0) ((rd_T24 l0 x3_1).f1) ((rd_T24 l0 x3_1).f2) ((rd_T24 l0 x3_1).f3) true _ A14.out).mono ?_
                    rintro e w22 ⟨rfl, hb⟩
                    refine ⟨_, rfl, ?_⟩
                    have n0_ := Aside0.mk (blk_below (g := gb371) (o := .cells #[.int .i64 t366, .int .i64 t367, .string t368, .float .f64 t369] 24 (0, 0)) (by (with_reducible repeat (first | refine blk_drewN ?_ _ | refine blk_drew ?_ | refine blk_alloc ?_ _)); exact BK371.out) hb)
                    have n1_ := Aside0.mk (below_step (by repeat (first | (with_reducible first | exact HB.out | apply below_alloc | apply pw_below_drewN | apply below_drew1 | refine below_set ?_ GE371.out) | exact HB.out)) hb)
                    clear BK371
                    clear HB
                    have BK371 := n0_
                    have HB := n1_
                    clear n0_ n1_
                    (try clear hb)
                    (try clear hb2)
                    (try clear hk)
                    (try clear hi)
                    refine hK.out _ _ ⟨(blk_cell BK371.out 0).trans rfl, (blk_cell BK371.out 1).trans rfl, (blk_cell BK371.out 2).trans rfl, (blk_cell BK371.out 3).trans rfl, ((HB.out.cell (World.block_lt_of_cell? w _ hw374_0)).trans hw374_0), ((HB.out.cell (World.block_lt_of_cell? w _ hw374_1)).trans hw374_1), ((HB.out.cell (World.block_lt_of_cell? w _ hw374_2)).trans hw374_2), ((HB.out.cell (World.block_lt_of_cell? w _ hw374_3)).trans hw374_3)⟩ (fun hHeld => ?_)
                    clear hK K
                    refine norm_ (a' := ?_) ?_ ?_
                    rotate_left
                    · show Act.put _ (some 52) _ = _
                      simp only [Act.put, List.setIfInBounds_toArray, List.set_cons_zero, List.set_cons_succ, i64_w, i32_w]
                      rfl
                    refine pure_ (i := 9) (N := some 53) (v := ?_) (a' := ?_) #[true, true, true, true, true, true, true, true, true, true, false] rfl rfl (any_of HT_.out (by kernel_rfl)) (fun _ _ _ h => h) (Or.inl ⟨by rfl, ?_⟩) ?_ ?_
                    rotate_left
                    · intro w'
                      go_simp
                      with_reducible rfl
                    rotate_left
                    · simp only [Act.put, List.setIfInBounds_toArray, List.set_cons_zero, List.set_cons_succ, i64_w, i32_w]
                      rfl
                    refine pure_ (i := 10) (N := some 54) (v := ?_) (a' := ?_) #[true, true, true, true, true, true, true, true, true, true, true] rfl rfl (any_of HT_.out (by kernel_rfl)) (fun _ _ _ h => h) (Or.inl ⟨by rfl, ?_⟩) ?_ ?_
                    rotate_left
                    · intro w'
                      go_simp
                      with_reducible rfl
                    rotate_left
                    · simp only [Act.put, List.setIfInBounds_toArray, List.set_cons_zero, List.set_cons_succ, i64_w, i32_w]
                      rfl
                    refine done_ (done_of HT_.out (by kernel_rfl)) ?_
                    try go_wp2
                    go_roundg k1
                    case measure => have := HK1.out; omega
                    case rel => exact ⟨(wrap64 (x3_1 + 1)), (by first | rfl | (simp; done) | (simp [*]; done)), H', ⟨by have := HK1.out; omega⟩, ⟨by repeat (first | (with_reducible first | exact HB.out | apply below_alloc | apply pw_below_drewN | apply below_drew1 | refine below_set ?_ GE371.out) | exact HB.out)⟩⟩
                  · replace c15 := Bool.eq_false_iff.mpr c15
                    subst c15
                    have H1 : (some false) = some r := by rw [if_neg (show ¬ (false = true) by decide)] at H; exact H
                    clear H
                    have H := H1
                    clear H1
                    obtain rfl := Option.some.inj H
                    have p364 : 0 ≤ (x3_1 : Int) := of_decide_eq_true (by first | (with_reducible assumption) | assumption)
                    have q364 : x3_1 < (l0.length : Int) := of_decide_eq_true (by first | (with_reducible assumption) | assumption)
                    obtain ⟨ad364, e364, hx364_0, hx364_1, hx364_2, hx364_3⟩ := at_T24 HR0.out x3_1 p364 q364
                    cases e364
                    replace hx364_0 := (HB.out.cell (World.block_lt_of_cell? w _ hx364_0)).trans hx364_0
                    replace hx364_1 := (HB.out.cell (World.block_lt_of_cell? w _ hx364_1)).trans hx364_1
                    replace hx364_2 := (HB.out.cell (World.block_lt_of_cell? w _ hx364_2)).trans hx364_2
                    replace hx364_3 := (HB.out.cell (World.block_lt_of_cell? w _ hx364_3)).trans hx364_3
                    replace p364 := eq_true p364
                    replace q364 := eq_true q364
                    try go_wp2_with (first | ((with_reducible refine gate_callee (f := 10) rfl ?_); refine goesL_ (some 24) rfl rfl Tryd.func10 (by kernel_rfl) rfl #[.agg #[.int .i64 ((rd_T24 l0 x3_1).f0), .int .i64 ((rd_T24 l0 x3_1).f1), .string ((rd_T24 l0 x3_1).f2), .float .f64 ((rd_T24 l0 x3_1).f3)]] rfl (by (try simp only [List.map_toArray, List.map_cons, List.map_nil]); first | done | rfl | (simp only [List.length_drop, List.length_take]; rfl)) ?_; (with_reducible refine (text_Print.calls ((rd_T24 l0 x3_1).f0) ((rd_T24 l0 x3_1).f1) ((rd_T24 l0 x3_1).f2) ((rd_T24 l0 x3_1).f3) t365 _ ?side1 A9.out).mono ?_); (case side1 => exact Mb.Errs.mono HT.out (by repeat (first | (with_reducible first | exact HB.out | apply below_alloc | apply pw_below_drewN | apply below_drew1) | exact HB.out))); rintro e w23 ⟨rfl, hb⟩; refine ⟨_, rfl, ?_⟩; have n0_ := Aside0.mk (below_step (by repeat (first | (with_reducible first | exact HB.out | apply below_alloc | apply pw_below_drewN | apply below_drew1) | exact HB.out)) hb); clear HB; have HB := n0_; clear n0_; (try clear hb); (try clear hb2); (try clear hk); (try clear hi)) | ((with_reducible refine gate_callee (f := 14) rfl ?_); refine goesL_ (some 25) rfl rfl Tryd.func14 (by kernel_rfl) rfl #[.string t365] rfl (by (try simp only [List.map_toArray, List.map_cons, List.map_nil]); first | done | rfl | (simp only [List.length_drop, List.length_take]; rfl)) ?_; (with_reducible refine (text_Parse.calls t365 t366 t367 t368 t369 t370 _ ?side1 A10.out).mono ?_); (case side1 => exact Mb.Errs.mono HT.out (by repeat (first | (with_reducible first | exact HB.out | apply below_alloc | apply pw_below_drewN | apply below_drew1) | exact HB.out))); rintro e w24 ⟨rfl, hb⟩; refine ⟨_, rfl, ?_⟩; have n0_ := Aside0.mk (below_step (by repeat (first | (with_reducible first | exact HB.out | apply below_alloc | apply pw_below_drewN | apply below_drew1) | exact HB.out)) hb); clear HB; have HB := n0_; clear n0_; (try clear hb); (try clear hb2); (try clear hk); (try clear hi)) | ((with_reducible refine gate_dst (N := 4) rfl ?_); refine box_event ?hg (N := 4) ?hd (cs := #[.int .i64 0, .int .i64 0, .string (⟨#[]⟩ : ByteArray), .float .f64 0]) (t := 24) ?hr ?_; (case hd => rfl); (case hg => rfl); (case hr => first | (go_simp; done) | (go_simp; rfl)); intro gb371 hg w25 hbox hb; have n0_ := Aside0.mk (below_step (by repeat (first | (with_reducible first | exact HB.out | apply below_alloc | apply pw_below_drewN | apply below_drew1) | exact HB.out)) hb); have n1_ := Aside0.mk (hbox); have n2_ := Aside0.mk ((by rw [hg]; exact (below_size (by repeat (first | (with_reducible first | exact HB.out | apply below_alloc | apply pw_below_drewN | apply below_drew1) | exact HB.out))) : w.heap.size ≤ gb371)); have n3_ := Aside0.mk ((by rw [hg]; exact (below_size (by repeat (first | (with_reducible first | exact HB.out | apply below_alloc | apply pw_below_drewN | apply below_drew1) | exact HB.out))) : w.heap.size ≤ gb371)); clear HB; have HB := n0_; have BK371 := n1_; have GW371 := n2_; have GE371 := n3_; clear n0_ n1_ n2_ n3_; clear hb hbox hg; have hcz26_0 : w25.cell? ⟨gb371, 0, none⟩ = some (.int .i64 0) := (blk_cell BK371.out 0).trans rfl; have hcz26_1 : w25.cell? ⟨gb371, 1, none⟩ = some (.int .i64 0) := (blk_cell BK371.out 1).trans rfl; have hcz26_2 : w25.cell? ⟨gb371, 2, none⟩ = some (.string (⟨#[]⟩ : ByteArray)) := (blk_cell BK371.out 2).trans rfl; have hcz26_3 : w25.cell? ⟨gb371, 3, none⟩ = some (.float .f64 0) := (blk_cell BK371.out 3).trans rfl; have hfz26_0 := blk_frozen BK371.out 0; have hfz26_1 := blk_frozen BK371.out 1; have hfz26_2 := blk_frozen BK371.out 2; have hfz26_3 := blk_frozen BK371.out 3; have p372 : 0 ≤ (x3_1 : Int) := of_decide_eq_true (by first | (with_reducible assumption) | assumption); have q372 : x3_1 < (l0.length : Int) := of_decide_eq_true (by first | (with_reducible assumption) | assumption); obtain ⟨ad372, e372, hx372_0, hx372_1, hx372_2, hx372_3⟩ := at_T24 HR0.out x3_1 p372 q372; obtain rfl : ad364 = ad372 := (by injection e372); have hn372_0 : ad364.block ≠ gb371 := Nat.ne_of_lt (Nat.lt_of_lt_of_le (by have := World.block_lt_of_cell? _ _ hx372_0; first | rwa [add_block] at this | exact this) GW371.out); have hn372_1 : ad364.block ≠ gb371 := Nat.ne_of_lt (Nat.lt_of_lt_of_le (by have := World.block_lt_of_cell? _ _ hx372_0; first | rwa [add_block] at this | exact this) GW371.out); have hn372_2 : ad364.block ≠ gb371 := Nat.ne_of_lt (Nat.lt_of_lt_of_le (by have := World.block_lt_of_cell? _ _ hx372_0; first | rwa [add_block] at this | exact this) GW371.out); have hn372_3 : ad364.block ≠ gb371 := Nat.ne_of_lt (Nat.lt_of_lt_of_le (by have := World.block_lt_of_cell? _ _ hx372_0; first | rwa [add_block] at this | exact this) GW371.out); replace hx372_0 := (HB.out.cell (World.block_lt_of_cell? w _ hx372_0)).trans hx372_0; replace hx372_1 := (HB.out.cell (World.block_lt_of_cell? w _ hx372_1)).trans hx372_1; replace hx372_2 := (HB.out.cell (World.block_lt_of_cell? w _ hx372_2)).trans hx372_2; replace hx372_3 := (HB.out.cell (World.block_lt_of_cell? w _ hx372_3)).trans hx372_3; replace hx372_0 := (cell_far (p := ⟨gb371, 0, none⟩) (by first | (rw [add_block]; exact hn372_0) | (show (Addr.add _ _).block ≠ _; rw [add_block]; exact hn372_0) | exact hn372_0) (.int .i64 t366)).trans hx372_0; replace hx372_1 := (cell_far (p := ⟨gb371, 0, none⟩) (by first | (rw [add_block]; exact hn372_0) | (show (Addr.add _ _).block ≠ _; rw [add_block]; exact hn372_0) | exact hn372_0) (.int .i64 t366)).trans hx372_1; replace hx372_2 := (cell_far (p := ⟨gb371, 0, none⟩) (by first | (rw [add_block]; exact hn372_0) | (show (Addr.add _ _).block ≠ _; rw [add_block]; exact hn372_0) | exact hn372_0) (.int .i64 t366)).trans hx372_2; replace hx372_3 := (cell_far (p := ⟨gb371, 0, none⟩) (by first | (rw [add_block]; exact hn372_0) | (show (Addr.add _ _).block ≠ _; rw [add_block]; exact hn372_0) | exact hn372_0) (.int .i64 t366)).trans hx372_3; replace hx372_0 := (cell_far (p := ⟨gb371, 1, none⟩) (by first | (rw [add_block]; exact hn372_1) | (show (Addr.add _ _).block ≠ _; rw [add_block]; exact hn372_1) | exact hn372_1) (.int .i64 t367)).trans hx372_0; replace hx372_1 := (cell_far (p := ⟨gb371, 1, none⟩) (by first | (rw [add_block]; exact hn372_1) | (show (Addr.add _ _).block ≠ _; rw [add_block]; exact hn372_1) | exact hn372_1) (.int .i64 t367)).trans hx372_1; replace hx372_2 := (cell_far (p := ⟨gb371, 1, none⟩) (by first | (rw [add_block]; exact hn372_1) | (show (Addr.add _ _).block ≠ _; rw [add_block]; exact hn372_1) | exact hn372_1) (.int .i64 t367)).trans hx372_2; replace hx372_3 := (cell_far (p := ⟨gb371, 1, none⟩) (by first | (rw [add_block]; exact hn372_1) | (show (Addr.add _ _).block ≠ _; rw [add_block]; exact hn372_1) | exact hn372_1) (.int .i64 t367)).trans hx372_3; replace hx372_0 := (cell_far (p := ⟨gb371, 2, none⟩) (by first | (rw [add_block]; exact hn372_2) | (show (Addr.add _ _).block ≠ _; rw [add_block]; exact hn372_2) | exact hn372_2) (.string t368)).trans hx372_0; replace hx372_1 := (cell_far (p := ⟨gb371, 2, none⟩) (by first | (rw [add_block]; exact hn372_2) | (show (Addr.add _ _).block ≠ _; rw [add_block]; exact hn372_2) | exact hn372_2) (.string t368)).trans hx372_1; replace hx372_2 := (cell_far (p := ⟨gb371, 2, none⟩) (by first | (rw [add_block]; exact hn372_2) | (show (Addr.add _ _).block ≠ _; rw [add_block]; exact hn372_2) | exact hn372_2) (.string t368)).trans hx372_2; replace hx372_3 := (cell_far (p := ⟨gb371, 2, none⟩) (by first | (rw [add_block]; exact hn372_2) | (show (Addr.add _ _).block ≠ _; rw [add_block]; exact hn372_2) | exact hn372_2) (.string t368)).trans hx372_3; replace hx372_0 := (cell_far (p := ⟨gb371, 3, none⟩) (by first | (rw [add_block]; exact hn372_3) | (show (Addr.add _ _).block ≠ _; rw [add_block]; exact hn372_3) | exact hn372_3) (.float .f64 t369)).trans hx372_0; replace hx372_1 := (cell_far (p := ⟨gb371, 3, none⟩) (by first | (rw [add_block]; exact hn372_3) | (show (Addr.add _ _).block ≠ _; rw [add_block]; exact hn372_3) | exact hn372_3) (.float .f64 t369)).trans hx372_1; replace hx372_2 := (cell_far (p := ⟨gb371, 3, none⟩) (by first | (rw [add_block]; exact hn372_3) | (show (Addr.add _ _).block ≠ _; rw [add_block]; exact hn372_3) | exact hn372_3) (.float .f64 t369)).trans hx372_2; replace hx372_3 := (cell_far (p := ⟨gb371, 3, none⟩) (by first | (rw [add_block]; exact hn372_3) | (show (Addr.add _ _).block ≠ _; rw [add_block]; exact hn372_3) | exact hn372_3) (.float .f64 t369)).trans hx372_3; clear hn372_0; clear hn372_1; clear hn372_2; clear hn372_3; replace p372 := eq_true p372; replace q372 := eq_true q372) | ((with_reducible refine gate_callee (f := 20) rfl ?_); refine goesL_ (some 32) rfl rfl Tryd.func20 (by kernel_rfl) rfl #[.agg #[.int .i64 ((rd_T24 l0 x3_1).f0), .int .i64 ((rd_T24 l0 x3_1).f1), .string ((rd_T24 l0 x3_1).f2), .float .f64 ((rd_T24 l0 x3_1).f3)]] rfl (by (try simp only [List.map_toArray, List.map_cons, List.map_nil]); first | done | rfl | (simp only [List.length_drop, List.length_take]; rfl)) ?_; (with_reducible refine (rialtoref2_Is.calls k1 ((rd_T24 l0 x3_1).f0) ((rd_T24 l0 x3_1).f1) ((rd_T24 l0 x3_1).f2) ((rd_T24 l0 x3_1).f3) true _ A11.out).mono ?_); rintro e w27 ⟨rfl, hb⟩; refine ⟨_, rfl, ?_⟩; have n0_ := Aside0.mk (blk_below (g := gb371) (o := .cells #[.int .i64 t366, .int .i64 t367, .string t368, .float .f64 t369] 24 (0, 0)) (by (with_reducible repeat (first | refine blk_drewN ?_ _ | refine blk_drew ?_ | refine blk_alloc ?_ _)); refine blk_put (cs := #[.int .i64 t366, .int .i64 t367, .string t368, .float .f64 0]) ?_ 3 _ rfl; (with_reducible repeat (first | refine blk_drewN ?_ _ | refine blk_drew ?_ | refine blk_alloc ?_ _)); refine blk_put (cs := #[.int .i64 t366, .int .i64 t367, .string (⟨#[]⟩ : ByteArray), .float .f64 0]) ?_ 2 _ rfl; (with_reducible repeat (first | refine blk_drewN ?_ _ | refine blk_drew ?_ | refine blk_alloc ?_ _)); refine blk_put (cs := #[.int .i64 t366, .int .i64 0, .string (⟨#[]⟩ : ByteArray), .float .f64 0]) ?_ 1 _ rfl; (with_reducible repeat (first | refine blk_drewN ?_ _ | refine blk_drew ?_ | refine blk_alloc ?_ _)); refine blk_put (cs := #[.int .i64 0, .int .i64 0, .string (⟨#[]⟩ : ByteArray), .float .f64 0]) ?_ 0 _ rfl; (with_reducible repeat (first | refine blk_drewN ?_ _ | refine blk_drew ?_ | refine blk_alloc ?_ _)); exact BK371.out) hb); have n1_ := Aside0.mk (below_step (by repeat (first | (with_reducible first | exact HB.out | apply below_alloc | apply pw_below_drewN | apply below_drew1 | refine below_set ?_ GE371.out) | exact HB.out)) hb); clear BK371; clear HB; have BK371 := n0_; have HB := n1_; clear n0_ n1_; (try clear hb); (try clear hb2); (try clear hk); (try clear hi)))
                    have n0_ := Aside0.mk (blk_drew BK371.out)
                    have n1_ := Aside0.mk (below_drew1 HB.out)
                    clear BK371
                    clear HB
                    have BK371 := n0_
                    have HB := n1_
                    clear n0_ n1_
                    have p374 : 0 ≤ (x3_1 : Int) := of_decide_eq_true (by first | (with_reducible assumption) | assumption)
                    have q374 : x3_1 < (l0.length : Int) := of_decide_eq_true (by first | (with_reducible assumption) | assumption)
                    obtain ⟨ad374, e374, hx374_0, hx374_1, hx374_2, hx374_3⟩ := at_T24 HR0.out x3_1 p374 q374
                    have hw374_3 := hx374_3
                    have hw374_2 := hx374_2
                    have hw374_1 := hx374_1
                    have hw374_0 := hx374_0
                    obtain rfl : ad364 = ad374 := (by injection e374)
                    replace hx374_0 := (HB.out.cell (World.block_lt_of_cell? w _ hx374_0)).trans hx374_0
                    replace hx374_1 := (HB.out.cell (World.block_lt_of_cell? w _ hx374_1)).trans hx374_1
                    replace hx374_2 := (HB.out.cell (World.block_lt_of_cell? w _ hx374_2)).trans hx374_2
                    replace hx374_3 := (HB.out.cell (World.block_lt_of_cell? w _ hx374_3)).trans hx374_3
                    replace p374 := eq_true p374
                    replace q374 := eq_true q374
                    refine start_ (n := 11) (S := fun w' => w'.cell? ⟨gb371, 0, none⟩ = some (.int .i64 t366) ∧ w'.cell? ⟨gb371, 1, none⟩ = some (.int .i64 t367) ∧ w'.cell? ⟨gb371, 2, none⟩ = some (.string t368) ∧ w'.cell? ⟨gb371, 3, none⟩ = some (.float .f64 t369) ∧ w'.cell? (ad364.add ((x3_1).toNat * 4)) = some (.int .i64 ((rd_T24 l0 x3_1).f0)) ∧ w'.cell? ⟨(ad364.add ((x3_1).toNat * 4)).block, (ad364.add ((x3_1).toNat * 4)).off + 1, none⟩ = some (.int .i64 ((rd_T24 l0 x3_1).f1)) ∧ w'.cell? ⟨(ad364.add ((x3_1).toNat * 4)).block, (ad364.add ((x3_1).toNat * 4)).off + 2, none⟩ = some (.string ((rd_T24 l0 x3_1).f2)) ∧ w'.cell? ⟨(ad364.add ((x3_1).toNat * 4)).block, (ad364.add ((x3_1).toNat * 4)).off + 3, none⟩ = some (.float .f64 ((rd_T24 l0 x3_1).f3))) (ds := []) #[false, false, false, false, false, false, false, false, false, false, false] (by kernel_rfl) rfl rfl ⟨(blk_cell BK371.out 0).trans rfl, (blk_cell BK371.out 1).trans rfl, (blk_cell BK371.out 2).trans rfl, (blk_cell BK371.out 3).trans rfl, ((HB.out.cell (World.block_lt_of_cell? w _ hw374_0)).trans hw374_0), ((HB.out.cell (World.block_lt_of_cell? w _ hw374_1)).trans hw374_1), ((HB.out.cell (World.block_lt_of_cell? w _ hw374_2)).trans hw374_2), ((HB.out.cell (World.block_lt_of_cell? w _ hw374_3)).trans hw374_3)⟩ (fun hHeld => ?_); refine with_tabW rialtolaw4_TextBack.tab11 rialtolaw4_TextBack.bits11 (fun HT_ HW_ => ?_)
                    generalize w27.drew = w28 at BK371 HB hx374_0 hx374_1 hx374_2 hx374_3 hHeld ⊢
                    refine pure_ (i := 0) (N := some 44) (v := ?_) (a' := ?_) #[true, false, false, false, false, false, false, false, false, false, false] rfl rfl (any_of HT_.out (by kernel_rfl)) (fun _ _ _ h => h) (Or.inl ⟨by rfl, ?_⟩) ?_ ?_
                    rotate_left
                    · intro w'
                      go_simp
                      with_reducible rfl
                    rotate_left
                    · simp only [Act.put, List.setIfInBounds_toArray, List.set_cons_zero, List.set_cons_succ, i64_w, i32_w]
                      rfl
                    refine pure_ (i := 1) (N := some 45) (v := ?_) (a' := ?_) #[true, true, false, false, false, false, false, false, false, false, false] rfl rfl (any_of HT_.out (by kernel_rfl)) (fun _ _ _ h => h) (Or.inl ⟨by rfl, ?_⟩) ?_ ?_
                    rotate_left
                    · intro w'
                      go_simp
                      with_reducible rfl
                    rotate_left
                    · simp only [Act.put, List.setIfInBounds_toArray, List.set_cons_zero, List.set_cons_succ, i64_w, i32_w]
                      rfl
                    refine pure_ (i := 2) (N := some 46) (v := ?_) (a' := ?_) #[true, true, true, false, false, false, false, false, false, false, false] rfl rfl (any_of HT_.out (by kernel_rfl)) (fun _ _ _ h => h) (Or.inl ⟨by rfl, ?_⟩) ?_ ?_
                    rotate_left
                    · intro w'
                      go_simp
                      with_reducible rfl
                    rotate_left
                    · simp only [Act.put, List.setIfInBounds_toArray, List.set_cons_zero, List.set_cons_succ, i64_w, i32_w]
                      rfl
                    refine pure_ (i := 4) (N := some 48) (v := ?_) (a' := ?_) #[true, true, true, false, true, false, false, false, false, false, false] rfl rfl (any_of HT_.out (by kernel_rfl)) (fun _ _ _ h => h) (Or.inl ⟨by rfl, ?_⟩) ?_ ?_
                    rotate_left
                    · intro w'
                      go_simp
                      with_reducible rfl
                    rotate_left
                    · simp only [Act.put, List.setIfInBounds_toArray, List.set_cons_zero, List.set_cons_succ, i64_w, i32_w]
                      rfl
                    refine pure_ (i := 5) (N := some 49) (v := ?_) (a' := ?_) #[true, true, true, false, true, true, false, false, false, false, false] rfl rfl (any_of HT_.out (by kernel_rfl)) (fun _ _ _ h => h) (Or.inl ⟨by rfl, ?_⟩) ?_ ?_
                    rotate_left
                    · intro w'
                      go_simp
                      with_reducible rfl
                    rotate_left
                    · simp only [Act.put, List.setIfInBounds_toArray, List.set_cons_zero, List.set_cons_succ, i64_w, i32_w]
                      rfl
                    refine pure_ (i := 6) (N := some 50) (v := ?_) (a' := ?_) #[true, true, true, false, true, true, true, false, false, false, false] rfl rfl (any_of HT_.out (by kernel_rfl)) (fun _ _ _ h => h) (Or.inl ⟨by rfl, ?_⟩) ?_ ?_
                    rotate_left
                    · intro w'
                      go_simp
                      with_reducible rfl
                    rotate_left
                    · simp only [Act.put, List.setIfInBounds_toArray, List.set_cons_zero, List.set_cons_succ, i64_w, i32_w]
                      rfl
                    refine take_ (i := 3) (N := some 47) (v := ?_) (a' := ?_) #[true, true, true, true, true, true, true, false, false, false, false] rfl rfl (take_ofW HT_.out HW_.out (by kernel_rfl)) (fun _ _ _ h => h) (Or.inl ⟨by rfl, ?_⟩) hHeld ?_ ?_
                    rotate_left
                    · rintro w' ⟨s0, s1, s2, s3, s4, s5, s6, s7⟩
                      go_simp
                      with_reducible rfl
                    rotate_left
                    · simp only [Act.put, List.setIfInBounds_toArray, List.set_cons_zero, List.set_cons_succ, i64_w, i32_w]
                      rfl
                    refine take_ (i := 7) (N := some 51) (v := ?_) (a' := ?_) #[true, true, true, true, true, true, true, true, false, false, false] rfl rfl (take_ofW HT_.out HW_.out (by kernel_rfl)) (fun _ _ _ h => h) (Or.inl ⟨by rfl, ?_⟩) hHeld ?_ ?_
                    rotate_left
                    · rintro w' ⟨s0, s1, s2, s3, s4, s5, s6, s7⟩
                      go_simp
                      with_reducible rfl
                    rotate_left
                    · simp only [Act.put, List.setIfInBounds_toArray, List.set_cons_zero, List.set_cons_succ, i64_w, i32_w]
                      rfl
                    refine one_ (i := 8) (N := some 52) #[true, true, true, true, true, true, true, true, true, false, false] rfl rfl (one_of HT_.out (by kernel_rfl)) (by decide) (fun K hK => ?_)
                    refine goes_ Tryd.func18 (by kernel_rfl) rfl #[.agg #[.int .i64 t366, .int .i64 t367, .string t368, .float .f64 t369], .agg #[.int .i64 ((rd_T24 l0 x3_1).f0), .int .i64 ((rd_T24 l0 x3_1).f1), .string ((rd_T24 l0 x3_1).f2), .float .f64 ((rd_T24 l0 x3_1).f3)]] (by rfl) rfl rfl (by (try simp only [List.map_toArray, List.map_cons, List.map_nil]); first | done | rfl | (simp only [List.length_drop, List.length_take]; rfl)) ?_
                    with_reducible refine (rialtoref2_Same.calls t366 t367 t368 t369 ((rd_T24 l0 x3_1).f0) ((rd_T24 l0 x3_1).f1) ((rd_T24 l0 x3_1).f2) ((rd_T24 l0 x3_1).f3) false _ A14.out).mono ?_
                    rintro e w29 ⟨rfl, hb⟩
                    refine ⟨_, rfl, ?_⟩
                    have n0_ := Aside0.mk (blk_below (g := gb371) (o := .cells #[.int .i64 t366, .int .i64 t367, .string t368, .float .f64 t369] 24 (0, 0)) (by (with_reducible repeat (first | refine blk_drewN ?_ _ | refine blk_drew ?_ | refine blk_alloc ?_ _)); exact BK371.out) hb)
                    have n1_ := Aside0.mk (below_step (by repeat (first | (with_reducible first | exact HB.out | apply below_alloc | apply pw_below_drewN | apply below_drew1 | refine below_set ?_ GE371.out) | exact HB.out)) hb)
                    clear BK371
                    clear HB
                    have BK371 := n0_
                    have HB := n1_
                    clear n0_ n1_
                    (try clear hb)
                    (try clear hb2)
                    (try clear hk)
                    (try clear hi)
                    refine hK.out _ _ ⟨(blk_cell BK371.out 0).trans rfl, (blk_cell BK371.out 1).trans rfl, (blk_cell BK371.out 2).trans rfl, (blk_cell BK371.out 3).trans rfl, ((HB.out.cell (World.block_lt_of_cell? w _ hw374_0)).trans hw374_0), ((HB.out.cell (World.block_lt_of_cell? w _ hw374_1)).trans hw374_1), ((HB.out.cell (World.block_lt_of_cell? w _ hw374_2)).trans hw374_2), ((HB.out.cell (World.block_lt_of_cell? w _ hw374_3)).trans hw374_3)⟩ (fun hHeld => ?_)
                    clear hK K
                    refine norm_ (a' := ?_) ?_ ?_
                    rotate_left
                    · show Act.put _ (some 52) _ = _
                      simp only [Act.put, List.setIfInBounds_toArray, List.set_cons_zero, List.set_cons_succ, i64_w, i32_w]
                      rfl
                    refine pure_ (i := 9) (N := some 53) (v := ?_) (a' := ?_) #[true, true, true, true, true, true, true, true, true, true, false] rfl rfl (any_of HT_.out (by kernel_rfl)) (fun _ _ _ h => h) (Or.inl ⟨by rfl, ?_⟩) ?_ ?_
                    rotate_left
                    · intro w'
                      go_simp
                      with_reducible rfl
                    rotate_left
                    · simp only [Act.put, List.setIfInBounds_toArray, List.set_cons_zero, List.set_cons_succ, i64_w, i32_w]
                      rfl
                    refine pure_ (i := 10) (N := some 54) (v := ?_) (a' := ?_) #[true, true, true, true, true, true, true, true, true, true, true] rfl rfl (any_of HT_.out (by kernel_rfl)) (fun _ _ _ h => h) (Or.inl ⟨by rfl, ?_⟩) ?_ ?_
                    rotate_left
                    · intro w'
                      go_simp
                      with_reducible rfl
                    rotate_left
                    · simp only [Act.put, List.setIfInBounds_toArray, List.set_cons_zero, List.set_cons_succ, i64_w, i32_w]
                      rfl
                    refine done_ (done_of HT_.out (by kernel_rfl)) ?_
                    try go_wp2
                    go_ret
                    exact ⟨by first | rfl | (simp [errW_none, errW_some] <;> rfl) | (simp [*, errW_none, errW_some] <;> rfl), by repeat (first | (with_reducible first | exact HB.out | apply below_alloc | apply pw_below_drewN | apply below_drew1 | refine below_set ?_ GE371.out) | exact HB.out)⟩
                · rw [if_neg c13] at H
                  have c13b0 : (t370 == 0) = false := beq_eq_false_iff_ne.mpr c13
                  have c13b1 : (t370 != 0) = true := bne_iff_ne.mpr c13
                  obtain rfl := Option.some.inj H
                  have p364 : 0 ≤ (x3_1 : Int) := of_decide_eq_true (by first | (with_reducible assumption) | assumption)
                  have q364 : x3_1 < (l0.length : Int) := of_decide_eq_true (by first | (with_reducible assumption) | assumption)
                  obtain ⟨ad364, e364, hx364_0, hx364_1, hx364_2, hx364_3⟩ := at_T24 HR0.out x3_1 p364 q364
                  cases e364
                  replace hx364_0 := (HB.out.cell (World.block_lt_of_cell? w _ hx364_0)).trans hx364_0
                  replace hx364_1 := (HB.out.cell (World.block_lt_of_cell? w _ hx364_1)).trans hx364_1
                  replace hx364_2 := (HB.out.cell (World.block_lt_of_cell? w _ hx364_2)).trans hx364_2
                  replace hx364_3 := (HB.out.cell (World.block_lt_of_cell? w _ hx364_3)).trans hx364_3
                  replace p364 := eq_true p364
                  replace q364 := eq_true q364
                  try go_wp2_with (first | ((with_reducible refine gate_callee (f := 10) rfl ?_); refine goesL_ (some 24) rfl rfl Tryd.func10 (by kernel_rfl) rfl #[.agg #[.int .i64 ((rd_T24 l0 x3_1).f0), .int .i64 ((rd_T24 l0 x3_1).f1), .string ((rd_T24 l0 x3_1).f2), .float .f64 ((rd_T24 l0 x3_1).f3)]] rfl (by (try simp only [List.map_toArray, List.map_cons, List.map_nil]); first | done | rfl | (simp only [List.length_drop, List.length_take]; rfl)) ?_; (with_reducible refine (text_Print.calls ((rd_T24 l0 x3_1).f0) ((rd_T24 l0 x3_1).f1) ((rd_T24 l0 x3_1).f2) ((rd_T24 l0 x3_1).f3) t365 _ ?side1 A9.out).mono ?_); (case side1 => exact Mb.Errs.mono HT.out (by repeat (first | (with_reducible first | exact HB.out | apply below_alloc | apply pw_below_drewN | apply below_drew1) | exact HB.out))); rintro e w30 ⟨rfl, hb⟩; refine ⟨_, rfl, ?_⟩; have n0_ := Aside0.mk (below_step (by repeat (first | (with_reducible first | exact HB.out | apply below_alloc | apply pw_below_drewN | apply below_drew1) | exact HB.out)) hb); clear HB; have HB := n0_; clear n0_; (try clear hb); (try clear hb2); (try clear hk); (try clear hi)) | ((with_reducible refine gate_callee (f := 14) rfl ?_); refine goesL_ (some 25) rfl rfl Tryd.func14 (by kernel_rfl) rfl #[.string t365] rfl (by (try simp only [List.map_toArray, List.map_cons, List.map_nil]); first | done | rfl | (simp only [List.length_drop, List.length_take]; rfl)) ?_; (with_reducible refine (text_Parse.calls t365 t366 t367 t368 t369 t370 _ ?side1 A10.out).mono ?_); (case side1 => exact Mb.Errs.mono HT.out (by repeat (first | (with_reducible first | exact HB.out | apply below_alloc | apply pw_below_drewN | apply below_drew1) | exact HB.out))); rintro e w31 ⟨rfl, hb⟩; refine ⟨_, rfl, ?_⟩; have n0_ := Aside0.mk (below_step (by repeat (first | (with_reducible first | exact HB.out | apply below_alloc | apply pw_below_drewN | apply below_drew1) | exact HB.out)) hb); clear HB; have HB := n0_; clear n0_; (try clear hb); (try clear hb2); (try clear hk); (try clear hi)) | ((with_reducible refine gate_dst (N := 4) rfl ?_); refine box_event ?hg (N := 4) ?hd (cs := #[.int .i64 0, .int .i64 0, .string (⟨#[]⟩ : ByteArray), .float .f64 0]) (t := 24) ?hr ?_; (case hd => rfl); (case hg => rfl); (case hr => first | (go_simp; done) | (go_simp; rfl)); intro gb371 hg w32 hbox hb; have n0_ := Aside0.mk (below_step (by repeat (first | (with_reducible first | exact HB.out | apply below_alloc | apply pw_below_drewN | apply below_drew1) | exact HB.out)) hb); have n1_ := Aside0.mk (hbox); have n2_ := Aside0.mk ((by rw [hg]; exact (below_size (by repeat (first | (with_reducible first | exact HB.out | apply below_alloc | apply pw_below_drewN | apply below_drew1) | exact HB.out))) : w.heap.size ≤ gb371)); have n3_ := Aside0.mk ((by rw [hg]; exact (below_size (by repeat (first | (with_reducible first | exact HB.out | apply below_alloc | apply pw_below_drewN | apply below_drew1) | exact HB.out))) : w.heap.size ≤ gb371)); clear HB; have HB := n0_; have BK371 := n1_; have GW371 := n2_; have GE371 := n3_; clear n0_ n1_ n2_ n3_; clear hb hbox hg; have hcz33_0 : w32.cell? ⟨gb371, 0, none⟩ = some (.int .i64 0) := (blk_cell BK371.out 0).trans rfl; have hcz33_1 : w32.cell? ⟨gb371, 1, none⟩ = some (.int .i64 0) := (blk_cell BK371.out 1).trans rfl; have hcz33_2 : w32.cell? ⟨gb371, 2, none⟩ = some (.string (⟨#[]⟩ : ByteArray)) := (blk_cell BK371.out 2).trans rfl; have hcz33_3 : w32.cell? ⟨gb371, 3, none⟩ = some (.float .f64 0) := (blk_cell BK371.out 3).trans rfl; have hfz33_0 := blk_frozen BK371.out 0; have hfz33_1 := blk_frozen BK371.out 1; have hfz33_2 := blk_frozen BK371.out 2; have hfz33_3 := blk_frozen BK371.out 3; have p372 : 0 ≤ (x3_1 : Int) := of_decide_eq_true (by first | (with_reducible assumption) | assumption); have q372 : x3_1 < (l0.length : Int) := of_decide_eq_true (by first | (with_reducible assumption) | assumption); obtain ⟨ad372, e372, hx372_0, hx372_1, hx372_2, hx372_3⟩ := at_T24 HR0.out x3_1 p372 q372; obtain rfl : ad364 = ad372 := (by injection e372); have hn372_0 : ad364.block ≠ gb371 := Nat.ne_of_lt (Nat.lt_of_lt_of_le (by have := World.block_lt_of_cell? _ _ hx372_0; first | rwa [add_block] at this | exact this) GW371.out); have hn372_1 : ad364.block ≠ gb371 := Nat.ne_of_lt (Nat.lt_of_lt_of_le (by have := World.block_lt_of_cell? _ _ hx372_0; first | rwa [add_block] at this | exact this) GW371.out); have hn372_2 : ad364.block ≠ gb371 := Nat.ne_of_lt (Nat.lt_of_lt_of_le (by have := World.block_lt_of_cell? _ _ hx372_0; first | rwa [add_block] at this | exact this) GW371.out); have hn372_3 : ad364.block ≠ gb371 := Nat.ne_of_lt (Nat.lt_of_lt_of_le (by have := World.block_lt_of_cell? _ _ hx372_0; first | rwa [add_block] at this | exact this) GW371.out); replace hx372_0 := (HB.out.cell (World.block_lt_of_cell? w _ hx372_0)).trans hx372_0; replace hx372_1 := (HB.out.cell (World.block_lt_of_cell? w _ hx372_1)).trans hx372_1; replace hx372_2 := (HB.out.cell (World.block_lt_of_cell? w _ hx372_2)).trans hx372_2; replace hx372_3 := (HB.out.cell (World.block_lt_of_cell? w _ hx372_3)).trans hx372_3; replace hx372_0 := (cell_far (p := ⟨gb371, 0, none⟩) (by first | (rw [add_block]; exact hn372_0) | (show (Addr.add _ _).block ≠ _; rw [add_block]; exact hn372_0) | exact hn372_0) (.int .i64 t366)).trans hx372_0; replace hx372_1 := (cell_far (p := ⟨gb371, 0, none⟩) (by first | (rw [add_block]; exact hn372_0) | (show (Addr.add _ _).block ≠ _; rw [add_block]; exact hn372_0) | exact hn372_0) (.int .i64 t366)).trans hx372_1; replace hx372_2 := (cell_far (p := ⟨gb371, 0, none⟩) (by first | (rw [add_block]; exact hn372_0) | (show (Addr.add _ _).block ≠ _; rw [add_block]; exact hn372_0) | exact hn372_0) (.int .i64 t366)).trans hx372_2; replace hx372_3 := (cell_far (p := ⟨gb371, 0, none⟩) (by first | (rw [add_block]; exact hn372_0) | (show (Addr.add _ _).block ≠ _; rw [add_block]; exact hn372_0) | exact hn372_0) (.int .i64 t366)).trans hx372_3; replace hx372_0 := (cell_far (p := ⟨gb371, 1, none⟩) (by first | (rw [add_block]; exact hn372_1) | (show (Addr.add _ _).block ≠ _; rw [add_block]; exact hn372_1) | exact hn372_1) (.int .i64 t367)).trans hx372_0; replace hx372_1 := (cell_far (p := ⟨gb371, 1, none⟩) (by first | (rw [add_block]; exact hn372_1) | (show (Addr.add _ _).block ≠ _; rw [add_block]; exact hn372_1) | exact hn372_1) (.int .i64 t367)).trans hx372_1; replace hx372_2 := (cell_far (p := ⟨gb371, 1, none⟩) (by first | (rw [add_block]; exact hn372_1) | (show (Addr.add _ _).block ≠ _; rw [add_block]; exact hn372_1) | exact hn372_1) (.int .i64 t367)).trans hx372_2; replace hx372_3 := (cell_far (p := ⟨gb371, 1, none⟩) (by first | (rw [add_block]; exact hn372_1) | (show (Addr.add _ _).block ≠ _; rw [add_block]; exact hn372_1) | exact hn372_1) (.int .i64 t367)).trans hx372_3; replace hx372_0 := (cell_far (p := ⟨gb371, 2, none⟩) (by first | (rw [add_block]; exact hn372_2) | (show (Addr.add _ _).block ≠ _; rw [add_block]; exact hn372_2) | exact hn372_2) (.string t368)).trans hx372_0; replace hx372_1 := (cell_far (p := ⟨gb371, 2, none⟩) (by first | (rw [add_block]; exact hn372_2) | (show (Addr.add _ _).block ≠ _; rw [add_block]; exact hn372_2) | exact hn372_2) (.string t368)).trans hx372_1; replace hx372_2 := (cell_far (p := ⟨gb371, 2, none⟩) (by first | (rw [add_block]; exact hn372_2) | (show (Addr.add _ _).block ≠ _; rw [add_block]; exact hn372_2) | exact hn372_2) (.string t368)).trans hx372_2; replace hx372_3 := (cell_far (p := ⟨gb371, 2, none⟩) (by first | (rw [add_block]; exact hn372_2) | (show (Addr.add _ _).block ≠ _; rw [add_block]; exact hn372_2) | exact hn372_2) (.string t368)).trans hx372_3; replace hx372_0 := (cell_far (p := ⟨gb371, 3, none⟩) (by first | (rw [add_block]; exact hn372_3) | (show (Addr.add _ _).block ≠ _; rw [add_block]; exact hn372_3) | exact hn372_3) (.float .f64 t369)).trans hx372_0; replace hx372_1 := (cell_far (p := ⟨gb371, 3, none⟩) (by first | (rw [add_block]; exact hn372_3) | (show (Addr.add _ _).block ≠ _; rw [add_block]; exact hn372_3) | exact hn372_3) (.float .f64 t369)).trans hx372_1; replace hx372_2 := (cell_far (p := ⟨gb371, 3, none⟩) (by first | (rw [add_block]; exact hn372_3) | (show (Addr.add _ _).block ≠ _; rw [add_block]; exact hn372_3) | exact hn372_3) (.float .f64 t369)).trans hx372_2; replace hx372_3 := (cell_far (p := ⟨gb371, 3, none⟩) (by first | (rw [add_block]; exact hn372_3) | (show (Addr.add _ _).block ≠ _; rw [add_block]; exact hn372_3) | exact hn372_3) (.float .f64 t369)).trans hx372_3; clear hn372_0; clear hn372_1; clear hn372_2; clear hn372_3; replace p372 := eq_true p372; replace q372 := eq_true q372) | ((with_reducible refine gate_callee (f := 20) rfl ?_); refine goesL_ (some 32) rfl rfl Tryd.func20 (by kernel_rfl) rfl #[.agg #[.int .i64 ((rd_T24 l0 x3_1).f0), .int .i64 ((rd_T24 l0 x3_1).f1), .string ((rd_T24 l0 x3_1).f2), .float .f64 ((rd_T24 l0 x3_1).f3)]] rfl (by (try simp only [List.map_toArray, List.map_cons, List.map_nil]); first | done | rfl | (simp only [List.length_drop, List.length_take]; rfl)) ?_; (with_reducible refine (rialtoref2_Is.calls k1 ((rd_T24 l0 x3_1).f0) ((rd_T24 l0 x3_1).f1) ((rd_T24 l0 x3_1).f2) ((rd_T24 l0 x3_1).f3) true _ A11.out).mono ?_); rintro e w34 ⟨rfl, hb⟩; refine ⟨_, rfl, ?_⟩; have n0_ := Aside0.mk (blk_below (g := gb371) (o := .cells #[.int .i64 t366, .int .i64 t367, .string t368, .float .f64 t369] 24 (0, 0)) (by (with_reducible repeat (first | refine blk_drewN ?_ _ | refine blk_drew ?_ | refine blk_alloc ?_ _)); refine blk_put (cs := #[.int .i64 t366, .int .i64 t367, .string t368, .float .f64 0]) ?_ 3 _ rfl; (with_reducible repeat (first | refine blk_drewN ?_ _ | refine blk_drew ?_ | refine blk_alloc ?_ _)); refine blk_put (cs := #[.int .i64 t366, .int .i64 t367, .string (⟨#[]⟩ : ByteArray), .float .f64 0]) ?_ 2 _ rfl; (with_reducible repeat (first | refine blk_drewN ?_ _ | refine blk_drew ?_ | refine blk_alloc ?_ _)); refine blk_put (cs := #[.int .i64 t366, .int .i64 0, .string (⟨#[]⟩ : ByteArray), .float .f64 0]) ?_ 1 _ rfl; (with_reducible repeat (first | refine blk_drewN ?_ _ | refine blk_drew ?_ | refine blk_alloc ?_ _)); refine blk_put (cs := #[.int .i64 0, .int .i64 0, .string (⟨#[]⟩ : ByteArray), .float .f64 0]) ?_ 0 _ rfl; (with_reducible repeat (first | refine blk_drewN ?_ _ | refine blk_drew ?_ | refine blk_alloc ?_ _)); exact BK371.out) hb); have n1_ := Aside0.mk (below_step (by repeat (first | (with_reducible first | exact HB.out | apply below_alloc | apply pw_below_drewN | apply below_drew1 | refine below_set ?_ GE371.out) | exact HB.out)) hb); clear BK371; clear HB; have BK371 := n0_; have HB := n1_; clear n0_ n1_; (try clear hb); (try clear hb2); (try clear hk); (try clear hi)))
                  have n0_ := Aside0.mk (blk_drew BK371.out)
                  have n1_ := Aside0.mk (below_drew1 HB.out)
                  clear BK371
                  clear HB
                  have BK371 := n0_
                  have HB := n1_
                  clear n0_ n1_
                  refine start_ (n := 11) (S := fun w' => True) (ds := []) #[false, false, false, false, false, false, false, false, false, false, false] (by kernel_rfl) rfl rfl trivial (fun hHeld => ?_); refine with_tabW rialtolaw4_TextBack.tab11 rialtolaw4_TextBack.bits11 (fun HT_ HW_ => ?_)
                  generalize w34.drew = w35 at BK371 HB hHeld ⊢
                  refine pure_ (i := 0) (N := some 44) (v := ?_) (a' := ?_) #[true, false, false, false, false, false, false, false, false, false, false] rfl rfl (any_of HT_.out (by kernel_rfl)) (fun _ _ _ h => h) (Or.inl ⟨by rfl, ?_⟩) ?_ ?_
                  rotate_left
                  · intro w'
                    go_simp
                    with_reducible rfl
                  rotate_left
                  · simp only [Act.put, List.setIfInBounds_toArray, List.set_cons_zero, List.set_cons_succ, i64_w, i32_w]
                    rfl
                  refine pure_ (i := 1) (N := some 45) (v := ?_) (a' := ?_) #[true, true, false, false, false, false, false, false, false, false, false] rfl rfl (any_of HT_.out (by kernel_rfl)) (fun _ _ _ h => h) (Or.inl ⟨by rfl, ?_⟩) ?_ ?_
                  rotate_left
                  · intro w'
                    go_simp
                    with_reducible rfl
                  rotate_left
                  · simp only [Act.put, List.setIfInBounds_toArray, List.set_cons_zero, List.set_cons_succ, i64_w, i32_w]
                    rfl
                  refine pure_ (i := 2) (N := some 46) (v := ?_) (a' := ?_) #[true, true, true, false, false, false, false, false, false, false, false] rfl rfl (any_of HT_.out (by kernel_rfl)) (fun _ _ _ h => h) (Or.inl ⟨by rfl, ?_⟩) ?_ ?_
                  rotate_left
                  · intro w'
                    go_simp
                    with_reducible rfl
                  rotate_left
                  · simp only [Act.put, List.setIfInBounds_toArray, List.set_cons_zero, List.set_cons_succ, i64_w, i32_w]
                    rfl
                  refine pure_ (i := 3) (N := some 47) (v := undef) (a' := ?_) #[true, true, true, true, false, false, false, false, false, false, false] rfl rfl (any_of HT_.out (by kernel_rfl)) (fun _ _ _ h => h) (Or.inr ⟨by rfl, rfl⟩) ?_ ?_
                  rotate_left
                  · simp only [Act.put, List.setIfInBounds_toArray, List.set_cons_zero, List.set_cons_succ, i64_w, i32_w]
                    rfl
                  refine pure_ (i := 4) (N := some 48) (v := undef) (a' := ?_) #[true, true, true, true, true, false, false, false, false, false, false] rfl rfl (any_of HT_.out (by kernel_rfl)) (fun _ _ _ h => h) (Or.inr ⟨by rfl, rfl⟩) ?_ ?_
                  rotate_left
                  · simp only [Act.put, List.setIfInBounds_toArray, List.set_cons_zero, List.set_cons_succ, i64_w, i32_w]
                    rfl
                  refine pure_ (i := 5) (N := some 49) (v := undef) (a' := ?_) #[true, true, true, true, true, true, false, false, false, false, false] rfl rfl (any_of HT_.out (by kernel_rfl)) (fun _ _ _ h => h) (Or.inr ⟨by rfl, rfl⟩) ?_ ?_
                  rotate_left
                  · simp only [Act.put, List.setIfInBounds_toArray, List.set_cons_zero, List.set_cons_succ, i64_w, i32_w]
                    rfl
                  refine pure_ (i := 6) (N := some 50) (v := undef) (a' := ?_) #[true, true, true, true, true, true, true, false, false, false, false] rfl rfl (any_of HT_.out (by kernel_rfl)) (fun _ _ _ h => h) (Or.inr ⟨by rfl, rfl⟩) ?_ ?_
                  rotate_left
                  · simp only [Act.put, List.setIfInBounds_toArray, List.set_cons_zero, List.set_cons_succ, i64_w, i32_w]
                    rfl
                  refine pure_ (i := 7) (N := some 51) (v := undef) (a' := ?_) #[true, true, true, true, true, true, true, true, false, false, false] rfl rfl (any_of HT_.out (by kernel_rfl)) (fun _ _ _ h => h) (Or.inr ⟨by rfl, rfl⟩) ?_ ?_
                  rotate_left
                  · simp only [Act.put, List.setIfInBounds_toArray, List.set_cons_zero, List.set_cons_succ, i64_w, i32_w]
                    rfl
                  refine pure_ (i := 8) (N := some 52) (v := undef) (a' := ?_) #[true, true, true, true, true, true, true, true, true, false, false] rfl rfl (any_of HT_.out (by kernel_rfl)) (fun _ _ _ h => h) (Or.inr ⟨by rfl, rfl⟩) ?_ ?_
                  rotate_left
                  · simp only [Act.put, List.setIfInBounds_toArray, List.set_cons_zero, List.set_cons_succ, i64_w, i32_w]
                    rfl
                  refine pure_ (i := 9) (N := some 53) (v := undef) (a' := ?_) #[true, true, true, true, true, true, true, true, true, true, false] rfl rfl (any_of HT_.out (by kernel_rfl)) (fun _ _ _ h => h) (Or.inr ⟨by rfl, rfl⟩) ?_ ?_
                  rotate_left
                  · simp only [Act.put, List.setIfInBounds_toArray, List.set_cons_zero, List.set_cons_succ, i64_w, i32_w]
                    rfl
                  refine pure_ (i := 10) (N := some 54) (v := ?_) (a' := ?_) #[true, true, true, true, true, true, true, true, true, true, true] rfl rfl (any_of HT_.out (by kernel_rfl)) (fun _ _ _ h => h) (Or.inl ⟨by rfl, ?_⟩) ?_ ?_
                  rotate_left
                  · intro w'
                    go_simp
                    with_reducible rfl
                  rotate_left
                  · simp only [Act.put, List.setIfInBounds_toArray, List.set_cons_zero, List.set_cons_succ, i64_w, i32_w]
                    rfl
                  refine done_ (done_of HT_.out (by kernel_rfl)) ?_
                  try go_wp2
                  go_ret
                  exact ⟨by first | rfl | (simp [errW_none, errW_some] <;> rfl) | (simp [*, errW_none, errW_some] <;> rfl), by repeat (first | (with_reducible first | exact HB.out | apply below_alloc | apply pw_below_drewN | apply below_drew1 | refine below_set ?_ GE371.out) | exact HB.out)⟩
              · replace c12 := Bool.eq_false_iff.mpr c12
                subst c12
                have H1 : ((text_Print.f ((rd_T24 l0 x3_1).f0) ((rd_T24 l0 x3_1).f1) ((rd_T24 l0 x3_1).f2) ((rd_T24 l0 x3_1).f3)).bind fun t377 => (if t377.toList = ([63] : List UInt8) then (some (t370 == 30)) else (some false))) = some r := by rw [if_neg (show ¬ (false = true) by decide)] at H; exact H
                clear H
                have H := H1
                clear H1
                replace H := Option.bind_eq_some_iff.mp H
                obtain ⟨t377, A360, H⟩ := H
                replace H : (if t377.toList = ([63] : List UInt8) then (some (t370 == 30)) else (some false)) = some r := H
                have A36 := Aside0.mk A360
                clear A360
                by_cases c37 : t377.toList = ([63] : List UInt8)
                · rw [if_pos c37] at H
                  have c37b0 : (t377.toList == ([63] : List UInt8)) = true := beq_iff_eq.mpr c37
                  have c37b1 : (t377.toList != ([63] : List UInt8)) = false := bne_eq_false_iff_eq.mpr c37
                  clear c37
                  obtain rfl := Option.some.inj H
                  have p364 : 0 ≤ (x3_1 : Int) := of_decide_eq_true (by first | (with_reducible assumption) | assumption)
                  have q364 : x3_1 < (l0.length : Int) := of_decide_eq_true (by first | (with_reducible assumption) | assumption)
                  obtain ⟨ad364, e364, hx364_0, hx364_1, hx364_2, hx364_3⟩ := at_T24 HR0.out x3_1 p364 q364
                  cases e364
                  replace hx364_0 := (HB.out.cell (World.block_lt_of_cell? w _ hx364_0)).trans hx364_0
                  replace hx364_1 := (HB.out.cell (World.block_lt_of_cell? w _ hx364_1)).trans hx364_1
                  replace hx364_2 := (HB.out.cell (World.block_lt_of_cell? w _ hx364_2)).trans hx364_2
                  replace hx364_3 := (HB.out.cell (World.block_lt_of_cell? w _ hx364_3)).trans hx364_3
                  replace p364 := eq_true p364
                  replace q364 := eq_true q364
                  go_wp2_with (first | ((with_reducible refine gate_callee (f := 10) rfl ?_); refine goesL_ (some 24) rfl rfl Tryd.func10 (by kernel_rfl) rfl #[.agg #[.int .i64 ((rd_T24 l0 x3_1).f0), .int .i64 ((rd_T24 l0 x3_1).f1), .string ((rd_T24 l0 x3_1).f2), .float .f64 ((rd_T24 l0 x3_1).f3)]] rfl (by (try simp only [List.map_toArray, List.map_cons, List.map_nil]); first | done | rfl | (simp only [List.length_drop, List.length_take]; rfl)) ?_; (with_reducible refine (text_Print.calls ((rd_T24 l0 x3_1).f0) ((rd_T24 l0 x3_1).f1) ((rd_T24 l0 x3_1).f2) ((rd_T24 l0 x3_1).f3) t365 _ ?side1 A9.out).mono ?_); (case side1 => exact Mb.Errs.mono HT.out (by repeat (first | (with_reducible first | exact HB.out | apply below_alloc | apply pw_below_drewN | apply below_drew1) | exact HB.out))); rintro e w38 ⟨rfl, hb⟩; refine ⟨_, rfl, ?_⟩; have n0_ := Aside0.mk (below_step (by repeat (first | (with_reducible first | exact HB.out | apply below_alloc | apply pw_below_drewN | apply below_drew1) | exact HB.out)) hb); clear HB; have HB := n0_; clear n0_; (try clear hb); (try clear hb2); (try clear hk); (try clear hi)) | ((with_reducible refine gate_callee (f := 14) rfl ?_); refine goesL_ (some 25) rfl rfl Tryd.func14 (by kernel_rfl) rfl #[.string t365] rfl (by (try simp only [List.map_toArray, List.map_cons, List.map_nil]); first | done | rfl | (simp only [List.length_drop, List.length_take]; rfl)) ?_; (with_reducible refine (text_Parse.calls t365 t366 t367 t368 t369 t370 _ ?side1 A10.out).mono ?_); (case side1 => exact Mb.Errs.mono HT.out (by repeat (first | (with_reducible first | exact HB.out | apply below_alloc | apply pw_below_drewN | apply below_drew1) | exact HB.out))); rintro e w39 ⟨rfl, hb⟩; refine ⟨_, rfl, ?_⟩; have n0_ := Aside0.mk (below_step (by repeat (first | (with_reducible first | exact HB.out | apply below_alloc | apply pw_below_drewN | apply below_drew1) | exact HB.out)) hb); clear HB; have HB := n0_; clear n0_; (try clear hb); (try clear hb2); (try clear hk); (try clear hi)) | ((with_reducible refine gate_dst (N := 4) rfl ?_); refine box_event ?hg (N := 4) ?hd (cs := #[.int .i64 0, .int .i64 0, .string (⟨#[]⟩ : ByteArray), .float .f64 0]) (t := 24) ?hr ?_; (case hd => rfl); (case hg => rfl); (case hr => first | (go_simp; done) | (go_simp; rfl)); intro gb371 hg w40 hbox hb; have n0_ := Aside0.mk (below_step (by repeat (first | (with_reducible first | exact HB.out | apply below_alloc | apply pw_below_drewN | apply below_drew1) | exact HB.out)) hb); have n1_ := Aside0.mk (hbox); have n2_ := Aside0.mk ((by rw [hg]; exact (below_size (by repeat (first | (with_reducible first | exact HB.out | apply below_alloc | apply pw_below_drewN | apply below_drew1) | exact HB.out))) : w.heap.size ≤ gb371)); have n3_ := Aside0.mk ((by rw [hg]; exact (below_size (by repeat (first | (with_reducible first | exact HB.out | apply below_alloc | apply pw_below_drewN | apply below_drew1) | exact HB.out))) : w.heap.size ≤ gb371)); clear HB; have HB := n0_; have BK371 := n1_; have GW371 := n2_; have GE371 := n3_; clear n0_ n1_ n2_ n3_; clear hb hbox hg; have hcz41_0 : w40.cell? ⟨gb371, 0, none⟩ = some (.int .i64 0) := (blk_cell BK371.out 0).trans rfl; have hcz41_1 : w40.cell? ⟨gb371, 1, none⟩ = some (.int .i64 0) := (blk_cell BK371.out 1).trans rfl; have hcz41_2 : w40.cell? ⟨gb371, 2, none⟩ = some (.string (⟨#[]⟩ : ByteArray)) := (blk_cell BK371.out 2).trans rfl; have hcz41_3 : w40.cell? ⟨gb371, 3, none⟩ = some (.float .f64 0) := (blk_cell BK371.out 3).trans rfl; have hfz41_0 := blk_frozen BK371.out 0; have hfz41_1 := blk_frozen BK371.out 1; have hfz41_2 := blk_frozen BK371.out 2; have hfz41_3 := blk_frozen BK371.out 3; have p372 : 0 ≤ (x3_1 : Int) := of_decide_eq_true (by first | (with_reducible assumption) | assumption); have q372 : x3_1 < (l0.length : Int) := of_decide_eq_true (by first | (with_reducible assumption) | assumption); obtain ⟨ad372, e372, hx372_0, hx372_1, hx372_2, hx372_3⟩ := at_T24 HR0.out x3_1 p372 q372; obtain rfl : ad364 = ad372 := (by injection e372); have hn372_0 : ad364.block ≠ gb371 := Nat.ne_of_lt (Nat.lt_of_lt_of_le (by have := World.block_lt_of_cell? _ _ hx372_0; first | rwa [add_block] at this | exact this) GW371.out); have hn372_1 : ad364.block ≠ gb371 := Nat.ne_of_lt (Nat.lt_of_lt_of_le (by have := World.block_lt_of_cell? _ _ hx372_0; first | rwa [add_block] at this | exact this) GW371.out); have hn372_2 : ad364.block ≠ gb371 := Nat.ne_of_lt (Nat.lt_of_lt_of_le (by have := World.block_lt_of_cell? _ _ hx372_0; first | rwa [add_block] at this | exact this) GW371.out); have hn372_3 : ad364.block ≠ gb371 := Nat.ne_of_lt (Nat.lt_of_lt_of_le (by have := World.block_lt_of_cell? _ _ hx372_0; first | rwa [add_block] at this | exact this) GW371.out); replace hx372_0 := (HB.out.cell (World.block_lt_of_cell? w _ hx372_0)).trans hx372_0; replace hx372_1 := (HB.out.cell (World.block_lt_of_cell? w _ hx372_1)).trans hx372_1; replace hx372_2 := (HB.out.cell (World.block_lt_of_cell? w _ hx372_2)).trans hx372_2; replace hx372_3 := (HB.out.cell (World.block_lt_of_cell? w _ hx372_3)).trans hx372_3; replace hx372_0 := (cell_far (p := ⟨gb371, 0, none⟩) (by first | (rw [add_block]; exact hn372_0) | (show (Addr.add _ _).block ≠ _; rw [add_block]; exact hn372_0) | exact hn372_0) (.int .i64 t366)).trans hx372_0; replace hx372_1 := (cell_far (p := ⟨gb371, 0, none⟩) (by first | (rw [add_block]; exact hn372_0) | (show (Addr.add _ _).block ≠ _; rw [add_block]; exact hn372_0) | exact hn372_0) (.int .i64 t366)).trans hx372_1; replace hx372_2 := (cell_far (p := ⟨gb371, 0, none⟩) (by first | (rw [add_block]; exact hn372_0) | (show (Addr.add _ _).block ≠ _; rw [add_block]; exact hn372_0) | exact hn372_0) (.int .i64 t366)).trans hx372_2; replace hx372_3 := (cell_far (p := ⟨gb371, 0, none⟩) (by first | (rw [add_block]; exact hn372_0) | (show (Addr.add _ _).block ≠ _; rw [add_block]; exact hn372_0) | exact hn372_0) (.int .i64 t366)).trans hx372_3; replace hx372_0 := (cell_far (p := ⟨gb371, 1, none⟩) (by first | (rw [add_block]; exact hn372_1) | (show (Addr.add _ _).block ≠ _; rw [add_block]; exact hn372_1) | exact hn372_1) (.int .i64 t367)).trans hx372_0; replace hx372_1 := (cell_far (p := ⟨gb371, 1, none⟩) (by first | (rw [add_block]; exact hn372_1) | (show (Addr.add _ _).block ≠ _; rw [add_block]; exact hn372_1) | exact hn372_1) (.int .i64 t367)).trans hx372_1; replace hx372_2 := (cell_far (p := ⟨gb371, 1, none⟩) (by first | (rw [add_block]; exact hn372_1) | (show (Addr.add _ _).block ≠ _; rw [add_block]; exact hn372_1) | exact hn372_1) (.int .i64 t367)).trans hx372_2; replace hx372_3 := (cell_far (p := ⟨gb371, 1, none⟩) (by first | (rw [add_block]; exact hn372_1) | (show (Addr.add _ _).block ≠ _; rw [add_block]; exact hn372_1) | exact hn372_1) (.int .i64 t367)).trans hx372_3; replace hx372_0 := (cell_far (p := ⟨gb371, 2, none⟩) (by first | (rw [add_block]; exact hn372_2) | (show (Addr.add _ _).block ≠ _; rw [add_block]; exact hn372_2) | exact hn372_2) (.string t368)).trans hx372_0; replace hx372_1 := (cell_far (p := ⟨gb371, 2, none⟩) (by first | (rw [add_block]; exact hn372_2) | (show (Addr.add _ _).block ≠ _; rw [add_block]; exact hn372_2) | exact hn372_2) (.string t368)).trans hx372_1; replace hx372_2 := (cell_far (p := ⟨gb371, 2, none⟩) (by first | (rw [add_block]; exact hn372_2) | (show (Addr.add _ _).block ≠ _; rw [add_block]; exact hn372_2) | exact hn372_2) (.string t368)).trans hx372_2; replace hx372_3 := (cell_far (p := ⟨gb371, 2, none⟩) (by first | (rw [add_block]; exact hn372_2) | (show (Addr.add _ _).block ≠ _; rw [add_block]; exact hn372_2) | exact hn372_2) (.string t368)).trans hx372_3; replace hx372_0 := (cell_far (p := ⟨gb371, 3, none⟩) (by first | (rw [add_block]; exact hn372_3) | (show (Addr.add _ _).block ≠ _; rw [add_block]; exact hn372_3) | exact hn372_3) (.float .f64 t369)).trans hx372_0; replace hx372_1 := (cell_far (p := ⟨gb371, 3, none⟩) (by first | (rw [add_block]; exact hn372_3) | (show (Addr.add _ _).block ≠ _; rw [add_block]; exact hn372_3) | exact hn372_3) (.float .f64 t369)).trans hx372_1; replace hx372_2 := (cell_far (p := ⟨gb371, 3, none⟩) (by first | (rw [add_block]; exact hn372_3) | (show (Addr.add _ _).block ≠ _; rw [add_block]; exact hn372_3) | exact hn372_3) (.float .f64 t369)).trans hx372_2; replace hx372_3 := (cell_far (p := ⟨gb371, 3, none⟩) (by first | (rw [add_block]; exact hn372_3) | (show (Addr.add _ _).block ≠ _; rw [add_block]; exact hn372_3) | exact hn372_3) (.float .f64 t369)).trans hx372_3; clear hn372_0; clear hn372_1; clear hn372_2; clear hn372_3; replace p372 := eq_true p372; replace q372 := eq_true q372) | ((with_reducible refine gate_callee (f := 20) rfl ?_); refine goesL_ (some 32) rfl rfl Tryd.func20 (by kernel_rfl) rfl #[.agg #[.int .i64 ((rd_T24 l0 x3_1).f0), .int .i64 ((rd_T24 l0 x3_1).f1), .string ((rd_T24 l0 x3_1).f2), .float .f64 ((rd_T24 l0 x3_1).f3)]] rfl (by (try simp only [List.map_toArray, List.map_cons, List.map_nil]); first | done | rfl | (simp only [List.length_drop, List.length_take]; rfl)) ?_; (with_reducible refine (rialtoref2_Is.calls k1 ((rd_T24 l0 x3_1).f0) ((rd_T24 l0 x3_1).f1) ((rd_T24 l0 x3_1).f2) ((rd_T24 l0 x3_1).f3) false _ A11.out).mono ?_); rintro e w42 ⟨rfl, hb⟩; refine ⟨_, rfl, ?_⟩; have n0_ := Aside0.mk (blk_below (g := gb371) (o := .cells #[.int .i64 t366, .int .i64 t367, .string t368, .float .f64 t369] 24 (0, 0)) (by (with_reducible repeat (first | refine blk_drewN ?_ _ | refine blk_drew ?_ | refine blk_alloc ?_ _)); refine blk_put (cs := #[.int .i64 t366, .int .i64 t367, .string t368, .float .f64 0]) ?_ 3 _ rfl; (with_reducible repeat (first | refine blk_drewN ?_ _ | refine blk_drew ?_ | refine blk_alloc ?_ _)); refine blk_put (cs := #[.int .i64 t366, .int .i64 t367, .string (⟨#[]⟩ : ByteArray), .float .f64 0]) ?_ 2 _ rfl; (with_reducible repeat (first | refine blk_drewN ?_ _ | refine blk_drew ?_ | refine blk_alloc ?_ _)); refine blk_put (cs := #[.int .i64 t366, .int .i64 0, .string (⟨#[]⟩ : ByteArray), .float .f64 0]) ?_ 1 _ rfl; (with_reducible repeat (first | refine blk_drewN ?_ _ | refine blk_drew ?_ | refine blk_alloc ?_ _)); refine blk_put (cs := #[.int .i64 0, .int .i64 0, .string (⟨#[]⟩ : ByteArray), .float .f64 0]) ?_ 0 _ rfl; (with_reducible repeat (first | refine blk_drewN ?_ _ | refine blk_drew ?_ | refine blk_alloc ?_ _)); exact BK371.out) hb); have n1_ := Aside0.mk (below_step (by repeat (first | (with_reducible first | exact HB.out | apply below_alloc | apply pw_below_drewN | apply below_drew1 | refine below_set ?_ GE371.out) | exact HB.out)) hb); clear BK371; clear HB; have BK371 := n0_; have HB := n1_; clear n0_ n1_; (try clear hb); (try clear hb2); (try clear hk); (try clear hi); have p376 : 0 ≤ (x3_1 : Int) := of_decide_eq_true (by first | (with_reducible assumption) | assumption); have q376 : x3_1 < (l0.length : Int) := of_decide_eq_true (by first | (with_reducible assumption) | assumption); obtain ⟨ad376, e376, hx376_0, hx376_1, hx376_2, hx376_3⟩ := at_T24 HR0.out x3_1 p376 q376; obtain rfl : ad364 = ad376 := (by injection e376); replace hx376_0 := (HB.out.cell (World.block_lt_of_cell? w _ hx376_0)).trans hx376_0; replace hx376_1 := (HB.out.cell (World.block_lt_of_cell? w _ hx376_1)).trans hx376_1; replace hx376_2 := (HB.out.cell (World.block_lt_of_cell? w _ hx376_2)).trans hx376_2; replace hx376_3 := (HB.out.cell (World.block_lt_of_cell? w _ hx376_3)).trans hx376_3; replace p376 := eq_true p376; replace q376 := eq_true q376) | ((with_reducible refine gate_callee (f := 10) rfl ?_); refine goesL_ (some 38) rfl rfl Tryd.func10 (by kernel_rfl) rfl #[.agg #[.int .i64 ((rd_T24 l0 x3_1).f0), .int .i64 ((rd_T24 l0 x3_1).f1), .string ((rd_T24 l0 x3_1).f2), .float .f64 ((rd_T24 l0 x3_1).f3)]] rfl (by (try simp only [List.map_toArray, List.map_cons, List.map_nil]); first | done | rfl | (simp only [List.length_drop, List.length_take]; rfl)) ?_; (with_reducible refine (text_Print.calls ((rd_T24 l0 x3_1).f0) ((rd_T24 l0 x3_1).f1) ((rd_T24 l0 x3_1).f2) ((rd_T24 l0 x3_1).f3) t377 _ ?side1 A36.out).mono ?_); (case side1 => exact Mb.Errs.mono HT.out (by repeat (first | (with_reducible first | exact HB.out | apply below_alloc | apply pw_below_drewN | apply below_drew1 | refine below_set ?_ GE371.out) | exact HB.out))); rintro e w43 ⟨rfl, hb⟩; refine ⟨_, rfl, ?_⟩; have n0_ := Aside0.mk (blk_below (g := gb371) (o := .cells #[.int .i64 t366, .int .i64 t367, .string t368, .float .f64 t369] 24 (0, 0)) (by (with_reducible repeat (first | refine blk_drewN ?_ _ | refine blk_drew ?_ | refine blk_alloc ?_ _)); exact BK371.out) hb); have n1_ := Aside0.mk (below_step (by repeat (first | (with_reducible first | exact HB.out | apply below_alloc | apply pw_below_drewN | apply below_drew1 | refine below_set ?_ GE371.out) | exact HB.out)) hb); clear BK371; clear HB; have BK371 := n0_; have HB := n1_; clear n0_ n1_; (try clear hb); (try clear hb2); (try clear hk); (try clear hi)))
                  go_ret
                  exact ⟨by first | rfl | (simp [errW_none, errW_some] <;> rfl) | (simp [*, errW_none, errW_some] <;> rfl), by repeat (first | (with_reducible first | exact HB.out | apply below_alloc | apply pw_below_drewN | apply below_drew1 | refine below_set ?_ GE371.out) | exact HB.out)⟩
                · rw [if_neg c37] at H
                  have c37b0 : (t377.toList == ([63] : List UInt8)) = false := beq_eq_false_iff_ne.mpr c37
                  have c37b1 : (t377.toList != ([63] : List UInt8)) = true := bne_iff_ne.mpr c37
                  obtain rfl := Option.some.inj H
                  have p364 : 0 ≤ (x3_1 : Int) := of_decide_eq_true (by first | (with_reducible assumption) | assumption)
                  have q364 : x3_1 < (l0.length : Int) := of_decide_eq_true (by first | (with_reducible assumption) | assumption)
                  obtain ⟨ad364, e364, hx364_0, hx364_1, hx364_2, hx364_3⟩ := at_T24 HR0.out x3_1 p364 q364
                  cases e364
                  replace hx364_0 := (HB.out.cell (World.block_lt_of_cell? w _ hx364_0)).trans hx364_0
                  replace hx364_1 := (HB.out.cell (World.block_lt_of_cell? w _ hx364_1)).trans hx364_1
                  replace hx364_2 := (HB.out.cell (World.block_lt_of_cell? w _ hx364_2)).trans hx364_2
                  replace hx364_3 := (HB.out.cell (World.block_lt_of_cell? w _ hx364_3)).trans hx364_3
                  replace p364 := eq_true p364
                  replace q364 := eq_true q364
                  go_wp2_with (first | ((with_reducible refine gate_callee (f := 10) rfl ?_); refine goesL_ (some 24) rfl rfl Tryd.func10 (by kernel_rfl) rfl #[.agg #[.int .i64 ((rd_T24 l0 x3_1).f0), .int .i64 ((rd_T24 l0 x3_1).f1), .string ((rd_T24 l0 x3_1).f2), .float .f64 ((rd_T24 l0 x3_1).f3)]] rfl (by (try simp only [List.map_toArray, List.map_cons, List.map_nil]); first | done | rfl | (simp only [List.length_drop, List.length_take]; rfl)) ?_; (with_reducible refine (text_Print.calls ((rd_T24 l0 x3_1).f0) ((rd_T24 l0 x3_1).f1) ((rd_T24 l0 x3_1).f2) ((rd_T24 l0 x3_1).f3) t365 _ ?side1 A9.out).mono ?_); (case side1 => exact Mb.Errs.mono HT.out (by repeat (first | (with_reducible first | exact HB.out | apply below_alloc | apply pw_below_drewN | apply below_drew1) | exact HB.out))); rintro e w44 ⟨rfl, hb⟩; refine ⟨_, rfl, ?_⟩; have n0_ := Aside0.mk (below_step (by repeat (first | (with_reducible first | exact HB.out | apply below_alloc | apply pw_below_drewN | apply below_drew1) | exact HB.out)) hb); clear HB; have HB := n0_; clear n0_; (try clear hb); (try clear hb2); (try clear hk); (try clear hi)) | ((with_reducible refine gate_callee (f := 14) rfl ?_); refine goesL_ (some 25) rfl rfl Tryd.func14 (by kernel_rfl) rfl #[.string t365] rfl (by (try simp only [List.map_toArray, List.map_cons, List.map_nil]); first | done | rfl | (simp only [List.length_drop, List.length_take]; rfl)) ?_; (with_reducible refine (text_Parse.calls t365 t366 t367 t368 t369 t370 _ ?side1 A10.out).mono ?_); (case side1 => exact Mb.Errs.mono HT.out (by repeat (first | (with_reducible first | exact HB.out | apply below_alloc | apply pw_below_drewN | apply below_drew1) | exact HB.out))); rintro e w45 ⟨rfl, hb⟩; refine ⟨_, rfl, ?_⟩; have n0_ := Aside0.mk (below_step (by repeat (first | (with_reducible first | exact HB.out | apply below_alloc | apply pw_below_drewN | apply below_drew1) | exact HB.out)) hb); clear HB; have HB := n0_; clear n0_; (try clear hb); (try clear hb2); (try clear hk); (try clear hi)) | ((with_reducible refine gate_dst (N := 4) rfl ?_); refine box_event ?hg (N := 4) ?hd (cs := #[.int .i64 0, .int .i64 0, .string (⟨#[]⟩ : ByteArray), .float .f64 0]) (t := 24) ?hr ?_; (case hd => rfl); (case hg => rfl); (case hr => first | (go_simp; done) | (go_simp; rfl)); intro gb371 hg w46 hbox hb; have n0_ := Aside0.mk (below_step (by repeat (first | (with_reducible first | exact HB.out | apply below_alloc | apply pw_below_drewN | apply below_drew1) | exact HB.out)) hb); have n1_ := Aside0.mk (hbox); have n2_ := Aside0.mk ((by rw [hg]; exact (below_size (by repeat (first | (with_reducible first | exact HB.out | apply below_alloc | apply pw_below_drewN | apply below_drew1) | exact HB.out))) : w.heap.size ≤ gb371)); have n3_ := Aside0.mk ((by rw [hg]; exact (below_size (by repeat (first | (with_reducible first | exact HB.out | apply below_alloc | apply pw_below_drewN | apply below_drew1) | exact HB.out))) : w.heap.size ≤ gb371)); clear HB; have HB := n0_; have BK371 := n1_; have GW371 := n2_; have GE371 := n3_; clear n0_ n1_ n2_ n3_; clear hb hbox hg; have hcz47_0 : w46.cell? ⟨gb371, 0, none⟩ = some (.int .i64 0) := (blk_cell BK371.out 0).trans rfl; have hcz47_1 : w46.cell? ⟨gb371, 1, none⟩ = some (.int .i64 0) := (blk_cell BK371.out 1).trans rfl; have hcz47_2 : w46.cell? ⟨gb371, 2, none⟩ = some (.string (⟨#[]⟩ : ByteArray)) := (blk_cell BK371.out 2).trans rfl; have hcz47_3 : w46.cell? ⟨gb371, 3, none⟩ = some (.float .f64 0) := (blk_cell BK371.out 3).trans rfl; have hfz47_0 := blk_frozen BK371.out 0; have hfz47_1 := blk_frozen BK371.out 1; have hfz47_2 := blk_frozen BK371.out 2; have hfz47_3 := blk_frozen BK371.out 3; have p372 : 0 ≤ (x3_1 : Int) := of_decide_eq_true (by first | (with_reducible assumption) | assumption); have q372 : x3_1 < (l0.length : Int) := of_decide_eq_true (by first | (with_reducible assumption) | assumption); obtain ⟨ad372, e372, hx372_0, hx372_1, hx372_2, hx372_3⟩ := at_T24 HR0.out x3_1 p372 q372; obtain rfl : ad364 = ad372 := (by injection e372); have hn372_0 : ad364.block ≠ gb371 := Nat.ne_of_lt (Nat.lt_of_lt_of_le (by have := World.block_lt_of_cell? _ _ hx372_0; first | rwa [add_block] at this | exact this) GW371.out); have hn372_1 : ad364.block ≠ gb371 := Nat.ne_of_lt (Nat.lt_of_lt_of_le (by have := World.block_lt_of_cell? _ _ hx372_0; first | rwa [add_block] at this | exact this) GW371.out); have hn372_2 : ad364.block ≠ gb371 := Nat.ne_of_lt (Nat.lt_of_lt_of_le (by have := World.block_lt_of_cell? _ _ hx372_0; first | rwa [add_block] at this | exact this) GW371.out); have hn372_3 : ad364.block ≠ gb371 := Nat.ne_of_lt (Nat.lt_of_lt_of_le (by have := World.block_lt_of_cell? _ _ hx372_0; first | rwa [add_block] at this | exact this) GW371.out); replace hx372_0 := (HB.out.cell (World.block_lt_of_cell? w _ hx372_0)).trans hx372_0; replace hx372_1 := (HB.out.cell (World.block_lt_of_cell? w _ hx372_1)).trans hx372_1; replace hx372_2 := (HB.out.cell (World.block_lt_of_cell? w _ hx372_2)).trans hx372_2; replace hx372_3 := (HB.out.cell (World.block_lt_of_cell? w _ hx372_3)).trans hx372_3; replace hx372_0 := (cell_far (p := ⟨gb371, 0, none⟩) (by first | (rw [add_block]; exact hn372_0) | (show (Addr.add _ _).block ≠ _; rw [add_block]; exact hn372_0) | exact hn372_0) (.int .i64 t366)).trans hx372_0; replace hx372_1 := (cell_far (p := ⟨gb371, 0, none⟩) (by first | (rw [add_block]; exact hn372_0) | (show (Addr.add _ _).block ≠ _; rw [add_block]; exact hn372_0) | exact hn372_0) (.int .i64 t366)).trans hx372_1; replace hx372_2 := (cell_far (p := ⟨gb371, 0, none⟩) (by first | (rw [add_block]; exact hn372_0) | (show (Addr.add _ _).block ≠ _; rw [add_block]; exact hn372_0) | exact hn372_0) (.int .i64 t366)).trans hx372_2; replace hx372_3 := (cell_far (p := ⟨gb371, 0, none⟩) (by first | (rw [add_block]; exact hn372_0) | (show (Addr.add _ _).block ≠ _; rw [add_block]; exact hn372_0) | exact hn372_0) (.int .i64 t366)).trans hx372_3; replace hx372_0 := (cell_far (p := ⟨gb371, 1, none⟩) (by first | (rw [add_block]; exact hn372_1) | (show (Addr.add _ _).block ≠ _; rw [add_block]; exact hn372_1) | exact hn372_1) (.int .i64 t367)).trans hx372_0; replace hx372_1 := (cell_far (p := ⟨gb371, 1, none⟩) (by first | (rw [add_block]; exact hn372_1) | (show (Addr.add _ _).block ≠ _; rw [add_block]; exact hn372_1) | exact hn372_1) (.int .i64 t367)).trans hx372_1; replace hx372_2 := (cell_far (p := ⟨gb371, 1, none⟩) (by first | (rw [add_block]; exact hn372_1) | (show (Addr.add _ _).block ≠ _; rw [add_block]; exact hn372_1) | exact hn372_1) (.int .i64 t367)).trans hx372_2; replace hx372_3 := (cell_far (p := ⟨gb371, 1, none⟩) (by first | (rw [add_block]; exact hn372_1) | (show (Addr.add _ _).block ≠ _; rw [add_block]; exact hn372_1) | exact hn372_1) (.int .i64 t367)).trans hx372_3; replace hx372_0 := (cell_far (p := ⟨gb371, 2, none⟩) (by first | (rw [add_block]; exact hn372_2) | (show (Addr.add _ _).block ≠ _; rw [add_block]; exact hn372_2) | exact hn372_2) (.string t368)).trans hx372_0; replace hx372_1 := (cell_far (p := ⟨gb371, 2, none⟩) (by first | (rw [add_block]; exact hn372_2) | (show (Addr.add _ _).block ≠ _; rw [add_block]; exact hn372_2) | exact hn372_2) (.string t368)).trans hx372_1; replace hx372_2 := (cell_far (p := ⟨gb371, 2, none⟩) (by first | (rw [add_block]; exact hn372_2) | (show (Addr.add _ _).block ≠ _; rw [add_block]; exact hn372_2) | exact hn372_2) (.string t368)).trans hx372_2; replace hx372_3 := (cell_far (p := ⟨gb371, 2, none⟩) (by first | (rw [add_block]; exact hn372_2) | (show (Addr.add _ _).block ≠ _; rw [add_block]; exact hn372_2) | exact hn372_2) (.string t368)).trans hx372_3; replace hx372_0 := (cell_far (p := ⟨gb371, 3, none⟩) (by first | (rw [add_block]; exact hn372_3) | (show (Addr.add _ _).block ≠ _; rw [add_block]; exact hn372_3) | exact hn372_3) (.float .f64 t369)).trans hx372_0; replace hx372_1 := (cell_far (p := ⟨gb371, 3, none⟩) (by first | (rw [add_block]; exact hn372_3) | (show (Addr.add _ _).block ≠ _; rw [add_block]; exact hn372_3) | exact hn372_3) (.float .f64 t369)).trans hx372_1; replace hx372_2 := (cell_far (p := ⟨gb371, 3, none⟩) (by first | (rw [add_block]; exact hn372_3) | (show (Addr.add _ _).block ≠ _; rw [add_block]; exact hn372_3) | exact hn372_3) (.float .f64 t369)).trans hx372_2; replace hx372_3 := (cell_far (p := ⟨gb371, 3, none⟩) (by first | (rw [add_block]; exact hn372_3) | (show (Addr.add _ _).block ≠ _; rw [add_block]; exact hn372_3) | exact hn372_3) (.float .f64 t369)).trans hx372_3; clear hn372_0; clear hn372_1; clear hn372_2; clear hn372_3; replace p372 := eq_true p372; replace q372 := eq_true q372) | ((with_reducible refine gate_callee (f := 20) rfl ?_); refine goesL_ (some 32) rfl rfl Tryd.func20 (by kernel_rfl) rfl #[.agg #[.int .i64 ((rd_T24 l0 x3_1).f0), .int .i64 ((rd_T24 l0 x3_1).f1), .string ((rd_T24 l0 x3_1).f2), .float .f64 ((rd_T24 l0 x3_1).f3)]] rfl (by (try simp only [List.map_toArray, List.map_cons, List.map_nil]); first | done | rfl | (simp only [List.length_drop, List.length_take]; rfl)) ?_; (with_reducible refine (rialtoref2_Is.calls k1 ((rd_T24 l0 x3_1).f0) ((rd_T24 l0 x3_1).f1) ((rd_T24 l0 x3_1).f2) ((rd_T24 l0 x3_1).f3) false _ A11.out).mono ?_); rintro e w48 ⟨rfl, hb⟩; refine ⟨_, rfl, ?_⟩; have n0_ := Aside0.mk (blk_below (g := gb371) (o := .cells #[.int .i64 t366, .int .i64 t367, .string t368, .float .f64 t369] 24 (0, 0)) (by (with_reducible repeat (first | refine blk_drewN ?_ _ | refine blk_drew ?_ | refine blk_alloc ?_ _)); refine blk_put (cs := #[.int .i64 t366, .int .i64 t367, .string t368, .float .f64 0]) ?_ 3 _ rfl; (with_reducible repeat (first | refine blk_drewN ?_ _ | refine blk_drew ?_ | refine blk_alloc ?_ _)); refine blk_put (cs := #[.int .i64 t366, .int .i64 t367, .string (⟨#[]⟩ : ByteArray), .float .f64 0]) ?_ 2 _ rfl; (with_reducible repeat (first | refine blk_drewN ?_ _ | refine blk_drew ?_ | refine blk_alloc ?_ _)); refine blk_put (cs := #[.int .i64 t366, .int .i64 0, .string (⟨#[]⟩ : ByteArray), .float .f64 0]) ?_ 1 _ rfl; (with_reducible repeat (first | refine blk_drewN ?_ _ | refine blk_drew ?_ | refine blk_alloc ?_ _)); refine blk_put (cs := #[.int .i64 0, .int .i64 0, .string (⟨#[]⟩ : ByteArray), .float .f64 0]) ?_ 0 _ rfl; (with_reducible repeat (first | refine blk_drewN ?_ _ | refine blk_drew ?_ | refine blk_alloc ?_ _)); exact BK371.out) hb); have n1_ := Aside0.mk (below_step (by repeat (first | (with_reducible first | exact HB.out | apply below_alloc | apply pw_below_drewN | apply below_drew1 | refine below_set ?_ GE371.out) | exact HB.out)) hb); clear BK371; clear HB; have BK371 := n0_; have HB := n1_; clear n0_ n1_; (try clear hb); (try clear hb2); (try clear hk); (try clear hi); have p376 : 0 ≤ (x3_1 : Int) := of_decide_eq_true (by first | (with_reducible assumption) | assumption); have q376 : x3_1 < (l0.length : Int) := of_decide_eq_true (by first | (with_reducible assumption) | assumption); obtain ⟨ad376, e376, hx376_0, hx376_1, hx376_2, hx376_3⟩ := at_T24 HR0.out x3_1 p376 q376; obtain rfl : ad364 = ad376 := (by injection e376); replace hx376_0 := (HB.out.cell (World.block_lt_of_cell? w _ hx376_0)).trans hx376_0; replace hx376_1 := (HB.out.cell (World.block_lt_of_cell? w _ hx376_1)).trans hx376_1; replace hx376_2 := (HB.out.cell (World.block_lt_of_cell? w _ hx376_2)).trans hx376_2; replace hx376_3 := (HB.out.cell (World.block_lt_of_cell? w _ hx376_3)).trans hx376_3; replace p376 := eq_true p376; replace q376 := eq_true q376) | ((with_reducible refine gate_callee (f := 10) rfl ?_); refine goesL_ (some 38) rfl rfl Tryd.func10 (by kernel_rfl) rfl #[.agg #[.int .i64 ((rd_T24 l0 x3_1).f0), .int .i64 ((rd_T24 l0 x3_1).f1), .string ((rd_T24 l0 x3_1).f2), .float .f64 ((rd_T24 l0 x3_1).f3)]] rfl (by (try simp only [List.map_toArray, List.map_cons, List.map_nil]); first | done | rfl | (simp only [List.length_drop, List.length_take]; rfl)) ?_; (with_reducible refine (text_Print.calls ((rd_T24 l0 x3_1).f0) ((rd_T24 l0 x3_1).f1) ((rd_T24 l0 x3_1).f2) ((rd_T24 l0 x3_1).f3) t377 _ ?side1 A36.out).mono ?_); (case side1 => exact Mb.Errs.mono HT.out (by repeat (first | (with_reducible first | exact HB.out | apply below_alloc | apply pw_below_drewN | apply below_drew1 | refine below_set ?_ GE371.out) | exact HB.out))); rintro e w49 ⟨rfl, hb⟩; refine ⟨_, rfl, ?_⟩; have n0_ := Aside0.mk (blk_below (g := gb371) (o := .cells #[.int .i64 t366, .int .i64 t367, .string t368, .float .f64 t369] 24 (0, 0)) (by (with_reducible repeat (first | refine blk_drewN ?_ _ | refine blk_drew ?_ | refine blk_alloc ?_ _)); exact BK371.out) hb); have n1_ := Aside0.mk (below_step (by repeat (first | (with_reducible first | exact HB.out | apply below_alloc | apply pw_below_drewN | apply below_drew1 | refine below_set ?_ GE371.out) | exact HB.out)) hb); clear BK371; clear HB; have BK371 := n0_; have HB := n1_; clear n0_ n1_; (try clear hb); (try clear hb2); (try clear hk); (try clear hi)))
                  go_ret
                  exact ⟨by first | rfl | (simp [errW_none, errW_some] <;> rfl) | (simp [*, errW_none, errW_some] <;> rfl), by repeat (first | (with_reducible first | exact HB.out | apply below_alloc | apply pw_below_drewN | apply below_drew1 | refine below_set ?_ GE371.out) | exact HB.out)⟩
            · rw [if_neg c8] at H
              exact absurd H (by simp)
          · rw [if_neg c7] at H
            have c7b0 : decide (x3_1 < (l0.length : Int)) = false := decide_eq_false c7
            clear c7
            replace H := Option.bind_eq_some_iff.mp H
            obtain ⟨t358, A500, H⟩ := H
            replace H : ((text_Read.f k1 t358).bind fun bt359 => (if bt359.2 = 0 then ((rialtohelp_Vals.f k1 l0 bt359.1).bind fun t363 => (some t363)) else (some false))) = some r := H
            have A50 := Aside0.mk A500
            clear A500
            replace H := Option.bind_eq_some_iff.mp H
            obtain ⟨⟨t359, t360⟩, A510, H⟩ := H
            replace H : (if t360 = 0 then ((rialtohelp_Vals.f k1 l0 t359).bind fun t363 => (some t363)) else (some false)) = some r := H
            have A51 := Aside0.mk A510
            clear A510
            by_cases c52 : t360 = 0
            · rw [if_pos c52] at H
              have c52b0 : (t360 == 0) = true := beq_iff_eq.mpr c52
              have c52b1 : (t360 != 0) = false := bne_eq_false_iff_eq.mpr c52
              clear c52
              replace H := Option.bind_eq_some_iff.mp H
              obtain ⟨t363, A530, H⟩ := H
              replace H : (some t363) = some r := H
              have A53 := Aside0.mk A530
              clear A530
              obtain rfl := Option.some.inj H
              go_wp2_with (first | ((with_reducible refine gate_callee (f := 12) rfl ?_); refine goesL_ (some 57) rfl rfl Tryd.func12 (by kernel_rfl) rfl #[.slice A0 l0.length c0] rfl (by (try simp only [List.map_toArray, List.map_cons, List.map_nil]); first | done | rfl | (simp only [List.length_drop, List.length_take]; rfl)) ?_; (with_reducible refine (text_Row.calls k1 _ _ l0 t358 _ ?side1 ?side2 ?side3 A50.out).mono ?_); (case side1 => repeat (first | exact (Kd.C_below HR0.out HB.out) | (with_reducible refine Kd.C_alloc ?_ _) | (with_reducible refine Kd.C_drewN ?_ _) | (with_reducible refine Kd.C_drew ?_))); (case side2 => exact HC0.out); (case side3 => exact Mb.Errs.mono HT.out (by repeat (first | (with_reducible first | exact HB.out | apply below_alloc | apply pw_below_drewN | apply below_drew1) | exact HB.out))); rintro e w54 ⟨rfl, hb⟩; refine ⟨_, rfl, ?_⟩; have n0_ := Aside0.mk (below_step (by repeat (first | (with_reducible first | exact HB.out | apply below_alloc | apply pw_below_drewN | apply below_drew1) | exact HB.out)) hb); clear HB; have HB := n0_; clear n0_; (try clear hb); (try clear hb2); (try clear hk); (try clear hi)) | ((with_reducible refine gate_callee (f := 16) rfl ?_); refine goesL_ (some 58) rfl rfl Tryd.func16 (by kernel_rfl) rfl #[.string t358] rfl (by (try simp only [List.map_toArray, List.map_cons, List.map_nil]); first | done | rfl | (simp only [List.length_drop, List.length_take]; rfl)) ?_; (with_reducible refine (text_Read.calls k1 t358 t359 t360 _ ?side1 A51.out).mono ?_); (case side1 => exact Mb.Errs.mono HT.out (by repeat (first | (with_reducible first | exact HB.out | apply below_alloc | apply pw_below_drewN | apply below_drew1) | exact HB.out))); rintro e w55 ⟨v361, rfl, ho0, hb⟩; refine ⟨_, rfl, ?_⟩; have n0_ := Aside0.mk (Kd.R_lower ho0 (below_size (by repeat (first | (with_reducible first | exact HB.out | apply below_alloc | apply pw_below_drewN | apply below_drew1) | exact HB.out)))); have n1_ := Aside0.mk (below_step (by repeat (first | (with_reducible first | exact HB.out | apply below_alloc | apply pw_below_drewN | apply below_drew1) | exact HB.out)) hb); clear HB; have HO362 := n0_; have HB := n1_; clear n0_ n1_; (try clear hb); (try clear hb2); (try clear hk); (try clear hi); (try clear ho0); obtain ⟨Ao56, co56, eo56⟩ := Kd.R_slice HO362.out; subst eo56) | (go_at_call 19; (with_reducible refine (rialtohelp_Vals.calls k1 _ _ l0 _ _ t359 t363 _ ?side1 ?side2 ?side3 ?side4 A53.out).mono ?_); (case side1 => repeat (first | exact (Kd.C_below HR0.out HB.out) | (with_reducible refine Kd.C_alloc ?_ _) | (with_reducible refine Kd.C_drewN ?_ _) | (with_reducible refine Kd.C_drew ?_))); (case side2 => exact HC0.out); (case side3 => repeat (first | exact (Kd.R_reads' HO362.out).2.2 | (with_reducible refine Kd.C_alloc ?_ _) | (with_reducible refine Kd.C_drewN ?_ _) | (with_reducible refine Kd.C_drew ?_))); (case side4 => exact (Kd.R_reads' HO362.out).2.1); rintro e w57 ⟨rfl, hb⟩; have n0_ := Aside0.mk (Kd.R_below (by (with_reducible repeat (first | apply Kd.R_alloc | apply Kd.R_drewN | apply Kd.R_drew)); exact HO362.out) hb); have n1_ := Aside0.mk (below_step (by repeat (first | (with_reducible first | exact HB.out | apply below_alloc | apply pw_below_drewN | apply below_drew1) | exact HB.out)) hb); clear HO362; clear HB; have HO362 := n0_; have HB := n1_; clear n0_ n1_; (try clear hb); (try clear hb2); (try clear hk); (try clear hi)))
              go_ret
              exact ⟨by first | rfl | (simp [errW_none, errW_some] <;> rfl) | (simp [*, errW_none, errW_some] <;> rfl), by repeat (first | (with_reducible first | exact HB.out | apply below_alloc | apply pw_below_drewN | apply below_drew1) | exact HB.out)⟩
            · rw [if_neg c52] at H
              have c52b0 : (t360 == 0) = false := beq_eq_false_iff_ne.mpr c52
              have c52b1 : (t360 != 0) = true := bne_iff_ne.mpr c52
              obtain rfl := Option.some.inj H
              go_wp2_with (first | ((with_reducible refine gate_callee (f := 12) rfl ?_); refine goesL_ (some 57) rfl rfl Tryd.func12 (by kernel_rfl) rfl #[.slice A0 l0.length c0] rfl (by (try simp only [List.map_toArray, List.map_cons, List.map_nil]); first | done | rfl | (simp only [List.length_drop, List.length_take]; rfl)) ?_; (with_reducible refine (text_Row.calls k1 _ _ l0 t358 _ ?side1 ?side2 ?side3 A50.out).mono ?_); (case side1 => repeat (first | exact (Kd.C_below HR0.out HB.out) | (with_reducible refine Kd.C_alloc ?_ _) | (with_reducible refine Kd.C_drewN ?_ _) | (with_reducible refine Kd.C_drew ?_))); (case side2 => exact HC0.out); (case side3 => exact Mb.Errs.mono HT.out (by repeat (first | (with_reducible first | exact HB.out | apply below_alloc | apply pw_below_drewN | apply below_drew1) | exact HB.out))); rintro e w58 ⟨rfl, hb⟩; refine ⟨_, rfl, ?_⟩; have n0_ := Aside0.mk (below_step (by repeat (first | (with_reducible first | exact HB.out | apply below_alloc | apply pw_below_drewN | apply below_drew1) | exact HB.out)) hb); clear HB; have HB := n0_; clear n0_; (try clear hb); (try clear hb2); (try clear hk); (try clear hi)) | ((with_reducible refine gate_callee (f := 16) rfl ?_); refine goesL_ (some 58) rfl rfl Tryd.func16 (by kernel_rfl) rfl #[.string t358] rfl (by (try simp only [List.map_toArray, List.map_cons, List.map_nil]); first | done | rfl | (simp only [List.length_drop, List.length_take]; rfl)) ?_; (with_reducible refine (text_Read.calls k1 t358 t359 t360 _ ?side1 A51.out).mono ?_); (case side1 => exact Mb.Errs.mono HT.out (by repeat (first | (with_reducible first | exact HB.out | apply below_alloc | apply pw_below_drewN | apply below_drew1) | exact HB.out))); rintro e w59 ⟨v361, rfl, ho0, hb⟩; refine ⟨_, rfl, ?_⟩; have n0_ := Aside0.mk (Kd.R_lower ho0 (below_size (by repeat (first | (with_reducible first | exact HB.out | apply below_alloc | apply pw_below_drewN | apply below_drew1) | exact HB.out)))); have n1_ := Aside0.mk (below_step (by repeat (first | (with_reducible first | exact HB.out | apply below_alloc | apply pw_below_drewN | apply below_drew1) | exact HB.out)) hb); clear HB; have HO362 := n0_; have HB := n1_; clear n0_ n1_; (try clear hb); (try clear hb2); (try clear hk); (try clear hi); (try clear ho0)))
              go_ret
              exact ⟨by first | rfl | (simp [errW_none, errW_some] <;> rfl) | (simp [*, errW_none, errW_some] <;> rfl), by repeat (first | (with_reducible first | exact HB.out | apply below_alloc | apply pw_below_drewN | apply below_drew1) | exact HB.out)⟩
    · replace c5 := Bool.eq_false_iff.mpr c5
      subst c5
      have H1 : (some true) = some r := by rw [if_neg (show ¬ (false = true) by decide)] at H; exact H
      clear H
      have H := H1
      clear H1
      obtain rfl := Option.some.inj H
      have k23 := run23
      have k22 := run22
      go_enter Tryd.func4, Tryd.ntmps4
      go_wp2_with (first | ((with_reducible refine gate_callee (f := 8) rfl ?_); refine goesL_ (some 8) rfl rfl Tryd.func8 (by kernel_rfl) rfl #[] rfl (by (try simp only [List.map_toArray, List.map_cons, List.map_nil]); first | done | rfl | (simp only [List.length_drop, List.length_take]; rfl)) ?_; (with_reducible refine (rialtolaw4_known.calls  true _ ?side1 A2.out).mono ?_); (case side1 => exact Mb.Errs.mono HT.out (by repeat (first | (with_reducible first | exact HB.out | apply below_alloc | apply pw_below_drewN | apply below_drew1) | exact HB.out))); rintro e w60 ⟨rfl, hb⟩; refine ⟨_, rfl, ?_⟩; have n0_ := Aside0.mk (below_step (by repeat (first | (with_reducible first | exact HB.out | apply below_alloc | apply pw_below_drewN | apply below_drew1) | exact HB.out)) hb); clear HB; have HB := n0_; clear n0_; (try clear hb); (try clear hb2); (try clear hk); (try clear hi)) | ((with_reducible refine gate_callee (f := 9) rfl ?_); refine goesL_ (some 11) rfl rfl Tryd.func9 (by kernel_rfl) rfl #[.slice A0 l0.length c0, .int .i64 12] rfl (by (try simp only [List.map_toArray, List.map_cons, List.map_nil]); first | done | rfl | (simp only [List.length_drop, List.length_take]; rfl)) ?_; (with_reducible refine (rialtohelp_Few.calls k _ _ l0 12 false _ ?side1 ?side2 A4.out).mono ?_); (case side1 => repeat (first | exact (Kd.C_below HR0.out HB.out) | (with_reducible refine Kd.C_alloc ?_ _) | (with_reducible refine Kd.C_drewN ?_ _) | (with_reducible refine Kd.C_drew ?_))); (case side2 => exact HC0.out); rintro e w' ⟨rfl, ⟨nd, rfl⟩⟩; refine ⟨_, rfl, ?_⟩))
      go_ret
      exact ⟨by first | rfl | (simp [errW_none, errW_some] <;> rfl) | (simp [*, errW_none, errW_some] <;> rfl), by repeat (first | (with_reducible first | exact HB.out | apply below_alloc | apply pw_below_drewN | apply below_drew1) | exact HB.out)⟩
  · replace c3 := Bool.eq_false_iff.mpr c3
    subst c3
    have H1 : (some false) = some r := by rw [if_neg (show ¬ (false = true) by decide)] at H; exact H
    clear H
    have H := H1
    clear H1
    obtain rfl := Option.some.inj H
    have k23 := run23
    have k22 := run22
    go_enter Tryd.func4, Tryd.ntmps4
    go_wp2_with (first | ((with_reducible refine gate_callee (f := 8) rfl ?_); refine goesL_ (some 8) rfl rfl Tryd.func8 (by kernel_rfl) rfl #[] rfl (by (try simp only [List.map_toArray, List.map_cons, List.map_nil]); first | done | rfl | (simp only [List.length_drop, List.length_take]; rfl)) ?_; (with_reducible refine (rialtolaw4_known.calls  false _ ?side1 A2.out).mono ?_); (case side1 => exact Mb.Errs.mono HT.out (by repeat (first | (with_reducible first | exact HB.out | apply below_alloc | apply pw_below_drewN | apply below_drew1) | exact HB.out))); rintro e w61 ⟨rfl, hb⟩; refine ⟨_, rfl, ?_⟩; have n0_ := Aside0.mk (below_step (by repeat (first | (with_reducible first | exact HB.out | apply below_alloc | apply pw_below_drewN | apply below_drew1) | exact HB.out)) hb); clear HB; have HB := n0_; clear n0_; (try clear hb); (try clear hb2); (try clear hk); (try clear hi)))
    go_ret
    exact ⟨by first | rfl | (simp [errW_none, errW_some] <;> rfl) | (simp [*, errW_none, errW_some] <;> rfl), by repeat (first | (with_reducible first | exact HB.out | apply below_alloc | apply pw_below_drewN | apply below_drew1) | exact HB.out)⟩

end
end Go.Proofs.YtpjfhdbkkomogaaDoor.Px
/- The plain law of TextBack. -/
namespace Go.Proofs.YtpjfhdbkkomogaaDoor.Mb
open Go.RowKit Go.Proofs.YtpjfhdbkkomogaaDoorW.PrintWords Go.Proofs.YtpjfhdbkkomogaaDoorW.PrintLast Go.Proofs.YtpjfhdbkkomogaaDoorW.PrintMore Go.Proofs.YtpjfhdbkkomogaaDoor.Px Go.Proofs.YtpjfhdbkkomogaaDoor.Gvn

/-- What every value's fields are within. -/
def In (v : S24) : Prop := -9223372036854775808 ≤ v.f1 ∧ v.f1 ≤ 9223372036854775807 ∧ v.f3 < 18446744073709551616
theorem is_val {k i : Int} {s : ByteArray} {f : Nat} {b : Bool} (hf : f < 18446744073709551616) (h : value_Is.f 1 k i s f = some b) (n : Nat) (hn : 1 ≤ n) : rialtoref2_Is.f n k i s f = some b := by
  obtain ⟨n, rfl⟩ : ∃ m, n = 1 + m := ⟨n - 1, by omega⟩
  refine grow_le (g := fun n => rialtoref2_Is.f n k i s f) (fun q => rialtoref2_Is.mono _ _ _ _ q) n ?_
  show rialtoref2_Is.f 1 k i s f = some b
  rw [ref_is k i s f hf, h]
theorem back_end {l : List S24} (hb : l.length ≤ 12) (hin : ∀ v ∈ l, In v) (hv : ∀ (i : Nat) (h : i < l.length), ∃ t, Vt l[i].f0 l[i].f1 l[i].f2 l[i].f3 t) (n : Nat) (hn : 60 ≤ n) :
    ((text_Row.f n l).bind fun t358 => ((text_Read.f n t358).bind fun bt359 => (if bt359.2 = 0 then ((rialtohelp_Vals.f n l bt359.1).bind fun t363 => (some t363)) else (some false)))) = some true := by
  have hc : ∃ ts : List (List UInt8), Rt l ts := by
    refine ⟨List.ofFn (fun i : Fin l.length => (hv i.1 i.2).choose), by simp, by omega, fun i h h' => ?_⟩
    rw [List.getElem_ofFn]
    exact (hv i h).choose_spec
  obtain ⟨ts, hts⟩ := hc
  rw [row_is hts n (by omega), Option.bind_some, read_is hts n (by omega), Option.bind_some]
  dsimp only
  rw [if_pos rfl, vals_self l (fun v hv => (hin v hv).2.2) (by omega) n (by omega)]
  rfl
theorem back_loop {l : List S24} (hb : l.length ≤ 12) (hin : ∀ v ∈ l, In v) (d : Nat) : ∀ (n i : Nat), i + d = l.length → d + 61 ≤ n →
    (∀ (j : Nat) (h : j < l.length), j < i → ∃ t, Vt l[j].f0 l[j].f1 l[j].f2 l[j].f3 t) → rialtolaw4_TextBack.l0 n l (i : Int) = some true := by
  induction d with
  | zero =>
    intro n i hi hn hv
    obtain ⟨n, rfl⟩ : ∃ m, n = m + 1 := ⟨n - 1, by omega⟩
    rw [rialtolaw4_TextBack.l0, if_neg (by omega)]
    exact back_end hb hin (fun j h => hv j h (by omega)) n (by omega)
  | succ d ih =>
    intro n i hi hn hv
    obtain ⟨n, rfl⟩ : ∃ m, n = m + 1 := ⟨n - 1, by omega⟩
    have hlt : i < l.length := by omega
    have hm : In l[i] := hin _ (List.getElem_mem _)
    obtain ⟨h0, h1, hf⟩ := hm
    rw [rialtolaw4_TextBack.l0, if_pos (by omega), if_pos (by omega), rd_is l i hlt]
    rcases is_or l[i].f0 l[i].f1 l[i].f2 l[i].f3 h0 h1 hf with ⟨hi1, t, ht⟩ | hi1
    · have hp : text_Print.f l[i].f0 l[i].f1 l[i].f2 l[i].f3 = some (B t) := ht.printF
      have hq : text_Parse.f (B t) = some (l[i].f0, l[i].f1, l[i].f2, l[i].f3, 0) := ht.parseF (by have := ht.short; omega)
      rw [hp, Option.bind_some, hq, Option.bind_some, is_val hf hi1 n (by omega), Option.bind_some]
      dsimp only
      rw [if_pos rfl, if_pos rfl, same_self _ _ _ _ hf, Option.bind_some, if_pos rfl, wrap_succ i (by omega)]
      refine ih n (i + 1) (by omega) (by omega) fun j h hj => ?_
      by_cases e : j = i
      · subst e; exact ⟨t, ht⟩
      · exact hv j h (by omega)
    · have hp : text_Print.f l[i].f0 l[i].f1 l[i].f2 l[i].f3 = some (B [63]) := printF_bad h0 h1 hf hi1
      have hq : text_Parse.f (B [63]) = some (0, 0, ⟨#[]⟩, 0, 30) := parseF_bad
      rw [hp, Option.bind_some, hq, Option.bind_some, is_val hf hi1 n (by omega), Option.bind_some]
      dsimp only
      rw [if_neg (by decide), Option.bind_some, toList_B, if_pos rfl]
      rfl
theorem back_is (l : List S24) (hb : l.length ≤ 9223372036854775807) (hin : ∀ v ∈ l, In v) : ∃ n, rialtolaw4_TextBack.f n l = some true := by
  refine ⟨l.length + 80, ?_⟩
  unfold rialtolaw4_TextBack.f
  have hk : rialtolaw4_known.f = some true := rfl
  rw [hk, Option.bind_some, if_pos rfl, few_is l 12 hb _ (by omega), Option.bind_some]
  cases hfew : fewB l 12 with
  | false => rw [if_neg (by decide)]
  | true =>
    rw [if_pos rfl]
    have h12 : l.length ≤ 12 := by
      unfold fewB at hfew
      rw [Bool.and_eq_true] at hfew
      have := of_decide_eq_true hfew.2
      omega
    exact back_loop h12 hin l.length _ 0 (by omega) (by omega) fun j h hj => absurd hj (by omega)
end Go.Proofs.YtpjfhdbkkomogaaDoor.Mb
