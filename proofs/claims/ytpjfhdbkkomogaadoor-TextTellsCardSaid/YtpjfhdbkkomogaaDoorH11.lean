/- Texts of this claim, one behind the other. -/
import Derived.Test.YtpjfhdbkkomogaaDoorH1
import Derived.Test.YtpjfhdbkkomogaaDoorH10
import Derived.Test.YtpjfhdbkkomogaaDoorH5
namespace Go.Proofs.YtpjfhdbkkomogaaDoor.Px
open Go.RowKit Go.Proofs.YtpjfhdbkkomogaaDoor.Gvn Go.Proofs.YtpjfhdbkkomogaaDoorW.PrintWords Go.Proofs.YtpjfhdbkkomogaaDoorW.PrintLast Go.Proofs.YtpjfhdbkkomogaaDoorW.PrintMore
attribute [local go_sem] run_store_float min2_int min_two
set_option linter.unusedVariables false
set_option linter.unusedSimpArgs false
mutual
def rialtoref4_Read.j0 : Nat → ByteArray → Int → Bool → Option ((List (S24)) × Int)
 | 0, _, _, _ => none
 | k + 1, x0, x4, x25 => if x25 = true then (some (([] : List (S24)), 30)) else (if 1 ≤ (wrap64 (x4 - 1)) then (if (wrap64 (x4 - 1)) ≤ (x0.size : Int) then (rialtoref4_Read.l0 k (x0.extract 1 ((wrap64 (x4 - 1)) : Int).toNat) ([] : List (S24))) else (none)) else (none))
def rialtoref4_Read.l0 : Nat → ByteArray → List (S24) → Option ((List (S24)) × Int)
 | 0, _, _ => none
 | k + 1, x0, x5 => if x0.toList = ([] : List UInt8) then (some (x5, 0)) else (rialtoref4_Read.l1 k x0 x5 0 false)
def rialtoref4_Read.l1 : Nat → ByteArray → List (S24) → Int → Bool → Option ((List (S24)) × Int)
 | 0, _, _, _, _ => none
 | k + 1, x0, x5, x6, x7 => if x6 < (x0.size : Int) then (if x7 = true then (rialtoref4_Read.j3 k x0 x5 x6 x7 true) else (if 0 ≤ x6 then (rialtoref4_Read.j3 k x0 x5 x6 x7 ((bt x0 x6) != 44)) else (none))) else (rialtoref4_Read.j3 k x0 x5 x6 x7 false)
def rialtoref4_Read.j3 : Nat → ByteArray → List (S24) → Int → Bool → Bool → Option ((List (S24)) × Int)
 | 0, _, _, _, _, _ => none
 | k + 1, x0, x5, x6, x7, x44 => if x44 = true then (if 0 ≤ x6 then (if x6 < (x0.size : Int) then (if (bt x0 x6) = 92 then (rialtoref4_Read.l1 k x0 x5 (wrap64 ((wrap64 (x6 + 1)) + 1)) x7) else (if (bt x0 x6) = 34 then (rialtoref4_Read.l1 k x0 x5 (wrap64 (x6 + 1)) (!x7)) else (rialtoref4_Read.l1 k x0 x5 (wrap64 (x6 + 1)) x7))) else (none)) else (none)) else (if 0 ≤ (mn x6 (x0.size : Int)) then (if (mn x6 (x0.size : Int)) ≤ (x0.size : Int) then ((rialtoref4_Parse.f k (x0.extract 0 ((mn x6 (x0.size : Int)) : Int).toNat)).bind fun bt298 => (if bt298.2.2.2.2 = 0 then (if x5.length < 3518437208883 then ((some (x5 ++ [(⟨bt298.1, bt298.2.1, bt298.2.2.1, bt298.2.2.2.1⟩ : S24)] : List (S24))).bind fun y304 => (if (x0.extract ((mn x6 (x0.size : Int)) : Int).toNat x0.size).toList = ([] : List UInt8) then (some (y304, 0)) else (if ((x0.extract ((mn x6 (x0.size : Int)) : Int).toNat x0.size).size : Int) < 3 then (some (([] : List (S24)), 30)) else (if 0 ≤ 2 then (if 2 ≤ ((x0.extract ((mn x6 (x0.size : Int)) : Int).toNat x0.size).size : Int) then (if ((x0.extract ((mn x6 (x0.size : Int)) : Int).toNat x0.size).extract 0 2).toList = ([44, 32] : List UInt8) then (rialtoref4_Read.l0 k ((x0.extract ((mn x6 (x0.size : Int)) : Int).toNat x0.size).extract 2 (x0.extract ((mn x6 (x0.size : Int)) : Int).toNat x0.size).size) y304) else (some (([] : List (S24)), 30))) else (none)) else (none))))) else (none)) else (some (([] : List (S24)), 30)))) else (none)) else (none))
end
def rialtoref4_Read.f (k : Nat) (a0 : ByteArray) : Option ((List (S24)) × Int) := if (a0.size : Int) < 2 then (rialtoref4_Read.j0 k a0 (a0.size : Int) true) else (if 0 < (a0.size : Int) then (if (bt a0 0) = 40 then (if 0 ≤ (wrap64 ((a0.size : Int) - 1)) then (if (wrap64 ((a0.size : Int) - 1)) < (a0.size : Int) then (rialtoref4_Read.j0 k a0 (a0.size : Int) ((bt a0 (wrap64 ((a0.size : Int) - 1))) != 41)) else (none)) else (none)) else (rialtoref4_Read.j0 k a0 (a0.size : Int) true)) else (none))
theorem rialtoref4_Read.mono_l : ∀ k, (∀ y0 y1 y2, LeO (rialtoref4_Read.j0 k y0 y1 y2) (rialtoref4_Read.j0 (k + 1) y0 y1 y2)) ∧ (∀ y0 y1, LeO (rialtoref4_Read.l0 k y0 y1) (rialtoref4_Read.l0 (k + 1) y0 y1)) ∧ (∀ y0 y1 y2 y3, LeO (rialtoref4_Read.l1 k y0 y1 y2 y3) (rialtoref4_Read.l1 (k + 1) y0 y1 y2 y3)) ∧ (∀ y0 y1 y2 y3 y4, LeO (rialtoref4_Read.j3 k y0 y1 y2 y3 y4) (rialtoref4_Read.j3 (k + 1) y0 y1 y2 y3 y4))
 | 0 => ⟨fun _ _ _ r h => by simp [rialtoref4_Read.j0] at h, fun _ _ r h => by simp [rialtoref4_Read.l0] at h, fun _ _ _ _ r h => by simp [rialtoref4_Read.l1] at h, fun _ _ _ _ _ r h => by simp [rialtoref4_Read.j3] at h⟩
 | k + 1 => by
  obtain ⟨ih0, ih1, ih2, ih3⟩ := rialtoref4_Read.mono_l k
  refine ⟨?_, ?_, ?_, ?_⟩
  ·intro y0 y1 y2
   unfold rialtoref4_Read.j0
   repeat' first
   | (with_reducible exact ih0 _ _ _)
   | (with_reducible exact ih1 _ _)
   | (with_reducible exact ih2 _ _ _ _)
   | (with_reducible exact ih3 _ _ _ _ _)
   | (with_reducible exact rialtoref4_Parse.mono _ _)
   | (with_reducible exact LeO.refl _)
   | (with_reducible exact LeO.none _)
   | (with_reducible refine LeO.ite ?_ ?_)
   | (with_reducible refine LeO.bind ?_ (fun _ => ?_))
   | exact ih0 _ _ _
   | exact ih1 _ _
   | exact ih2 _ _ _ _
   | exact ih3 _ _ _ _ _
   | exact rialtoref4_Parse.mono _ _
   | exact LeO.none _
   | refine LeO.ite ?_ ?_
   | refine LeO.bind ?_ (fun _ => ?_)
  ·intro y0 y1
   unfold rialtoref4_Read.l0
   repeat' first
   | (with_reducible exact ih0 _ _ _)
   | (with_reducible exact ih1 _ _)
   | (with_reducible exact ih2 _ _ _ _)
   | (with_reducible exact ih3 _ _ _ _ _)
   | (with_reducible exact rialtoref4_Parse.mono _ _)
   | (with_reducible exact LeO.refl _)
   | (with_reducible exact LeO.none _)
   | (with_reducible refine LeO.ite ?_ ?_)
   | (with_reducible refine LeO.bind ?_ (fun _ => ?_))
   | exact ih0 _ _ _
   | exact ih1 _ _
   | exact ih2 _ _ _ _
   | exact ih3 _ _ _ _ _
   | exact rialtoref4_Parse.mono _ _
   | exact LeO.none _
   | refine LeO.ite ?_ ?_
   | refine LeO.bind ?_ (fun _ => ?_)
  ·intro y0 y1 y2 y3
   unfold rialtoref4_Read.l1
   repeat' first
   | (with_reducible exact ih0 _ _ _)
   | (with_reducible exact ih1 _ _)
   | (with_reducible exact ih2 _ _ _ _)
   | (with_reducible exact ih3 _ _ _ _ _)
   | (with_reducible exact rialtoref4_Parse.mono _ _)
   | (with_reducible exact LeO.refl _)
   | (with_reducible exact LeO.none _)
   | (with_reducible refine LeO.ite ?_ ?_)
   | (with_reducible refine LeO.bind ?_ (fun _ => ?_))
   | exact ih0 _ _ _
   | exact ih1 _ _
   | exact ih2 _ _ _ _
   | exact ih3 _ _ _ _ _
   | exact rialtoref4_Parse.mono _ _
   | exact LeO.none _
   | refine LeO.ite ?_ ?_
   | refine LeO.bind ?_ (fun _ => ?_)
  ·intro y0 y1 y2 y3 y4
   unfold rialtoref4_Read.j3
   repeat' first
   | (with_reducible exact ih0 _ _ _)
   | (with_reducible exact ih1 _ _)
   | (with_reducible exact ih2 _ _ _ _)
   | (with_reducible exact ih3 _ _ _ _ _)
   | (with_reducible exact rialtoref4_Parse.mono _ _)
   | (with_reducible exact LeO.refl _)
   | (with_reducible exact LeO.none _)
   | (with_reducible refine LeO.ite ?_ ?_)
   | (with_reducible refine LeO.bind ?_ (fun _ => ?_))
   | exact ih0 _ _ _
   | exact ih1 _ _
   | exact ih2 _ _ _ _
   | exact ih3 _ _ _ _ _
   | exact rialtoref4_Parse.mono _ _
   | exact LeO.none _
   | refine LeO.ite ?_ ?_
   | refine LeO.bind ?_ (fun _ => ?_)
theorem rialtoref4_Read.mono : ∀ a0 k, LeO (rialtoref4_Read.f k a0) (rialtoref4_Read.f (k + 1) a0) := by
 intro a0 k
 obtain ⟨ih0, ih1, ih2, ih3⟩ := rialtoref4_Read.mono_l k
 unfold rialtoref4_Read.f
 repeat' first
   | (with_reducible exact ih0 _ _ _)
   | (with_reducible exact ih1 _ _)
   | (with_reducible exact ih2 _ _ _ _)
   | (with_reducible exact ih3 _ _ _ _ _)
   | (with_reducible exact rialtoref4_Parse.mono _ _)
   | (with_reducible exact LeO.refl _)
   | (with_reducible exact LeO.none _)
   | (with_reducible refine LeO.ite ?_ ?_)
   | (with_reducible refine LeO.bind ?_ (fun _ => ?_))
   | exact ih0 _ _ _
   | exact ih1 _ _
   | exact ih2 _ _ _ _
   | exact ih3 _ _ _ _ _
   | exact rialtoref4_Parse.mono _ _
   | exact LeO.none _
   | refine LeO.ite ?_ ?_
   | refine LeO.bind ?_ (fun _ => ?_)
set_option maxHeartbeats 8000000 in
set_option maxRecDepth 100000 in
theorem rialtoref4_Read.calls (k : Nat) (a0 : ByteArray) (r1 : List (S24)) (r2 : Int) (w : World) (h : rialtoref4_Read.f k a0 = some (r1, r2)) :
  Calls Tryd.prog 17 #[.string a0] w fun e w' => ∃ v0_ : Value, e = .returned (.tuple #[v0_, .int .i64 r2]) ∧ Kd.R k24 24 w' w.heap.size (fun _ => True) v0_ r1 ∧ Below w.heap.size w w' := by
 have hu24 := Tryd.underlying24
 have HB := Aside0.mk (Below.refl w.heap.size w)
 have H : (if (a0.size : Int) < 2 then (rialtoref4_Read.j0 k a0 (a0.size : Int) true) else (if 0 < (a0.size : Int) then (if (bt a0 0) = 40 then (if 0 ≤ (wrap64 ((a0.size : Int) - 1)) then (if (wrap64 ((a0.size : Int) - 1)) < (a0.size : Int) then (rialtoref4_Read.j0 k a0 (a0.size : Int) ((bt a0 (wrap64 ((a0.size : Int) - 1))) != 41)) else (none)) else (none)) else (rialtoref4_Read.j0 k a0 (a0.size : Int) true)) else (none))) = some (r1, r2) := h
 clear h
 have HC2 := Aside0.mk H
 clear H
 have k23 := run23
 have k22 := run22
 go_enter Tryd.func17, Tryd.ntmps17
 go_upto_region 2 with (fail)
 go_cut [25] (fun v25 wc => ∃ (kq : Nat) (x25_1 : Bool), v25 = .bool x25_1 ∧ Aside0 (rialtoref4_Read.j0 kq a0 (a0.size : Int) x25_1 = some (r1, r2)) ∧ Aside0 (kq ≤ k) ∧ Aside0 (Below w.heap.size w wc))
 case first =>
  have H := HC2.out
  clear HC2
  by_cases c3 : (a0.size : Int) < 2
  ·rw [if_pos c3] at H
   have c3b0 : decide ((a0.size : Int) < 2) = true := decide_eq_true c3
   have c3b1 : decide (a0.size < 2) = true := decide_eq_true (by omega)
   clear c3
   (first | rw [c3b0] | (simp only [i64_w, i32_w]; rw [c3b0]) | skip)
   have H' := Aside0.mk H
   clear H
   go_wp2
   go_meet
   case rel => exact ⟨_, (true), (by first | rfl | (simp; done) | (simp [*]; done)), H', ⟨by first | omega | exact Nat.le_refl _⟩, ⟨by repeat (first | (with_reducible first | exact HB.out | apply below_alloc | apply pw_below_drewN | apply below_drew1) | exact HB.out)⟩⟩
  ·rw [if_neg c3] at H
   have c3b0 : decide ((a0.size : Int) < 2) = false := decide_eq_false c3
   have c3b1 : decide (a0.size < 2) = false := decide_eq_false (by omega)
   clear c3
   (first | rw [c3b0] | (simp only [i64_w, i32_w]; rw [c3b0]) | skip)
   by_cases c4 : 0 < (a0.size : Int)
   ·rw [if_pos c4] at H
    have c4b0 : decide (0 < (a0.size : Int)) = true := decide_eq_true c4
    have c4b1 : decide (0 < a0.size) = true := decide_eq_true (by omega)
    clear c4
    by_cases c6 : (bt a0 0) = 40
    ·rw [if_pos c6] at H
     have c6b0 : ((bt a0 0) == 40) = true := beq_iff_eq.mpr c6
     have c6b1 : ((bt a0 0) != 40) = false := bne_eq_false_iff_eq.mpr c6
     clear c6
     obtain ⟨ji7, hji7⟩ : ∃ j_ : Int, (wrap64 ((a0.size : Int) - 1)) = j_ := ⟨_, rfl⟩
     replace H : (if 0 ≤ (ji7) then (if (ji7) < (a0.size : Int) then (rialtoref4_Read.j0 k a0 (a0.size : Int) ((bt a0 (ji7)) != 41)) else (none)) else (none)) = some (r1, r2) := by first | (rw [hji7] at H; exact H) | (simp only [hji7] at H ⊢; exact H)
     have hji7w : (IntKind.i64.wrap ((a0.size : Int) - 1)) = ji7 := (i64_w _).trans hji7
     by_cases c8 : 0 ≤ (ji7)
     ·rw [if_pos c8] at H
      have c8b0 : decide (0 ≤ (ji7)) = true := decide_eq_true c8
      clear c8
      by_cases c9 : (ji7) < (a0.size : Int)
      ·rw [if_pos c9] at H
       have c9b0 : decide ((ji7) < (a0.size : Int)) = true := decide_eq_true c9
       clear c9
       have H' := Aside0.mk H
       clear H
       have p5 : 0 ≤ (0 : Int) := (by omega)
       have q5 : 0 < a0.size := (by have : (0 : Int) < (a0.size : Int) := of_decide_eq_true (by first | (with_reducible assumption) | assumption); omega)
       have hx5 : ∀ h : 0 < a0.size, ((a0[0]'h).toNat : Int) = bt a0 0 := bt_at a0 0
       clear p5
       have qi5 : (0 < (a0.size : Int)) = True := eq_true (of_decide_eq_true (by first | (with_reducible assumption) | assumption))
       replace q5 := eq_true q5
       have p10 : 0 ≤ ((ji7) : Int) := of_decide_eq_true (by first | (with_reducible assumption) | assumption)
       have q10 : (ji7) < (a0.size : Int) := of_decide_eq_true (by first | (with_reducible assumption) | assumption)
       have hx10 := bt_at a0 (ji7)
       replace p10 := eq_true p10
       replace q10 := eq_true q10
       go_wp2
       go_meet
       case rel => exact ⟨_, (((bt a0 (ji7)) != 41)), (by first | rfl | (simp; done) | (simp only [← hji7] <;> (first | rfl | simp)) | (simp [*]; done)), H', ⟨by first | omega | exact Nat.le_refl _⟩, ⟨by repeat (first | (with_reducible first | exact HB.out | apply below_alloc | apply pw_below_drewN | apply below_drew1) | exact HB.out)⟩⟩
      ·rw [if_neg c9] at H
       exact absurd H (by simp)
     ·rw [if_neg c8] at H
      exact absurd H (by simp)
    ·rw [if_neg c6] at H
     have c6b0 : ((bt a0 0) == 40) = false := beq_eq_false_iff_ne.mpr c6
     have c6b1 : ((bt a0 0) != 40) = true := bne_iff_ne.mpr c6
     have H' := Aside0.mk H
     clear H
     have p5 : 0 ≤ (0 : Int) := (by omega)
     have q5 : 0 < a0.size := (by have : (0 : Int) < (a0.size : Int) := of_decide_eq_true (by first | (with_reducible assumption) | assumption); omega)
     have hx5 : ∀ h : 0 < a0.size, ((a0[0]'h).toNat : Int) = bt a0 0 := bt_at a0 0
     clear p5
     have qi5 : (0 < (a0.size : Int)) = True := eq_true (of_decide_eq_true (by first | (with_reducible assumption) | assumption))
     replace q5 := eq_true q5
     go_wp2
     go_meet
     case rel => exact ⟨_, (true), (by first | rfl | (simp; done) | (simp [*]; done)), H', ⟨by first | omega | exact Nat.le_refl _⟩, ⟨by repeat (first | (with_reducible first | exact HB.out | apply below_alloc | apply pw_below_drewN | apply below_drew1) | exact HB.out)⟩⟩
   ·rw [if_neg c4] at H
    exact absurd H (by simp)
 case rest =>
  clear HC2
  try clear c1;try clear p1;try clear q1;try clear hx1;try clear p2;try clear c3;try clear c3b0;try clear c3b1;try clear c4;try clear c4b0;try clear c4b1;try clear p5;try clear q5;try clear hx5;try clear qi5;try clear c6;try clear c6b0;try clear c6b1;try clear p6;try clear c8;try clear c8b0;try clear c9;try clear c9b0;try clear p10;try clear q10;try clear hx10;try clear p10;try clear p5;try clear q10;try clear q5
  obtain ⟨kq, x25_1, rfl, HA, HJ1, HB⟩ := hcut
  cases kq with
  | zero => exact absurd HA.out (by simp [rialtoref4_Read.j0])
  | succ kj1 =>
   have H := HA.out
   clear HA
   simp only [rialtoref4_Read.j0] at H
   by_cases c11 : x25_1 = true
   ·subst c11
    have H1 : (some (([] : List (S24)), 30)) = some (r1, r2) := by rw [if_pos rfl] at H; exact H
    clear H
    have H := H1
    clear H1
    simp only [Option.some.injEq, Prod.mk.injEq] at H
    obtain ⟨rfl, rfl⟩ := H
    go_wp2
    go_ret2
    exact ⟨_, by first | rfl | (simp [errW_none, errW_some] <;> rfl) | (simp [*, errW_none, errW_some] <;> rfl), by first | exact Kd.R_nil _ _ _ _ _ | exact Kd.N_nil _ _ _ _ _ | exact Kd.V_nil _ _ _ _ _ | exact Kd.Q_nil _ _ _ _ _ | exact Kd.S_nil _ _ _ _ _, by repeat (first | (with_reducible first | exact HB.out | apply below_alloc | apply pw_below_drewN | apply below_drew1) | exact HB.out)⟩
   ·replace c11 := Bool.eq_false_iff.mpr c11
    subst c11
    have H1 : (if 1 ≤ (wrap64 ((a0.size : Int) - 1)) then (if (wrap64 ((a0.size : Int) - 1)) ≤ (a0.size : Int) then (rialtoref4_Read.l0 kj1 (a0.extract 1 ((wrap64 ((a0.size : Int) - 1)) : Int).toNat) ([] : List (S24))) else (none)) else (none)) = some (r1, r2) := by rw [if_neg (show ¬ (false = true) by decide)] at H; exact H
    clear H
    have H := H1
    clear H1
    by_cases c12 : 1 ≤ (wrap64 ((a0.size : Int) - 1))
    ·rw [if_pos c12] at H
     have c12b0 := eq_true c12
     have c12b1 : decide (1 ≤ (wrap64 ((a0.size : Int) - 1))) = true := decide_eq_true c12
     clear c12
     by_cases c13 : (wrap64 ((a0.size : Int) - 1)) ≤ (a0.size : Int)
     ·rw [if_pos c13] at H
      have c13b0 := eq_true c13
      have c13b1 : decide ((wrap64 ((a0.size : Int) - 1)) ≤ (a0.size : Int)) = true := decide_eq_true c13
      clear c13
      have H' := Aside0.mk H
      clear H
      go_wp2
      go_loopg [0, 5] kj1 (fun kq v0 v5 w' => ∃ (x0_2 : ByteArray) (x5_2 : List (S24)), v0 = .string x0_2 ∧ Aside0 (rialtoref4_Read.l0 kq x0_2 x5_2 = some (r1, r2)) ∧ Aside0 (kq ≤ kj1) ∧ Aside0 (Kd.R k24 24 w' w.heap.size (fun _ => True) v5 x5_2) ∧ Aside0 (Below w.heap.size w w'))
      case atStart => exact ⟨(a0.extract 1 ((wrap64 ((a0.size : Int) - 1)) : Int).toNat), (([] : List (S24))), (by first | rfl | (simp; done) | (simp [*]; done)), H', ⟨Nat.le_refl _⟩, ⟨by first | exact Kd.R_nil _ _ _ _ _ | exact Kd.N_nil _ _ _ _ _ | exact Kd.V_nil _ _ _ _ _ | exact Kd.Q_nil _ _ _ _ _ | exact Kd.S_nil _ _ _ _ _⟩, ⟨by repeat (first | (with_reducible first | exact HB.out | apply below_alloc | apply pw_below_drewN | apply below_drew1) | exact HB.out)⟩⟩
      case round =>
       clear H'
       try clear c1;try clear p1;try clear q1;try clear hx1;try clear p2;try clear c3;try clear c3b0;try clear c3b1;try clear c4;try clear c4b0;try clear c4b1;try clear p5;try clear q5;try clear hx5;try clear qi5;try clear c6;try clear c6b0;try clear c6b1;try clear p6;try clear c8;try clear c8b0;try clear c9;try clear c9b0;try clear p10;try clear q10;try clear hx10;try clear c11;try clear c12;try clear c12b0;try clear c12b1;try clear c13;try clear c13b0;try clear c13b1;try clear p1;try clear p10;try clear p2;try clear p5;try clear p6;try clear q1;try clear q10;try clear q5
       obtain ⟨x0_2, x5_2, rfl, HA, HK2, HO_5, HB⟩ := hrel
       cases gk with
       | zero => exact absurd HA.out (by simp [rialtoref4_Read.l0])
       | succ k2 =>
        have H := HA.out
        clear HA
        simp only [rialtoref4_Read.l0] at H
        by_cases c14 : x0_2.toList = ([] : List UInt8)
        ·rw [if_pos c14] at H
         have c14b0 : (x0_2.toList == ([] : List UInt8)) = true := beq_iff_eq.mpr c14
         have c14b1 : (x0_2.toList != ([] : List UInt8)) = false := bne_eq_false_iff_eq.mpr c14
         clear c14
         simp only [Option.some.injEq, Prod.mk.injEq] at H
         obtain ⟨rfl, rfl⟩ := H
         go_wp2
         go_ret2
         exact ⟨_, by first | rfl | (simp [errW_none, errW_some] <;> rfl) | (simp [*, errW_none, errW_some] <;> rfl), by (with_reducible repeat (first | apply Kd.R_alloc | apply Kd.R_drewN | apply Kd.R_drew)); exact HO_5.out, by repeat (first | (with_reducible first | exact HB.out | apply below_alloc | apply pw_below_drewN | apply below_drew1) | exact HB.out)⟩
        ·rw [if_neg c14] at H
         have c14b0 : (x0_2.toList == ([] : List UInt8)) = false := beq_eq_false_iff_ne.mpr c14
         have c14b1 : (x0_2.toList != ([] : List UInt8)) = true := bne_iff_ne.mpr c14
         have H' := Aside0.mk H
         clear H
         go_wp2
         go_loopg [6, 7] k2 (fun kq v6 v7 w' => ∃ (x6_3 : Int) (x7_3 : Bool), v6 = .int .i64 x6_3 ∧ v7 = .bool x7_3 ∧ Aside0 (rialtoref4_Read.l1 kq x0_2 x5_2 x6_3 x7_3 = some (r1, r2)) ∧ Aside0 (kq ≤ k2) ∧ Aside0 (Kd.R k24 24 w' w.heap.size (fun _ => True) u5 x5_2) ∧ Aside0 (Below w.heap.size w w'))
         case atStart => exact ⟨(0), (false), (by first | rfl | (simp; done) | (simp [*]; done)), (by first | rfl | (simp; done) | (simp [*]; done)), H', ⟨Nat.le_refl _⟩, ⟨by (with_reducible repeat (first | apply Kd.R_alloc | apply Kd.R_drewN | apply Kd.R_drew)); exact HO_5.out⟩, ⟨by repeat (first | (with_reducible first | exact HB.out | apply below_alloc | apply pw_below_drewN | apply below_drew1) | exact HB.out)⟩⟩
         case round =>
          clear H'
          try clear c1;try clear p1;try clear q1;try clear hx1;try clear p2;try clear c3;try clear c3b0;try clear c3b1;try clear c4;try clear c4b0;try clear c4b1;try clear p5;try clear q5;try clear hx5;try clear qi5;try clear c6;try clear c6b0;try clear c6b1;try clear p6;try clear c8;try clear c8b0;try clear c9;try clear c9b0;try clear p10;try clear q10;try clear hx10;try clear c11;try clear c12;try clear c12b0;try clear c12b1;try clear c13;try clear c13b0;try clear c13b1;try clear c14;try clear c14b0;try clear c14b1;try clear p1;try clear p10;try clear p2;try clear p5;try clear p6;try clear q1;try clear q10;try clear q5
          obtain ⟨x6_3, x7_3, rfl, rfl, HA, HK3, HO_5, HB⟩ := hrel
          cases gk with
          | zero => exact absurd HA.out (by simp [rialtoref4_Read.l1])
          | succ k3 =>
           have H := HA.out
           clear HA
           simp only [rialtoref4_Read.l1] at H
           have HC15 := Aside0.mk H
           clear H
           go_upto_region 9 with (fail)
           go_cut [44] (fun v44 wc => ∃ (kq : Nat) (x44_14 : Bool), v44 = .bool x44_14 ∧ Aside0 (rialtoref4_Read.j3 kq x0_2 x5_2 x6_3 x7_3 x44_14 = some (r1, r2)) ∧ Aside0 (kq ≤ k3) ∧ Aside0 (Kd.R k24 24 wc w.heap.size (fun _ => True) u5 x5_2) ∧ Aside0 (Below w.heap.size w wc))
           case first =>
            have H := HC15.out
            clear HC15
            by_cases c16 : x6_3 < (x0_2.size : Int)
            ·rw [if_pos c16] at H
             have c16b0 : decide (x6_3 < (x0_2.size : Int)) = true := decide_eq_true c16
             clear c16
             (first | rw [c16b0] | (simp only [i64_w, i32_w]; rw [c16b0]) | skip)
             by_cases c17 : x7_3 = true
             ·subst c17
              have H1 : (rialtoref4_Read.j3 k3 x0_2 x5_2 x6_3 true true) = some (r1, r2) := by rw [if_pos rfl] at H; exact H
              clear H
              have H := H1
              clear H1
              have H' := Aside0.mk H
              clear H
              go_wp2
              go_meet
              case rel => exact ⟨_, (true), (by first | rfl | (simp; done) | (simp [*]; done)), H', ⟨by have := HJ1.out; have := HK2.out; have := HK3.out; first | omega | exact Nat.le_refl _⟩, ⟨by (with_reducible repeat (first | apply Kd.R_alloc | apply Kd.R_drewN | apply Kd.R_drew)); exact HO_5.out⟩, ⟨by repeat (first | (with_reducible first | exact HB.out | apply below_alloc | apply pw_below_drewN | apply below_drew1) | exact HB.out)⟩⟩
             ·replace c17 := Bool.eq_false_iff.mpr c17
              subst c17
              have H1 : (if 0 ≤ x6_3 then (rialtoref4_Read.j3 k3 x0_2 x5_2 x6_3 false ((bt x0_2 x6_3) != 44)) else (none)) = some (r1, r2) := by rw [if_neg (show ¬ (false = true) by decide)] at H; exact H
              clear H
              have H := H1
              clear H1
              by_cases c18 : 0 ≤ x6_3
              ·rw [if_pos c18] at H
               have c18b0 : decide (0 ≤ x6_3) = true := decide_eq_true c18
               clear c18
               have H' := Aside0.mk H
               clear H
               have p19 : 0 ≤ (x6_3 : Int) := of_decide_eq_true (by first | (with_reducible assumption) | assumption)
               have q19 : x6_3 < (x0_2.size : Int) := of_decide_eq_true (by first | (with_reducible assumption) | assumption)
               have hx19 := bt_at x0_2 x6_3
               replace p19 := eq_true p19
               replace q19 := eq_true q19
               go_wp2
               go_meet
               case rel => exact ⟨_, (((bt x0_2 x6_3) != 44)), (by first | rfl | (simp; done) | (simp [*]; done)), H', ⟨by have := HJ1.out; have := HK2.out; have := HK3.out; first | omega | exact Nat.le_refl _⟩, ⟨by (with_reducible repeat (first | apply Kd.R_alloc | apply Kd.R_drewN | apply Kd.R_drew)); exact HO_5.out⟩, ⟨by repeat (first | (with_reducible first | exact HB.out | apply below_alloc | apply pw_below_drewN | apply below_drew1) | exact HB.out)⟩⟩
              ·rw [if_neg c18] at H
               exact absurd H (by simp)
            ·rw [if_neg c16] at H
             have c16b0 : decide (x6_3 < (x0_2.size : Int)) = false := decide_eq_false c16
             clear c16
             (first | rw [c16b0] | (simp only [i64_w, i32_w]; rw [c16b0]) | skip)
             have H' := Aside0.mk H
             clear H
             go_wp2
             go_meet
             case rel => exact ⟨_, (false), (by first | rfl | (simp; done) | (simp [*]; done)), H', ⟨by have := HJ1.out; have := HK2.out; have := HK3.out; first | omega | exact Nat.le_refl _⟩, ⟨by (with_reducible repeat (first | apply Kd.R_alloc | apply Kd.R_drewN | apply Kd.R_drew)); exact HO_5.out⟩, ⟨by repeat (first | (with_reducible first | exact HB.out | apply below_alloc | apply pw_below_drewN | apply below_drew1) | exact HB.out)⟩⟩
           case rest =>
            clear HC15
            try clear c1;try clear p1;try clear q1;try clear hx1;try clear p2;try clear c3;try clear c3b0;try clear c3b1;try clear c4;try clear c4b0;try clear c4b1;try clear p5;try clear q5;try clear hx5;try clear qi5;try clear c6;try clear c6b0;try clear c6b1;try clear p6;try clear c8;try clear c8b0;try clear c9;try clear c9b0;try clear p10;try clear q10;try clear hx10;try clear c11;try clear c12;try clear c12b0;try clear c12b1;try clear c13;try clear c13b0;try clear c13b1;try clear c14;try clear c14b0;try clear c14b1;try clear c16;try clear c16b0;try clear c17;try clear c18;try clear c18b0;try clear p19;try clear q19;try clear hx19;try clear p1;try clear p10;try clear p19;try clear p2;try clear p5;try clear p6;try clear q1;try clear q10;try clear q19;try clear q5
            obtain ⟨kq, x44_14, rfl, HA, HJ14, HO_5, HB⟩ := hcut
            cases kq with
            | zero => exact absurd HA.out (by simp [rialtoref4_Read.j3])
            | succ kj14 =>
             have H := HA.out
             clear HA
             simp only [rialtoref4_Read.j3] at H
             by_cases c20 : x44_14 = true
             ·subst c20
              have H1 : (if 0 ≤ x6_3 then (if x6_3 < (x0_2.size : Int) then (if (bt x0_2 x6_3) = 92 then (rialtoref4_Read.l1 kj14 x0_2 x5_2 (wrap64 ((wrap64 (x6_3 + 1)) + 1)) x7_3) else (if (bt x0_2 x6_3) = 34 then (rialtoref4_Read.l1 kj14 x0_2 x5_2 (wrap64 (x6_3 + 1)) (!x7_3)) else (rialtoref4_Read.l1 kj14 x0_2 x5_2 (wrap64 (x6_3 + 1)) x7_3))) else (none)) else (none)) = some (r1, r2) := by rw [if_pos rfl] at H; exact H
              clear H
              have H := H1
              clear H1
              by_cases c21 : 0 ≤ x6_3
              ·rw [if_pos c21] at H
               have c21b0 : decide (0 ≤ x6_3) = true := decide_eq_true c21
               clear c21
               by_cases c22 : x6_3 < (x0_2.size : Int)
               ·rw [if_pos c22] at H
                have c22b0 : decide (x6_3 < (x0_2.size : Int)) = true := decide_eq_true c22
                clear c22
                by_cases c24 : (bt x0_2 x6_3) = 92
                ·rw [if_pos c24] at H
                 have c24b0 : ((bt x0_2 x6_3) == 92) = true := beq_iff_eq.mpr c24
                 have c24b1 : ((bt x0_2 x6_3) != 92) = false := bne_eq_false_iff_eq.mpr c24
                 clear c24
                 have H' := Aside0.mk H
                 clear H
                 have p23 : 0 ≤ (x6_3 : Int) := of_decide_eq_true (by first | (with_reducible assumption) | assumption)
                 have q23 : x6_3 < (x0_2.size : Int) := of_decide_eq_true (by first | (with_reducible assumption) | assumption)
                 have hx23 := bt_at x0_2 x6_3
                 replace p23 := eq_true p23
                 replace q23 := eq_true q23
                 go_wp2
                 go_roundg kj14
                 case measure => have := HJ1.out; have := HK2.out; have := HK3.out; have := HJ14.out; omega
                 case rel => exact ⟨(wrap64 ((wrap64 (x6_3 + 1)) + 1)), (x7_3), (by first | rfl | (simp; done) | (simp [*]; done)), (by first | rfl | (simp; done) | (simp [*]; done)), H', ⟨by have := HJ1.out; have := HK2.out; have := HK3.out; have := HJ14.out; omega⟩, ⟨by (with_reducible repeat (first | apply Kd.R_alloc | apply Kd.R_drewN | apply Kd.R_drew)); exact HO_5.out⟩, ⟨by repeat (first | (with_reducible first | exact HB.out | apply below_alloc | apply pw_below_drewN | apply below_drew1) | exact HB.out)⟩⟩
                ·rw [if_neg c24] at H
                 have c24b0 : ((bt x0_2 x6_3) == 92) = false := beq_eq_false_iff_ne.mpr c24
                 have c24b1 : ((bt x0_2 x6_3) != 92) = true := bne_iff_ne.mpr c24
                 by_cases c26 : (bt x0_2 x6_3) = 34
                 ·rw [if_pos c26] at H
                  have c26b0 : ((bt x0_2 x6_3) == 34) = true := beq_iff_eq.mpr c26
                  have c26b1 : ((bt x0_2 x6_3) != 34) = false := bne_eq_false_iff_eq.mpr c26
                  clear c26
                  have H' := Aside0.mk H
                  clear H
                  have p23 : 0 ≤ (x6_3 : Int) := of_decide_eq_true (by first | (with_reducible assumption) | assumption)
                  have q23 : x6_3 < (x0_2.size : Int) := of_decide_eq_true (by first | (with_reducible assumption) | assumption)
                  have hx23 := bt_at x0_2 x6_3
                  replace p23 := eq_true p23
                  replace q23 := eq_true q23
                  have p25 : 0 ≤ (x6_3 : Int) := of_decide_eq_true (by first | (with_reducible assumption) | assumption)
                  have q25 : x6_3 < (x0_2.size : Int) := of_decide_eq_true (by first | (with_reducible assumption) | assumption)
                  have hx25 := bt_at x0_2 x6_3
                  replace p25 := eq_true p25
                  replace q25 := eq_true q25
                  go_wp2
                  go_roundg kj14
                  case measure => have := HJ1.out; have := HK2.out; have := HK3.out; have := HJ14.out; omega
                  case rel => exact ⟨(wrap64 (x6_3 + 1)), (!x7_3), (by first | rfl | (simp; done) | (simp [*]; done)), (by first | rfl | (simp; done) | (simp [*]; done)), H', ⟨by have := HJ1.out; have := HK2.out; have := HK3.out; have := HJ14.out; omega⟩, ⟨by (with_reducible repeat (first | apply Kd.R_alloc | apply Kd.R_drewN | apply Kd.R_drew)); exact HO_5.out⟩, ⟨by repeat (first | (with_reducible first | exact HB.out | apply below_alloc | apply pw_below_drewN | apply below_drew1) | exact HB.out)⟩⟩
                 ·rw [if_neg c26] at H
                  have c26b0 : ((bt x0_2 x6_3) == 34) = false := beq_eq_false_iff_ne.mpr c26
                  have c26b1 : ((bt x0_2 x6_3) != 34) = true := bne_iff_ne.mpr c26
                  have H' := Aside0.mk H
                  clear H
                  have p23 : 0 ≤ (x6_3 : Int) := of_decide_eq_true (by first | (with_reducible assumption) | assumption)
                  have q23 : x6_3 < (x0_2.size : Int) := of_decide_eq_true (by first | (with_reducible assumption) | assumption)
                  have hx23 := bt_at x0_2 x6_3
                  replace p23 := eq_true p23
                  replace q23 := eq_true q23
                  have p25 : 0 ≤ (x6_3 : Int) := of_decide_eq_true (by first | (with_reducible assumption) | assumption)
                  have q25 : x6_3 < (x0_2.size : Int) := of_decide_eq_true (by first | (with_reducible assumption) | assumption)
                  have hx25 := bt_at x0_2 x6_3
                  replace p25 := eq_true p25
                  replace q25 := eq_true q25
                  go_wp2
                  go_roundg kj14
                  case measure => have := HJ1.out; have := HK2.out; have := HK3.out; have := HJ14.out; omega
                  case rel => exact ⟨(wrap64 (x6_3 + 1)), (x7_3), (by first | rfl | (simp; done) | (simp [*]; done)), (by first | rfl | (simp; done) | (simp [*]; done)), H', ⟨by have := HJ1.out; have := HK2.out; have := HK3.out; have := HJ14.out; omega⟩, ⟨by (with_reducible repeat (first | apply Kd.R_alloc | apply Kd.R_drewN | apply Kd.R_drew)); exact HO_5.out⟩, ⟨by repeat (first | (with_reducible first | exact HB.out | apply below_alloc | apply pw_below_drewN | apply below_drew1) | exact HB.out)⟩⟩
               ·rw [if_neg c22] at H
                exact absurd H (by simp)
              ·rw [if_neg c21] at H
               exact absurd H (by simp)
             ·replace c20 := Bool.eq_false_iff.mpr c20
              subst c20
              have H1 : (if 0 ≤ (mn x6_3 (x0_2.size : Int)) then (if (mn x6_3 (x0_2.size : Int)) ≤ (x0_2.size : Int) then ((rialtoref4_Parse.f kj14 (x0_2.extract 0 ((mn x6_3 (x0_2.size : Int)) : Int).toNat)).bind fun bt298 => (if bt298.2.2.2.2 = 0 then (if x5_2.length < 3518437208883 then ((some (x5_2 ++ [(⟨bt298.1, bt298.2.1, bt298.2.2.1, bt298.2.2.2.1⟩ : S24)] : List (S24))).bind fun y304 => (if (x0_2.extract ((mn x6_3 (x0_2.size : Int)) : Int).toNat x0_2.size).toList = ([] : List UInt8) then (some (y304, 0)) else (if ((x0_2.extract ((mn x6_3 (x0_2.size : Int)) : Int).toNat x0_2.size).size : Int) < 3 then (some (([] : List (S24)), 30)) else (if 0 ≤ 2 then (if 2 ≤ ((x0_2.extract ((mn x6_3 (x0_2.size : Int)) : Int).toNat x0_2.size).size : Int) then (if ((x0_2.extract ((mn x6_3 (x0_2.size : Int)) : Int).toNat x0_2.size).extract 0 2).toList = ([44, 32] : List UInt8) then (rialtoref4_Read.l0 kj14 ((x0_2.extract ((mn x6_3 (x0_2.size : Int)) : Int).toNat x0_2.size).extract 2 (x0_2.extract ((mn x6_3 (x0_2.size : Int)) : Int).toNat x0_2.size).size) y304) else (some (([] : List (S24)), 30))) else (none)) else (none))))) else (none)) else (some (([] : List (S24)), 30)))) else (none)) else (none)) = some (r1, r2) := by rw [if_neg (show ¬ (false = true) by decide)] at H; exact H
              clear H
              have H := H1
              clear H1
              obtain ⟨ji27, hji27⟩ : ∃ j_ : Int, (mn x6_3 (x0_2.size : Int)) = j_ := ⟨_, rfl⟩
              replace H : (if 0 ≤ (ji27) then (if (ji27) ≤ (x0_2.size : Int) then ((rialtoref4_Parse.f kj14 (x0_2.extract 0 ((ji27) : Int).toNat)).bind fun bt298 => (if bt298.2.2.2.2 = 0 then (if x5_2.length < 3518437208883 then ((some (x5_2 ++ [(⟨bt298.1, bt298.2.1, bt298.2.2.1, bt298.2.2.2.1⟩ : S24)] : List (S24))).bind fun y304 => (if (x0_2.extract ((ji27) : Int).toNat x0_2.size).toList = ([] : List UInt8) then (some (y304, 0)) else (if ((x0_2.extract ((ji27) : Int).toNat x0_2.size).size : Int) < 3 then (some (([] : List (S24)), 30)) else (if 0 ≤ 2 then (if 2 ≤ ((x0_2.extract ((ji27) : Int).toNat x0_2.size).size : Int) then (if ((x0_2.extract ((ji27) : Int).toNat x0_2.size).extract 0 2).toList = ([44, 32] : List UInt8) then (rialtoref4_Read.l0 kj14 ((x0_2.extract ((ji27) : Int).toNat x0_2.size).extract 2 (x0_2.extract ((ji27) : Int).toNat x0_2.size).size) y304) else (some (([] : List (S24)), 30))) else (none)) else (none))))) else (none)) else (some (([] : List (S24)), 30)))) else (none)) else (none)) = some (r1, r2) := by first | (rw [hji27] at H; exact H) | (simp only [hji27] at H ⊢; exact H)
              have hji27_ : (if (x0_2.size : Int) < x6_3 then (x0_2.size : Int) else x6_3) = ji27 := hji27
              by_cases c28 : 0 ≤ (ji27)
              ·rw [if_pos c28] at H
               have c28b0 := eq_true c28
               have c28b1 : decide (0 ≤ (ji27)) = true := decide_eq_true c28
               clear c28
               by_cases c29 : (ji27) ≤ (x0_2.size : Int)
               ·rw [if_pos c29] at H
                have c29b0 := eq_true c29
                have c29b1 : decide ((ji27) ≤ (x0_2.size : Int)) = true := decide_eq_true c29
                clear c29
                replace H := Option.bind_eq_some_iff.mp H
                obtain ⟨⟨t298, t299, t300, t301, t302⟩, A300, H⟩ := H
                replace H : (if t302 = 0 then (if x5_2.length < 3518437208883 then ((some (x5_2 ++ [(⟨t298, t299, t300, t301⟩ : S24)] : List (S24))).bind fun y304 => (if (x0_2.extract ((ji27) : Int).toNat x0_2.size).toList = ([] : List UInt8) then (some (y304, 0)) else (if ((x0_2.extract ((ji27) : Int).toNat x0_2.size).size : Int) < 3 then (some (([] : List (S24)), 30)) else (if 0 ≤ 2 then (if 2 ≤ ((x0_2.extract ((ji27) : Int).toNat x0_2.size).size : Int) then (if ((x0_2.extract ((ji27) : Int).toNat x0_2.size).extract 0 2).toList = ([44, 32] : List UInt8) then (rialtoref4_Read.l0 kj14 ((x0_2.extract ((ji27) : Int).toNat x0_2.size).extract 2 (x0_2.extract ((ji27) : Int).toNat x0_2.size).size) y304) else (some (([] : List (S24)), 30))) else (none)) else (none))))) else (none)) else (some (([] : List (S24)), 30))) = some (r1, r2) := H
                have A30 := Aside0.mk A300
                clear A300
                by_cases c31 : t302 = 0
                ·rw [if_pos c31] at H
                 have c31b0 : (t302 == 0) = true := beq_iff_eq.mpr c31
                 have c31b1 : (t302 != 0) = false := bne_eq_false_iff_eq.mpr c31
                 clear c31
                 by_cases c32 : x5_2.length < 3518437208883
                 ·rw [if_pos c32] at H
                  have LMc32 := Aside0.mk c32
                  clear c32
                  obtain ⟨y304, hy304⟩ : ∃ y_ : List (S24), y_ = (x5_2 ++ [(⟨t298, t299, t300, t301⟩ : S24)]) := ⟨_, rfl⟩
                  replace H : (if (x0_2.extract ((ji27) : Int).toNat x0_2.size).toList = ([] : List UInt8) then (some (y304, 0)) else (if ((x0_2.extract ((ji27) : Int).toNat x0_2.size).size : Int) < 3 then (some (([] : List (S24)), 30)) else (if 0 ≤ 2 then (if 2 ≤ ((x0_2.extract ((ji27) : Int).toNat x0_2.size).size : Int) then (if ((x0_2.extract ((ji27) : Int).toNat x0_2.size).extract 0 2).toList = ([44, 32] : List UInt8) then (rialtoref4_Read.l0 kj14 ((x0_2.extract ((ji27) : Int).toNat x0_2.size).extract 2 (x0_2.extract ((ji27) : Int).toNat x0_2.size).size) y304) else (some (([] : List (S24)), 30))) else (none)) else (none)))) = some (r1, r2) := by first | (rw [hy304]; with_reducible exact H) | (have H2_ := (Option.bind_some _ _).symm.trans H; rw [hy304]; with_reducible exact H2_) | (have H2_ := (Option.bind_some _ _).symm.trans H; with_reducible exact H2_) | with_reducible exact H | (rw [hy304]; exact H) | exact H
                  have Ny304 := Aside0.mk hy304
                  clear hy304
                  generalize hsx : x0_2.extract ((ji27) : Int).toNat x0_2.size = sx at H
                  have c33b0 := eq_true (of_decide_eq_true (by first | (with_reducible assumption) | assumption) : 0 ≤ (ji27))
                  have c34b0 := eq_true (of_decide_eq_true (by first | (with_reducible assumption) | assumption) : (ji27) ≤ (x0_2.size : Int))
                  by_cases c35 : sx.toList = ([] : List UInt8)
                  ·rw [if_pos c35] at H
                   have c35b0 : (sx.toList == ([] : List UInt8)) = true := beq_iff_eq.mpr c35
                   have c35b1 : (sx.toList != ([] : List UInt8)) = false := bne_eq_false_iff_eq.mpr c35
                   clear c35
                   simp only [Option.some.injEq, Prod.mk.injEq] at H
                   obtain ⟨rfl, rfl⟩ := H
                   go_wp2_with (first | ((with_reducible refine gate_callee (f := 15) rfl ?_); refine goesL_ (some 67) rfl rfl Tryd.func15 (by kernel_rfl) rfl #[.string (x0_2.extract 0 ((ji27) : Int).toNat)] rfl (by (try simp only [List.map_toArray, List.map_cons, List.map_nil]); first | done | (simp only [hji27]; rfl) | rfl | (simp only [List.length_drop, List.length_take]; rfl)) ?_; (with_reducible refine (rialtoref4_Parse.calls kj14 (x0_2.extract 0 ((ji27) : Int).toNat) t298 t299 t300 t301 t302 _ A30.out).mono ?_); rintro e w36 ⟨rfl, hb⟩; refine ⟨_, rfl, ?_⟩; have n0_ := Aside0.mk (Kd.R_below (by (with_reducible repeat (first | apply Kd.R_alloc | apply Kd.R_drewN | apply Kd.R_drew)); exact HO_5.out) hb); have n1_ := Aside0.mk (below_step (by repeat (first | (with_reducible first | exact HB.out | apply below_alloc | apply pw_below_drewN | apply below_drew1) | exact HB.out)) hb); clear HO_5; clear HB; have HO_5 := n0_; have HB := n1_; clear n0_ n1_; (try clear hb); (try clear hb2); (try clear hk); (try clear hi)) | ((with_reducible refine gate_dst (N := 8) rfl ?_); refine box_event ?hg (N := 8) ?hd (cs := #[.int .i64 0, .int .i64 0, .string (⟨#[]⟩ : ByteArray), .float .f64 0]) (t := 24) ?hr ?_; (case hd => rfl); (case hg => rfl); (case hr => first | (go_simp; done) | (go_simp; rfl)); intro gb303 hg w37 hbox hb; have n0_ := Aside0.mk (Kd.R_below (Kd.R_elderB (by (with_reducible repeat (first | apply Kd.R_alloc | apply Kd.R_drewN | apply Kd.R_drew)); exact HO_5.out) gb303 (Nat.le_of_eq hg.symm)) hb); have n1_ := Aside0.mk (below_step (by repeat (first | (with_reducible first | exact HB.out | apply below_alloc | apply pw_below_drewN | apply below_drew1) | exact HB.out)) hb); have n2_ := Aside0.mk (hbox); have n3_ := Aside0.mk ((by rw [hg]; exact (below_size (by repeat (first | (with_reducible first | exact HB.out | apply below_alloc | apply pw_below_drewN | apply below_drew1) | exact HB.out))) : w.heap.size ≤ gb303)); have n4_ := Aside0.mk ((by rw [hg]; exact (below_size (by repeat (first | (with_reducible first | exact HB.out | apply below_alloc | apply pw_below_drewN | apply below_drew1) | exact HB.out))) : w.heap.size ≤ gb303)); clear HO_5; clear HB; have HO_5 := n0_; have HB := n1_; have BK303 := n2_; have GW303 := n3_; have GE303 := n4_; clear n0_ n1_ n2_ n3_ n4_; clear hb hbox hg; have hcz38_0 : w37.cell? ⟨gb303, 0, none⟩ = some (.int .i64 0) := (blk_cell BK303.out 0).trans rfl; have hcz38_1 : w37.cell? ⟨gb303, 1, none⟩ = some (.int .i64 0) := (blk_cell BK303.out 1).trans rfl; have hcz38_2 : w37.cell? ⟨gb303, 2, none⟩ = some (.string (⟨#[]⟩ : ByteArray)) := (blk_cell BK303.out 2).trans rfl; have hcz38_3 : w37.cell? ⟨gb303, 3, none⟩ = some (.float .f64 0) := (blk_cell BK303.out 3).trans rfl; have hfz38_0 := blk_frozen BK303.out 0; have hfz38_1 := blk_frozen BK303.out 1; have hfz38_2 := blk_frozen BK303.out 2; have hfz38_3 := blk_frozen BK303.out 3) | ((with_reducible refine gate_builtin (b := .append) (xs := #[.tmp 72, .tmp 74]) rfl ?_); at_builtin; refine Kd.R_append k24 (w0 := w) w.heap.size rfl (.tmp 72) (.tmp 74) 25 24 (.agg #[(.int .i64 0), (.int .i64 0), (.string ⟨#[]⟩), (.float .f64 0)]) 40 rfl Tryd.underlying25 info24 rfl (by decide) (by omega) u5 x5_2 (⟨t298, t299, t300, t301⟩ : S24) [.int .i64 t298, .int .i64 t299, .string t300, .float .f64 t301] (fun k_ => k_ ≠ gb303) (fun _ => False) rfl (by first | (go_simp; done) | (go_simp; rfl)) ?aP (fun _ hk => hk.elim) ?aF ?aO ?aB ?aS ?aL ?_; (case aP => exact k24_mkM _ _ _ (⟨t298, t299, t300, t301⟩ : S24)); (case aB => exact (by repeat (first | (with_reducible first | exact HB.out | apply below_alloc | apply pw_below_drewN | apply below_drew1 | refine below_set ?_ GE303.out) | exact HB.out))); (case aF => exact (fun k_ hk => Kd.freshB (g := gb303) (o := .cells #[.int .i64 t298, .int .i64 t299, .string t300, .float .f64 t301] 24 (0, 0)) (by (with_reducible repeat (first | refine blk_drewN ?_ _ | refine blk_drew ?_ | refine blk_alloc ?_ _)); refine blk_put (cs := #[.int .i64 t298, .int .i64 t299, .string t300, .float .f64 0]) ?_ 3 _ rfl; (with_reducible repeat (first | refine blk_drewN ?_ _ | refine blk_drew ?_ | refine blk_alloc ?_ _)); refine blk_put (cs := #[.int .i64 t298, .int .i64 t299, .string (⟨#[]⟩ : ByteArray), .float .f64 0]) ?_ 2 _ rfl; (with_reducible repeat (first | refine blk_drewN ?_ _ | refine blk_drew ?_ | refine blk_alloc ?_ _)); refine blk_put (cs := #[.int .i64 t298, .int .i64 0, .string (⟨#[]⟩ : ByteArray), .float .f64 0]) ?_ 1 _ rfl; (with_reducible repeat (first | refine blk_drewN ?_ _ | refine blk_drew ?_ | refine blk_alloc ?_ _)); refine blk_put (cs := #[.int .i64 0, .int .i64 0, .string (⟨#[]⟩ : ByteArray), .float .f64 0]) ?_ 0 _ rfl; (with_reducible repeat (first | refine blk_drewN ?_ _ | refine blk_drew ?_ | refine blk_alloc ?_ _)); exact BK303.out) k_ hk)); (case aO => exact (by (with_reducible repeat (first | apply Kd.R_alloc | apply Kd.R_drewN | apply Kd.R_drew)); exact Kd.R_mono (Kd.R_far (p := ⟨gb303, 3, none⟩) (Kd.R_far (p := ⟨gb303, 2, none⟩) (Kd.R_far (p := ⟨gb303, 1, none⟩) (Kd.R_far (p := ⟨gb303, 0, none⟩) (Kd.R_mono HO_5.out (fun k_ hk => (⟨hk, hk.2⟩ : _ ∧ k_ ≠ gb303))) (fun _ hk => hk.2) (.int .i64 t298)) (fun _ hk => hk.2) (.int .i64 t299)) (fun _ hk => hk.2) (.string t300)) (fun _ hk => hk.2) (.float .f64 t301)) (fun _ hk => hk.1.2))); (case aS => exact (below_size (by repeat (first | (with_reducible first | exact HB.out | apply below_alloc | apply pw_below_drewN | apply below_drew1 | refine below_set ?_ GE303.out) | exact HB.out)))); (case aL => have := LMc32.out; omega); intro v305 w39 ho hb hg hat; rw [← Ny304.out] at ho; have n0_ := Aside0.mk (blk_grown (g := gb303) (o := .cells #[.int .i64 t298, .int .i64 t299, .string t300, .float .f64 t301] 24 (0, 0)) (by (with_reducible repeat (first | refine blk_drewN ?_ _ | refine blk_drew ?_ | refine blk_alloc ?_ _)); refine blk_put (cs := #[.int .i64 t298, .int .i64 t299, .string t300, .float .f64 0]) ?_ 3 _ rfl; (with_reducible repeat (first | refine blk_drewN ?_ _ | refine blk_drew ?_ | refine blk_alloc ?_ _)); refine blk_put (cs := #[.int .i64 t298, .int .i64 t299, .string (⟨#[]⟩ : ByteArray), .float .f64 0]) ?_ 2 _ rfl; (with_reducible repeat (first | refine blk_drewN ?_ _ | refine blk_drew ?_ | refine blk_alloc ?_ _)); refine blk_put (cs := #[.int .i64 t298, .int .i64 0, .string (⟨#[]⟩ : ByteArray), .float .f64 0]) ?_ 1 _ rfl; (with_reducible repeat (first | refine blk_drewN ?_ _ | refine blk_drew ?_ | refine blk_alloc ?_ _)); refine blk_put (cs := #[.int .i64 0, .int .i64 0, .string (⟨#[]⟩ : ByteArray), .float .f64 0]) ?_ 0 _ rfl; (with_reducible repeat (first | refine blk_drewN ?_ _ | refine blk_drew ?_ | refine blk_alloc ?_ _)); exact BK303.out) hg (Kd.R_away HO_5.out (fun _ hk => hk.2))); have n1_ := Aside0.mk (hb); have n2_ := Aside0.mk (ho); clear BK303; clear HB; clear HO_5; have BK303 := n0_; have HB := n1_; have HO306 := n2_; clear n0_ n1_ n2_; clear ho hb hg hat))
                   go_ret2
                   exact ⟨_, by first | rfl | (simp [errW_none, errW_some] <;> rfl) | (simp only [← hji27]; first | rfl | (simp [errW_none, errW_some] <;> rfl)) | (simp [*, errW_none, errW_some] <;> rfl), by (with_reducible repeat (first | apply Kd.R_alloc | apply Kd.R_drewN | apply Kd.R_drew)); exact Kd.R_mono HO306.out (fun _ hk => trivial), by repeat (first | (with_reducible first | exact HB.out | apply below_alloc | apply pw_below_drewN | apply below_drew1 | refine below_set ?_ GE303.out) | exact HB.out)⟩
                  ·rw [if_neg c35] at H
                   have c35b0 : (sx.toList == ([] : List UInt8)) = false := beq_eq_false_iff_ne.mpr c35
                   have c35b1 : (sx.toList != ([] : List UInt8)) = true := bne_iff_ne.mpr c35
                   by_cases c40 : (sx.size : Int) < 3
                   ·rw [if_pos c40] at H
                    have c40b0 : decide ((sx.size : Int) < 3) = true := decide_eq_true c40
                    have c40b1 : decide (sx.size < 3) = true := decide_eq_true (by omega)
                    (try (have c40b2 : ((x0_2.size - ((ji27) : Int).toNat) < 3) = True := eq_true (by have h_ := c40; (try simp only [ByteArray.size_append, ByteArray.size_extract] at h_); omega)))
                    clear c40
                    simp only [Option.some.injEq, Prod.mk.injEq] at H
                    obtain ⟨rfl, rfl⟩ := H
                    go_wp2_with (first | ((with_reducible refine gate_callee (f := 15) rfl ?_); refine goesL_ (some 67) rfl rfl Tryd.func15 (by kernel_rfl) rfl #[.string (x0_2.extract 0 ((ji27) : Int).toNat)] rfl (by (try simp only [List.map_toArray, List.map_cons, List.map_nil]); first | done | (simp only [hji27]; rfl) | rfl | (simp only [List.length_drop, List.length_take]; rfl)) ?_; (with_reducible refine (rialtoref4_Parse.calls kj14 (x0_2.extract 0 ((ji27) : Int).toNat) t298 t299 t300 t301 t302 _ A30.out).mono ?_); rintro e w41 ⟨rfl, hb⟩; refine ⟨_, rfl, ?_⟩; have n0_ := Aside0.mk (Kd.R_below (by (with_reducible repeat (first | apply Kd.R_alloc | apply Kd.R_drewN | apply Kd.R_drew)); exact HO_5.out) hb); have n1_ := Aside0.mk (below_step (by repeat (first | (with_reducible first | exact HB.out | apply below_alloc | apply pw_below_drewN | apply below_drew1) | exact HB.out)) hb); clear HO_5; clear HB; have HO_5 := n0_; have HB := n1_; clear n0_ n1_; (try clear hb); (try clear hb2); (try clear hk); (try clear hi)) | ((with_reducible refine gate_dst (N := 8) rfl ?_); refine box_event ?hg (N := 8) ?hd (cs := #[.int .i64 0, .int .i64 0, .string (⟨#[]⟩ : ByteArray), .float .f64 0]) (t := 24) ?hr ?_; (case hd => rfl); (case hg => rfl); (case hr => first | (go_simp; done) | (go_simp; rfl)); intro gb303 hg w42 hbox hb; have n0_ := Aside0.mk (Kd.R_below (Kd.R_elderB (by (with_reducible repeat (first | apply Kd.R_alloc | apply Kd.R_drewN | apply Kd.R_drew)); exact HO_5.out) gb303 (Nat.le_of_eq hg.symm)) hb); have n1_ := Aside0.mk (below_step (by repeat (first | (with_reducible first | exact HB.out | apply below_alloc | apply pw_below_drewN | apply below_drew1) | exact HB.out)) hb); have n2_ := Aside0.mk (hbox); have n3_ := Aside0.mk ((by rw [hg]; exact (below_size (by repeat (first | (with_reducible first | exact HB.out | apply below_alloc | apply pw_below_drewN | apply below_drew1) | exact HB.out))) : w.heap.size ≤ gb303)); have n4_ := Aside0.mk ((by rw [hg]; exact (below_size (by repeat (first | (with_reducible first | exact HB.out | apply below_alloc | apply pw_below_drewN | apply below_drew1) | exact HB.out))) : w.heap.size ≤ gb303)); clear HO_5; clear HB; have HO_5 := n0_; have HB := n1_; have BK303 := n2_; have GW303 := n3_; have GE303 := n4_; clear n0_ n1_ n2_ n3_ n4_; clear hb hbox hg; have hcz43_0 : w42.cell? ⟨gb303, 0, none⟩ = some (.int .i64 0) := (blk_cell BK303.out 0).trans rfl; have hcz43_1 : w42.cell? ⟨gb303, 1, none⟩ = some (.int .i64 0) := (blk_cell BK303.out 1).trans rfl; have hcz43_2 : w42.cell? ⟨gb303, 2, none⟩ = some (.string (⟨#[]⟩ : ByteArray)) := (blk_cell BK303.out 2).trans rfl; have hcz43_3 : w42.cell? ⟨gb303, 3, none⟩ = some (.float .f64 0) := (blk_cell BK303.out 3).trans rfl; have hfz43_0 := blk_frozen BK303.out 0; have hfz43_1 := blk_frozen BK303.out 1; have hfz43_2 := blk_frozen BK303.out 2; have hfz43_3 := blk_frozen BK303.out 3) | ((with_reducible refine gate_builtin (b := .append) (xs := #[.tmp 72, .tmp 74]) rfl ?_); at_builtin; refine Kd.R_append k24 (w0 := w) w.heap.size rfl (.tmp 72) (.tmp 74) 25 24 (.agg #[(.int .i64 0), (.int .i64 0), (.string ⟨#[]⟩), (.float .f64 0)]) 40 rfl Tryd.underlying25 info24 rfl (by decide) (by omega) u5 x5_2 (⟨t298, t299, t300, t301⟩ : S24) [.int .i64 t298, .int .i64 t299, .string t300, .float .f64 t301] (fun k_ => k_ ≠ gb303) (fun _ => False) rfl (by first | (go_simp; done) | (go_simp; rfl)) ?aP (fun _ hk => hk.elim) ?aF ?aO ?aB ?aS ?aL ?_; (case aP => exact k24_mkM _ _ _ (⟨t298, t299, t300, t301⟩ : S24)); (case aB => exact (by repeat (first | (with_reducible first | exact HB.out | apply below_alloc | apply pw_below_drewN | apply below_drew1 | refine below_set ?_ GE303.out) | exact HB.out))); (case aF => exact (fun k_ hk => Kd.freshB (g := gb303) (o := .cells #[.int .i64 t298, .int .i64 t299, .string t300, .float .f64 t301] 24 (0, 0)) (by (with_reducible repeat (first | refine blk_drewN ?_ _ | refine blk_drew ?_ | refine blk_alloc ?_ _)); refine blk_put (cs := #[.int .i64 t298, .int .i64 t299, .string t300, .float .f64 0]) ?_ 3 _ rfl; (with_reducible repeat (first | refine blk_drewN ?_ _ | refine blk_drew ?_ | refine blk_alloc ?_ _)); refine blk_put (cs := #[.int .i64 t298, .int .i64 t299, .string (⟨#[]⟩ : ByteArray), .float .f64 0]) ?_ 2 _ rfl; (with_reducible repeat (first | refine blk_drewN ?_ _ | refine blk_drew ?_ | refine blk_alloc ?_ _)); refine blk_put (cs := #[.int .i64 t298, .int .i64 0, .string (⟨#[]⟩ : ByteArray), .float .f64 0]) ?_ 1 _ rfl; (with_reducible repeat (first | refine blk_drewN ?_ _ | refine blk_drew ?_ | refine blk_alloc ?_ _)); refine blk_put (cs := #[.int .i64 0, .int .i64 0, .string (⟨#[]⟩ : ByteArray), .float .f64 0]) ?_ 0 _ rfl; (with_reducible repeat (first | refine blk_drewN ?_ _ | refine blk_drew ?_ | refine blk_alloc ?_ _)); exact BK303.out) k_ hk)); (case aO => exact (by (with_reducible repeat (first | apply Kd.R_alloc | apply Kd.R_drewN | apply Kd.R_drew)); exact Kd.R_mono (Kd.R_far (p := ⟨gb303, 3, none⟩) (Kd.R_far (p := ⟨gb303, 2, none⟩) (Kd.R_far (p := ⟨gb303, 1, none⟩) (Kd.R_far (p := ⟨gb303, 0, none⟩) (Kd.R_mono HO_5.out (fun k_ hk => (⟨hk, hk.2⟩ : _ ∧ k_ ≠ gb303))) (fun _ hk => hk.2) (.int .i64 t298)) (fun _ hk => hk.2) (.int .i64 t299)) (fun _ hk => hk.2) (.string t300)) (fun _ hk => hk.2) (.float .f64 t301)) (fun _ hk => hk.1.2))); (case aS => exact (below_size (by repeat (first | (with_reducible first | exact HB.out | apply below_alloc | apply pw_below_drewN | apply below_drew1 | refine below_set ?_ GE303.out) | exact HB.out)))); (case aL => have := LMc32.out; omega); intro v305 w44 ho hb hg hat; rw [← Ny304.out] at ho; have n0_ := Aside0.mk (blk_grown (g := gb303) (o := .cells #[.int .i64 t298, .int .i64 t299, .string t300, .float .f64 t301] 24 (0, 0)) (by (with_reducible repeat (first | refine blk_drewN ?_ _ | refine blk_drew ?_ | refine blk_alloc ?_ _)); refine blk_put (cs := #[.int .i64 t298, .int .i64 t299, .string t300, .float .f64 0]) ?_ 3 _ rfl; (with_reducible repeat (first | refine blk_drewN ?_ _ | refine blk_drew ?_ | refine blk_alloc ?_ _)); refine blk_put (cs := #[.int .i64 t298, .int .i64 t299, .string (⟨#[]⟩ : ByteArray), .float .f64 0]) ?_ 2 _ rfl; (with_reducible repeat (first | refine blk_drewN ?_ _ | refine blk_drew ?_ | refine blk_alloc ?_ _)); refine blk_put (cs := #[.int .i64 t298, .int .i64 0, .string (⟨#[]⟩ : ByteArray), .float .f64 0]) ?_ 1 _ rfl; (with_reducible repeat (first | refine blk_drewN ?_ _ | refine blk_drew ?_ | refine blk_alloc ?_ _)); refine blk_put (cs := #[.int .i64 0, .int .i64 0, .string (⟨#[]⟩ : ByteArray), .float .f64 0]) ?_ 0 _ rfl; (with_reducible repeat (first | refine blk_drewN ?_ _ | refine blk_drew ?_ | refine blk_alloc ?_ _)); exact BK303.out) hg (Kd.R_away HO_5.out (fun _ hk => hk.2))); have n1_ := Aside0.mk (hb); have n2_ := Aside0.mk (ho); clear BK303; clear HB; clear HO_5; have BK303 := n0_; have HB := n1_; have HO306 := n2_; clear n0_ n1_ n2_; clear ho hb hg hat))
                    go_ret2
                    exact ⟨_, by first | rfl | (simp [errW_none, errW_some] <;> rfl) | (simp only [← hji27]; first | rfl | (simp [errW_none, errW_some] <;> rfl)) | (simp [*, errW_none, errW_some] <;> rfl), by first | exact Kd.R_nil _ _ _ _ _ | exact Kd.N_nil _ _ _ _ _ | exact Kd.V_nil _ _ _ _ _ | exact Kd.Q_nil _ _ _ _ _ | exact Kd.S_nil _ _ _ _ _, by repeat (first | (with_reducible first | exact HB.out | apply below_alloc | apply pw_below_drewN | apply below_drew1 | refine below_set ?_ GE303.out) | exact HB.out)⟩
                   ·rw [if_neg c40] at H
                    have c40b0 : decide ((sx.size : Int) < 3) = false := decide_eq_false c40
                    have c40b1 : decide (sx.size < 3) = false := decide_eq_false (by omega)
                    (try (have c40b2 : ((x0_2.size - ((ji27) : Int).toNat) < 3) = False := eq_false (by have h_ := c40; (try simp only [ByteArray.size_append, ByteArray.size_extract] at h_); omega)))
                    clear c40
                    by_cases c45 : 0 ≤ 2
                    ·rw [if_pos c45] at H
                     have c45b0 := eq_true c45
                     have c45b1 : decide (0 ≤ 2) = true := decide_eq_true c45
                     clear c45
                     by_cases c46 : 2 ≤ (sx.size : Int)
                     ·rw [if_pos c46] at H
                      have c46b0 := eq_true c46
                      have c46b1 : decide (2 ≤ (sx.size : Int)) = true := decide_eq_true c46
                      clear c46
                      by_cases c47 : (sx.extract 0 2).toList = ([44, 32] : List UInt8)
                      ·rw [if_pos c47] at H
                       have c47b0 : ((sx.extract 0 2).toList == ([44, 32] : List UInt8)) = true := beq_iff_eq.mpr c47
                       have c47b1 : ((sx.extract 0 2).toList != ([44, 32] : List UInt8)) = false := bne_eq_false_iff_eq.mpr c47
                       clear c47
                       have c48b0 := eq_true (of_decide_eq_true (by first | (with_reducible assumption) | assumption) : 2 ≤ (sx.size : Int))
                       have H' := Aside0.mk H
                       clear H
                       go_wp2_with (first | ((with_reducible refine gate_callee (f := 15) rfl ?_); refine goesL_ (some 67) rfl rfl Tryd.func15 (by kernel_rfl) rfl #[.string (x0_2.extract 0 ((ji27) : Int).toNat)] rfl (by (try simp only [List.map_toArray, List.map_cons, List.map_nil]); first | done | (simp only [hji27]; rfl) | rfl | (simp only [List.length_drop, List.length_take]; rfl)) ?_; (with_reducible refine (rialtoref4_Parse.calls kj14 (x0_2.extract 0 ((ji27) : Int).toNat) t298 t299 t300 t301 t302 _ A30.out).mono ?_); rintro e w49 ⟨rfl, hb⟩; refine ⟨_, rfl, ?_⟩; have n0_ := Aside0.mk (Kd.R_below (by (with_reducible repeat (first | apply Kd.R_alloc | apply Kd.R_drewN | apply Kd.R_drew)); exact HO_5.out) hb); have n1_ := Aside0.mk (below_step (by repeat (first | (with_reducible first | exact HB.out | apply below_alloc | apply pw_below_drewN | apply below_drew1) | exact HB.out)) hb); clear HO_5; clear HB; have HO_5 := n0_; have HB := n1_; clear n0_ n1_; (try clear hb); (try clear hb2); (try clear hk); (try clear hi)) | ((with_reducible refine gate_dst (N := 8) rfl ?_); refine box_event ?hg (N := 8) ?hd (cs := #[.int .i64 0, .int .i64 0, .string (⟨#[]⟩ : ByteArray), .float .f64 0]) (t := 24) ?hr ?_; (case hd => rfl); (case hg => rfl); (case hr => first | (go_simp; done) | (go_simp; rfl)); intro gb303 hg w50 hbox hb; have n0_ := Aside0.mk (Kd.R_below (Kd.R_elderB (by (with_reducible repeat (first | apply Kd.R_alloc | apply Kd.R_drewN | apply Kd.R_drew)); exact HO_5.out) gb303 (Nat.le_of_eq hg.symm)) hb); have n1_ := Aside0.mk (below_step (by repeat (first | (with_reducible first | exact HB.out | apply below_alloc | apply pw_below_drewN | apply below_drew1) | exact HB.out)) hb); have n2_ := Aside0.mk (hbox); have n3_ := Aside0.mk ((by rw [hg]; exact (below_size (by repeat (first | (with_reducible first | exact HB.out | apply below_alloc | apply pw_below_drewN | apply below_drew1) | exact HB.out))) : w.heap.size ≤ gb303)); have n4_ := Aside0.mk ((by rw [hg]; exact (below_size (by repeat (first | (with_reducible first | exact HB.out | apply below_alloc | apply pw_below_drewN | apply below_drew1) | exact HB.out))) : w.heap.size ≤ gb303)); clear HO_5; clear HB; have HO_5 := n0_; have HB := n1_; have BK303 := n2_; have GW303 := n3_; have GE303 := n4_; clear n0_ n1_ n2_ n3_ n4_; clear hb hbox hg; have hcz51_0 : w50.cell? ⟨gb303, 0, none⟩ = some (.int .i64 0) := (blk_cell BK303.out 0).trans rfl; have hcz51_1 : w50.cell? ⟨gb303, 1, none⟩ = some (.int .i64 0) := (blk_cell BK303.out 1).trans rfl; have hcz51_2 : w50.cell? ⟨gb303, 2, none⟩ = some (.string (⟨#[]⟩ : ByteArray)) := (blk_cell BK303.out 2).trans rfl; have hcz51_3 : w50.cell? ⟨gb303, 3, none⟩ = some (.float .f64 0) := (blk_cell BK303.out 3).trans rfl; have hfz51_0 := blk_frozen BK303.out 0; have hfz51_1 := blk_frozen BK303.out 1; have hfz51_2 := blk_frozen BK303.out 2; have hfz51_3 := blk_frozen BK303.out 3) | ((with_reducible refine gate_builtin (b := .append) (xs := #[.tmp 72, .tmp 74]) rfl ?_); at_builtin; refine Kd.R_append k24 (w0 := w) w.heap.size rfl (.tmp 72) (.tmp 74) 25 24 (.agg #[(.int .i64 0), (.int .i64 0), (.string ⟨#[]⟩), (.float .f64 0)]) 40 rfl Tryd.underlying25 info24 rfl (by decide) (by omega) u5 x5_2 (⟨t298, t299, t300, t301⟩ : S24) [.int .i64 t298, .int .i64 t299, .string t300, .float .f64 t301] (fun k_ => k_ ≠ gb303) (fun _ => False) rfl (by first | (go_simp; done) | (go_simp; rfl)) ?aP (fun _ hk => hk.elim) ?aF ?aO ?aB ?aS ?aL ?_; (case aP => exact k24_mkM _ _ _ (⟨t298, t299, t300, t301⟩ : S24)); (case aB => exact (by repeat (first | (with_reducible first | exact HB.out | apply below_alloc | apply pw_below_drewN | apply below_drew1 | refine below_set ?_ GE303.out) | exact HB.out))); (case aF => exact (fun k_ hk => Kd.freshB (g := gb303) (o := .cells #[.int .i64 t298, .int .i64 t299, .string t300, .float .f64 t301] 24 (0, 0)) (by (with_reducible repeat (first | refine blk_drewN ?_ _ | refine blk_drew ?_ | refine blk_alloc ?_ _)); refine blk_put (cs := #[.int .i64 t298, .int .i64 t299, .string t300, .float .f64 0]) ?_ 3 _ rfl; (with_reducible repeat (first | refine blk_drewN ?_ _ | refine blk_drew ?_ | refine blk_alloc ?_ _)); refine blk_put (cs := #[.int .i64 t298, .int .i64 t299, .string (⟨#[]⟩ : ByteArray), .float .f64 0]) ?_ 2 _ rfl; (with_reducible repeat (first | refine blk_drewN ?_ _ | refine blk_drew ?_ | refine blk_alloc ?_ _)); refine blk_put (cs := #[.int .i64 t298, .int .i64 0, .string (⟨#[]⟩ : ByteArray), .float .f64 0]) ?_ 1 _ rfl; (with_reducible repeat (first | refine blk_drewN ?_ _ | refine blk_drew ?_ | refine blk_alloc ?_ _)); refine blk_put (cs := #[.int .i64 0, .int .i64 0, .string (⟨#[]⟩ : ByteArray), .float .f64 0]) ?_ 0 _ rfl; (with_reducible repeat (first | refine blk_drewN ?_ _ | refine blk_drew ?_ | refine blk_alloc ?_ _)); exact BK303.out) k_ hk)); (case aO => exact (by (with_reducible repeat (first | apply Kd.R_alloc | apply Kd.R_drewN | apply Kd.R_drew)); exact Kd.R_mono (Kd.R_far (p := ⟨gb303, 3, none⟩) (Kd.R_far (p := ⟨gb303, 2, none⟩) (Kd.R_far (p := ⟨gb303, 1, none⟩) (Kd.R_far (p := ⟨gb303, 0, none⟩) (Kd.R_mono HO_5.out (fun k_ hk => (⟨hk, hk.2⟩ : _ ∧ k_ ≠ gb303))) (fun _ hk => hk.2) (.int .i64 t298)) (fun _ hk => hk.2) (.int .i64 t299)) (fun _ hk => hk.2) (.string t300)) (fun _ hk => hk.2) (.float .f64 t301)) (fun _ hk => hk.1.2))); (case aS => exact (below_size (by repeat (first | (with_reducible first | exact HB.out | apply below_alloc | apply pw_below_drewN | apply below_drew1 | refine below_set ?_ GE303.out) | exact HB.out)))); (case aL => have := LMc32.out; omega); intro v305 w52 ho hb hg hat; rw [← Ny304.out] at ho; have n0_ := Aside0.mk (blk_grown (g := gb303) (o := .cells #[.int .i64 t298, .int .i64 t299, .string t300, .float .f64 t301] 24 (0, 0)) (by (with_reducible repeat (first | refine blk_drewN ?_ _ | refine blk_drew ?_ | refine blk_alloc ?_ _)); refine blk_put (cs := #[.int .i64 t298, .int .i64 t299, .string t300, .float .f64 0]) ?_ 3 _ rfl; (with_reducible repeat (first | refine blk_drewN ?_ _ | refine blk_drew ?_ | refine blk_alloc ?_ _)); refine blk_put (cs := #[.int .i64 t298, .int .i64 t299, .string (⟨#[]⟩ : ByteArray), .float .f64 0]) ?_ 2 _ rfl; (with_reducible repeat (first | refine blk_drewN ?_ _ | refine blk_drew ?_ | refine blk_alloc ?_ _)); refine blk_put (cs := #[.int .i64 t298, .int .i64 0, .string (⟨#[]⟩ : ByteArray), .float .f64 0]) ?_ 1 _ rfl; (with_reducible repeat (first | refine blk_drewN ?_ _ | refine blk_drew ?_ | refine blk_alloc ?_ _)); refine blk_put (cs := #[.int .i64 0, .int .i64 0, .string (⟨#[]⟩ : ByteArray), .float .f64 0]) ?_ 0 _ rfl; (with_reducible repeat (first | refine blk_drewN ?_ _ | refine blk_drew ?_ | refine blk_alloc ?_ _)); exact BK303.out) hg (Kd.R_away HO_5.out (fun _ hk => hk.2))); have n1_ := Aside0.mk (hb); have n2_ := Aside0.mk (ho); clear BK303; clear HB; clear HO_5; have BK303 := n0_; have HB := n1_; have HO306 := n2_; clear n0_ n1_ n2_; clear ho hb hg hat))
                       go_roundg kj14
                       case measure => have := HJ1.out; have := HK2.out; have := HK3.out; have := HJ14.out; omega
                       case rel => exact ⟨(sx.extract 2 sx.size), (y304), (by first | rfl | (simp; done) | (simp only [← hji27] <;> (first | rfl | simp)) | (simp [*]; done)), H', ⟨by have := HJ1.out; have := HK2.out; have := HK3.out; have := HJ14.out; omega⟩, ⟨by (with_reducible repeat (first | apply Kd.R_alloc | apply Kd.R_drewN | apply Kd.R_drew)); exact Kd.R_mono HO306.out (fun _ hk => trivial)⟩, ⟨by repeat (first | (with_reducible first | exact HB.out | apply below_alloc | apply pw_below_drewN | apply below_drew1 | refine below_set ?_ GE303.out) | exact HB.out)⟩⟩
                      ·rw [if_neg c47] at H
                       have c47b0 : ((sx.extract 0 2).toList == ([44, 32] : List UInt8)) = false := beq_eq_false_iff_ne.mpr c47
                       have c47b1 : ((sx.extract 0 2).toList != ([44, 32] : List UInt8)) = true := bne_iff_ne.mpr c47
                       simp only [Option.some.injEq, Prod.mk.injEq] at H
                       obtain ⟨rfl, rfl⟩ := H
                       go_wp2_with (first | ((with_reducible refine gate_callee (f := 15) rfl ?_); refine goesL_ (some 67) rfl rfl Tryd.func15 (by kernel_rfl) rfl #[.string (x0_2.extract 0 ((ji27) : Int).toNat)] rfl (by (try simp only [List.map_toArray, List.map_cons, List.map_nil]); first | done | (simp only [hji27]; rfl) | rfl | (simp only [List.length_drop, List.length_take]; rfl)) ?_; (with_reducible refine (rialtoref4_Parse.calls kj14 (x0_2.extract 0 ((ji27) : Int).toNat) t298 t299 t300 t301 t302 _ A30.out).mono ?_); rintro e w53 ⟨rfl, hb⟩; refine ⟨_, rfl, ?_⟩; have n0_ := Aside0.mk (Kd.R_below (by (with_reducible repeat (first | apply Kd.R_alloc | apply Kd.R_drewN | apply Kd.R_drew)); exact HO_5.out) hb); have n1_ := Aside0.mk (below_step (by repeat (first | (with_reducible first | exact HB.out | apply below_alloc | apply pw_below_drewN | apply below_drew1) | exact HB.out)) hb); clear HO_5; clear HB; have HO_5 := n0_; have HB := n1_; clear n0_ n1_; (try clear hb); (try clear hb2); (try clear hk); (try clear hi)) | ((with_reducible refine gate_dst (N := 8) rfl ?_); refine box_event ?hg (N := 8) ?hd (cs := #[.int .i64 0, .int .i64 0, .string (⟨#[]⟩ : ByteArray), .float .f64 0]) (t := 24) ?hr ?_; (case hd => rfl); (case hg => rfl); (case hr => first | (go_simp; done) | (go_simp; rfl)); intro gb303 hg w54 hbox hb; have n0_ := Aside0.mk (Kd.R_below (Kd.R_elderB (by (with_reducible repeat (first | apply Kd.R_alloc | apply Kd.R_drewN | apply Kd.R_drew)); exact HO_5.out) gb303 (Nat.le_of_eq hg.symm)) hb); have n1_ := Aside0.mk (below_step (by repeat (first | (with_reducible first | exact HB.out | apply below_alloc | apply pw_below_drewN | apply below_drew1) | exact HB.out)) hb); have n2_ := Aside0.mk (hbox); have n3_ := Aside0.mk ((by rw [hg]; exact (below_size (by repeat (first | (with_reducible first | exact HB.out | apply below_alloc | apply pw_below_drewN | apply below_drew1) | exact HB.out))) : w.heap.size ≤ gb303)); have n4_ := Aside0.mk ((by rw [hg]; exact (below_size (by repeat (first | (with_reducible first | exact HB.out | apply below_alloc | apply pw_below_drewN | apply below_drew1) | exact HB.out))) : w.heap.size ≤ gb303)); clear HO_5; clear HB; have HO_5 := n0_; have HB := n1_; have BK303 := n2_; have GW303 := n3_; have GE303 := n4_; clear n0_ n1_ n2_ n3_ n4_; clear hb hbox hg; have hcz55_0 : w54.cell? ⟨gb303, 0, none⟩ = some (.int .i64 0) := (blk_cell BK303.out 0).trans rfl; have hcz55_1 : w54.cell? ⟨gb303, 1, none⟩ = some (.int .i64 0) := (blk_cell BK303.out 1).trans rfl; have hcz55_2 : w54.cell? ⟨gb303, 2, none⟩ = some (.string (⟨#[]⟩ : ByteArray)) := (blk_cell BK303.out 2).trans rfl; have hcz55_3 : w54.cell? ⟨gb303, 3, none⟩ = some (.float .f64 0) := (blk_cell BK303.out 3).trans rfl; have hfz55_0 := blk_frozen BK303.out 0; have hfz55_1 := blk_frozen BK303.out 1; have hfz55_2 := blk_frozen BK303.out 2; have hfz55_3 := blk_frozen BK303.out 3) | ((with_reducible refine gate_builtin (b := .append) (xs := #[.tmp 72, .tmp 74]) rfl ?_); at_builtin; refine Kd.R_append k24 (w0 := w) w.heap.size rfl (.tmp 72) (.tmp 74) 25 24 (.agg #[(.int .i64 0), (.int .i64 0), (.string ⟨#[]⟩), (.float .f64 0)]) 40 rfl Tryd.underlying25 info24 rfl (by decide) (by omega) u5 x5_2 (⟨t298, t299, t300, t301⟩ : S24) [.int .i64 t298, .int .i64 t299, .string t300, .float .f64 t301] (fun k_ => k_ ≠ gb303) (fun _ => False) rfl (by first | (go_simp; done) | (go_simp; rfl)) ?aP (fun _ hk => hk.elim) ?aF ?aO ?aB ?aS ?aL ?_; (case aP => exact k24_mkM _ _ _ (⟨t298, t299, t300, t301⟩ : S24)); (case aB => exact (by repeat (first | (with_reducible first | exact HB.out | apply below_alloc | apply pw_below_drewN | apply below_drew1 | refine below_set ?_ GE303.out) | exact HB.out))); (case aF => exact (fun k_ hk => Kd.freshB (g := gb303) (o := .cells #[.int .i64 t298, .int .i64 t299, .string t300, .float .f64 t301] 24 (0, 0)) (by (with_reducible repeat (first | refine blk_drewN ?_ _ | refine blk_drew ?_ | refine blk_alloc ?_ _)); refine blk_put (cs := #[.int .i64 t298, .int .i64 t299, .string t300, .float .f64 0]) ?_ 3 _ rfl; (with_reducible repeat (first | refine blk_drewN ?_ _ | refine blk_drew ?_ | refine blk_alloc ?_ _)); refine blk_put (cs := #[.int .i64 t298, .int .i64 t299, .string (⟨#[]⟩ : ByteArray), .float .f64 0]) ?_ 2 _ rfl; (with_reducible repeat (first | refine blk_drewN ?_ _ | refine blk_drew ?_ | refine blk_alloc ?_ _)); refine blk_put (cs := #[.int .i64 t298, .int .i64 0, .string (⟨#[]⟩ : ByteArray), .float .f64 0]) ?_ 1 _ rfl; (with_reducible repeat (first | refine blk_drewN ?_ _ | refine blk_drew ?_ | refine blk_alloc ?_ _)); refine blk_put (cs := #[.int .i64 0, .int .i64 0, .string (⟨#[]⟩ : ByteArray), .float .f64 0]) ?_ 0 _ rfl; (with_reducible repeat (first | refine blk_drewN ?_ _ | refine blk_drew ?_ | refine blk_alloc ?_ _)); exact BK303.out) k_ hk)); (case aO => exact (by (with_reducible repeat (first | apply Kd.R_alloc | apply Kd.R_drewN | apply Kd.R_drew)); exact Kd.R_mono (Kd.R_far (p := ⟨gb303, 3, none⟩) (Kd.R_far (p := ⟨gb303, 2, none⟩) (Kd.R_far (p := ⟨gb303, 1, none⟩) (Kd.R_far (p := ⟨gb303, 0, none⟩) (Kd.R_mono HO_5.out (fun k_ hk => (⟨hk, hk.2⟩ : _ ∧ k_ ≠ gb303))) (fun _ hk => hk.2) (.int .i64 t298)) (fun _ hk => hk.2) (.int .i64 t299)) (fun _ hk => hk.2) (.string t300)) (fun _ hk => hk.2) (.float .f64 t301)) (fun _ hk => hk.1.2))); (case aS => exact (below_size (by repeat (first | (with_reducible first | exact HB.out | apply below_alloc | apply pw_below_drewN | apply below_drew1 | refine below_set ?_ GE303.out) | exact HB.out)))); (case aL => have := LMc32.out; omega); intro v305 w56 ho hb hg hat; rw [← Ny304.out] at ho; have n0_ := Aside0.mk (blk_grown (g := gb303) (o := .cells #[.int .i64 t298, .int .i64 t299, .string t300, .float .f64 t301] 24 (0, 0)) (by (with_reducible repeat (first | refine blk_drewN ?_ _ | refine blk_drew ?_ | refine blk_alloc ?_ _)); refine blk_put (cs := #[.int .i64 t298, .int .i64 t299, .string t300, .float .f64 0]) ?_ 3 _ rfl; (with_reducible repeat (first | refine blk_drewN ?_ _ | refine blk_drew ?_ | refine blk_alloc ?_ _)); refine blk_put (cs := #[.int .i64 t298, .int .i64 t299, .string (⟨#[]⟩ : ByteArray), .float .f64 0]) ?_ 2 _ rfl; (with_reducible repeat (first | refine blk_drewN ?_ _ | refine blk_drew ?_ | refine blk_alloc ?_ _)); refine blk_put (cs := #[.int .i64 t298, .int .i64 0, .string (⟨#[]⟩ : ByteArray), .float .f64 0]) ?_ 1 _ rfl; (with_reducible repeat (first | refine blk_drewN ?_ _ | refine blk_drew ?_ | refine blk_alloc ?_ _)); refine blk_put (cs := #[.int .i64 0, .int .i64 0, .string (⟨#[]⟩ : ByteArray), .float .f64 0]) ?_ 0 _ rfl; (with_reducible repeat (first | refine blk_drewN ?_ _ | refine blk_drew ?_ | refine blk_alloc ?_ _)); exact BK303.out) hg (Kd.R_away HO_5.out (fun _ hk => hk.2))); have n1_ := Aside0.mk (hb); have n2_ := Aside0.mk (ho); clear BK303; clear HB; clear HO_5; have BK303 := n0_; have HB := n1_; have HO306 := n2_; clear n0_ n1_ n2_; clear ho hb hg hat))
                       go_ret2
                       exact ⟨_, by first | rfl | (simp [errW_none, errW_some] <;> rfl) | (simp only [← hji27]; first | rfl | (simp [errW_none, errW_some] <;> rfl)) | (simp [*, errW_none, errW_some] <;> rfl), by first | exact Kd.R_nil _ _ _ _ _ | exact Kd.N_nil _ _ _ _ _ | exact Kd.V_nil _ _ _ _ _ | exact Kd.Q_nil _ _ _ _ _ | exact Kd.S_nil _ _ _ _ _, by repeat (first | (with_reducible first | exact HB.out | apply below_alloc | apply pw_below_drewN | apply below_drew1 | refine below_set ?_ GE303.out) | exact HB.out)⟩
                     ·rw [if_neg c46] at H
                      exact absurd H (by simp)
                    ·rw [if_neg c45] at H
                     exact absurd H (by simp)
                 ·rw [if_neg c32] at H
                  exact absurd H (by simp)
                ·rw [if_neg c31] at H
                 have c31b0 : (t302 == 0) = false := beq_eq_false_iff_ne.mpr c31
                 have c31b1 : (t302 != 0) = true := bne_iff_ne.mpr c31
                 simp only [Option.some.injEq, Prod.mk.injEq] at H
                 obtain ⟨rfl, rfl⟩ := H
                 go_wp2_with (first | ((with_reducible refine gate_callee (f := 15) rfl ?_); refine goesL_ (some 67) rfl rfl Tryd.func15 (by kernel_rfl) rfl #[.string (x0_2.extract 0 ((ji27) : Int).toNat)] rfl (by (try simp only [List.map_toArray, List.map_cons, List.map_nil]); first | done | (simp only [hji27]; rfl) | rfl | (simp only [List.length_drop, List.length_take]; rfl)) ?_; (with_reducible refine (rialtoref4_Parse.calls kj14 (x0_2.extract 0 ((ji27) : Int).toNat) t298 t299 t300 t301 t302 _ A30.out).mono ?_); rintro e w57 ⟨rfl, hb⟩; refine ⟨_, rfl, ?_⟩; have n0_ := Aside0.mk (Kd.R_below (by (with_reducible repeat (first | apply Kd.R_alloc | apply Kd.R_drewN | apply Kd.R_drew)); exact HO_5.out) hb); have n1_ := Aside0.mk (below_step (by repeat (first | (with_reducible first | exact HB.out | apply below_alloc | apply pw_below_drewN | apply below_drew1) | exact HB.out)) hb); clear HO_5; clear HB; have HO_5 := n0_; have HB := n1_; clear n0_ n1_; (try clear hb); (try clear hb2); (try clear hk); (try clear hi)) | ((with_reducible refine gate_dst (N := 8) rfl ?_); refine box_event ?hg (N := 8) ?hd (cs := #[.int .i64 0, .int .i64 0, .string (⟨#[]⟩ : ByteArray), .float .f64 0]) (t := 24) ?hr ?_; (case hd => rfl); (case hg => rfl); (case hr => first | (go_simp; done) | (go_simp; rfl)); intro gb303 hg w58 hbox hb; have n0_ := Aside0.mk (Kd.R_below (Kd.R_elderB (by (with_reducible repeat (first | apply Kd.R_alloc | apply Kd.R_drewN | apply Kd.R_drew)); exact HO_5.out) gb303 (Nat.le_of_eq hg.symm)) hb); have n1_ := Aside0.mk (below_step (by repeat (first | (with_reducible first | exact HB.out | apply below_alloc | apply pw_below_drewN | apply below_drew1) | exact HB.out)) hb); have n2_ := Aside0.mk (hbox); have n3_ := Aside0.mk ((by rw [hg]; exact (below_size (by repeat (first | (with_reducible first | exact HB.out | apply below_alloc | apply pw_below_drewN | apply below_drew1) | exact HB.out))) : w.heap.size ≤ gb303)); have n4_ := Aside0.mk ((by rw [hg]; exact (below_size (by repeat (first | (with_reducible first | exact HB.out | apply below_alloc | apply pw_below_drewN | apply below_drew1) | exact HB.out))) : w.heap.size ≤ gb303)); clear HO_5; clear HB; have HO_5 := n0_; have HB := n1_; have BK303 := n2_; have GW303 := n3_; have GE303 := n4_; clear n0_ n1_ n2_ n3_ n4_; clear hb hbox hg; have hcz59_0 : w58.cell? ⟨gb303, 0, none⟩ = some (.int .i64 0) := (blk_cell BK303.out 0).trans rfl; have hcz59_1 : w58.cell? ⟨gb303, 1, none⟩ = some (.int .i64 0) := (blk_cell BK303.out 1).trans rfl; have hcz59_2 : w58.cell? ⟨gb303, 2, none⟩ = some (.string (⟨#[]⟩ : ByteArray)) := (blk_cell BK303.out 2).trans rfl; have hcz59_3 : w58.cell? ⟨gb303, 3, none⟩ = some (.float .f64 0) := (blk_cell BK303.out 3).trans rfl; have hfz59_0 := blk_frozen BK303.out 0; have hfz59_1 := blk_frozen BK303.out 1; have hfz59_2 := blk_frozen BK303.out 2; have hfz59_3 := blk_frozen BK303.out 3))
                 go_ret2
                 exact ⟨_, by first | rfl | (simp [errW_none, errW_some] <;> rfl) | (simp only [← hji27]; first | rfl | (simp [errW_none, errW_some] <;> rfl)) | (simp [*, errW_none, errW_some] <;> rfl), by first | exact Kd.R_nil _ _ _ _ _ | exact Kd.N_nil _ _ _ _ _ | exact Kd.V_nil _ _ _ _ _ | exact Kd.Q_nil _ _ _ _ _ | exact Kd.S_nil _ _ _ _ _, by repeat (first | (with_reducible first | exact HB.out | apply below_alloc | apply pw_below_drewN | apply below_drew1 | refine below_set ?_ GE303.out) | exact HB.out)⟩
               ·rw [if_neg c29] at H
                exact absurd H (by simp)
              ·rw [if_neg c28] at H
               exact absurd H (by simp)
     ·rw [if_neg c13] at H
      exact absurd H (by simp)
    ·rw [if_neg c12] at H
     exact absurd H (by simp)
end Go.Proofs.YtpjfhdbkkomogaaDoor.Px
namespace Go.Proofs.YtpjfhdbkkomogaaDoor.Mb
open Go.RowKit Go.Proofs.YtpjfhdbkkomogaaDoorW.PrintWords Go.Proofs.YtpjfhdbkkomogaaDoorW.PrintLast Go.Proofs.YtpjfhdbkkomogaaDoorW.PrintMore Go.Proofs.YtpjfhdbkkomogaaDoor.Px Go.Proofs.YtpjfhdbkkomogaaDoor.Gvn
open Go.Lib (itoa decDigits)
def Ev {α : Type} (g : Nat → Option α) (r : α) : Prop := ∃ K, ∀ k, K ≤ k → g k = some r
theorem ev_of {α : Type} {g : Nat → Option α} (hm : ∀ k, LeO (g k) (g (k + 1))) {r : α} {a : Nat} (h : g a = some r) : Ev g r :=
  ⟨a, fun k hk => by obtain ⟨d, rfl⟩ : ∃ d, k = a + d := ⟨k - a, by omega⟩; exact grow_le hm d h⟩
theorem ev_print {v : S24} (h : In v) : Ev (fun k => rialtoref4_Print.f k v.f0 v.f1 v.f2 v.f3) (B (txt v)) := by
  obtain ⟨k, hk⟩ := ref_print h
  exact ev_of (fun k => rialtoref4_Print.mono _ _ _ _ k) hk
def bodyT : List (List UInt8) → List UInt8
  | [] => [40]
  | t :: ts => 40 :: (t ++ ts.flatMap fun t => 44 :: 32 :: t)
theorem body_row (ts : List (List UInt8)) : rowT ts = bodyT ts ++ [41] := by
  cases ts with
  | nil => rfl
  | cons t ts => simp [rowT, bodyT, tailT]
theorem body_snoc0 (t : List UInt8) : bodyT ([] ++ [t]) = [40] ++ t := by simp [bodyT]
theorem body_snoc (ts : List (List UInt8)) (t : List UInt8) (h : ts ≠ []) : bodyT (ts ++ [t]) = bodyT ts ++ [44, 32] ++ t := by
  cases ts with
  | nil => exact absurd rfl h
  | cons u ts => simp [bodyT]
theorem body_len (ts : List (List UInt8)) : (bodyT ts).length + 1 = (rowT ts).length := by rw [body_row, List.length_append]; rfl
theorem body_take (ts : List (List UInt8)) (i : Nat) : (bodyT (ts.take i)).length ≤ (bodyT ts).length := by
  cases ts with
  | nil => rw [List.take_nil]; exact Nat.le_refl _
  | cons t ts =>
    cases i with
    | zero => rw [List.take_zero]; simp [bodyT]
    | succ i =>
      rw [List.take_succ_cons]
      simp only [bodyT, List.length_cons, List.length_append]
      have : ((ts.take i).flatMap fun t => 44 :: 32 :: t).length ≤ (ts.flatMap fun t => 44 :: 32 :: t).length := by
        conv => rhs; rw [← List.take_append_drop i ts, List.flatMap_append, List.length_append]
        omega
      omega
theorem all_ev (l : List S24) (hin : ∀ v ∈ l, In v) : ∃ K, ∀ k, K ≤ k → ∀ v ∈ l, rialtoref4_Print.f k v.f0 v.f1 v.f2 v.f3 = some (B (txt v)) := by
  induction l with
  | nil => exact ⟨0, fun k _ v hv => absurd hv (by simp)⟩
  | cons v l ih =>
    obtain ⟨K, hK⟩ := ih fun u hu => hin u (List.mem_cons_of_mem _ hu)
    obtain ⟨J, hJ⟩ := ev_print (hin v (List.mem_cons_self ..))
    refine ⟨K + J, fun k hk u hu => ?_⟩
    rcases List.mem_cons.1 hu with rfl | hu
    · exact hJ k (by omega)
    · exact hK k (by omega) u hu
theorem ref_row {l : List S24} (hin : ∀ v ∈ l, In v) (hl : l.length ≤ 1000) : ∃ k, rialtoref4_Row.f k l = some (B (rowT (l.map txt))) := by
  obtain ⟨K, hK⟩ := all_ev l hin
  have hz := rowT_short (l.map txt) (map_short hin)
  rw [List.length_map] at hz
  have hbl := body_len (l.map txt)
  have loop : ∀ (d i : Nat), i + d = l.length → rialtoref4_Row.l0 (K + d + 1) l (B (bodyT ((l.map txt).take i))) (i : Int) = some (B (rowT (l.map txt))) := by
    intro d
    induction d with
    | zero =>
      intro i hi
      have ht : (l.map txt).take i = l.map txt := List.take_of_length_le (by rw [List.length_map]; omega)
      rw [ht, rialtoref4_Row.l0, if_neg (by omega), if_pos (by rw [size_B]; omega), body_row]
      exact congrArg some (append_B _ [41])
    | succ d ih =>
      intro i hi
      have hlt : i < l.length := by omega
      have hlt' : i < (l.map txt).length := by rw [List.length_map]; exact hlt
      have hp := hK (K + d + 1) (by omega) l[i] (List.getElem_mem _)
      have hw : wrap64 ((i : Int) + 1) = ((i + 1 : Nat) : Int) := wrap_succ i (by omega)
      have h := ih (i + 1) (by omega)
      have hbt := body_take (l.map txt) i
      have hts : (txt l[i]).length ≤ 300 := txt_short (hin _ (List.getElem_mem _))
      have htk : (l.map txt).take (i + 1) = (l.map txt).take i ++ [txt l[i]] := by rw [List.take_succ_eq_append_getElem hlt', List.getElem_map]
      rw [htk] at h
      rw [show K + (d + 1) + 1 = (K + d + 1) + 1 from rfl, rialtoref4_Row.l0, if_pos (by omega), rd_is l i hlt]
      by_cases hi0 : (i : Int) > 0
      · have hne : (l.map txt).take i ≠ [] := fun e => by
          have := congrArg List.length e
          rw [List.length_take, List.length_map, List.length_nil] at this
          omega
        rw [body_snoc _ _ hne] at h
        have e1 : B (bodyT ((l.map txt).take i)) ++ (⟨#[44, 32]⟩ : ByteArray) = B (bodyT ((l.map txt).take i) ++ [44, 32]) := append_B _ [44, 32]
        rw [if_pos hi0, if_pos (by rw [size_B]; omega), if_pos (by omega), hp, Option.bind_some, e1, if_pos (by rw [size_B, size_B, List.length_append]; simp; omega), append_B, hw]
        exact h
      · obtain rfl : i = 0 := by omega
        rw [List.take_zero, body_snoc0] at h
        rw [if_neg hi0, if_pos (by omega), hp, Option.bind_some, List.take_zero, if_pos (by rw [size_B, size_B]; simp [bodyT]; omega), append_B, hw]
        exact h
  exact ⟨K + l.length + 1, loop l.length 0 (by omega)⟩
def scan : List UInt8 → Bool → Bool
  | [], o => !o
  | [c], o => if c = 34 then o else if c = 44 ∧ o = false then false else if c = 92 then false else !o
  | c :: e :: r, o => if c = 44 ∧ o = false then false else if c = 92 then scan r o else if c = 34 then scan (e :: r) (!o) else scan (e :: r) o
theorem l1_stop (x0 : ByteArray) (x5 : List S24) (k i : Nat) (o : Bool) (h : x0.size ≤ i ∨ (o = false ∧ bt x0 (i : Int) = 44)) : rialtoref4_Read.l1 (k + 1) x0 x5 (i : Int) o = rialtoref4_Read.j3 k x0 x5 (i : Int) o false := by
  by_cases hi : (i : Int) < (x0.size : Int)
  · obtain ⟨rfl, h44⟩ : o = false ∧ bt x0 (i : Int) = 44 := h.resolve_left (by omega)
    rw [rialtoref4_Read.l1, if_pos hi, if_neg (by decide), if_pos (by omega), h44]
    rfl
  · rw [rialtoref4_Read.l1, if_neg hi]
section
variable (x0 : ByteArray) (x5 : List S24) (hb : x0.size ≤ 1000)
include hb
theorem l1_go (k i : Nat) (o : Bool) (hi : i < x0.size) (h : o = true ∨ bt x0 (i : Int) ≠ 44) :
    rialtoref4_Read.l1 (k + 2) x0 x5 (i : Int) o = if bt x0 (i : Int) = 92 then rialtoref4_Read.l1 k x0 x5 ((i + 2 : Nat) : Int) o else if bt x0 (i : Int) = 34 then rialtoref4_Read.l1 k x0 x5 ((i + 1 : Nat) : Int) (!o) else rialtoref4_Read.l1 k x0 x5 ((i + 1 : Nat) : Int) o := by
  have w1 : Hid (wrap64 ((i : Int) + 1) = ((i + 1 : Nat) : Int)) := Lib.hid (wrap_nat i 1 (by omega))
  have w2 : Hid (wrap64 (((i + 1 : Nat) : Int) + 1) = ((i + 2 : Nat) : Int)) := Lib.hid (wrap_nat (i + 1) 1 (by omega))
  have go : rialtoref4_Read.j3 (k + 1) x0 x5 (i : Int) o true = if bt x0 (i : Int) = 92 then rialtoref4_Read.l1 k x0 x5 ((i + 2 : Nat) : Int) o else if bt x0 (i : Int) = 34 then rialtoref4_Read.l1 k x0 x5 ((i + 1 : Nat) : Int) (!o) else rialtoref4_Read.l1 k x0 x5 ((i + 1 : Nat) : Int) o := by
    rw [rialtoref4_Read.j3, if_pos rfl, if_pos (by omega), if_pos (by omega), w1.out, w2.out]
  rw [rialtoref4_Read.l1, if_pos (by omega)]
  cases o with
  | true => rw [if_pos rfl]; exact go
  | false =>
    have hne : bt x0 (i : Int) ≠ 44 := h.resolve_left (by decide)
    rw [if_neg (by decide), if_pos (by omega), bne_iff_ne.2 hne]
    exact go
theorem l1_find : ∀ (d i : Nat) (o : Bool), x0.size ≤ i + d → i ≤ x0.size + 1 → ∃ (K j : Nat) (q : Bool), j ≤ x0.size + 1 ∧ ∀ k, rialtoref4_Read.l1 (k + K) x0 x5 (i : Int) o = rialtoref4_Read.j3 k x0 x5 (j : Int) q false := by
  intro d
  induction d using Nat.strongRecOn with
  | _ d ih =>
  intro i o hd hi
  by_cases hs : x0.size ≤ i ∨ (o = false ∧ bt x0 (i : Int) = 44)
  · exact ⟨1, i, o, hi, fun k => l1_stop x0 x5 k i o hs⟩
  · have hlt : i < x0.size := by
      rcases Nat.lt_or_ge i x0.size with h | h
      · exact h
      · exact absurd (.inl h) hs
    have hg : o = true ∨ bt x0 (i : Int) ≠ 44 := by
      cases o with
      | true => exact .inl rfl
      | false => exact .inr fun h => hs (.inr ⟨rfl, h⟩)
    by_cases h92 : bt x0 (i : Int) = 92
    · obtain ⟨K, j, q, hj, hK⟩ := ih (d - 2) (by omega) (i + 2) o (by omega) (by omega)
      exact ⟨K + 2, j, q, hj, fun k => by rw [← Nat.add_assoc, l1_go x0 x5 hb _ i o hlt hg, if_pos h92, hK]⟩
    · by_cases h34 : bt x0 (i : Int) = 34
      · obtain ⟨K, j, q, hj, hK⟩ := ih (d - 1) (by omega) (i + 1) (!o) (by omega) (by omega)
        exact ⟨K + 2, j, q, hj, fun k => by rw [← Nat.add_assoc, l1_go x0 x5 hb _ i o hlt hg, if_neg h92, if_pos h34, hK]⟩
      · obtain ⟨K, j, q, hj, hK⟩ := ih (d - 1) (by omega) (i + 1) o (by omega) (by omega)
        exact ⟨K + 2, j, q, hj, fun k => by rw [← Nat.add_assoc, l1_go x0 x5 hb _ i o hlt hg, if_neg h92, if_neg h34, hK]⟩
end
theorem l1_scan (x5 : List S24) (m : List UInt8) (hm : m = [] ∨ ∃ r, m = 44 :: r) (n : Nat) : ∀ (r : List UInt8), r.length = n → ∀ (pre : List UInt8) (o : Bool), scan r o = true → (pre ++ (r ++ m)).length ≤ 1000 →
    ∃ K, ∀ k, rialtoref4_Read.l1 (k + K) (B (pre ++ (r ++ m))) x5 (pre.length : Int) o = rialtoref4_Read.j3 k (B (pre ++ (r ++ m))) x5 ((pre.length + r.length : Nat) : Int) false false := by
  induction n using Nat.strongRecOn with
  | _ n ih =>
  intro r hlen pre o hs hz
  match r, hlen, hs, hz with
  | [], _, hs, hz =>
    have ho : o = false := by cases o with
      | false => rfl
      | true => cases hs
    subst ho
    refine ⟨1, fun k => ?_⟩
    refine l1_stop _ x5 k pre.length false ?_
    rcases hm with rfl | ⟨r, rfl⟩
    · left; rw [size_B]; simp
    · right; exact ⟨rfl, bt_mid pre r 44⟩
  | [c], hl, hs, hz =>
    have hbt : bt (B (pre ++ ([c] ++ m))) (pre.length : Int) = (c.toNat : Int) := bt_mid pre m c
    have hlt : pre.length < (B (pre ++ ([c] ++ m))).size := by rw [size_B]; simp
    have hsz : (B (pre ++ ([c] ++ m))).size ≤ 1000 := by rw [size_B]; exact hz
    have step : ∀ q, scan [] q = true → ∃ K, ∀ k, rialtoref4_Read.l1 (k + K) (B (pre ++ ([c] ++ m))) x5 ((pre.length + 1 : Nat) : Int) q = rialtoref4_Read.j3 k (B (pre ++ ([c] ++ m))) x5 ((pre.length + 1 : Nat) : Int) false false := fun q hq => by
      obtain ⟨K, hK⟩ := ih 0 (by rw [← hl]; simp) [] rfl (pre ++ [c]) q hq (by simpa using hz)
      refine ⟨K, fun k => ?_⟩
      have := hK k
      rw [List.append_assoc, List.nil_append, List.length_append, List.length_nil, List.length_singleton] at this
      exact this
    have h92 : c ≠ 92 := fun h => by subst h; cases o <;> simp [scan] at hs
    have h44 : o = true ∨ c ≠ 44 := by
      cases o with
      | true => exact .inl rfl
      | false => exact .inr fun h => by subst h; simp [scan] at hs
    have g92 : ¬ ((c.toNat : Int) = 92) := (b_92 c).1 h92
    have g44 : o = true ∨ bt (B (pre ++ ([c] ++ m))) (pre.length : Int) ≠ 44 := h44.imp_right fun h e => h (UInt8.toNat_inj.1 (by rw [hbt] at e; rw [show (44 : UInt8).toNat = 44 by decide]; omega))
    by_cases h34 : c = 34
    · have ho : scan [] (!o) = true := by subst h34; cases o <;> simp [scan] at hs ⊢
      obtain ⟨K, hK⟩ := step (!o) ho
      refine ⟨K + 2, fun k => ?_⟩
      rw [← Nat.add_assoc, l1_go _ x5 hsz _ _ o hlt g44, hbt, if_neg g92, if_pos (by rw [h34]; rfl), hK]
      rfl
    · have ho : scan [] o = true := by
        have g : ¬ (c = 44 ∧ o = false) := fun ⟨a, b⟩ => h44.elim (fun h => by rw [b] at h; cases h) (fun h => h a)
        rw [scan, if_neg h34, if_neg g, if_neg h92] at hs
        exact hs
      obtain ⟨K, hK⟩ := step o ho
      refine ⟨K + 2, fun k => ?_⟩
      rw [← Nat.add_assoc, l1_go _ x5 hsz _ _ o hlt g44, hbt, if_neg g92, if_neg ((b_34 c).1 h34), hK]
      rfl
  | c :: e :: r, hl, hs, hz =>
    have hbt : bt (B (pre ++ (c :: e :: r ++ m))) (pre.length : Int) = (c.toNat : Int) := bt_mid pre _ c
    have hlt : pre.length < (B (pre ++ (c :: e :: r ++ m))).size := by rw [size_B]; simp
    have hsz : (B (pre ++ (c :: e :: r ++ m))).size ≤ 1000 := by rw [size_B]; exact hz
    have h44 : o = true ∨ c ≠ 44 := by
      cases o with
      | true => exact .inl rfl
      | false => exact .inr fun h => by subst h; simp [scan] at hs
    have g44 : o = true ∨ bt (B (pre ++ (c :: e :: r ++ m))) (pre.length : Int) ≠ 44 := h44.imp_right fun h e => h (UInt8.toNat_inj.1 (by rw [hbt] at e; rw [show (44 : UInt8).toNat = 44 by decide]; omega))
    have g : ¬ (c = 44 ∧ o = false) := fun ⟨a, b⟩ => h44.elim (fun h => by rw [b] at h; cases h) (fun h => h a)
    rw [scan, if_neg g] at hs
    have one : ∀ q, scan (e :: r) q = true → ∃ K, ∀ k, rialtoref4_Read.l1 (k + K) (B (pre ++ (c :: e :: r ++ m))) x5 ((pre.length + 1 : Nat) : Int) q = rialtoref4_Read.j3 k (B (pre ++ (c :: e :: r ++ m))) x5 ((pre.length + (c :: e :: r).length : Nat) : Int) false false := fun q hq => by
      obtain ⟨K, hK⟩ := ih (r.length + 1) (by rw [← hl]; simp) (e :: r) rfl (pre ++ [c]) q hq (by simpa using hz)
      refine ⟨K, fun k => ?_⟩
      have := hK k
      rw [List.append_assoc, List.length_append, List.length_singleton] at this
      rw [show pre.length + (c :: e :: r).length = pre.length + 1 + (e :: r).length by simp only [List.length_cons]; omega]
      exact this
    by_cases h92 : c = 92
    · rw [if_pos h92] at hs
      obtain ⟨K, hK⟩ := ih r.length (by rw [← hl]; simp; omega) r rfl (pre ++ [c, e]) o hs (by simpa using hz)
      refine ⟨K + 2, fun k => ?_⟩
      have := hK k
      rw [List.append_assoc, List.length_append] at this
      rw [← Nat.add_assoc, l1_go _ x5 hsz _ _ o hlt g44, hbt, if_pos (by rw [h92]; rfl)]
      rw [show pre.length + (c :: e :: r).length = pre.length + [c, e].length + r.length by simp only [List.length_cons, List.length_nil]; omega]
      exact this
    · rw [if_neg h92] at hs
      have g92 : ¬ ((c.toNat : Int) = 92) := (b_92 c).1 h92
      by_cases h34 : c = 34
      · rw [if_pos h34] at hs
        obtain ⟨K, hK⟩ := one (!o) hs
        refine ⟨K + 2, fun k => ?_⟩
        rw [← Nat.add_assoc, l1_go _ x5 hsz _ _ o hlt g44, hbt, if_neg g92, if_pos (by rw [h34]; rfl), hK]
      · rw [if_neg h34] at hs
        obtain ⟨K, hK⟩ := one o hs
        refine ⟨K + 2, fun k => ?_⟩
        rw [← Nat.add_assoc, l1_go _ x5 hsz _ _ o hlt g44, hbt, if_neg g92, if_neg ((b_34 c).1 h34), hK]
theorem scan_plain : ∀ (l : List UInt8), (∀ c ∈ l, c ≠ 44 ∧ c ≠ 92 ∧ c ≠ 34) → scan l false = true
  | [], _ => rfl
  | [c], h => by
    obtain ⟨h1, h2, h3⟩ := h c (List.mem_cons_self ..)
    rw [scan, if_neg h3, if_neg (fun ⟨a, _⟩ => h1 a), if_neg h2]
    rfl
  | c :: e :: r, h => by
    obtain ⟨h1, h2, h3⟩ := h c (List.mem_cons_self ..)
    rw [scan, if_neg (fun ⟨a, _⟩ => h1 a), if_neg h2, if_neg h3]
    exact scan_plain (e :: r) fun d hd => h d (List.mem_cons_of_mem _ hd)
theorem scan_cons (c : UInt8) (l : List UInt8) (hl : l ≠ []) (h2 : c ≠ 92) (h3 : c ≠ 34) : scan (c :: l) true = scan l true := by
  cases l with
  | nil => exact absurd rfl hl
  | cons e r => rw [scan, if_neg (fun ⟨_, b⟩ => by cases b), if_neg h2, if_neg h3]
theorem scan_quote : ∀ l : List UInt8, scan (l.flatMap esc ++ [34]) true = true
  | [] => rfl
  | c :: l => by
    have ih := scan_quote l
    have hne : l.flatMap esc ++ [34] ≠ [] := by simp
    rw [List.flatMap_cons, List.append_assoc]
    by_cases hq1 : c = 34 ∨ c = 92
    · have he : esc c = [92, c] := by unfold esc; rw [if_pos hq1]
      rw [he]
      show scan (92 :: c :: (l.flatMap esc ++ [34])) true = true
      rw [scan, if_neg (fun ⟨_, b⟩ => by cases b), if_pos rfl]
      exact ih
    · by_cases hq2 : c < 32 ∨ 126 < c
      · have he : esc c = [92, 120, hx (c.toNat / 16), hx (c.toNat % 16)] := by unfold esc; rw [if_neg hq1, if_pos hq2]; rfl
        have hp : ∀ n, n < 16 → hx n ≠ 92 ∧ hx n ≠ 34 := by decide
        have hc := c.toNat_lt
        have p1 := hp (c.toNat / 16) (by omega)
        have p2 := hp (c.toNat % 16) (by omega)
        rw [he]
        show scan (92 :: 120 :: (hx (c.toNat / 16) :: hx (c.toNat % 16) :: (l.flatMap esc ++ [34]))) true = true
        rw [scan, if_neg (fun ⟨_, b⟩ => by cases b), if_pos rfl, scan_cons _ _ (by simp) p1.1 p1.2, scan_cons _ _ hne p2.1 p2.2]
        exact ih
      · have he : esc c = [c] := by unfold esc; rw [if_neg hq1, if_neg hq2]
        rw [he]
        show scan (c :: (l.flatMap esc ++ [34])) true = true
        rw [scan_cons _ _ hne (fun h => hq1 (.inr h)) (fun h => hq1 (.inl h))]
        exact ih
theorem hx_plain3 : ∀ n, n < 16 → hx n ≠ 44 ∧ hx n ≠ 92 ∧ hx n ≠ 34 := by decide
theorem hexL_plain (l : List UInt8) : ∀ c ∈ hexL l, c ≠ 44 ∧ c ≠ 92 ∧ c ≠ 34 := by
  intro c hc
  unfold hexL at hc
  obtain ⟨d, -, hd⟩ := List.mem_flatMap.1 hc
  have := d.toNat_lt
  unfold two at hd
  rcases List.mem_cons.1 hd with rfl | hd
  · exact hx_plain3 _ (by omega)
  · obtain rfl := List.mem_singleton.1 hd
    exact hx_plain3 _ (by omega)
theorem Vt.scan {k i : Int} {s : ByteArray} {f : Nat} {t : List UInt8} (h : Vt k i s f t) : scan t false = true := by
  cases h with
  | int n h0 h1 =>
    refine scan_plain _ fun c hc => ?_
    have := (isNum_iff _).1 (itoa_num i c hc)
    refine ⟨?_, ?_, ?_⟩ <;> rintro rfl <;> revert this <;> decide
  | yes => decide
  | no => decide
  | str s h =>
    have e : quoteL s.data.toList = 34 :: (s.data.toList.flatMap esc ++ [34]) := by simp [quoteL]
    rw [e]
    have hq := scan_quote s.data.toList
    cases hl : s.data.toList.flatMap esc ++ [34] with
    | nil => simp at hl
    | cons c r =>
      rw [hl] at hq
      rw [Mb.scan, if_neg (by decide), if_neg (by decide), if_pos rfl]
      exact hq
  | bytes s h =>
    refine scan_plain _ fun c hc => ?_
    rcases List.mem_cons.1 hc with rfl | hc
    · decide
    · exact hexL_plain _ c hc
  | float f h =>
    refine scan_plain _ fun c hc => ?_
    rcases List.mem_cons.1 hc with rfl | hc
    · decide
    · rw [← eight_hex] at hc
      exact hexL_plain _ c hc
end Go.Proofs.YtpjfhdbkkomogaaDoor.Mb
namespace Go.Proofs.YtpjfhdbkkomogaaDoor.Mb
open Go.RowKit Go.Proofs.YtpjfhdbkkomogaaDoorW.PrintWords Go.Proofs.YtpjfhdbkkomogaaDoorW.PrintLast Go.Proofs.YtpjfhdbkkomogaaDoorW.PrintMore Go.Proofs.YtpjfhdbkkomogaaDoor.Px Go.Proofs.YtpjfhdbkkomogaaDoor.Gvn
theorem mn_nat (i j : Nat) : mn (i : Int) (j : Int) = ((min i j : Nat) : Int) := by unfold mn; split <;> omega
theorem ev_parse (s : ByteArray) (hs : s.size ≤ 1000) : (∃ v, Val v s ∧ Ev (fun k => rialtoref4_Parse.f k s) (some5 v)) ∨ Ev (fun k => rialtoref4_Parse.f k s) none5 := by
  obtain ⟨k, r, hk, hr⟩ := ref_parse s hs
  have he := ev_of (g := fun k => rialtoref4_Parse.f k s) (fun k => rialtoref4_Parse.mono _ k) hk
  rcases hr with ⟨v, hv, rfl⟩ | ⟨-, rfl⟩
  · exact .inl ⟨v, hv, he⟩
  · exact .inr he
theorem ev_parse_val (s : ByteArray) (hs : s.size ≤ 1000) {v : S24} (hv : Val v s) : Ev (fun k => rialtoref4_Parse.f k s) (some5 v) := by
  obtain ⟨k, r, hk, hr⟩ := ref_parse s hs
  have he := ev_of (g := fun k => rialtoref4_Parse.f k s) (fun k => rialtoref4_Parse.mono _ k) hk
  rcases hr with ⟨u, hu, rfl⟩ | ⟨hn, -⟩
  · rw [val_one hs hv hu]; exact he
  · exact absurd hv (hn v)
def behindP (k : Nat) (rest : ByteArray) (y : List S24) : Option (List S24 × Int) := if rest.toList = ([] : List UInt8) then some (y, 0) else if (rest.size : Int) < 3 then some ([], 30) else if (rest.extract 0 2).toList = ([44, 32] : List UInt8) then rialtoref4_Read.l0 k (rest.extract 2 rest.size) y else some ([], 30)
theorem j3_good (k : Nat) (x0 : ByteArray) (x5 : List S24) (j : Nat) (q : Bool) (v : S24) (h5 : x5.length ≤ 2000) (hp : rialtoref4_Parse.f k (x0.extract 0 (min j x0.size)) = some (some5 v)) :
    rialtoref4_Read.j3 (k + 1) x0 x5 (j : Int) q false = behindP k (x0.extract (min j x0.size) x0.size) (x5 ++ [v]) := by
  have e : ((min j x0.size : Nat) : Int).toNat = min j x0.size := by omega
  rw [rialtoref4_Read.j3, if_neg (by decide), mn_nat, if_pos (by omega), if_pos (by omega), e, hp, Option.bind_some]
  unfold some5 behindP
  dsimp only
  rw [if_pos rfl, if_pos (by omega), Option.bind_some]
  split
  · rfl
  · split
    · rfl
    · rw [if_pos (by decide), if_pos (by omega)]
theorem j3_bad (k : Nat) (x0 : ByteArray) (x5 : List S24) (j : Nat) (q : Bool) (hp : rialtoref4_Parse.f k (x0.extract 0 (min j x0.size)) = some none5) :
    rialtoref4_Read.j3 (k + 1) x0 x5 (j : Int) q false = some ([], 30) := by
  have e : ((min j x0.size : Nat) : Int).toNat = min j x0.size := by omega
  rw [rialtoref4_Read.j3, if_neg (by decide), mn_nat, if_pos (by omega), if_pos (by omega), e, hp, Option.bind_some]
  unfold none5
  dsimp only
  rw [if_neg (by decide)]
theorem ev_l0 {x0 : ByteArray} {x5 : List S24} {K : Nat} {j : Nat} {q : Bool} (hne : ¬ x0.toList = ([] : List UInt8)) (hK : ∀ k, rialtoref4_Read.l1 (k + K) x0 x5 ((0 : Nat) : Int) false = rialtoref4_Read.j3 k x0 x5 (j : Int) q false) {r : List S24 × Int}
    (h : Ev (fun k => rialtoref4_Read.j3 k x0 x5 (j : Int) q false) r) : Ev (fun k => rialtoref4_Read.l0 k x0 x5) r := by
  obtain ⟨J, hJ⟩ := h
  refine ⟨J + K + 1, fun k hk => ?_⟩
  obtain ⟨d, rfl⟩ : ∃ d, k = (J + d + K) + 1 := ⟨k - (J + K + 1), by omega⟩
  show rialtoref4_Read.l0 (J + d + K + 1) x0 x5 = some r
  rw [rialtoref4_Read.l0, if_neg hne]
  exact (hK (J + d)).trans (hJ (J + d) (by omega))
theorem ev_good {x0 : ByteArray} {x5 : List S24} {j : Nat} {q : Bool} {v : S24} (h5 : x5.length ≤ 2000) (hp : Ev (fun k => rialtoref4_Parse.f k (x0.extract 0 (min j x0.size))) (some5 v)) {r : List S24 × Int}
    (h : Ev (fun k => behindP k (x0.extract (min j x0.size) x0.size) (x5 ++ [v])) r) : Ev (fun k => rialtoref4_Read.j3 k x0 x5 (j : Int) q false) r := by
  obtain ⟨J, hJ⟩ := h
  obtain ⟨K, hK⟩ := hp
  refine ⟨J + K + 1, fun k hk => ?_⟩
  obtain ⟨d, rfl⟩ : ∃ d, k = d + 1 := ⟨k - 1, by omega⟩
  show rialtoref4_Read.j3 (d + 1) x0 x5 (j : Int) q false = some r
  rw [j3_good d x0 x5 j q v h5 (hK d (by omega))]
  exact hJ d (by omega)
theorem ev_bad {x0 : ByteArray} {x5 : List S24} {j : Nat} {q : Bool} (hp : Ev (fun k => rialtoref4_Parse.f k (x0.extract 0 (min j x0.size))) none5) : Ev (fun k => rialtoref4_Read.j3 k x0 x5 (j : Int) q false) ([], 30) := by
  obtain ⟨K, hK⟩ := hp
  refine ⟨K + 1, fun k hk => ?_⟩
  obtain ⟨d, rfl⟩ : ∃ d, k = d + 1 := ⟨k - 1, by omega⟩
  exact j3_bad d x0 x5 j q (hK d (by omega))
inductive Rw : List S24 → List (List UInt8) → Prop
  | nil : Rw [] []
  | cons (v : S24) (t : List UInt8) (us : List S24) (ts : List (List UInt8)) (h : Vt v.f0 v.f1 v.f2 v.f3 t) (r : Rw us ts) : Rw (v :: us) (t :: ts)
theorem Rw.len {us : List S24} {ts : List (List UInt8)} (h : Rw us ts) : ts.length = us.length := by
  induction h with
  | nil => rfl
  | cons v t us ts h r ih => rw [List.length_cons, List.length_cons, ih]
theorem Rw.at_ {us : List S24} {ts : List (List UInt8)} (h : Rw us ts) : ∀ (i : Nat) (h1 : i < us.length) (h2 : i < ts.length), Vt us[i].f0 us[i].f1 us[i].f2 us[i].f3 ts[i] := by
  induction h with
  | nil => intro i h1; exact absurd h1 (by simp)
  | cons v t us ts h r ih =>
    intro i h1 h2
    cases i with
    | zero => exact h
    | succ i => exact ih i (by simpa using h1) (by simpa using h2)
theorem rw_of : ∀ (us : List S24) (ts : List (List UInt8)), ts.length = us.length → (∀ (i : Nat) (h1 : i < us.length) (h2 : i < ts.length), Vt us[i].f0 us[i].f1 us[i].f2 us[i].f3 ts[i]) → Rw us ts
  | [], [], _, _ => .nil
  | [], t :: ts, h, _ => absurd h (by simp)
  | v :: us, [], h, _ => absurd h (by simp)
  | v :: us, t :: ts, h, ha => .cons v t us ts (ha 0 (by simp) (by simp)) (rw_of us ts (by simpa using h) fun i h1 h2 => ha (i + 1) (by simpa using h1) (by simpa using h2))
theorem join_two (t u : List UInt8) (ts : List (List UInt8)) : Lib.join (t :: u :: ts) [44, 32] = t ++ (44 :: 32 :: Lib.join (u :: ts) [44, 32]) := by
  rw [Lib.join_cons, Lib.join_cons]
  simp [Lib.joinTail]
theorem rw_long {us : List S24} {ts : List (List UInt8)} (h : Rw us ts) (hne : ts ≠ []) : 1 ≤ (Lib.join ts [44, 32]).length := by
  cases h with
  | nil => exact absurd rfl hne
  | cons v t us ts h r =>
    rw [Lib.join_cons, List.length_append]
    have := h.long
    omega
theorem Rt.long {l : List S24} {ts : List (List UInt8)} (h : Rt l ts) : ∀ t ∈ ts, 1 ≤ t.length := by
  intro t ht
  obtain ⟨i, hi, rfl⟩ := List.mem_iff_getElem.1 ht
  exact (h.at_ i (by rw [← h.len]; exact hi) hi).long
theorem rw_count : ∀ ts : List (List UInt8), (∀ t ∈ ts, 1 ≤ t.length) → ts.length ≤ (Lib.join ts [44, 32]).length
  | [], _ => Nat.zero_le _
  | [t], h => by rw [Lib.join_one]; exact h t (List.mem_cons_self ..)
  | t :: u :: ts, h => by
    have h1 := rw_count (u :: ts) fun w hw => h w (List.mem_cons_of_mem _ hw)
    rw [join_two, List.length_append]
    simp only [List.length_cons] at h1 ⊢
    omega
theorem inside_is {us : List S24} {ts : List (List UInt8)} (h : Rw us ts) : ∀ x5 : List S24, (Lib.join ts [44, 32]).length ≤ 1000 → x5.length + us.length ≤ 2000 → Ev (fun k => rialtoref4_Read.l0 k (B (Lib.join ts [44, 32])) x5) (x5 ++ us, 0) := by
  induction h with
  | nil =>
    intro x5 _ _
    refine ⟨1, fun k hk => ?_⟩
    obtain ⟨d, rfl⟩ : ∃ d, k = d + 1 := ⟨k - 1, by omega⟩
    show rialtoref4_Read.l0 (d + 1) (B []) x5 = _
    rw [rialtoref4_Read.l0, if_pos (toList_B []), List.append_nil]
  | cons v t us ts h r ih =>
    intro x5 hz hl
    rw [List.length_cons] at hl
    obtain ⟨m, hm, hj⟩ : ∃ m, (m = [] ∨ ∃ r, m = 44 :: r) ∧ Lib.join (t :: ts) [44, 32] = t ++ m := by
      cases ts with
      | nil => exact ⟨[], .inl rfl, by rw [Lib.join_one, List.append_nil]⟩
      | cons u ts => exact ⟨_, .inr ⟨_, rfl⟩, join_two t u ts⟩
    have hlong := h.long
    rw [hj] at hz
    have hne : ¬ (B (Lib.join (t :: ts) [44, 32])).toList = ([] : List UInt8) := by
      rw [toList_B, hj]
      intro e
      have := congrArg List.length e
      rw [List.length_append, List.length_nil] at this
      omega
    obtain ⟨K, hK⟩ := l1_scan x5 m hm t.length t rfl [] false h.scan (by simpa using hz)
    rw [List.nil_append, ← hj] at hK
    rw [List.length_append] at hz
    have hsz : (B (Lib.join (t :: ts) [44, 32])).size = t.length + m.length := by rw [size_B, hj, List.length_append]
    have hmin : min (([] : List UInt8).length + t.length) (B (Lib.join (t :: ts) [44, 32])).size = t.length := by rw [hsz, List.length_nil]; omega
    have hpc : (B (Lib.join (t :: ts) [44, 32])).extract 0 t.length = B t := by
      rw [extract_B, List.drop_zero, Nat.sub_zero, hj, List.take_left]
    have hrest : (B (Lib.join (t :: ts) [44, 32])).extract t.length (B (Lib.join (t :: ts) [44, 32])).size = B m := by
      rw [tail_B, hj, List.drop_left]
    have hval : Val v (B t) := by unfold Val; rw [data_B]; exact h
    refine ev_l0 hne hK (ev_good (v := v) (by omega) ?_ ?_)
    · rw [hmin, hpc]
      exact ev_parse_val (B t) (by rw [size_B]; omega) hval
    · rw [hmin, hrest]
      cases ts with
      | nil =>
        cases r
        rw [Lib.join_one] at hj
        have hm0 : m = [] := by
          have := congrArg List.length hj
          rw [List.length_append] at this
          exact List.eq_nil_of_length_eq_zero (by omega)
        subst hm0
        exact ⟨0, fun k _ => by show behindP k (B []) _ = _; unfold behindP; rw [if_pos (toList_B [])]⟩
      | cons u ts =>
        have hmj : m = 44 :: 32 :: Lib.join (u :: ts) [44, 32] := by
          rw [join_two] at hj
          exact (List.append_cancel_left hj).symm
        have hlo := rw_long r (by simp)
        have hrec := ih (x5 ++ [v]) (by rw [hmj] at hz; simp only [List.length_cons] at hz; omega) (by rw [List.length_append, List.length_singleton]; omega)
        obtain ⟨J, hJ⟩ := hrec
        refine ⟨J, fun k hk => ?_⟩
        show behindP k (B m) (x5 ++ [v]) = _
        have hms : (B m).size = (Lib.join (u :: ts) [44, 32]).length + 2 := by rw [size_B, hmj, List.length_cons, List.length_cons]
        have e2 : ((B m).extract 0 2).toList = ([44, 32] : List UInt8) := by rw [extract_B, toList_B, hmj]; rfl
        have e3 : (B m).extract 2 (B m).size = B (Lib.join (u :: ts) [44, 32]) := by rw [tail_B, hmj]; rfl
        unfold behindP
        rw [if_neg (by rw [toList_B, hmj]; simp), if_neg (by omega), if_pos e2, e3]
        have := hJ k hk
        rw [List.append_assoc] at this
        exact this
theorem inside_any (d : Nat) : ∀ (x0 : ByteArray) (x5 : List S24), x0.size ≤ d → d ≤ 1000 → x5.length + d ≤ 2000 →
    ∃ r, Ev (fun k => rialtoref4_Read.l0 k x0 x5) r ∧ (r = ([], 30) ∨ ∃ us ts, Rw us ts ∧ r = (x5 ++ us, 0) ∧ x0.data.toList = Lib.join ts [44, 32]) := by
  induction d using Nat.strongRecOn with
  | _ d ih =>
  intro x0 x5 hx hd hl
  by_cases hne : x0.toList = ([] : List UInt8)
  · refine ⟨(x5, 0), ⟨1, fun k hk => ?_⟩, .inr ⟨[], [], .nil, by rw [List.append_nil], ?_⟩⟩
    · obtain ⟨d, rfl⟩ : ∃ d, k = d + 1 := ⟨k - 1, by omega⟩
      show rialtoref4_Read.l0 (d + 1) x0 x5 = _
      rw [rialtoref4_Read.l0, if_pos hne]
    · rw [ByteArray.toList_eq] at hne
      exact hne
  · have hp := size_pos_of hne
    obtain ⟨K, j, q, hj, hK⟩ := l1_find x0 x5 (by omega) x0.size 0 false (by omega) (by omega)
    obtain ⟨M, hM⟩ : ∃ M, M = min j x0.size := ⟨_, rfl⟩
    have hMle : M ≤ x0.size := by omega
    have hps : (x0.extract 0 M).size = M := by rw [size_cut _ _ _ hMle]; omega
    rcases ev_parse (x0.extract 0 M) (by omega) with ⟨v, hv, he⟩ | he
    · have hM1 : 1 ≤ M := by
        have := hv.long
        rw [size_data, hps] at this
        exact this
      have hrs : (x0.extract M x0.size).size = x0.size - M := size_tail x0 M
      have hdata : x0.data.toList = (x0.extract 0 M).data.toList ++ (x0.extract M x0.size).data.toList := by
        have e := B_data x0
        rw [← e, extract_B, tail_B, data_B, data_B, data_B, List.drop_zero, Nat.sub_zero, List.take_append_drop]
      have fin : ∀ r, Ev (fun k => behindP k (x0.extract M x0.size) (x5 ++ [v])) r → Ev (fun k => rialtoref4_Read.l0 k x0 x5) r := fun r hr => by
        rw [hM] at he hr
        exact ev_l0 hne hK (ev_good (by omega) he hr)
      by_cases h0 : (x0.extract M x0.size).toList = ([] : List UInt8)
      · refine ⟨(x5 ++ [v], 0), fin _ ⟨0, fun k _ => ?_⟩, .inr ⟨[v], [(x0.extract 0 M).data.toList], .cons v _ [] [] hv .nil, rfl, ?_⟩⟩
        · show behindP k _ _ = _
          unfold behindP
          rw [if_pos h0]
        · rw [Lib.join_one, hdata]
          rw [ByteArray.toList_eq] at h0
          rw [h0, List.append_nil]
      · by_cases h3 : ((x0.extract M x0.size).size : Int) < 3
        · refine ⟨([], 30), fin _ ⟨0, fun k _ => ?_⟩, .inl rfl⟩
          show behindP k _ _ = _
          unfold behindP
          rw [if_neg h0, if_pos h3]
        · by_cases h2 : ((x0.extract M x0.size).extract 0 2).toList = ([44, 32] : List UInt8)
          · have hz2 := size_tail (x0.extract M x0.size) 2
            obtain ⟨r, ⟨J, hJ⟩, hr⟩ := ih (d - 1) (by omega) ((x0.extract M x0.size).extract 2 (x0.extract M x0.size).size) (x5 ++ [v]) (by omega) (by omega) (by rw [List.length_append, List.length_singleton]; omega)
            refine ⟨r, fin _ ⟨J, fun k hk => ?_⟩, ?_⟩
            · show behindP k _ _ = _
              unfold behindP
              rw [if_neg h0, if_neg h3, if_pos h2]
              exact hJ k hk
            · rcases hr with rfl | ⟨us, ts, hrw, rfl, hts⟩
              · exact .inl rfl
              · right
                refine ⟨v :: us, (x0.extract 0 M).data.toList :: ts, .cons v _ us ts hv hrw, by rw [List.append_assoc]; rfl, ?_⟩
                have hr2 : (x0.extract M x0.size).data.toList = 44 :: 32 :: ((x0.extract M x0.size).extract 2 (x0.extract M x0.size).size).data.toList := by
                  have e := B_data (x0.extract M x0.size)
                  generalize (x0.extract M x0.size).data.toList = l at e
                  rw [← e, extract_B, toList_B, List.drop_zero] at h2
                  rw [← e, tail_B, data_B]
                  have := List.take_append_drop 2 l
                  rw [show l.take 2 = [44, 32] from h2] at this
                  exact this.symm
                have htn : ts ≠ [] := fun e => by
                  rw [e, Lib.join_nil] at hts
                  have := congrArg List.length hts
                  rw [size_data, List.length_nil] at this
                  omega
                cases ts with
                | nil => exact absurd rfl htn
                | cons u ts => rw [join_two, ← hts, ← hr2, ← hdata]
          · refine ⟨([], 30), fin _ ⟨0, fun k _ => ?_⟩, .inl rfl⟩
            show behindP k _ _ = _
            unfold behindP
            rw [if_neg h0, if_neg h3, if_neg h2]
    · rw [hM] at he
      exact ⟨([], 30), ev_l0 hne hK (ev_bad he), .inl rfl⟩
theorem ref_one_way {s : ByteArray} {k j : Nat} {r q : List S24 × Int} (h : rialtoref4_Read.f k s = some r) (h' : rialtoref4_Read.f j s = some q) : r = q :=
  grow_one (g := fun k => rialtoref4_Read.f k s) (fun k => rialtoref4_Read.mono _ k) h h'
theorem refread_row (m : List UInt8) (hm : m.length ≤ 998) (r : List S24 × Int) (h : Ev (fun k => rialtoref4_Read.l0 k (B m) []) r) : ∃ k, rialtoref4_Read.f k (B (40 :: (m ++ [41]))) = some r := by
  obtain ⟨K, hK⟩ := h
  have hz : (B (40 :: (m ++ [41]))).size = m.length + 2 := by rw [size_B, List.length_cons, List.length_append]; rfl
  have w1 : wrap64 (((B (40 :: (m ++ [41]))).size : Int) - 1) = ((m.length + 1 : Nat) : Int) := by rw [hz]; unfold wrap64; omega
  have b1 : bt (B (40 :: (m ++ [41]))) ((m.length + 1 : Nat) : Int) = 41 := bt_at2 (40 :: m) [] 41 _ _ rfl (by rw [List.length_cons])
  have e : (B (40 :: (m ++ [41]))).extract 1 (((m.length + 1 : Nat) : Int)).toNat = B m := by
    rw [extract_B, show (((m.length + 1 : Nat) : Int)).toNat - 1 = m.length by omega, List.drop_succ_cons, List.drop_zero, List.take_left]
  refine ⟨K + 1, ?_⟩
  unfold rialtoref4_Read.f
  rw [if_neg (by omega), if_pos (by omega), bt_cons, if_pos (by decide), w1, if_pos (by omega), if_pos (by omega), b1, show ((41 : Int) != 41) = false from rfl, rialtoref4_Read.j0, if_neg (by decide), w1, if_pos (by omega), if_pos (by omega), e]
  exact hK K (Nat.le_refl _)
theorem refread_not (s : ByteArray) (h : s.size < 2 ∨ bt s 0 ≠ 40 ∨ bt s ((s.size - 1 : Nat) : Int) ≠ 41) (hs : s.size ≤ 1000) : rialtoref4_Read.f 1 s = some ([], 30) := by
  have stop : rialtoref4_Read.j0 1 s (s.size : Int) true = some ([], 30) := by rw [rialtoref4_Read.j0, if_pos rfl]
  unfold rialtoref4_Read.f
  by_cases h2 : (s.size : Int) < 2
  · rw [if_pos h2]; exact stop
  · have w1 : wrap64 ((s.size : Int) - 1) = ((s.size - 1 : Nat) : Int) := by unfold wrap64; omega
    rw [if_neg h2, if_pos (by omega)]
    by_cases h40 : bt s 0 = 40
    · have h41 : bt s ((s.size - 1 : Nat) : Int) ≠ 41 := by
        rcases h with h | h | h
        · omega
        · exact absurd h40 h
        · exact h
      rw [if_pos h40, w1, if_pos (by omega), if_pos (by omega), bne_iff_ne.2 h41]
      exact stop
    · rw [if_neg h40]; exact stop
theorem split_row (s : ByteArray) (h2 : 2 ≤ s.size) (h0 : bt s 0 = 40) (h1 : bt s ((s.size - 1 : Nat) : Int) = 41) : ∃ m, s = B (40 :: (m ++ [41])) := by
  have e := B_data s
  have hl : s.data.toList.length = s.size := size_data s
  generalize s.data.toList = l at e hl
  subst e
  rw [size_B] at *
  match l, h2, h0, h1 with
  | c :: r, h2, h0, h1 =>
    have hr : r ≠ [] := fun e => by rw [e] at h2; simp at h2
    obtain ⟨m, d, rfl⟩ : ∃ m d, r = m ++ [d] := ⟨r.dropLast, r.getLast hr, (List.dropLast_concat_getLast hr).symm⟩
    have b1 : bt (B (c :: (m ++ [d]))) (((c :: (m ++ [d])).length - 1 : Nat) : Int) = (d.toNat : Int) := bt_at2 (c :: m) [] d _ _ rfl (by simp)
    rw [bt_cons] at h0
    rw [b1] at h1
    have hc : c = 40 := UInt8.toNat_inj.1 (by rw [show (40 : UInt8).toNat = 40 by decide]; omega)
    have hd : d = 41 := UInt8.toNat_inj.1 (by rw [show (41 : UInt8).toNat = 41 by decide]; omega)
    exact ⟨m, by rw [hc, hd]⟩
theorem ref_char (s : ByteArray) (hs : s.size ≤ 1000) : ∃ k r, rialtoref4_Read.f k s = some r ∧ ((∃ l, Good l s ∧ r = (l, 0)) ∨ ((¬ ∃ l, Good l s) ∧ r = ([], 30))) := by
  have hgood : ∀ l, Good l s → ∃ k, rialtoref4_Read.f k s = some (l, 0) := by
    rintro l ⟨ts, hrt, rfl⟩
    rw [size_B, rowT_is, List.length_cons, List.length_append, List.length_singleton] at hs
    rw [rowT_is]
    have h := inside_is (rw_of l ts hrt.len hrt.at_) [] (by omega) (by have := rw_count ts hrt.long; rw [List.length_nil, ← hrt.len]; omega)
    exact refread_row (Lib.join ts [44, 32]) (by omega) (l, 0) h
  have hno : (¬ ∃ l, Good l s) → (∃ k, rialtoref4_Read.f k s = some ([], 30)) → ∃ k r, rialtoref4_Read.f k s = some r ∧ ((∃ l, Good l s ∧ r = (l, 0)) ∨ ((¬ ∃ l, Good l s) ∧ r = ([], 30))) := fun h ⟨k, hk⟩ => ⟨k, _, hk, .inr ⟨h, rfl⟩⟩
  have back : (∃ k, rialtoref4_Read.f k s = some ([], 30)) → ∃ k r, rialtoref4_Read.f k s = some r ∧ ((∃ l, Good l s ∧ r = (l, 0)) ∨ ((¬ ∃ l, Good l s) ∧ r = ([], 30))) := fun ⟨k, hk⟩ => hno (fun ⟨l, hl⟩ => by
    obtain ⟨j, hj⟩ := hgood l hl
    have := ref_one_way hk hj
    cases this) ⟨k, hk⟩
  by_cases hc : s.size < 2 ∨ bt s 0 ≠ 40 ∨ bt s ((s.size - 1 : Nat) : Int) ≠ 41
  · exact back ⟨1, refread_not s hc hs⟩
  · have h2 : 2 ≤ s.size := by
      rcases Nat.lt_or_ge s.size 2 with h | h
      · exact absurd (.inl h) hc
      · exact h
    have h0 : bt s 0 = 40 := Classical.byContradiction fun h => hc (.inr (.inl h))
    have h1 : bt s ((s.size - 1 : Nat) : Int) = 41 := Classical.byContradiction fun h => hc (.inr (.inr h))
    obtain ⟨m, rfl⟩ := split_row s h2 h0 h1
    rw [size_B, List.length_cons, List.length_append, List.length_singleton] at hs
    obtain ⟨r, hr, hq⟩ := inside_any m.length (B m) [] (by rw [size_B]; exact Nat.le_refl _) (by omega) (by rw [List.length_nil]; omega)
    obtain ⟨k, hk⟩ := refread_row m (by omega) r hr
    rcases hq with rfl | ⟨us, ts, hrw, rfl, hts⟩
    · exact back ⟨k, hk⟩
    · rw [data_B] at hts
      rw [List.nil_append] at hk
      refine ⟨k, (us, 0), hk, .inl ⟨us, ⟨ts, ⟨hrw.len, ?_, ?_, hrw.at_⟩, ?_⟩, rfl⟩⟩
      · have := rw_count ts (fun t ht => by
          obtain ⟨i, hi, rfl⟩ := List.mem_iff_getElem.1 ht
          exact (hrw.at_ i (by rw [← hrw.len]; exact hi) hi).long)
        rw [← hts] at this
        rw [← hrw.len]
        omega
      · rw [rowT_is, ← hts, List.length_cons, List.length_append, List.length_singleton]
        omega
      · rw [rowT_is, ← hts]
end Go.Proofs.YtpjfhdbkkomogaaDoor.Mb
namespace Go.Proofs.YtpjfhdbkkomogaaDoor.Mb
open Go.RowKit Go.Proofs.YtpjfhdbkkomogaaDoorW.PrintWords Go.Proofs.YtpjfhdbkkomogaaDoorW.PrintLast Go.Proofs.YtpjfhdbkkomogaaDoorW.PrintMore Go.Proofs.YtpjfhdbkkomogaaDoor.Px Go.Proofs.YtpjfhdbkkomogaaDoor.Gvn
open Go.Lib (itoa)
attribute [local go_sem] run_store_float
theorem itoa_small (n : Nat) (h : n < 10) : itoa (n : Int) = [(48 + n).toUInt8] := by unfold itoa; rw [if_neg (by omega)]; exact dec_small n h
theorem one_text : Vt 5 0 ⟨#[]⟩ 4607182418800017408 [102, 51, 102, 102, 48, 48, 48, 48, 48, 48, 48, 48, 48, 48, 48, 48, 48] := .float 4607182418800017408 (by decide)
theorem known_one (w : World) (hw : Errs w) : Calls Tryd.prog 14 #[.string ⟨#[102, 51, 102, 102, 48, 48, 48, 48, 48, 48, 48, 48, 48, 48, 48, 48, 48]⟩] w fun e w' => e = .returned (.tuple #[Av 5 0 ⟨#[]⟩ 4607182418800017408, .int .i64 0]) ∧ Below w.heap.size w w' :=
  one_text.parse w hw
theorem known_print (w : World) (hw : Errs w) : Calls Tryd.prog 10 #[Av 5 0 ⟨#[]⟩ 4607182418800017408] w fun e w' => e = .returned (.string ⟨#[102, 51, 102, 102, 48, 48, 48, 48, 48, 48, 48, 48, 48, 48, 48, 48, 48]⟩) ∧ Below w.heap.size w w' :=
  one_text.print w hw.tabs
theorem known_five (w : World) (hw : Errs w) : Calls Tryd.prog 14 #[.string ⟨#[48, 53]⟩] w fun e w' => e = .returned (.tuple #[Av 0 0 ⟨#[]⟩ 0, .int .i64 30]) ∧ Below w.heap.size w w' := by
  have h5 : itoa (5 : Nat) = [53] := itoa_small 5 (by decide)
  have := bad_nought (5 : Nat) (by decide) (by decide) w hw
  rw [append_B, h5] at this
  exact this
def row3 : List S24 := [⟨1, 1, ⟨#[]⟩, 0⟩, ⟨3, 0, ⟨#[97, 44, 32, 98]⟩, 0⟩, ⟨2, 1, ⟨#[]⟩, 0⟩]
def row3T : List (List UInt8) := [[49], [34, 97, 44, 32, 98, 34], [116, 114, 117, 101]]
theorem row3_rt : Rt row3 row3T := by
  refine ⟨rfl, by decide, by decide, fun i h h' => ?_⟩
  have h1 : itoa (1 : Nat) = [49] := itoa_small 1 (by decide)
  match i, h, h' with
  | 0, _, _ =>
    have := Vt.int (1 : Nat) (by decide) (by decide)
    rw [h1] at this
    exact this
  | 1, _, _ => exact Vt.str ⟨#[97, 44, 32, 98]⟩ (by decide)
  | 2, _, _ => exact Vt.yes
  | n + 3, h, _ => exact absurd h (by simp [row3])
theorem known_read (w : World) (hw : Errs w) : Calls Tryd.prog 16 #[.string ⟨#[40, 49, 44, 32, 34, 97, 44, 32, 98, 34, 44, 32, 116, 114, 117, 101, 41]⟩] w fun e w' => (∃ A c, e = .returned (.tuple #[.slice A 3 c, .int .i64 0])) ∧ Below w.heap.size w w' := by
  have h := text_Read.calls 14 (B (rowT row3T)) row3 0 w hw (read_is row3_rt 14 (by decide))
  refine Calls.mono ?_ fun e w' hq => hq
  refine Calls.mono h ?_
  rintro e w' ⟨v, he, hR, hb⟩
  obtain ⟨A, c, rfl⟩ : ∃ A c, v = .slice A 3 c := by
    have := Kd.R_slice hR
    exact this
  exact ⟨⟨A, c, he⟩, hb⟩
theorem known_row (w : World) (hw : Errs w) : Calls Tryd.prog 12 #[.slice none 0 0] w fun e w' => e = .returned (.string ⟨#[40, 41]⟩) ∧ Below w.heap.size w w' :=
  text_Row.calls 1 none 0 [] _ w (row_nil w none) (by decide) hw (row_is (l := []) (ts := []) ⟨rfl, by decide, by decide, fun i h => absurd h (by simp)⟩ 1 (by decide))
theorem run_eq_f1 (w : World) : Sem.run Tryd.prog (binOp BinOp.eql 22 (Value.float FloatKind.f64 4607182418800017408) (Value.float FloatKind.f64 4607182418800017408)) w = .ok (.bool true) w := by kernel_rfl
attribute [local go_sem] run_eq_f1
set_option maxHeartbeats 4000000 in
set_option maxRecDepth 100000 in
theorem known_any (w : World) (hw : Errs w) : Calls Tryd.prog 8 #[] w fun e w' => e = .returned (.bool true) ∧ Below w.heap.size w w' := by
  go_enter Tryd.func8, Tryd.ntmps8
  go_wp2_with fail
  go_at_call 14
  refine (known_one _ hw).mono ?_
  rintro e w1 ⟨rfl, hb1⟩
  obtain ⟨c1, hc1⟩ : ∃ c1, c1 = Obj.cells #[.int .i64 5, .int .i64 0, .string ⟨#[]⟩, .float .f64 4607182418800017408] 24 := ⟨_, rfl⟩
  have hA1 : Errs (w1.alloc c1) := (hw.mono hb1).mono ((Below.refl w1.heap.size w1).alloc (Nat.le_refl _) _)
  go_wp2_with fail
  rw [← hc1]
  go_at_call 14
  refine (known_five _ hA1).mono ?_
  rintro e w2 ⟨rfl, hb2⟩
  have hz2 := hb2.size
  have g0 := (bcell hb2).1 w1.heap.size 0 (by simp)
  have g1 := (bcell hb2).1 w1.heap.size 1 (by simp)
  have g2 := (bcell hb2).1 w1.heap.size 2 (by simp)
  have g3 := (bcell hb2).1 w1.heap.size 3 (by simp)
  rw [hc1] at g0 g1 g2 g3
  simp [go_sem] at g0 g1 g2 g3 hz2
  have hA2 : Errs (w2.alloc zeroCells) := (hA1.mono hb2).mono (below_zero w2)
  go_wp2_with fail
  go_at_call 16
  refine (known_read _ hA2).mono ?_
  rintro e w3 ⟨⟨A, c, rfl⟩, hb3⟩
  have hA3 := hA2.mono hb3
  have hb23 : Below w2.heap.size w2 w3 := (below_zero w2).trans (hb3.mono (by simp))
  have k0 := (bcell hb23).1 w1.heap.size 0 (by omega)
  have k1 := (bcell hb23).1 w1.heap.size 1 (by omega)
  have k2 := (bcell hb23).1 w1.heap.size 2 (by omega)
  have k3 := (bcell hb23).1 w1.heap.size 3 (by omega)
  rw [g0] at k0
  rw [g1] at k1
  rw [g2] at k2
  rw [g3] at k3
  have hB3 : Below w.heap.size w w3 := by
    have h12 : Below w.heap.size w w2 := (hb1.trans (((Below.refl w1.heap.size w1).alloc (Nat.le_refl _) c1).mono hb1.size)).trans (hb2.mono (by have := hb1.size; simp; omega))
    exact h12.trans (hb23.mono h12.size)
  clear g0 g1 g2 g3 hz2 hb23 hb3 hb2 hb1 hc1 hA1 hA2
  go_wp2_with fail
  go_at_call 10
  refine (known_print _ hA3).mono ?_
  rintro e w4 ⟨rfl, hb4⟩
  go_wp2_with fail
  go_at_call 12
  refine (known_row _ (hA3.mono hb4)).mono ?_
  rintro e w5 ⟨rfl, hb5⟩
  go_wp2
  go_ret
  have h4 : Below w.heap.size w w4 := hB3.trans (hb4.mono hB3.size)
  exact ⟨rfl, h4.trans (hb5.mono h4.size)⟩
def knownF : Option Bool := some true
theorem knownF_calls (r : Bool) (w : World) (hT : Errs w) (h : knownF = some r) :
    Calls Tryd.prog 8 #[] w fun e w' => e = .returned (.bool r) ∧ Below w.heap.size w w' := by
  cases h
  exact known_any w hT
end Go.Proofs.YtpjfhdbkkomogaaDoor.Mb
namespace Go.Proofs.YtpjfhdbkkomogaaDoor.Px
noncomputable section
open Go.RowKit Go.Proofs.YtpjfhdbkkomogaaDoor.Gvn Go.Proofs.YtpjfhdbkkomogaaDoorW.PrintWords Go.Proofs.YtpjfhdbkkomogaaDoorW.PrintLast Go.Proofs.YtpjfhdbkkomogaaDoorW.PrintMore
attribute [local go_sem] run_store_float min2_int min_two
set_option linter.unusedVariables false
set_option linter.unusedSimpArgs false
def rialtolaw4_known.f : Option (Bool) := Mb.knownF
theorem rialtolaw4_known.calls (r : Bool) (w : World) (hT : Mb.Errs w) (h : rialtolaw4_known.f = some r) :
  Calls Tryd.prog 8 #[] w fun e w' => e = .returned (.bool r) ∧ Below w.heap.size w w' := Mb.knownF_calls r w hT h
end
end Go.Proofs.YtpjfhdbkkomogaaDoor.Px
