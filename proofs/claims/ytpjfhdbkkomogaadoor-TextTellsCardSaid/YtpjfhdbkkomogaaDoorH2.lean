/- Texts of this claim, one behind the other. -/
import Derived.Test.YtpjfhdbkkomogaaDoorH1
import Derived.Outline
import Derived.Lib.Repeat
import Derived.Test.YtpjfhdbkkomogaaDoorRows
import Derived.Lib.LaidTab
import Derived.Lib.ItoaNum
import Derived.LaidMore
import Derived.LaidSub
import Derived.MakeChecks
import Derived.ProofKit
import Derived.Lib.ParseIntB
namespace Go.Proofs.YtpjfhdbkkomogaaDoor.Px
open Go.RowKit Go.Proofs.YtpjfhdbkkomogaaDoor.Gvn Go.Proofs.YtpjfhdbkkomogaaDoorW.PrintWords Go.Proofs.YtpjfhdbkkomogaaDoorW.PrintLast Go.Proofs.YtpjfhdbkkomogaaDoorW.PrintMore
attribute [local go_sem] run_store_float min2_int min_two
set_option linter.unusedVariables false
set_option linter.unusedSimpArgs false
mutual
def text_unquoted.l0 : Nat → ByteArray → List Int → Option (ByteArray × ByteArray × Bool)
 | 0, _, _ => none
 | k + 1, x0, x5 => if x0.toList = ([] : List UInt8) then (some ((⟨#[]⟩ : ByteArray), (⟨#[]⟩ : ByteArray), false)) else (if 0 < (x0.size : Int) then (if 1 ≤ (x0.size : Int) then (if (bt x0 0) = 34 then (some (strOfNums x5, x0.extract 1 x0.size, true)) else (if (bt x0 0) = 92 then ((strings_HasPrefix.f (x0.extract 1 x0.size) (⟨#[120]⟩ : ByteArray)).bind fun t144 => (if t144 = true then (text_unquoted.j1 k (x0.extract 1 x0.size) x5 (decide (((x0.extract 1 x0.size).size : Int) > 2))) else (text_unquoted.j1 k (x0.extract 1 x0.size) x5 false))) else (if x5.length < 140737488355328 then (text_unquoted.l0 k (x0.extract 1 x0.size) (x5 ++ [bt x0 0])) else (none)))) else (none)) else (none))
def text_unquoted.j1 : Nat → ByteArray → List Int → Bool → Option (ByteArray × ByteArray × Bool)
 | 0, _, _, _ => none
 | k + 1, x0, x5, x28 => if x28 = true then (if 1 ≤ 3 then (if 3 ≤ (x0.size : Int) then ((text_unhexed.f k (x0.extract 1 3)).bind fun bt145 => (if bt145.2.toList = ([] : List UInt8) then (if x5.length + bt145.1.size < 140737488355328 then (text_unquoted.l0 k (x0.extract 3 x0.size) (x5 ++ bytesOf bt145.1)) else (none)) else (some ((⟨#[]⟩ : ByteArray), (⟨#[]⟩ : ByteArray), false)))) else (none)) else (none)) else (if x0.toList = ([] : List UInt8) then (text_unquoted.l0 k x0 x5) else (if 0 < (x0.size : Int) then (if x5.length < 140737488355328 then (if 1 ≤ (x0.size : Int) then (text_unquoted.l0 k (x0.extract 1 x0.size) (x5 ++ [bt x0 0])) else (none)) else (none)) else (none)))
end
def text_unquoted.f (k : Nat) (a0 : ByteArray) : Option (ByteArray × ByteArray × Bool) := text_unquoted.l0 k a0 ([] : List Int)
theorem text_unquoted.mono_l : ∀ k, (∀ y0 y1, LeO (text_unquoted.l0 k y0 y1) (text_unquoted.l0 (k + 1) y0 y1)) ∧ (∀ y0 y1 y2, LeO (text_unquoted.j1 k y0 y1 y2) (text_unquoted.j1 (k + 1) y0 y1 y2))
 | 0 => ⟨fun _ _ r h => by simp [text_unquoted.l0] at h, fun _ _ _ r h => by simp [text_unquoted.j1] at h⟩
 | k + 1 => by
  obtain ⟨ih0, ih1⟩ := text_unquoted.mono_l k
  refine ⟨?_, ?_⟩
  ·intro y0 y1
   unfold text_unquoted.l0
   repeat' first
   | (with_reducible exact ih0 _ _)
   | (with_reducible exact ih1 _ _ _)
   | (with_reducible exact text_unhexed.mono _ _)
   | (with_reducible exact LeO.refl _)
   | (with_reducible exact LeO.none _)
   | (with_reducible refine LeO.ite ?_ ?_)
   | (with_reducible refine LeO.bind ?_ (fun _ => ?_))
   | exact ih0 _ _
   | exact ih1 _ _ _
   | exact text_unhexed.mono _ _
   | exact LeO.none _
   | refine LeO.ite ?_ ?_
   | refine LeO.bind ?_ (fun _ => ?_)
  ·intro y0 y1 y2
   unfold text_unquoted.j1
   repeat' first
   | (with_reducible exact ih0 _ _)
   | (with_reducible exact ih1 _ _ _)
   | (with_reducible exact text_unhexed.mono _ _)
   | (with_reducible exact LeO.refl _)
   | (with_reducible exact LeO.none _)
   | (with_reducible refine LeO.ite ?_ ?_)
   | (with_reducible refine LeO.bind ?_ (fun _ => ?_))
   | exact ih0 _ _
   | exact ih1 _ _ _
   | exact text_unhexed.mono _ _
   | exact LeO.none _
   | refine LeO.ite ?_ ?_
   | refine LeO.bind ?_ (fun _ => ?_)
theorem text_unquoted.mono : ∀ a0 k, LeO (text_unquoted.f k a0) (text_unquoted.f (k + 1) a0) := by
 intro a0 k
 obtain ⟨ih0, ih1⟩ := text_unquoted.mono_l k
 unfold text_unquoted.f
 repeat' first
   | (with_reducible exact ih0 _ _)
   | (with_reducible exact ih1 _ _ _)
   | (with_reducible exact text_unhexed.mono _ _)
   | (with_reducible exact LeO.refl _)
   | (with_reducible exact LeO.none _)
   | (with_reducible refine LeO.ite ?_ ?_)
   | (with_reducible refine LeO.bind ?_ (fun _ => ?_))
   | exact ih0 _ _
   | exact ih1 _ _ _
   | exact text_unhexed.mono _ _
   | exact LeO.none _
   | refine LeO.ite ?_ ?_
   | refine LeO.bind ?_ (fun _ => ?_)
set_option maxHeartbeats 8000000 in
set_option maxRecDepth 100000 in
theorem text_unquoted.calls (k : Nat) (a0 : ByteArray) (r1 : ByteArray) (r2 : ByteArray) (r3 : Bool) (w : World) (h : text_unquoted.f k a0 = some (r1, r2, r3)) :
  Calls Tryd.prog 50 #[.string a0] w fun e w' => e = .returned (.tuple #[.string r1, .string r2, .bool r3]) ∧ Below w.heap.size w w' := by
 have HB := Aside0.mk (Below.refl w.heap.size w)
 have H : (text_unquoted.l0 k a0 ([] : List Int)) = some (r1, r2, r3) := h
 clear h
 have H' := Aside0.mk H
 clear H
 have k23 := run23
 have k22 := run22
 go_enter Tryd.func50, Tryd.ntmps50
 go_wp2
 go_loopg [0, 5] k (fun kq v0 v5 w' => ∃ (x0_1 : ByteArray) (x5_1 : List Int), v0 = .string x0_1 ∧ Aside0 (text_unquoted.l0 kq x0_1 x5_1 = some (r1, r2, r3)) ∧ Aside0 (kq ≤ k) ∧ Aside0 (Kd.R (Kd.int .u8) 5 w' w.heap.size (fun _ => True) v5 x5_1) ∧ Aside0 (Below w.heap.size w w'))
 case atStart => exact ⟨(a0), (([] : List Int)), (by first | rfl | (simp; done) | (simp [*]; done)), H', ⟨Nat.le_refl _⟩, ⟨by first | exact Kd.R_nil _ _ _ _ _ | exact Kd.N_nil _ _ _ _ _ | exact Kd.V_nil _ _ _ _ _ | exact Kd.Q_nil _ _ _ _ _ | exact Kd.S_nil _ _ _ _ _⟩, ⟨by repeat (first | (with_reducible first | exact HB.out | apply below_alloc | apply pw_below_drewN | apply below_drew1) | exact HB.out)⟩⟩
 case round =>
  clear H'
  obtain ⟨x0_1, x5_1, rfl, HA, HK1, HO_5, HB⟩ := hrel
  cases gk with
  | zero => exact absurd HA.out (by simp [text_unquoted.l0])
  | succ k1 =>
   have H := HA.out
   clear HA
   simp only [text_unquoted.l0] at H
   by_cases c2 : x0_1.toList = ([] : List UInt8)
   ·rw [if_pos c2] at H
    have c2b0 : (x0_1.toList == ([] : List UInt8)) = true := beq_iff_eq.mpr c2
    have c2b1 : (x0_1.toList != ([] : List UInt8)) = false := bne_eq_false_iff_eq.mpr c2
    clear c2
    simp only [Option.some.injEq, Prod.mk.injEq] at H
    obtain ⟨rfl, rfl, rfl⟩ := H
    go_wp2
    go_ret3
    exact ⟨by first | rfl | (simp [errW_none, errW_some] <;> rfl) | (simp [*, errW_none, errW_some] <;> rfl), by repeat (first | (with_reducible first | exact HB.out | apply below_alloc | apply pw_below_drewN | apply below_drew1) | exact HB.out)⟩
   ·rw [if_neg c2] at H
    have c2b0 : (x0_1.toList == ([] : List UInt8)) = false := beq_eq_false_iff_ne.mpr c2
    have c2b1 : (x0_1.toList != ([] : List UInt8)) = true := bne_iff_ne.mpr c2
    by_cases c3 : 0 < (x0_1.size : Int)
    ·rw [if_pos c3] at H
     have c3b0 : decide (0 < (x0_1.size : Int)) = true := decide_eq_true c3
     have c3b1 : decide (0 < x0_1.size) = true := decide_eq_true (by omega)
     clear c3
     by_cases c5 : 1 ≤ (x0_1.size : Int)
     ·rw [if_pos c5] at H
      have c5b0 := eq_true c5
      have c5b1 : decide (1 ≤ (x0_1.size : Int)) = true := decide_eq_true c5
      clear c5
      by_cases c6 : (bt x0_1 0) = 34
      ·rw [if_pos c6] at H
       have c6b0 : ((bt x0_1 0) == 34) = true := beq_iff_eq.mpr c6
       have c6b1 : ((bt x0_1 0) != 34) = false := bne_eq_false_iff_eq.mpr c6
       clear c6
       simp only [Option.some.injEq, Prod.mk.injEq] at H
       obtain ⟨rfl, rfl, rfl⟩ := H
       have p4 : 0 ≤ (0 : Int) := (by omega)
       have q4 : 0 < x0_1.size := (by have : (0 : Int) < (x0_1.size : Int) := of_decide_eq_true (by first | (with_reducible assumption) | assumption); omega)
       have hx4 : ∀ h : 0 < x0_1.size, ((x0_1[0]'h).toNat : Int) = bt x0_1 0 := bt_at x0_1 0
       clear p4
       have qi4 : (0 < (x0_1.size : Int)) = True := eq_true (of_decide_eq_true (by first | (with_reducible assumption) | assumption))
       replace q4 := eq_true q4
       have hcv7 := own_string (P := Tryd.prog) Tryd.underlying57 Tryd.underlying5 Tryd.underlying9 (Kd.own_of_R HO_5.out)
       go_wp2
       go_ret3
       exact ⟨by first | rfl | (simp [errW_none, errW_some] <;> rfl) | (simp [*, errW_none, errW_some] <;> rfl), by repeat (first | (with_reducible first | exact HB.out | apply below_alloc | apply pw_below_drewN | apply below_drew1) | exact HB.out)⟩
      ·rw [if_neg c6] at H
       have c6b0 : ((bt x0_1 0) == 34) = false := beq_eq_false_iff_ne.mpr c6
       have c6b1 : ((bt x0_1 0) != 34) = true := bne_iff_ne.mpr c6
       by_cases c8 : (bt x0_1 0) = 92
       ·rw [if_pos c8] at H
        have c8b0 : ((bt x0_1 0) == 92) = true := beq_iff_eq.mpr c8
        have c8b1 : ((bt x0_1 0) != 92) = false := bne_eq_false_iff_eq.mpr c8
        clear c8
        have HC9 := Aside0.mk H
        clear H
        have p4 : 0 ≤ (0 : Int) := (by omega)
        have q4 : 0 < x0_1.size := (by have : (0 : Int) < (x0_1.size : Int) := of_decide_eq_true (by first | (with_reducible assumption) | assumption); omega)
        have hx4 : ∀ h : 0 < x0_1.size, ((x0_1[0]'h).toNat : Int) = bt x0_1 0 := bt_at x0_1 0
        clear p4
        have qi4 : (0 < (x0_1.size : Int)) = True := eq_true (of_decide_eq_true (by first | (with_reducible assumption) | assumption))
        replace q4 := eq_true q4
        go_upto_region 9 with (fail)
        go_cut [28] (fun v28 wc => ∃ (kq : Nat) (x28_8 : Bool), v28 = .bool x28_8 ∧ Aside0 (text_unquoted.j1 kq (x0_1.extract 1 x0_1.size) x5_1 x28_8 = some (r1, r2, r3)) ∧ Aside0 (kq ≤ k1) ∧ Aside0 (Kd.R (Kd.int .u8) 5 wc w.heap.size (fun _ => True) u5 x5_1) ∧ Aside0 (Below w.heap.size w wc))
        case first =>
         have H := HC9.out
         clear HC9
         replace H := Option.bind_eq_some_iff.mp H
         obtain ⟨t144, A100, H⟩ := H
         replace H : (if t144 = true then (text_unquoted.j1 k1 (x0_1.extract 1 x0_1.size) x5_1 (decide (((x0_1.extract 1 x0_1.size).size : Int) > 2))) else (text_unquoted.j1 k1 (x0_1.extract 1 x0_1.size) x5_1 false)) = some (r1, r2, r3) := H
         have A10 := Aside0.mk A100
         clear A100
         by_cases c11 : t144 = true
         ·subst c11
          have H1 : (text_unquoted.j1 k1 (x0_1.extract 1 x0_1.size) x5_1 (decide (((x0_1.extract 1 x0_1.size).size : Int) > 2))) = some (r1, r2, r3) := by rw [if_pos rfl] at H; exact H
          clear H
          have H := H1
          clear H1
          have H' := Aside0.mk H
          clear H
          go_wp2_with (first | ((with_reducible refine gate_callee (f := 44) rfl ?_); refine goesL_ (some 30) rfl rfl Tryd.func44 (by kernel_rfl) rfl #[.string (x0_1.extract 1 x0_1.size), .string (⟨#[120]⟩ : ByteArray)] rfl (by (try simp only [List.map_toArray, List.map_cons, List.map_nil]); first | done | rfl | (simp only [List.length_drop, List.length_take]; rfl)) ?_; (with_reducible refine (strings_HasPrefix.calls (x0_1.extract 1 x0_1.size) (⟨#[120]⟩ : ByteArray) true _ A10.out).mono ?_); rintro e w' ⟨rfl, ⟨nd, rfl⟩⟩; refine ⟨_, rfl, ?_⟩))
          go_meet
          case rel => exact ⟨_, (decide (((x0_1.extract 1 x0_1.size).size : Int) > 2)), (by first | rfl | (simp; done) | (simp [*]; done)), H', ⟨by have := HK1.out; first | omega | exact Nat.le_refl _⟩, ⟨by (with_reducible repeat (first | apply Kd.R_alloc | apply Kd.R_drewN | apply Kd.R_drew)); exact HO_5.out⟩, ⟨by repeat (first | (with_reducible first | exact HB.out | apply below_alloc | apply pw_below_drewN | apply below_drew1) | exact HB.out)⟩⟩
         ·replace c11 := Bool.eq_false_iff.mpr c11
          subst c11
          have H1 : (text_unquoted.j1 k1 (x0_1.extract 1 x0_1.size) x5_1 false) = some (r1, r2, r3) := by rw [if_neg (show ¬ (false = true) by decide)] at H; exact H
          clear H
          have H := H1
          clear H1
          have H' := Aside0.mk H
          clear H
          go_wp2_with (first | ((with_reducible refine gate_callee (f := 44) rfl ?_); refine goesL_ (some 30) rfl rfl Tryd.func44 (by kernel_rfl) rfl #[.string (x0_1.extract 1 x0_1.size), .string (⟨#[120]⟩ : ByteArray)] rfl (by (try simp only [List.map_toArray, List.map_cons, List.map_nil]); first | done | rfl | (simp only [List.length_drop, List.length_take]; rfl)) ?_; (with_reducible refine (strings_HasPrefix.calls (x0_1.extract 1 x0_1.size) (⟨#[120]⟩ : ByteArray) false _ A10.out).mono ?_); rintro e w' ⟨rfl, ⟨nd, rfl⟩⟩; refine ⟨_, rfl, ?_⟩))
          go_meet
          case rel => exact ⟨_, (false), (by first | rfl | (simp; done) | (simp [*]; done)), H', ⟨by have := HK1.out; first | omega | exact Nat.le_refl _⟩, ⟨by (with_reducible repeat (first | apply Kd.R_alloc | apply Kd.R_drewN | apply Kd.R_drew)); exact HO_5.out⟩, ⟨by repeat (first | (with_reducible first | exact HB.out | apply below_alloc | apply pw_below_drewN | apply below_drew1) | exact HB.out)⟩⟩
        case rest =>
         clear HC9
         try clear c1;try clear c2;try clear c2b0;try clear c2b1;try clear p2;try clear c3;try clear c3b0;try clear c3b1;try clear c4;try clear p4;try clear q4;try clear hx4;try clear qi4;try clear c5;try clear c5b0;try clear c5b1;try clear c6;try clear c6b0;try clear c6b1;try clear hcv7;try clear c8;try clear c8b0;try clear c8b1;try clear c11;try clear p4;try clear q4
         obtain ⟨kq, x28_8, rfl, HA, HJ8, HO_5, HB⟩ := hcut
         generalize x0_1.extract 1 x0_1.size = sx0_ at HA ⊢
         cases kq with
         | zero => exact absurd HA.out (by simp [text_unquoted.j1])
         | succ kj8 =>
          have H := HA.out
          clear HA
          simp only [text_unquoted.j1] at H
          by_cases c12 : x28_8 = true
          ·subst c12
           have H1 : (if 1 ≤ 3 then (if 3 ≤ (sx0_.size : Int) then ((text_unhexed.f kj8 (sx0_.extract 1 3)).bind fun bt145 => (if bt145.2.toList = ([] : List UInt8) then (if x5_1.length + bt145.1.size < 140737488355328 then (text_unquoted.l0 kj8 (sx0_.extract 3 sx0_.size) (x5_1 ++ bytesOf bt145.1)) else (none)) else (some ((⟨#[]⟩ : ByteArray), (⟨#[]⟩ : ByteArray), false)))) else (none)) else (none)) = some (r1, r2, r3) := by rw [if_pos rfl] at H; exact H
           clear H
           have H := H1
           clear H1
           by_cases c13 : 1 ≤ 3
           ·rw [if_pos c13] at H
            have c13b0 := eq_true c13
            have c13b1 : decide (1 ≤ 3) = true := decide_eq_true c13
            clear c13
            by_cases c14 : 3 ≤ (sx0_.size : Int)
            ·rw [if_pos c14] at H
             have c14b0 := eq_true c14
             have c14b1 : decide (3 ≤ (sx0_.size : Int)) = true := decide_eq_true c14
             clear c14
             replace H := Option.bind_eq_some_iff.mp H
             obtain ⟨⟨t145, t146⟩, A150, H⟩ := H
             replace H : (if t146.toList = ([] : List UInt8) then (if x5_1.length + t145.size < 140737488355328 then (text_unquoted.l0 kj8 (sx0_.extract 3 sx0_.size) (x5_1 ++ bytesOf t145)) else (none)) else (some ((⟨#[]⟩ : ByteArray), (⟨#[]⟩ : ByteArray), false))) = some (r1, r2, r3) := H
             have A15 := Aside0.mk A150
             clear A150
             by_cases c16 : t146.toList = ([] : List UInt8)
             ·rw [if_pos c16] at H
              have c16b0 : (t146.toList == ([] : List UInt8)) = true := beq_iff_eq.mpr c16
              have c16b1 : (t146.toList != ([] : List UInt8)) = false := bne_eq_false_iff_eq.mpr c16
              clear c16
              by_cases c17 : x5_1.length + t145.size < 140737488355328
              ·rw [if_pos c17] at H
               have LMc17 := Aside0.mk c17
               clear c17
               obtain ⟨y147, hy147⟩ : ∃ y_ : List Int, y_ = (x5_1 ++ bytesOf t145) := ⟨_, rfl⟩
               replace H : (text_unquoted.l0 kj8 (sx0_.extract 3 sx0_.size) y147) = some (r1, r2, r3) := by first | (rw [hy147]; with_reducible exact H) | (have H2_ := (Option.bind_some _ _).symm.trans H; rw [hy147]; with_reducible exact H2_) | (have H2_ := (Option.bind_some _ _).symm.trans H; with_reducible exact H2_) | with_reducible exact H | (rw [hy147]; exact H) | exact H
               have Ny147 := Aside0.mk hy147
               clear hy147
               have c18b0 := eq_true (of_decide_eq_true (by first | (with_reducible assumption) | assumption) : 3 ≤ (sx0_.size : Int))
               have H' := Aside0.mk H
               clear H
               go_wp2_with (first | ((with_reducible refine gate_callee (f := 51) rfl ?_); refine goesL_ (some 39) rfl rfl Tryd.func51 (by kernel_rfl) rfl #[.string (sx0_.extract 1 3)] rfl (by (try simp only [List.map_toArray, List.map_cons, List.map_nil]); first | done | rfl | (simp only [List.length_drop, List.length_take]; rfl)) ?_; (with_reducible refine (text_unhexed.calls kj8 (sx0_.extract 1 3) t145 t146 _ A15.out).mono ?_); rintro e w19 ⟨rfl, hb⟩; refine ⟨_, rfl, ?_⟩; have n0_ := Aside0.mk (Kd.R_below (by (with_reducible repeat (first | apply Kd.R_alloc | apply Kd.R_drewN | apply Kd.R_drew)); exact HO_5.out) hb); have n1_ := Aside0.mk (below_step (by repeat (first | (with_reducible first | exact HB.out | apply below_alloc | apply pw_below_drewN | apply below_drew1) | exact HB.out)) hb); clear HO_5; clear HB; have HO_5 := n0_; have HB := n1_; clear n0_ n1_; (try clear hb); (try clear hb2); (try clear hk); (try clear hi)) | (at_builtin; refine print_append_str (w0 := w) w.heap.size rfl (.tmp 44) _ 57 9 5 rfl Tryd.underlying57 Tryd.underlying9 info5 u5 x5_1 t145 rfl rfl ?aO ?aB ?aS ?aL ?_; (case aB => exact (by repeat (first | (with_reducible first | exact HB.out | apply below_alloc | apply pw_below_drewN | apply below_drew1) | exact HB.out))); (case aO => exact (Kd.own_of_R (by (with_reducible repeat (first | apply Kd.R_alloc | apply Kd.R_drewN | apply Kd.R_drew)); exact HO_5.out))); (case aS => exact (below_size (by repeat (first | (with_reducible first | exact HB.out | apply below_alloc | apply pw_below_drewN | apply below_drew1) | exact HB.out)))); (case aL => have := LMc17.out; omega); intro v148 w20 ho0 hb hg; have ho := Kd.R_of_own (h1 := fun _ => rfl) (ok := fun _ => True) ho0 (fun _ _ => trivial); clear ho0; have hat := True.intro; rw [← Ny147.out] at ho; change Kd.R (Kd.int .u8) 5 w20 w.heap.size (fun _ => True) v148 y147 at ho; have n0_ := Aside0.mk (hb); have n1_ := Aside0.mk (ho); clear HB; clear HO_5; have HB := n0_; have HO149 := n1_; clear n0_ n1_; clear ho hb hg hat))
               go_roundg kj8
               case measure => have := HK1.out; have := HJ8.out; omega
               case rel => exact ⟨(sx0_.extract 3 sx0_.size), (y147), (by first | rfl | (simp; done) | (simp [*]; done)), H', ⟨by have := HK1.out; have := HJ8.out; omega⟩, ⟨by (with_reducible repeat (first | apply Kd.R_alloc | apply Kd.R_drewN | apply Kd.R_drew)); exact HO149.out⟩, ⟨by repeat (first | (with_reducible first | exact HB.out | apply below_alloc | apply pw_below_drewN | apply below_drew1) | exact HB.out)⟩⟩
              ·rw [if_neg c17] at H
               exact absurd H (by simp)
             ·rw [if_neg c16] at H
              have c16b0 : (t146.toList == ([] : List UInt8)) = false := beq_eq_false_iff_ne.mpr c16
              have c16b1 : (t146.toList != ([] : List UInt8)) = true := bne_iff_ne.mpr c16
              simp only [Option.some.injEq, Prod.mk.injEq] at H
              obtain ⟨rfl, rfl, rfl⟩ := H
              go_wp2_with (first | ((with_reducible refine gate_callee (f := 51) rfl ?_); refine goesL_ (some 39) rfl rfl Tryd.func51 (by kernel_rfl) rfl #[.string (sx0_.extract 1 3)] rfl (by (try simp only [List.map_toArray, List.map_cons, List.map_nil]); first | done | rfl | (simp only [List.length_drop, List.length_take]; rfl)) ?_; (with_reducible refine (text_unhexed.calls kj8 (sx0_.extract 1 3) t145 t146 _ A15.out).mono ?_); rintro e w21 ⟨rfl, hb⟩; refine ⟨_, rfl, ?_⟩; have n0_ := Aside0.mk (Kd.R_below (by (with_reducible repeat (first | apply Kd.R_alloc | apply Kd.R_drewN | apply Kd.R_drew)); exact HO_5.out) hb); have n1_ := Aside0.mk (below_step (by repeat (first | (with_reducible first | exact HB.out | apply below_alloc | apply pw_below_drewN | apply below_drew1) | exact HB.out)) hb); clear HO_5; clear HB; have HO_5 := n0_; have HB := n1_; clear n0_ n1_; (try clear hb); (try clear hb2); (try clear hk); (try clear hi)))
              go_ret3
              exact ⟨by first | rfl | (simp [errW_none, errW_some] <;> rfl) | (simp [*, errW_none, errW_some] <;> rfl), by repeat (first | (with_reducible first | exact HB.out | apply below_alloc | apply pw_below_drewN | apply below_drew1) | exact HB.out)⟩
            ·rw [if_neg c14] at H
             exact absurd H (by simp)
           ·rw [if_neg c13] at H
            exact absurd H (by simp)
          ·replace c12 := Bool.eq_false_iff.mpr c12
           subst c12
           have H1 : (if sx0_.toList = ([] : List UInt8) then (text_unquoted.l0 kj8 sx0_ x5_1) else (if 0 < (sx0_.size : Int) then (if x5_1.length < 140737488355328 then (if 1 ≤ (sx0_.size : Int) then (text_unquoted.l0 kj8 (sx0_.extract 1 sx0_.size) (x5_1 ++ [bt sx0_ 0])) else (none)) else (none)) else (none))) = some (r1, r2, r3) := by rw [if_neg (show ¬ (false = true) by decide)] at H; exact H
           clear H
           have H := H1
           clear H1
           by_cases c22 : sx0_.toList = ([] : List UInt8)
           ·rw [if_pos c22] at H
            have c22b0 : (sx0_.toList == ([] : List UInt8)) = true := beq_iff_eq.mpr c22
            have c22b1 : (sx0_.toList != ([] : List UInt8)) = false := bne_eq_false_iff_eq.mpr c22
            clear c22
            have H' := Aside0.mk H
            clear H
            go_wp2
            go_roundg kj8
            case measure => have := HK1.out; have := HJ8.out; omega
            case rel => exact ⟨(sx0_), (x5_1), (by first | rfl | (simp; done) | (simp [*]; done)), H', ⟨by have := HK1.out; have := HJ8.out; omega⟩, ⟨by (with_reducible repeat (first | apply Kd.R_alloc | apply Kd.R_drewN | apply Kd.R_drew)); exact HO_5.out⟩, ⟨by repeat (first | (with_reducible first | exact HB.out | apply below_alloc | apply pw_below_drewN | apply below_drew1) | exact HB.out)⟩⟩
           ·rw [if_neg c22] at H
            have c22b0 : (sx0_.toList == ([] : List UInt8)) = false := beq_eq_false_iff_ne.mpr c22
            have c22b1 : (sx0_.toList != ([] : List UInt8)) = true := bne_iff_ne.mpr c22
            by_cases c23 : 0 < (sx0_.size : Int)
            ·rw [if_pos c23] at H
             have c23b0 : decide (0 < (sx0_.size : Int)) = true := decide_eq_true c23
             have c23b1 : decide (0 < sx0_.size) = true := decide_eq_true (by omega)
             (try (have c23b2 : (0 < (x0_1.size - 1)) = True := eq_true (by have h_ := c23; (try simp only [ByteArray.size_append, ByteArray.size_extract] at h_); omega)))
             clear c23
             by_cases c25 : x5_1.length < 140737488355328
             ·rw [if_pos c25] at H
              have LMc25 := Aside0.mk c25
              clear c25
              obtain ⟨y150, hy150⟩ : ∃ y_ : List Int, y_ = (x5_1 ++ [bt sx0_ 0]) := ⟨_, rfl⟩
              replace H : (if 1 ≤ (sx0_.size : Int) then (text_unquoted.l0 kj8 (sx0_.extract 1 sx0_.size) y150) else (none)) = some (r1, r2, r3) := by first | (rw [hy150]; with_reducible exact H) | (have H2_ := (Option.bind_some _ _).symm.trans H; rw [hy150]; with_reducible exact H2_) | (have H2_ := (Option.bind_some _ _).symm.trans H; with_reducible exact H2_) | with_reducible exact H | (rw [hy150]; exact H) | exact H
              have Ny150 := Aside0.mk hy150
              clear hy150
              by_cases c26 : 1 ≤ (sx0_.size : Int)
              ·rw [if_pos c26] at H
               have c26b0 := eq_true c26
               have c26b1 : decide (1 ≤ (sx0_.size : Int)) = true := decide_eq_true c26
               clear c26
               have H' := Aside0.mk H
               clear H
               have p24 : 0 ≤ (0 : Int) := (by omega)
               have q24 : 0 < sx0_.size := (by have : (0 : Int) < (sx0_.size : Int) := of_decide_eq_true (by first | (with_reducible assumption) | assumption); omega)
               have hx24 : ∀ h : 0 < sx0_.size, ((sx0_[0]'h).toNat : Int) = bt sx0_ 0 := bt_at sx0_ 0
               clear p24
               have qi24 : (0 < (sx0_.size : Int)) = True := eq_true (of_decide_eq_true (by first | (with_reducible assumption) | assumption))
               replace q24 := eq_true q24
               go_wp2_with (first | ((with_reducible refine gate_builtin (b := .append) (xs := #[.tmp 52, .tmp 55]) rfl ?_); (try (refine gate_guard (by rfl) ?_; dsimp only)); at_builtin; refine Kd.R_append (Kd.int .u8) (w0 := w) w.heap.size rfl (.tmp 52) (.tmp 55) 57 5 (.int .u8 0) 1 rfl Tryd.underlying57 info5 rfl (by decide) (by omega) u5 x5_1 (bt sx0_ 0) [.int .u8 (bt sx0_ 0)] (fun _ => True) (fun _ => False) rfl rfl ?aP (fun _ hk => hk.elim) ?aF ?aO ?aB ?aS ?aL ?_; (case aP => exact rfl); (case aB => exact (by repeat (first | (with_reducible first | exact HB.out | apply below_alloc | apply pw_below_drewN | apply below_drew1) | exact HB.out))); (case aF => exact (fun _ _ => trivial)); (case aO => exact (by (with_reducible repeat (first | apply Kd.R_alloc | apply Kd.R_drewN | apply Kd.R_drew)); exact HO_5.out)); (case aS => exact (below_size (by repeat (first | (with_reducible first | exact HB.out | apply below_alloc | apply pw_below_drewN | apply below_drew1) | exact HB.out)))); (case aL => have := LMc25.out; omega); intro v151 w27 ho hb hg hat; rw [← Ny150.out] at ho; have n0_ := Aside0.mk (hb); have n1_ := Aside0.mk (ho); clear HB; clear HO_5; have HB := n0_; have HO152 := n1_; clear n0_ n1_; clear ho hb hg hat))
               go_roundg kj8
               case measure => have := HK1.out; have := HJ8.out; omega
               case rel => exact ⟨(sx0_.extract 1 sx0_.size), (y150), (by first | rfl | (simp; done) | (simp [*]; done)), H', ⟨by have := HK1.out; have := HJ8.out; omega⟩, ⟨by (with_reducible repeat (first | apply Kd.R_alloc | apply Kd.R_drewN | apply Kd.R_drew)); exact HO152.out⟩, ⟨by repeat (first | (with_reducible first | exact HB.out | apply below_alloc | apply pw_below_drewN | apply below_drew1) | exact HB.out)⟩⟩
              ·rw [if_neg c26] at H
               exact absurd H (by simp)
             ·rw [if_neg c25] at H
              exact absurd H (by simp)
            ·rw [if_neg c23] at H
             exact absurd H (by simp)
       ·rw [if_neg c8] at H
        have c8b0 : ((bt x0_1 0) == 92) = false := beq_eq_false_iff_ne.mpr c8
        have c8b1 : ((bt x0_1 0) != 92) = true := bne_iff_ne.mpr c8
        by_cases c28 : x5_1.length < 140737488355328
        ·rw [if_pos c28] at H
         have LMc28 := Aside0.mk c28
         clear c28
         obtain ⟨y153, hy153⟩ : ∃ y_ : List Int, y_ = (x5_1 ++ [bt x0_1 0]) := ⟨_, rfl⟩
         replace H : (text_unquoted.l0 k1 (x0_1.extract 1 x0_1.size) y153) = some (r1, r2, r3) := by first | (rw [hy153]; with_reducible exact H) | (have H2_ := (Option.bind_some _ _).symm.trans H; rw [hy153]; with_reducible exact H2_) | (have H2_ := (Option.bind_some _ _).symm.trans H; with_reducible exact H2_) | with_reducible exact H | (rw [hy153]; exact H) | exact H
         have Ny153 := Aside0.mk hy153
         clear hy153
         have H' := Aside0.mk H
         clear H
         have p4 : 0 ≤ (0 : Int) := (by omega)
         have q4 : 0 < x0_1.size := (by have : (0 : Int) < (x0_1.size : Int) := of_decide_eq_true (by first | (with_reducible assumption) | assumption); omega)
         have hx4 : ∀ h : 0 < x0_1.size, ((x0_1[0]'h).toNat : Int) = bt x0_1 0 := bt_at x0_1 0
         clear p4
         have qi4 : (0 < (x0_1.size : Int)) = True := eq_true (of_decide_eq_true (by first | (with_reducible assumption) | assumption))
         replace q4 := eq_true q4
         go_wp2_with (first | ((with_reducible refine gate_builtin (b := .append) (xs := #[.tmp 24, .tmp 26]) rfl ?_); (try (refine gate_guard (by rfl) ?_; dsimp only)); at_builtin; refine Kd.R_append (Kd.int .u8) (w0 := w) w.heap.size rfl (.tmp 24) (.tmp 26) 57 5 (.int .u8 0) 1 rfl Tryd.underlying57 info5 rfl (by decide) (by omega) u5 x5_1 (bt x0_1 0) [.int .u8 (bt x0_1 0)] (fun _ => True) (fun _ => False) rfl rfl ?aP (fun _ hk => hk.elim) ?aF ?aO ?aB ?aS ?aL ?_; (case aP => exact rfl); (case aB => exact (by repeat (first | (with_reducible first | exact HB.out | apply below_alloc | apply pw_below_drewN | apply below_drew1) | exact HB.out))); (case aF => exact (fun _ _ => trivial)); (case aO => exact (by (with_reducible repeat (first | apply Kd.R_alloc | apply Kd.R_drewN | apply Kd.R_drew)); exact HO_5.out)); (case aS => exact (below_size (by repeat (first | (with_reducible first | exact HB.out | apply below_alloc | apply pw_below_drewN | apply below_drew1) | exact HB.out)))); (case aL => have := LMc28.out; omega); intro v154 w29 ho hb hg hat; rw [← Ny153.out] at ho; have n0_ := Aside0.mk (hb); have n1_ := Aside0.mk (ho); clear HB; clear HO_5; have HB := n0_; have HO155 := n1_; clear n0_ n1_; clear ho hb hg hat))
         go_roundg k1
         case measure => have := HK1.out; omega
         case rel => exact ⟨(x0_1.extract 1 x0_1.size), (y153), (by first | rfl | (simp; done) | (simp [*]; done)), H', ⟨by have := HK1.out; omega⟩, ⟨by (with_reducible repeat (first | apply Kd.R_alloc | apply Kd.R_drewN | apply Kd.R_drew)); exact HO155.out⟩, ⟨by repeat (first | (with_reducible first | exact HB.out | apply below_alloc | apply pw_below_drewN | apply below_drew1) | exact HB.out)⟩⟩
        ·rw [if_neg c28] at H
         exact absurd H (by simp)
     ·rw [if_neg c5] at H
      exact absurd H (by simp)
    ·rw [if_neg c3] at H
     exact absurd H (by simp)
end Go.Proofs.YtpjfhdbkkomogaaDoor.Px
namespace Go.Proofs.YtpjfhdbkkomogaaDoor.Mb
open Go.RowKit Go.Proofs.YtpjfhdbkkomogaaDoorW.PrintWords Go.Proofs.YtpjfhdbkkomogaaDoor.Px Go.Proofs.YtpjfhdbkkomogaaDoor.Gvn
def dg (c : UInt8) : Int := Lib.indexByte DG c
theorem digit_is (c : UInt8) : text_digit.f (c.toNat : Int) = some (dg c) := by
  unfold text_digit.f strings_IndexByte.f
  rw [Option.bind_some]
  congr 1
  have : (c.toNat : Int).toNat.toUInt8 = c := by simp
  rw [this]
  rfl
theorem dg_hx : ∀ n, n < 16 → dg (hx n) = n := by decide
theorem hasPrefix_is (l p : List UInt8) : strings_HasPrefix.f (B l) (B p) = some (l.take p.length == p) := by
  unfold strings_HasPrefix.f stringslite_HasPrefix.f
  by_cases h : p.length ≤ l.length
  · rw [if_pos (by rw [size_B, size_B]; omega), if_pos (by rw [size_B]; omega), if_pos (by rw [size_B, size_B]; omega), Option.bind_some]
    rw [extract_B, toList_B, toList_B, size_B]
    simp
  · rw [if_neg (by rw [size_B, size_B]; omega), Option.bind_some]
    congr 1
    symm
    rw [beq_eq_false_iff_ne]
    intro he
    have := congrArg List.length he
    rw [List.length_take] at this
    omega
theorem or_lt (a b : Nat) (ha : a < 16) (hb : b < 16) : Go.bits .or .i64 (wrap64 ((a : Int) * 16)) (b : Int) = ((16 * a + b : Nat) : Int) := by
  have hw : wrap64 ((a : Int) * 16) = ((16 * a : Nat) : Int) := by rw [wrap_in _ (by omega) (by omega)]; omega
  rw [hw]
  have e : (BitVec.ofInt 64 ((16 * a : Nat) : Int) ||| BitVec.ofInt 64 (b : Int)).toNat = 16 * a + b := by
    rw [BitVec.toNat_or, bv_nat _ (by omega), bv_nat _ (by omega)]
    have h4 := Nat.two_pow_add_eq_or_of_lt (show b < 2 ^ 4 from hb) a
    rw [show (2 ^ 4 : Nat) = 16 from rfl] at h4
    exact h4.symm
  show IntKind.i64.wrap ((BitVec.ofInt 64 ((16 * a : Nat) : Int) ||| BitVec.ofInt 64 (b : Int)).toNat : Int) = _
  rw [e]
  rw [YtpjfhdbkkomogaaDoorW.PrintLast.i64_w]
  exact wrap_in _ (by omega) (by omega)
theorem or_byte (c : UInt8) : Go.bits .or .i64 (wrap64 (((c.toNat / 16 : Nat) : Int) * 16)) ((c.toNat % 16 : Nat) : Int) % 256 = (c.toNat : Int) := by
  have hc := c.toNat_lt
  rw [or_lt _ _ (by omega) (by omega)]
  omega
theorem bt_two0 (c : UInt8) (m : List UInt8) : bt (B (two c ++ m)) 0 = ((hx (c.toNat / 16)).toNat : Int) := bt_cons _ _
theorem bt_two1 (c : UInt8) (m : List UInt8) : bt (B (two c ++ m)) 1 = ((hx (c.toNat % 16)).toNat : Int) := bt_cons2 _ _ _
theorem size_two (c : UInt8) (m : List UInt8) : (B (two c ++ m)).size = m.length + 2 := by rw [size_B, List.length_append, Nat.add_comm]; rfl
theorem tail_two (c : UInt8) (m : List UInt8) : (B (two c ++ m)).extract 2 (B (two c ++ m)).size = B m := by rw [tail_B]; rfl
theorem digit_hi (c : UInt8) : text_digit.f ((hx (c.toNat / 16)).toNat : Int) = some ((c.toNat / 16 : Nat) : Int) := by
  have hc := c.toNat_lt
  rw [digit_is, dg_hx _ (by omega)]
theorem digit_lo (c : UInt8) : text_digit.f ((hx (c.toNat % 16)).toNat : Int) = some ((c.toNat % 16 : Nat) : Int) := by
  rw [digit_is, dg_hx _ (by omega)]
theorem unhexed_step (k : Nat) (c : UInt8) (m acc : List UInt8) (hl : acc.length < 1000000) :
    text_unhexed.l0 (k + 2) (B (two c ++ m)) (N acc) = text_unhexed.l0 k (B m) (N (acc ++ [c])) := by
  have n1 : ((c.toNat / 16 : Nat) : Int) ≥ 0 := by omega
  have n2 : ((c.toNat % 16 : Nat) : Int) ≥ 0 := by omega
  have s1 : ((B (two c ++ m)).size : Int) > 1 := by rw [size_two]; omega
  have s0 : (0 : Int) < ((B (two c ++ m)).size : Int) := by rw [size_two]; omega
  have s2 : (2 : Int) ≤ ((B (two c ++ m)).size : Int) := by rw [size_two]; omega
  have sa : (N acc).length < 140737488355328 := by rw [N_length]; omega
  rw [text_unhexed.l0, if_pos s1, if_pos s0, bt_two0, digit_hi, Option.bind_some, if_pos n1, if_pos s1, bt_two1, digit_lo, Option.bind_some]
  rw [text_unhexed.j1, if_pos (decide_eq_true n2), if_pos s0, bt_two0, digit_hi, Option.bind_some, if_pos s1, bt_two1, digit_lo, Option.bind_some, if_pos sa, if_pos s2, tail_two, or_byte]
  rw [show ([(c.toNat : Int)] : List Int) = N [c] from rfl, N_append]
theorem unhexed_end (k : Nat) (m acc : List UInt8) (hm : m = [] ∨ ∃ c r, m = c :: r ∧ dg c < 0) :
    text_unhexed.l0 (k + 2) (B m) (N acc) = some (B acc, B m) := by
  have fin : text_unhexed.j1 (k + 1) (B m) (N acc) false = some (B acc, B m) := by
    rw [text_unhexed.j1, if_neg (by simp), str_N]
  rw [text_unhexed.l0]
  by_cases h : ((B m).size : Int) > 1
  · rcases hm with rfl | ⟨c, r, rfl, hc⟩
    · rw [size_B] at h; simp at h
    · rw [if_pos h, if_pos (by omega), bt_cons, digit_is, Option.bind_some, if_neg (by omega), fin]
  · rw [if_neg h, fin]
theorem unhexed_is (l : List UInt8) : ∀ (m acc : List UInt8), (m = [] ∨ ∃ c r, m = c :: r ∧ dg c < 0) → acc.length + l.length < 1000000 →
    ∃ k, text_unhexed.l0 k (B (hexL l ++ m)) (N acc) = some (B (acc ++ l), B m) := by
  induction l with
  | nil => intro m acc hm _; exact ⟨2, by rw [List.append_nil]; exact unhexed_end 0 m acc hm⟩
  | cons c l ih =>
    intro m acc hm hl
    rw [List.length_cons] at hl
    obtain ⟨k, hk⟩ := ih m (acc ++ [c]) hm (by rw [List.length_append, List.length_singleton]; omega)
    refine ⟨k + 2, ?_⟩
    rw [show hexL (c :: l) ++ m = two c ++ (hexL l ++ m) by rw [show hexL (c :: l) = two c ++ hexL l from rfl, List.append_assoc]]
    rw [unhexed_step k c _ acc (by omega), hk, List.append_assoc]
    rfl
theorem unhexed_two (k : Nat) (c : UInt8) (hk : 8 ≤ k) : text_unhexed.f k (B (two c)) = some (B [c], B []) := by
  obtain ⟨k, rfl⟩ : ∃ m, k = m + 4 := ⟨k - 4, by omega⟩
  have h := unhexed_step (k + 2) c [] [] (by decide)
  rw [List.append_nil] at h
  unfold text_unhexed.f
  exact h.trans (unhexed_end k [] [c] (.inl rfl))
theorem cons_ne (c : UInt8) (l : List UInt8) : ¬ ((B (c :: l)).toList = ([] : List UInt8)) := by rw [toList_B]; simp
theorem size_cons (c : UInt8) (l : List UInt8) : (B (c :: l)).size = l.length + 1 := rfl
theorem tail1 (c : UInt8) (l : List UInt8) : (B (c :: l)).extract 1 (B (c :: l)).size = B l := tail_B (c :: l) 1
theorem b_34 (c : UInt8) : c ≠ 34 ↔ ¬ ((c.toNat : Int) = 34) :=
  not_congr ⟨fun h => by rw [h]; decide, fun h => UInt8.toNat_inj.1 (by rw [show (34 : UInt8).toNat = 34 by decide]; omega)⟩
theorem b_92 (c : UInt8) : c ≠ 92 ↔ ¬ ((c.toNat : Int) = 92) :=
  not_congr ⟨fun h => by rw [h]; decide, fun h => UInt8.toNat_inj.1 (by rw [show (92 : UInt8).toNat = 92 by decide]; omega)⟩
theorem unq_plain (k : Nat) (c : UInt8) (m acc : List UInt8) (h34 : c ≠ 34) (h92 : c ≠ 92) (hl : acc.length < 1000000) :
    text_unquoted.l0 (k + 1) (B (c :: m)) (N acc) = text_unquoted.l0 k (B m) (N (acc ++ [c])) := by
  have a34 := (b_34 c).1 h34
  have a92 := (b_92 c).1 h92
  simp only [text_unquoted.l0, bt_cons, tail1]
  rw [if_neg (cons_ne c m), if_pos (by rw [size_cons]; omega), if_pos (by rw [size_cons]; omega), if_neg a34, if_neg a92, if_pos (by rw [N_length]; omega)]
  rw [show ([(c.toNat : Int)] : List Int) = N [c] from rfl, N_append]
theorem unq_stroke (k : Nat) (c : UInt8) (m acc : List UInt8) (hx : c ≠ 120) (hl : acc.length < 1000000) :
    text_unquoted.l0 (k + 2) (B (92 :: c :: m)) (N acc) = text_unquoted.l0 k (B m) (N (acc ++ [c])) := by
  have hp := hasPrefix_is (c :: m) [120]
  have hf : ((c :: m).take ([120] : List UInt8).length == [120]) = false := by simp [hx]
  rw [hf] at hp
  simp only [text_unquoted.l0, bt_cons, tail1]
  rw [if_neg (cons_ne 92 _), if_pos (by rw [size_cons]; omega), if_pos (by rw [size_cons]; omega), if_neg (by decide), if_pos (by decide)]
  rw [show (⟨#[120]⟩ : ByteArray) = B [120] from rfl, hp, Option.bind_some, if_neg (by simp)]
  simp only [text_unquoted.j1, bt_cons, tail1]
  rw [if_neg (by simp), if_neg (cons_ne c m), if_pos (by rw [size_cons]; omega), if_pos (by rw [N_length]; omega), if_pos (by rw [size_cons]; omega)]
  rw [show ([(c.toNat : Int)] : List Int) = N [c] from rfl, N_append]
theorem unq_hex (k : Nat) (c : UInt8) (m acc : List UInt8) (hk : 8 ≤ k) (hl : acc.length < 1000000) :
    text_unquoted.l0 (k + 2) (B (92 :: 120 :: two c ++ m)) (N acc) = text_unquoted.l0 k (B m) (N (acc ++ [c])) := by
  have hp := hasPrefix_is (120 :: (two c ++ m)) [120]
  have hf : ((120 :: (two c ++ m)).take ([120] : List UInt8).length == [120]) = true := by simp
  rw [hf] at hp
  have hl2 : (two c ++ m).length = m.length + 2 := by simp [two]
  rw [show (92 :: 120 :: two c ++ m : List UInt8) = 92 :: 120 :: (two c ++ m) from rfl]
  simp only [text_unquoted.l0, bt_cons, tail1]
  rw [if_neg (cons_ne 92 _), if_pos (by rw [size_cons]; omega), if_pos (by rw [size_cons]; omega), if_neg (by decide), if_pos (by decide)]
  rw [show (⟨#[120]⟩ : ByteArray) = B [120] from rfl, hp, Option.bind_some, if_pos rfl]
  simp only [text_unquoted.j1]
  rw [if_pos (by rw [size_cons, hl2, decide_eq_true_eq]; omega), if_pos (by omega), if_pos (by rw [size_cons, hl2]; omega)]
  have e1 : (B (120 :: (two c ++ m))).extract 1 3 = B (two c) := by rw [extract_B]; rfl
  have e3 : (B (120 :: (two c ++ m))).extract 3 (B (120 :: (two c ++ m))).size = B m := by rw [tail_B]; rfl
  rw [e1, unhexed_two k c hk, Option.bind_some]
  simp only []
  rw [if_pos (toList_B []), if_pos (by rw [N_length, size_cons]; simp; omega), e3, bytesOf_B, N_append]
theorem unq_esc (k : Nat) (c : UInt8) (m acc : List UInt8) (hk : 8 ≤ k) (hl : acc.length < 1000000) :
    ∃ j, k ≤ j ∧ j ≤ k + 2 ∧ text_unquoted.l0 j (B (esc c ++ m)) (N acc) = text_unquoted.l0 k (B m) (N (acc ++ [c])) := by
  unfold esc
  by_cases h : c = 34 ∨ c = 92
  · rw [if_pos h]
    exact ⟨k + 2, by omega, by omega, unq_stroke k c m acc (by rcases h with rfl | rfl <;> decide) hl⟩
  · rw [if_neg h]
    by_cases h2 : c < 32 ∨ 126 < c
    · rw [if_pos h2]; exact ⟨k + 2, by omega, by omega, unq_hex k c m acc hk hl⟩
    · rw [if_neg h2]; exact ⟨k + 1, by omega, by omega, unq_plain k c m acc (fun e => h (.inl e)) (fun e => h (.inr e)) hl⟩
theorem unq_back (l : List UInt8) : ∀ (acc r : List UInt8), acc.length + l.length < 1000000 →
    ∃ k, text_unquoted.l0 k (B (l.flatMap esc ++ 34 :: r)) (N acc) = some (B (acc ++ l), B r, true) ∧ 8 ≤ k := by
  induction l with
  | nil =>
    intro acc r hl
    refine ⟨9, ?_, by omega⟩
    rw [List.flatMap_nil, List.nil_append, List.append_nil]
    simp only [text_unquoted.l0, bt_cons, tail1]
    rw [if_neg (cons_ne 34 _), if_pos (by rw [size_cons]; omega), if_pos (by rw [size_cons]; omega), if_pos (by decide), str_N]
  | cons c l ih =>
    intro acc r hl
    obtain ⟨k, hk, h8⟩ := ih (acc ++ [c]) r (by simp at hl ⊢; omega)
    obtain ⟨j, hj, _, he⟩ := unq_esc k c (l.flatMap esc ++ 34 :: r) acc h8 (by simp at hl; omega)
    refine ⟨j, ?_, by omega⟩
    rw [List.flatMap_cons, List.append_assoc, he, hk, List.append_assoc]
    rfl
theorem unquoted_back (l r : List UInt8) (hl : l.length < 1000000) : ∃ k, text_unquoted.f k (B (l.flatMap esc ++ 34 :: r)) = some (B l, B r, true) := by
  obtain ⟨k, hk, _⟩ := unq_back l [] r (by simpa using hl)
  exact ⟨k, hk⟩
end Go.Proofs.YtpjfhdbkkomogaaDoor.Mb
namespace Go.Proofs.YtpjfhdbkkomogaaDoor.Px
open Go.RowKit Go.Proofs.YtpjfhdbkkomogaaDoor.Gvn Go.Proofs.YtpjfhdbkkomogaaDoorW.PrintWords Go.Proofs.YtpjfhdbkkomogaaDoorW.PrintLast Go.Proofs.YtpjfhdbkkomogaaDoorW.PrintMore
attribute [local go_sem] run_store_float min2_int min_two
set_option linter.unusedVariables false
set_option linter.unusedSimpArgs false
def value_Is.j0 : Nat → Bool → Int → Bool → Int → Int → ByteArray → Nat → Option (Bool)
 | 0, _, _, _, _, _, _, _ => none
 | k + 1, x3, x9, x36, x102000, x102001, x102002, x102003 => if x36 = true then (if (x102002.size : Int) ≤ 60 then (if x102001 = 0 then (some x3) else (some false)) else (some false)) else (if x9 = 5 then (if x102001 = 0 then (some (x102002.toList == ([] : List UInt8))) else (some false)) else (some false))
def value_Is.f (k : Nat) (a0_0 : Int) (a0_1 : Int) (a0_2 : ByteArray) (a0_3 : Nat) : Option (Bool) := (bits_Order.f a0_3).bind fun t102 => (if a0_0 = 1 then (if a0_2.toList = ([] : List UInt8) then (some (t102 == 9223372036854775808)) else (some false)) else (if a0_0 = 2 then (if a0_1 = 0 then (if a0_2.toList = ([] : List UInt8) then (some (t102 == 9223372036854775808)) else (some false)) else (if a0_1 = 1 then (if a0_2.toList = ([] : List UInt8) then (some (t102 == 9223372036854775808)) else (some false)) else (some false))) else (if a0_0 = 3 then (value_Is.j0 k (t102 == 9223372036854775808) a0_0 (a0_0 == 3) a0_0 a0_1 a0_2 a0_3) else (value_Is.j0 k (t102 == 9223372036854775808) a0_0 (a0_0 == 4) a0_0 a0_1 a0_2 a0_3))))
set_option maxHeartbeats 8000000 in
set_option maxRecDepth 100000 in
theorem value_Is.calls (k : Nat) (a0_0 : Int) (a0_1 : Int) (a0_2 : ByteArray) (a0_3 : Nat) (r : Bool) (w : World) (h : value_Is.f k a0_0 a0_1 a0_2 a0_3 = some r) :
  Calls Tryd.prog 24 #[.agg #[.int .i64 a0_0, .int .i64 a0_1, .string a0_2, .float .f64 a0_3]] w fun e w' => e = .returned (.bool r) ∧ Below w.heap.size w w' := by
 have hu24 := Tryd.underlying24
 have HB := Aside0.mk (Below.refl w.heap.size w)
 have H : ((bits_Order.f a0_3).bind fun t102 => (if a0_0 = 1 then (if a0_2.toList = ([] : List UInt8) then (some (t102 == 9223372036854775808)) else (some false)) else (if a0_0 = 2 then (if a0_1 = 0 then (if a0_2.toList = ([] : List UInt8) then (some (t102 == 9223372036854775808)) else (some false)) else (if a0_1 = 1 then (if a0_2.toList = ([] : List UInt8) then (some (t102 == 9223372036854775808)) else (some false)) else (some false))) else (if a0_0 = 3 then (value_Is.j0 k (t102 == 9223372036854775808) a0_0 (a0_0 == 3) a0_0 a0_1 a0_2 a0_3) else (value_Is.j0 k (t102 == 9223372036854775808) a0_0 (a0_0 == 4) a0_0 a0_1 a0_2 a0_3))))) = some r := h
 clear h
 replace H := Option.bind_eq_some_iff.mp H
 obtain ⟨t102, A20, H⟩ := H
 replace H : (if a0_0 = 1 then (if a0_2.toList = ([] : List UInt8) then (some (t102 == 9223372036854775808)) else (some false)) else (if a0_0 = 2 then (if a0_1 = 0 then (if a0_2.toList = ([] : List UInt8) then (some (t102 == 9223372036854775808)) else (some false)) else (if a0_1 = 1 then (if a0_2.toList = ([] : List UInt8) then (some (t102 == 9223372036854775808)) else (some false)) else (some false))) else (if a0_0 = 3 then (value_Is.j0 k (t102 == 9223372036854775808) a0_0 (a0_0 == 3) a0_0 a0_1 a0_2 a0_3) else (value_Is.j0 k (t102 == 9223372036854775808) a0_0 (a0_0 == 4) a0_0 a0_1 a0_2 a0_3)))) = some r := H
 have A2 := Aside0.mk A20
 clear A20
 by_cases c3 : a0_0 = 1
 ·rw [if_pos c3] at H
  have c3b0 : (a0_0 == 1) = true := beq_iff_eq.mpr c3
  have c3b1 : (a0_0 != 1) = false := bne_eq_false_iff_eq.mpr c3
  clear c3
  by_cases c4 : a0_2.toList = ([] : List UInt8)
  ·rw [if_pos c4] at H
   have c4b0 : (a0_2.toList == ([] : List UInt8)) = true := beq_iff_eq.mpr c4
   have c4b1 : (a0_2.toList != ([] : List UInt8)) = false := bne_eq_false_iff_eq.mpr c4
   clear c4
   obtain rfl := Option.some.inj H
   have k23 := run23
   have k22 := run22
   go_enter Tryd.func24, Tryd.ntmps24
   go_wp2_with (first | ((with_reducible refine gate_dst (N := 1) rfl ?_); refine box_event ?hg (N := 1) ?hd (cs := #[.int .i64 a0_0, .int .i64 a0_1, .string a0_2, .float .f64 a0_3]) (t := 24) ?hr ?_; (case hd => rfl); (case hg => rfl); (case hr => first | (go_simp; done) | (go_simp; rfl)); intro gb101 hg w5 hbox hb; have n0_ := Aside0.mk (below_step (by repeat (first | (with_reducible first | exact HB.out | apply below_alloc | apply pw_below_drewN | apply below_drew1) | exact HB.out)) hb); have n1_ := Aside0.mk (hbox); have n2_ := Aside0.mk ((by rw [hg]; exact (below_size (by repeat (first | (with_reducible first | exact HB.out | apply below_alloc | apply pw_below_drewN | apply below_drew1) | exact HB.out))) : w.heap.size ≤ gb101)); have n3_ := Aside0.mk ((by rw [hg]; exact (below_size (by repeat (first | (with_reducible first | exact HB.out | apply below_alloc | apply pw_below_drewN | apply below_drew1) | exact HB.out))) : w.heap.size ≤ gb101)); clear HB; have HB := n0_; have BK101 := n1_; have GW101 := n2_; have GE101 := n3_; clear n0_ n1_ n2_ n3_; clear hb hbox hg; have hcz6_0 : w5.cell? ⟨gb101, 0, none⟩ = some (.int .i64 a0_0) := (blk_cell BK101.out 0).trans rfl; have hcz6_1 : w5.cell? ⟨gb101, 1, none⟩ = some (.int .i64 a0_1) := (blk_cell BK101.out 1).trans rfl; have hcz6_2 : w5.cell? ⟨gb101, 2, none⟩ = some (.string a0_2) := (blk_cell BK101.out 2).trans rfl; have hcz6_3 : w5.cell? ⟨gb101, 3, none⟩ = some (.float .f64 a0_3) := (blk_cell BK101.out 3).trans rfl; have hfz6_0 := blk_frozen BK101.out 0; have hfz6_1 := blk_frozen BK101.out 1; have hfz6_2 := blk_frozen BK101.out 2; have hfz6_3 := blk_frozen BK101.out 3) | ((with_reducible refine gate_callee (f := 39) rfl ?_); refine goesL_ (some 6) rfl rfl Tryd.func39 (by kernel_rfl) rfl #[.float .f64 a0_3] rfl (by (try simp only [List.map_toArray, List.map_cons, List.map_nil]); first | done | rfl | (simp only [List.length_drop, List.length_take]; rfl)) ?_; (with_reducible refine (bits_Order.calls a0_3 t102 _ A2.out).mono ?_); rintro e w' ⟨rfl, ⟨nd, rfl⟩⟩; refine ⟨_, rfl, ?_⟩))
   go_ret
   exact ⟨by first | rfl | (simp [errW_none, errW_some] <;> rfl) | (simp [*, errW_none, errW_some] <;> rfl), by repeat (first | (with_reducible first | exact HB.out | apply below_alloc | apply pw_below_drewN | apply below_drew1 | refine below_set ?_ GE101.out) | exact HB.out)⟩
  ·rw [if_neg c4] at H
   have c4b0 : (a0_2.toList == ([] : List UInt8)) = false := beq_eq_false_iff_ne.mpr c4
   have c4b1 : (a0_2.toList != ([] : List UInt8)) = true := bne_iff_ne.mpr c4
   obtain rfl := Option.some.inj H
   have k23 := run23
   have k22 := run22
   go_enter Tryd.func24, Tryd.ntmps24
   go_wp2_with (first | ((with_reducible refine gate_dst (N := 1) rfl ?_); refine box_event ?hg (N := 1) ?hd (cs := #[.int .i64 a0_0, .int .i64 a0_1, .string a0_2, .float .f64 a0_3]) (t := 24) ?hr ?_; (case hd => rfl); (case hg => rfl); (case hr => first | (go_simp; done) | (go_simp; rfl)); intro gb101 hg w7 hbox hb; have n0_ := Aside0.mk (below_step (by repeat (first | (with_reducible first | exact HB.out | apply below_alloc | apply pw_below_drewN | apply below_drew1) | exact HB.out)) hb); have n1_ := Aside0.mk (hbox); have n2_ := Aside0.mk ((by rw [hg]; exact (below_size (by repeat (first | (with_reducible first | exact HB.out | apply below_alloc | apply pw_below_drewN | apply below_drew1) | exact HB.out))) : w.heap.size ≤ gb101)); have n3_ := Aside0.mk ((by rw [hg]; exact (below_size (by repeat (first | (with_reducible first | exact HB.out | apply below_alloc | apply pw_below_drewN | apply below_drew1) | exact HB.out))) : w.heap.size ≤ gb101)); clear HB; have HB := n0_; have BK101 := n1_; have GW101 := n2_; have GE101 := n3_; clear n0_ n1_ n2_ n3_; clear hb hbox hg; have hcz8_0 : w7.cell? ⟨gb101, 0, none⟩ = some (.int .i64 a0_0) := (blk_cell BK101.out 0).trans rfl; have hcz8_1 : w7.cell? ⟨gb101, 1, none⟩ = some (.int .i64 a0_1) := (blk_cell BK101.out 1).trans rfl; have hcz8_2 : w7.cell? ⟨gb101, 2, none⟩ = some (.string a0_2) := (blk_cell BK101.out 2).trans rfl; have hcz8_3 : w7.cell? ⟨gb101, 3, none⟩ = some (.float .f64 a0_3) := (blk_cell BK101.out 3).trans rfl; have hfz8_0 := blk_frozen BK101.out 0; have hfz8_1 := blk_frozen BK101.out 1; have hfz8_2 := blk_frozen BK101.out 2; have hfz8_3 := blk_frozen BK101.out 3) | ((with_reducible refine gate_callee (f := 39) rfl ?_); refine goesL_ (some 6) rfl rfl Tryd.func39 (by kernel_rfl) rfl #[.float .f64 a0_3] rfl (by (try simp only [List.map_toArray, List.map_cons, List.map_nil]); first | done | rfl | (simp only [List.length_drop, List.length_take]; rfl)) ?_; (with_reducible refine (bits_Order.calls a0_3 t102 _ A2.out).mono ?_); rintro e w' ⟨rfl, ⟨nd, rfl⟩⟩; refine ⟨_, rfl, ?_⟩))
   go_ret
   exact ⟨by first | rfl | (simp [errW_none, errW_some] <;> rfl) | (simp [*, errW_none, errW_some] <;> rfl), by repeat (first | (with_reducible first | exact HB.out | apply below_alloc | apply pw_below_drewN | apply below_drew1 | refine below_set ?_ GE101.out) | exact HB.out)⟩
 ·rw [if_neg c3] at H
  have c3b0 : (a0_0 == 1) = false := beq_eq_false_iff_ne.mpr c3
  have c3b1 : (a0_0 != 1) = true := bne_iff_ne.mpr c3
  by_cases c9 : a0_0 = 2
  ·rw [if_pos c9] at H
   have c9b0 : (a0_0 == 2) = true := beq_iff_eq.mpr c9
   have c9b1 : (a0_0 != 2) = false := bne_eq_false_iff_eq.mpr c9
   clear c9
   by_cases c10 : a0_1 = 0
   ·rw [if_pos c10] at H
    have c10b0 : (a0_1 == 0) = true := beq_iff_eq.mpr c10
    have c10b1 : (a0_1 != 0) = false := bne_eq_false_iff_eq.mpr c10
    clear c10
    by_cases c11 : a0_2.toList = ([] : List UInt8)
    ·rw [if_pos c11] at H
     have c11b0 : (a0_2.toList == ([] : List UInt8)) = true := beq_iff_eq.mpr c11
     have c11b1 : (a0_2.toList != ([] : List UInt8)) = false := bne_eq_false_iff_eq.mpr c11
     clear c11
     obtain rfl := Option.some.inj H
     have k23 := run23
     have k22 := run22
     go_enter Tryd.func24, Tryd.ntmps24
     go_wp2_with (first | ((with_reducible refine gate_dst (N := 1) rfl ?_); refine box_event ?hg (N := 1) ?hd (cs := #[.int .i64 a0_0, .int .i64 a0_1, .string a0_2, .float .f64 a0_3]) (t := 24) ?hr ?_; (case hd => rfl); (case hg => rfl); (case hr => first | (go_simp; done) | (go_simp; rfl)); intro gb101 hg w12 hbox hb; have n0_ := Aside0.mk (below_step (by repeat (first | (with_reducible first | exact HB.out | apply below_alloc | apply pw_below_drewN | apply below_drew1) | exact HB.out)) hb); have n1_ := Aside0.mk (hbox); have n2_ := Aside0.mk ((by rw [hg]; exact (below_size (by repeat (first | (with_reducible first | exact HB.out | apply below_alloc | apply pw_below_drewN | apply below_drew1) | exact HB.out))) : w.heap.size ≤ gb101)); have n3_ := Aside0.mk ((by rw [hg]; exact (below_size (by repeat (first | (with_reducible first | exact HB.out | apply below_alloc | apply pw_below_drewN | apply below_drew1) | exact HB.out))) : w.heap.size ≤ gb101)); clear HB; have HB := n0_; have BK101 := n1_; have GW101 := n2_; have GE101 := n3_; clear n0_ n1_ n2_ n3_; clear hb hbox hg; have hcz13_0 : w12.cell? ⟨gb101, 0, none⟩ = some (.int .i64 a0_0) := (blk_cell BK101.out 0).trans rfl; have hcz13_1 : w12.cell? ⟨gb101, 1, none⟩ = some (.int .i64 a0_1) := (blk_cell BK101.out 1).trans rfl; have hcz13_2 : w12.cell? ⟨gb101, 2, none⟩ = some (.string a0_2) := (blk_cell BK101.out 2).trans rfl; have hcz13_3 : w12.cell? ⟨gb101, 3, none⟩ = some (.float .f64 a0_3) := (blk_cell BK101.out 3).trans rfl; have hfz13_0 := blk_frozen BK101.out 0; have hfz13_1 := blk_frozen BK101.out 1; have hfz13_2 := blk_frozen BK101.out 2; have hfz13_3 := blk_frozen BK101.out 3) | ((with_reducible refine gate_callee (f := 39) rfl ?_); refine goesL_ (some 6) rfl rfl Tryd.func39 (by kernel_rfl) rfl #[.float .f64 a0_3] rfl (by (try simp only [List.map_toArray, List.map_cons, List.map_nil]); first | done | rfl | (simp only [List.length_drop, List.length_take]; rfl)) ?_; (with_reducible refine (bits_Order.calls a0_3 t102 _ A2.out).mono ?_); rintro e w' ⟨rfl, ⟨nd, rfl⟩⟩; refine ⟨_, rfl, ?_⟩))
     go_ret
     exact ⟨by first | rfl | (simp [errW_none, errW_some] <;> rfl) | (simp [*, errW_none, errW_some] <;> rfl), by repeat (first | (with_reducible first | exact HB.out | apply below_alloc | apply pw_below_drewN | apply below_drew1 | refine below_set ?_ GE101.out) | exact HB.out)⟩
    ·rw [if_neg c11] at H
     have c11b0 : (a0_2.toList == ([] : List UInt8)) = false := beq_eq_false_iff_ne.mpr c11
     have c11b1 : (a0_2.toList != ([] : List UInt8)) = true := bne_iff_ne.mpr c11
     obtain rfl := Option.some.inj H
     have k23 := run23
     have k22 := run22
     go_enter Tryd.func24, Tryd.ntmps24
     go_wp2_with (first | ((with_reducible refine gate_dst (N := 1) rfl ?_); refine box_event ?hg (N := 1) ?hd (cs := #[.int .i64 a0_0, .int .i64 a0_1, .string a0_2, .float .f64 a0_3]) (t := 24) ?hr ?_; (case hd => rfl); (case hg => rfl); (case hr => first | (go_simp; done) | (go_simp; rfl)); intro gb101 hg w14 hbox hb; have n0_ := Aside0.mk (below_step (by repeat (first | (with_reducible first | exact HB.out | apply below_alloc | apply pw_below_drewN | apply below_drew1) | exact HB.out)) hb); have n1_ := Aside0.mk (hbox); have n2_ := Aside0.mk ((by rw [hg]; exact (below_size (by repeat (first | (with_reducible first | exact HB.out | apply below_alloc | apply pw_below_drewN | apply below_drew1) | exact HB.out))) : w.heap.size ≤ gb101)); have n3_ := Aside0.mk ((by rw [hg]; exact (below_size (by repeat (first | (with_reducible first | exact HB.out | apply below_alloc | apply pw_below_drewN | apply below_drew1) | exact HB.out))) : w.heap.size ≤ gb101)); clear HB; have HB := n0_; have BK101 := n1_; have GW101 := n2_; have GE101 := n3_; clear n0_ n1_ n2_ n3_; clear hb hbox hg; have hcz15_0 : w14.cell? ⟨gb101, 0, none⟩ = some (.int .i64 a0_0) := (blk_cell BK101.out 0).trans rfl; have hcz15_1 : w14.cell? ⟨gb101, 1, none⟩ = some (.int .i64 a0_1) := (blk_cell BK101.out 1).trans rfl; have hcz15_2 : w14.cell? ⟨gb101, 2, none⟩ = some (.string a0_2) := (blk_cell BK101.out 2).trans rfl; have hcz15_3 : w14.cell? ⟨gb101, 3, none⟩ = some (.float .f64 a0_3) := (blk_cell BK101.out 3).trans rfl; have hfz15_0 := blk_frozen BK101.out 0; have hfz15_1 := blk_frozen BK101.out 1; have hfz15_2 := blk_frozen BK101.out 2; have hfz15_3 := blk_frozen BK101.out 3) | ((with_reducible refine gate_callee (f := 39) rfl ?_); refine goesL_ (some 6) rfl rfl Tryd.func39 (by kernel_rfl) rfl #[.float .f64 a0_3] rfl (by (try simp only [List.map_toArray, List.map_cons, List.map_nil]); first | done | rfl | (simp only [List.length_drop, List.length_take]; rfl)) ?_; (with_reducible refine (bits_Order.calls a0_3 t102 _ A2.out).mono ?_); rintro e w' ⟨rfl, ⟨nd, rfl⟩⟩; refine ⟨_, rfl, ?_⟩))
     go_ret
     exact ⟨by first | rfl | (simp [errW_none, errW_some] <;> rfl) | (simp [*, errW_none, errW_some] <;> rfl), by repeat (first | (with_reducible first | exact HB.out | apply below_alloc | apply pw_below_drewN | apply below_drew1 | refine below_set ?_ GE101.out) | exact HB.out)⟩
   ·rw [if_neg c10] at H
    have c10b0 : (a0_1 == 0) = false := beq_eq_false_iff_ne.mpr c10
    have c10b1 : (a0_1 != 0) = true := bne_iff_ne.mpr c10
    by_cases c16 : a0_1 = 1
    ·rw [if_pos c16] at H
     have c16b0 : (a0_1 == 1) = true := beq_iff_eq.mpr c16
     have c16b1 : (a0_1 != 1) = false := bne_eq_false_iff_eq.mpr c16
     clear c16
     by_cases c17 : a0_2.toList = ([] : List UInt8)
     ·rw [if_pos c17] at H
      have c17b0 : (a0_2.toList == ([] : List UInt8)) = true := beq_iff_eq.mpr c17
      have c17b1 : (a0_2.toList != ([] : List UInt8)) = false := bne_eq_false_iff_eq.mpr c17
      clear c17
      obtain rfl := Option.some.inj H
      have k23 := run23
      have k22 := run22
      go_enter Tryd.func24, Tryd.ntmps24
      go_wp2_with (first | ((with_reducible refine gate_dst (N := 1) rfl ?_); refine box_event ?hg (N := 1) ?hd (cs := #[.int .i64 a0_0, .int .i64 a0_1, .string a0_2, .float .f64 a0_3]) (t := 24) ?hr ?_; (case hd => rfl); (case hg => rfl); (case hr => first | (go_simp; done) | (go_simp; rfl)); intro gb101 hg w18 hbox hb; have n0_ := Aside0.mk (below_step (by repeat (first | (with_reducible first | exact HB.out | apply below_alloc | apply pw_below_drewN | apply below_drew1) | exact HB.out)) hb); have n1_ := Aside0.mk (hbox); have n2_ := Aside0.mk ((by rw [hg]; exact (below_size (by repeat (first | (with_reducible first | exact HB.out | apply below_alloc | apply pw_below_drewN | apply below_drew1) | exact HB.out))) : w.heap.size ≤ gb101)); have n3_ := Aside0.mk ((by rw [hg]; exact (below_size (by repeat (first | (with_reducible first | exact HB.out | apply below_alloc | apply pw_below_drewN | apply below_drew1) | exact HB.out))) : w.heap.size ≤ gb101)); clear HB; have HB := n0_; have BK101 := n1_; have GW101 := n2_; have GE101 := n3_; clear n0_ n1_ n2_ n3_; clear hb hbox hg; have hcz19_0 : w18.cell? ⟨gb101, 0, none⟩ = some (.int .i64 a0_0) := (blk_cell BK101.out 0).trans rfl; have hcz19_1 : w18.cell? ⟨gb101, 1, none⟩ = some (.int .i64 a0_1) := (blk_cell BK101.out 1).trans rfl; have hcz19_2 : w18.cell? ⟨gb101, 2, none⟩ = some (.string a0_2) := (blk_cell BK101.out 2).trans rfl; have hcz19_3 : w18.cell? ⟨gb101, 3, none⟩ = some (.float .f64 a0_3) := (blk_cell BK101.out 3).trans rfl; have hfz19_0 := blk_frozen BK101.out 0; have hfz19_1 := blk_frozen BK101.out 1; have hfz19_2 := blk_frozen BK101.out 2; have hfz19_3 := blk_frozen BK101.out 3) | ((with_reducible refine gate_callee (f := 39) rfl ?_); refine goesL_ (some 6) rfl rfl Tryd.func39 (by kernel_rfl) rfl #[.float .f64 a0_3] rfl (by (try simp only [List.map_toArray, List.map_cons, List.map_nil]); first | done | rfl | (simp only [List.length_drop, List.length_take]; rfl)) ?_; (with_reducible refine (bits_Order.calls a0_3 t102 _ A2.out).mono ?_); rintro e w' ⟨rfl, ⟨nd, rfl⟩⟩; refine ⟨_, rfl, ?_⟩))
      go_ret
      exact ⟨by first | rfl | (simp [errW_none, errW_some] <;> rfl) | (simp [*, errW_none, errW_some] <;> rfl), by repeat (first | (with_reducible first | exact HB.out | apply below_alloc | apply pw_below_drewN | apply below_drew1 | refine below_set ?_ GE101.out) | exact HB.out)⟩
     ·rw [if_neg c17] at H
      have c17b0 : (a0_2.toList == ([] : List UInt8)) = false := beq_eq_false_iff_ne.mpr c17
      have c17b1 : (a0_2.toList != ([] : List UInt8)) = true := bne_iff_ne.mpr c17
      obtain rfl := Option.some.inj H
      have k23 := run23
      have k22 := run22
      go_enter Tryd.func24, Tryd.ntmps24
      go_wp2_with (first | ((with_reducible refine gate_dst (N := 1) rfl ?_); refine box_event ?hg (N := 1) ?hd (cs := #[.int .i64 a0_0, .int .i64 a0_1, .string a0_2, .float .f64 a0_3]) (t := 24) ?hr ?_; (case hd => rfl); (case hg => rfl); (case hr => first | (go_simp; done) | (go_simp; rfl)); intro gb101 hg w20 hbox hb; have n0_ := Aside0.mk (below_step (by repeat (first | (with_reducible first | exact HB.out | apply below_alloc | apply pw_below_drewN | apply below_drew1) | exact HB.out)) hb); have n1_ := Aside0.mk (hbox); have n2_ := Aside0.mk ((by rw [hg]; exact (below_size (by repeat (first | (with_reducible first | exact HB.out | apply below_alloc | apply pw_below_drewN | apply below_drew1) | exact HB.out))) : w.heap.size ≤ gb101)); have n3_ := Aside0.mk ((by rw [hg]; exact (below_size (by repeat (first | (with_reducible first | exact HB.out | apply below_alloc | apply pw_below_drewN | apply below_drew1) | exact HB.out))) : w.heap.size ≤ gb101)); clear HB; have HB := n0_; have BK101 := n1_; have GW101 := n2_; have GE101 := n3_; clear n0_ n1_ n2_ n3_; clear hb hbox hg; have hcz21_0 : w20.cell? ⟨gb101, 0, none⟩ = some (.int .i64 a0_0) := (blk_cell BK101.out 0).trans rfl; have hcz21_1 : w20.cell? ⟨gb101, 1, none⟩ = some (.int .i64 a0_1) := (blk_cell BK101.out 1).trans rfl; have hcz21_2 : w20.cell? ⟨gb101, 2, none⟩ = some (.string a0_2) := (blk_cell BK101.out 2).trans rfl; have hcz21_3 : w20.cell? ⟨gb101, 3, none⟩ = some (.float .f64 a0_3) := (blk_cell BK101.out 3).trans rfl; have hfz21_0 := blk_frozen BK101.out 0; have hfz21_1 := blk_frozen BK101.out 1; have hfz21_2 := blk_frozen BK101.out 2; have hfz21_3 := blk_frozen BK101.out 3) | ((with_reducible refine gate_callee (f := 39) rfl ?_); refine goesL_ (some 6) rfl rfl Tryd.func39 (by kernel_rfl) rfl #[.float .f64 a0_3] rfl (by (try simp only [List.map_toArray, List.map_cons, List.map_nil]); first | done | rfl | (simp only [List.length_drop, List.length_take]; rfl)) ?_; (with_reducible refine (bits_Order.calls a0_3 t102 _ A2.out).mono ?_); rintro e w' ⟨rfl, ⟨nd, rfl⟩⟩; refine ⟨_, rfl, ?_⟩))
      go_ret
      exact ⟨by first | rfl | (simp [errW_none, errW_some] <;> rfl) | (simp [*, errW_none, errW_some] <;> rfl), by repeat (first | (with_reducible first | exact HB.out | apply below_alloc | apply pw_below_drewN | apply below_drew1 | refine below_set ?_ GE101.out) | exact HB.out)⟩
    ·rw [if_neg c16] at H
     have c16b0 : (a0_1 == 1) = false := beq_eq_false_iff_ne.mpr c16
     have c16b1 : (a0_1 != 1) = true := bne_iff_ne.mpr c16
     obtain rfl := Option.some.inj H
     have k23 := run23
     have k22 := run22
     go_enter Tryd.func24, Tryd.ntmps24
     go_wp2_with (first | ((with_reducible refine gate_dst (N := 1) rfl ?_); refine box_event ?hg (N := 1) ?hd (cs := #[.int .i64 a0_0, .int .i64 a0_1, .string a0_2, .float .f64 a0_3]) (t := 24) ?hr ?_; (case hd => rfl); (case hg => rfl); (case hr => first | (go_simp; done) | (go_simp; rfl)); intro gb101 hg w22 hbox hb; have n0_ := Aside0.mk (below_step (by repeat (first | (with_reducible first | exact HB.out | apply below_alloc | apply pw_below_drewN | apply below_drew1) | exact HB.out)) hb); have n1_ := Aside0.mk (hbox); have n2_ := Aside0.mk ((by rw [hg]; exact (below_size (by repeat (first | (with_reducible first | exact HB.out | apply below_alloc | apply pw_below_drewN | apply below_drew1) | exact HB.out))) : w.heap.size ≤ gb101)); have n3_ := Aside0.mk ((by rw [hg]; exact (below_size (by repeat (first | (with_reducible first | exact HB.out | apply below_alloc | apply pw_below_drewN | apply below_drew1) | exact HB.out))) : w.heap.size ≤ gb101)); clear HB; have HB := n0_; have BK101 := n1_; have GW101 := n2_; have GE101 := n3_; clear n0_ n1_ n2_ n3_; clear hb hbox hg; have hcz23_0 : w22.cell? ⟨gb101, 0, none⟩ = some (.int .i64 a0_0) := (blk_cell BK101.out 0).trans rfl; have hcz23_1 : w22.cell? ⟨gb101, 1, none⟩ = some (.int .i64 a0_1) := (blk_cell BK101.out 1).trans rfl; have hcz23_2 : w22.cell? ⟨gb101, 2, none⟩ = some (.string a0_2) := (blk_cell BK101.out 2).trans rfl; have hcz23_3 : w22.cell? ⟨gb101, 3, none⟩ = some (.float .f64 a0_3) := (blk_cell BK101.out 3).trans rfl; have hfz23_0 := blk_frozen BK101.out 0; have hfz23_1 := blk_frozen BK101.out 1; have hfz23_2 := blk_frozen BK101.out 2; have hfz23_3 := blk_frozen BK101.out 3) | ((with_reducible refine gate_callee (f := 39) rfl ?_); refine goesL_ (some 6) rfl rfl Tryd.func39 (by kernel_rfl) rfl #[.float .f64 a0_3] rfl (by (try simp only [List.map_toArray, List.map_cons, List.map_nil]); first | done | rfl | (simp only [List.length_drop, List.length_take]; rfl)) ?_; (with_reducible refine (bits_Order.calls a0_3 t102 _ A2.out).mono ?_); rintro e w' ⟨rfl, ⟨nd, rfl⟩⟩; refine ⟨_, rfl, ?_⟩))
     go_ret
     exact ⟨by first | rfl | (simp [errW_none, errW_some] <;> rfl) | (simp [*, errW_none, errW_some] <;> rfl), by repeat (first | (with_reducible first | exact HB.out | apply below_alloc | apply pw_below_drewN | apply below_drew1 | refine below_set ?_ GE101.out) | exact HB.out)⟩
  ·rw [if_neg c9] at H
   have c9b0 : (a0_0 == 2) = false := beq_eq_false_iff_ne.mpr c9
   have c9b1 : (a0_0 != 2) = true := bne_iff_ne.mpr c9
   have HC24 := Aside0.mk H
   clear H
   have k23 := run23
   have k22 := run22
   go_enter Tryd.func24, Tryd.ntmps24
   go_upto_if 36 with (first | ((with_reducible refine gate_dst (N := 1) rfl ?_); refine box_event ?hg (N := 1) ?hd (cs := #[.int .i64 a0_0, .int .i64 a0_1, .string a0_2, .float .f64 a0_3]) (t := 24) ?hr ?_; (case hd => rfl); (case hg => rfl); (case hr => first | (go_simp; done) | (go_simp; rfl)); intro gb101 hg w25 hbox hb; have n0_ := Aside0.mk (below_step (by repeat (first | (with_reducible first | exact HB.out | apply below_alloc | apply pw_below_drewN | apply below_drew1) | exact HB.out)) hb); have n1_ := Aside0.mk (hbox); have n2_ := Aside0.mk ((by rw [hg]; exact (below_size (by repeat (first | (with_reducible first | exact HB.out | apply below_alloc | apply pw_below_drewN | apply below_drew1) | exact HB.out))) : w.heap.size ≤ gb101)); have n3_ := Aside0.mk ((by rw [hg]; exact (below_size (by repeat (first | (with_reducible first | exact HB.out | apply below_alloc | apply pw_below_drewN | apply below_drew1) | exact HB.out))) : w.heap.size ≤ gb101)); clear HB; have HB := n0_; have BK101 := n1_; have GW101 := n2_; have GE101 := n3_; clear n0_ n1_ n2_ n3_; clear hb hbox hg; have hcz26_0 : w25.cell? ⟨gb101, 0, none⟩ = some (.int .i64 a0_0) := (blk_cell BK101.out 0).trans rfl; have hcz26_1 : w25.cell? ⟨gb101, 1, none⟩ = some (.int .i64 a0_1) := (blk_cell BK101.out 1).trans rfl; have hcz26_2 : w25.cell? ⟨gb101, 2, none⟩ = some (.string a0_2) := (blk_cell BK101.out 2).trans rfl; have hcz26_3 : w25.cell? ⟨gb101, 3, none⟩ = some (.float .f64 a0_3) := (blk_cell BK101.out 3).trans rfl; have hfz26_0 := blk_frozen BK101.out 0; have hfz26_1 := blk_frozen BK101.out 1; have hfz26_2 := blk_frozen BK101.out 2; have hfz26_3 := blk_frozen BK101.out 3) | ((with_reducible refine gate_callee (f := 39) rfl ?_); refine goesL_ (some 6) rfl rfl Tryd.func39 (by kernel_rfl) rfl #[.float .f64 a0_3] rfl (by (try simp only [List.map_toArray, List.map_cons, List.map_nil]); first | done | rfl | (simp only [List.length_drop, List.length_take]; rfl)) ?_; (with_reducible refine (bits_Order.calls a0_3 t102 _ A2.out).mono ?_); rintro e w' ⟨rfl, ⟨nd, rfl⟩⟩; refine ⟨_, rfl, ?_⟩))
   (try simp only [Act.put, List.setIfInBounds_toArray, List.set_cons_zero, List.set_cons_succ])
   go_cut [36] (fun v36 wc => ∃ (kq : Nat) (x36_23 : Bool), v36 = .bool x36_23 ∧ Aside0 (value_Is.j0 kq (t102 == 9223372036854775808) a0_0 x36_23 a0_0 a0_1 a0_2 a0_3 = some r) ∧ Aside0 (kq ≤ k) ∧ Aside0 (wc.heap[gb101]? = some (.cells #[.int .i64 a0_0, .int .i64 a0_1, .string a0_2, .float .f64 a0_3] 24 (0, 0))) ∧ Aside0 (Below w.heap.size w wc))
   case first =>
    have H := HC24.out
    clear HC24
    by_cases c27 : a0_0 = 3
    ·rw [if_pos c27] at H
     have c27b0 : (a0_0 == 3) = true := beq_iff_eq.mpr c27
     have c27b1 : (a0_0 != 3) = false := bne_eq_false_iff_eq.mpr c27
     clear c27
     (first | rw [c27b0] | (simp only [i64_w, i32_w]; rw [c27b0]) | skip)
     have H' := Aside0.mk H
     clear H
     go_wp2
     go_meet
     case rel => exact ⟨_, ((a0_0 == 3)), (by first | rfl | (simp; done) | (simp [*]; done)), H', ⟨by first | omega | exact Nat.le_refl _⟩, ⟨by (with_reducible repeat (first | refine blk_drewN ?_ _ | refine blk_drew ?_ | refine blk_alloc ?_ _)); exact BK101.out⟩, ⟨by repeat (first | (with_reducible first | exact HB.out | apply below_alloc | apply pw_below_drewN | apply below_drew1 | refine below_set ?_ GE101.out) | exact HB.out)⟩⟩
    ·rw [if_neg c27] at H
     have c27b0 : (a0_0 == 3) = false := beq_eq_false_iff_ne.mpr c27
     have c27b1 : (a0_0 != 3) = true := bne_iff_ne.mpr c27
     (first | rw [c27b0] | (simp only [i64_w, i32_w]; rw [c27b0]) | skip)
     have H' := Aside0.mk H
     clear H
     go_wp2
     go_meet
     case rel => exact ⟨_, ((a0_0 == 4)), (by first | rfl | (simp; done) | (simp [*]; done)), H', ⟨by first | omega | exact Nat.le_refl _⟩, ⟨by (with_reducible repeat (first | refine blk_drewN ?_ _ | refine blk_drew ?_ | refine blk_alloc ?_ _)); exact BK101.out⟩, ⟨by repeat (first | (with_reducible first | exact HB.out | apply below_alloc | apply pw_below_drewN | apply below_drew1 | refine below_set ?_ GE101.out) | exact HB.out)⟩⟩
   case rest =>
    clear HC24
    try clear c1;try clear c2;try clear p2;try clear c3;try clear c3b0;try clear c3b1;try clear c4;try clear c4b0;try clear c4b1;try clear c9;try clear c9b0;try clear c9b1;try clear c10;try clear c10b0;try clear c10b1;try clear c11;try clear c11b0;try clear c11b1;try clear c16;try clear c16b0;try clear c16b1;try clear c17;try clear c17b0;try clear c17b1;try clear c24;try clear c27;try clear c27b0;try clear c27b1;try clear hcz13_0;try clear hcz13_1;try clear hcz13_2;try clear hcz13_3;try clear hcz15_0;try clear hcz15_1;try clear hcz15_2;try clear hcz15_3;try clear hcz19_0;try clear hcz19_1;try clear hcz19_2;try clear hcz19_3;try clear hcz21_0;try clear hcz21_1;try clear hcz21_2;try clear hcz21_3;try clear hcz23_0;try clear hcz23_1;try clear hcz23_2;try clear hcz23_3;try clear hcz26_0;try clear hcz26_1;try clear hcz26_2;try clear hcz26_3;try clear hcz6_0;try clear hcz6_1;try clear hcz6_2;try clear hcz6_3;try clear hcz8_0;try clear hcz8_1;try clear hcz8_2;try clear hcz8_3;try clear hfz13_0;try clear hfz13_1;try clear hfz13_2;try clear hfz13_3;try clear hfz15_0;try clear hfz15_1;try clear hfz15_2;try clear hfz15_3;try clear hfz19_0;try clear hfz19_1;try clear hfz19_2;try clear hfz19_3;try clear hfz21_0;try clear hfz21_1;try clear hfz21_2;try clear hfz21_3;try clear hfz23_0;try clear hfz23_1;try clear hfz23_2;try clear hfz23_3;try clear hfz26_0;try clear hfz26_1;try clear hfz26_2;try clear hfz26_3;try clear hfz6_0;try clear hfz6_1;try clear hfz6_2;try clear hfz6_3;try clear hfz8_0;try clear hfz8_1;try clear hfz8_2;try clear hfz8_3
    obtain ⟨kq, x36_23, rfl, HA, HJ23, BK101, HB⟩ := hcut
    cases kq with
    | zero => exact absurd HA.out (by simp [value_Is.j0])
    | succ kj23 =>
     have H := HA.out
     clear HA
     simp only [value_Is.j0] at H
     by_cases c28 : x36_23 = true
     ·subst c28
      have H1 : (if (a0_2.size : Int) ≤ 60 then (if a0_1 = 0 then (some (t102 == 9223372036854775808)) else (some false)) else (some false)) = some r := by rw [if_pos rfl] at H; exact H
      clear H
      have H := H1
      clear H1
      by_cases c29 : (a0_2.size : Int) ≤ 60
      ·rw [if_pos c29] at H
       have c29b0 : decide ((a0_2.size : Int) ≤ 60) = true := decide_eq_true c29
       have c29b1 : decide (a0_2.size ≤ 60) = true := decide_eq_true (by omega)
       clear c29
       by_cases c30 : a0_1 = 0
       ·rw [if_pos c30] at H
        have c30b0 : (a0_1 == 0) = true := beq_iff_eq.mpr c30
        have c30b1 : (a0_1 != 0) = false := bne_eq_false_iff_eq.mpr c30
        clear c30
        obtain rfl := Option.some.inj H
        have hcz31_0 : wc.cell? ⟨gb101, 0, none⟩ = some (.int .i64 a0_0) := (blk_cell BK101.out 0).trans rfl
        have hcz31_1 : wc.cell? ⟨gb101, 1, none⟩ = some (.int .i64 a0_1) := (blk_cell BK101.out 1).trans rfl
        have hcz31_2 : wc.cell? ⟨gb101, 2, none⟩ = some (.string a0_2) := (blk_cell BK101.out 2).trans rfl
        have hcz31_3 : wc.cell? ⟨gb101, 3, none⟩ = some (.float .f64 a0_3) := (blk_cell BK101.out 3).trans rfl
        have hfz31_0 := blk_frozen BK101.out 0
        have hfz31_1 := blk_frozen BK101.out 1
        have hfz31_2 := blk_frozen BK101.out 2
        have hfz31_3 := blk_frozen BK101.out 3
        go_wp2
        go_ret
        exact ⟨by first | rfl | (simp [errW_none, errW_some] <;> rfl) | (simp [*, errW_none, errW_some] <;> rfl), by repeat (first | (with_reducible first | exact HB.out | apply below_alloc | apply pw_below_drewN | apply below_drew1 | refine below_set ?_ GE101.out) | exact HB.out)⟩
       ·rw [if_neg c30] at H
        have c30b0 : (a0_1 == 0) = false := beq_eq_false_iff_ne.mpr c30
        have c30b1 : (a0_1 != 0) = true := bne_iff_ne.mpr c30
        obtain rfl := Option.some.inj H
        have hcz32_0 : wc.cell? ⟨gb101, 0, none⟩ = some (.int .i64 a0_0) := (blk_cell BK101.out 0).trans rfl
        have hcz32_1 : wc.cell? ⟨gb101, 1, none⟩ = some (.int .i64 a0_1) := (blk_cell BK101.out 1).trans rfl
        have hcz32_2 : wc.cell? ⟨gb101, 2, none⟩ = some (.string a0_2) := (blk_cell BK101.out 2).trans rfl
        have hcz32_3 : wc.cell? ⟨gb101, 3, none⟩ = some (.float .f64 a0_3) := (blk_cell BK101.out 3).trans rfl
        have hfz32_0 := blk_frozen BK101.out 0
        have hfz32_1 := blk_frozen BK101.out 1
        have hfz32_2 := blk_frozen BK101.out 2
        have hfz32_3 := blk_frozen BK101.out 3
        go_wp2
        go_ret
        exact ⟨by first | rfl | (simp [errW_none, errW_some] <;> rfl) | (simp [*, errW_none, errW_some] <;> rfl), by repeat (first | (with_reducible first | exact HB.out | apply below_alloc | apply pw_below_drewN | apply below_drew1 | refine below_set ?_ GE101.out) | exact HB.out)⟩
      ·rw [if_neg c29] at H
       have c29b0 : decide ((a0_2.size : Int) ≤ 60) = false := decide_eq_false c29
       have c29b1 : decide (a0_2.size ≤ 60) = false := decide_eq_false (by omega)
       clear c29
       obtain rfl := Option.some.inj H
       have hcz33_0 : wc.cell? ⟨gb101, 0, none⟩ = some (.int .i64 a0_0) := (blk_cell BK101.out 0).trans rfl
       have hcz33_1 : wc.cell? ⟨gb101, 1, none⟩ = some (.int .i64 a0_1) := (blk_cell BK101.out 1).trans rfl
       have hcz33_2 : wc.cell? ⟨gb101, 2, none⟩ = some (.string a0_2) := (blk_cell BK101.out 2).trans rfl
       have hcz33_3 : wc.cell? ⟨gb101, 3, none⟩ = some (.float .f64 a0_3) := (blk_cell BK101.out 3).trans rfl
       have hfz33_0 := blk_frozen BK101.out 0
       have hfz33_1 := blk_frozen BK101.out 1
       have hfz33_2 := blk_frozen BK101.out 2
       have hfz33_3 := blk_frozen BK101.out 3
       go_wp2
       go_ret
       exact ⟨by first | rfl | (simp [errW_none, errW_some] <;> rfl) | (simp [*, errW_none, errW_some] <;> rfl), by repeat (first | (with_reducible first | exact HB.out | apply below_alloc | apply pw_below_drewN | apply below_drew1 | refine below_set ?_ GE101.out) | exact HB.out)⟩
     ·replace c28 := Bool.eq_false_iff.mpr c28
      subst c28
      have H1 : (if a0_0 = 5 then (if a0_1 = 0 then (some (a0_2.toList == ([] : List UInt8))) else (some false)) else (some false)) = some r := by rw [if_neg (show ¬ (false = true) by decide)] at H; exact H
      clear H
      have H := H1
      clear H1
      by_cases c34 : a0_0 = 5
      ·rw [if_pos c34] at H
       have c34b0 : (a0_0 == 5) = true := beq_iff_eq.mpr c34
       have c34b1 : (a0_0 != 5) = false := bne_eq_false_iff_eq.mpr c34
       clear c34
       by_cases c35 : a0_1 = 0
       ·rw [if_pos c35] at H
        have c35b0 : (a0_1 == 0) = true := beq_iff_eq.mpr c35
        have c35b1 : (a0_1 != 0) = false := bne_eq_false_iff_eq.mpr c35
        clear c35
        obtain rfl := Option.some.inj H
        have hcz36_0 : wc.cell? ⟨gb101, 0, none⟩ = some (.int .i64 a0_0) := (blk_cell BK101.out 0).trans rfl
        have hcz36_1 : wc.cell? ⟨gb101, 1, none⟩ = some (.int .i64 a0_1) := (blk_cell BK101.out 1).trans rfl
        have hcz36_2 : wc.cell? ⟨gb101, 2, none⟩ = some (.string a0_2) := (blk_cell BK101.out 2).trans rfl
        have hcz36_3 : wc.cell? ⟨gb101, 3, none⟩ = some (.float .f64 a0_3) := (blk_cell BK101.out 3).trans rfl
        have hfz36_0 := blk_frozen BK101.out 0
        have hfz36_1 := blk_frozen BK101.out 1
        have hfz36_2 := blk_frozen BK101.out 2
        have hfz36_3 := blk_frozen BK101.out 3
        go_wp2
        go_ret
        exact ⟨by first | rfl | (simp [errW_none, errW_some] <;> rfl) | (simp [*, errW_none, errW_some] <;> rfl), by repeat (first | (with_reducible first | exact HB.out | apply below_alloc | apply pw_below_drewN | apply below_drew1 | refine below_set ?_ GE101.out) | exact HB.out)⟩
       ·rw [if_neg c35] at H
        have c35b0 : (a0_1 == 0) = false := beq_eq_false_iff_ne.mpr c35
        have c35b1 : (a0_1 != 0) = true := bne_iff_ne.mpr c35
        obtain rfl := Option.some.inj H
        have hcz37_0 : wc.cell? ⟨gb101, 0, none⟩ = some (.int .i64 a0_0) := (blk_cell BK101.out 0).trans rfl
        have hcz37_1 : wc.cell? ⟨gb101, 1, none⟩ = some (.int .i64 a0_1) := (blk_cell BK101.out 1).trans rfl
        have hcz37_2 : wc.cell? ⟨gb101, 2, none⟩ = some (.string a0_2) := (blk_cell BK101.out 2).trans rfl
        have hcz37_3 : wc.cell? ⟨gb101, 3, none⟩ = some (.float .f64 a0_3) := (blk_cell BK101.out 3).trans rfl
        have hfz37_0 := blk_frozen BK101.out 0
        have hfz37_1 := blk_frozen BK101.out 1
        have hfz37_2 := blk_frozen BK101.out 2
        have hfz37_3 := blk_frozen BK101.out 3
        go_wp2
        go_ret
        exact ⟨by first | rfl | (simp [errW_none, errW_some] <;> rfl) | (simp [*, errW_none, errW_some] <;> rfl), by repeat (first | (with_reducible first | exact HB.out | apply below_alloc | apply pw_below_drewN | apply below_drew1 | refine below_set ?_ GE101.out) | exact HB.out)⟩
      ·rw [if_neg c34] at H
       have c34b0 : (a0_0 == 5) = false := beq_eq_false_iff_ne.mpr c34
       have c34b1 : (a0_0 != 5) = true := bne_iff_ne.mpr c34
       obtain rfl := Option.some.inj H
       go_wp2
       go_ret
       exact ⟨by first | rfl | (simp [errW_none, errW_some] <;> rfl) | (simp [*, errW_none, errW_some] <;> rfl), by repeat (first | (with_reducible first | exact HB.out | apply below_alloc | apply pw_below_drewN | apply below_drew1 | refine below_set ?_ GE101.out) | exact HB.out)⟩
end Go.Proofs.YtpjfhdbkkomogaaDoor.Px
namespace Go.Proofs.YtpjfhdbkkomogaaDoor.Mb
open Go.RowKit Go.Proofs.YtpjfhdbkkomogaaDoorW.PrintWords Go.Proofs.YtpjfhdbkkomogaaDoorW.PrintLast Go.Proofs.YtpjfhdbkkomogaaDoorW.PrintMore Go.Proofs.YtpjfhdbkkomogaaDoor.Px Go.Proofs.YtpjfhdbkkomogaaDoor.Gvn
theorem size_data (s : ByteArray) : s.data.toList.length = s.size := rfl
attribute [local go_sem] run_store_float
theorem order0 : bits_Order.f 0 = some 9223372036854775808 := by unfold bits_Order.f; rw [if_pos (by omega), if_pos (by omega)]; rfl
theorem is_str (s : ByteArray) : value_Is.f 1 3 0 s 0 = some (decide (s.size ≤ 60)) := by
  unfold value_Is.f
  rw [order0, Option.bind_some, if_neg (by omega), if_neg (by omega), if_pos rfl]
  have e3 : ((3 : Int) == 3) = true := rfl
  rw [e3, value_Is.j0, if_pos rfl]
  by_cases h : s.size ≤ 60
  · have h' : (s.size : Int) ≤ 60 := by omega
    rw [if_pos h', if_pos rfl, decide_eq_true h]; rfl
  · have h' : ¬ (s.size : Int) ≤ 60 := by omega
    rw [if_neg h', decide_eq_false h]
theorem bcell {W w1 : World} (hb : Below W.heap.size W w1) : (∀ b o, b < W.heap.size → w1.cell? ⟨b, o, none⟩ = W.cell? ⟨b, o, none⟩) ∧ (∀ b o, b < W.heap.size → w1.frozen? ⟨b, o, none⟩ = W.frozen? ⟨b, o, none⟩) :=
  ⟨fun b o h => hb.cell (p := ⟨b, o, none⟩) h, fun b o h => hb.frozen (p := ⟨b, o, none⟩) h⟩
set_option maxRecDepth 100000 in
theorem print_str (s : ByteArray) (w : World) (h : s.size ≤ 60) :
    Calls Tryd.prog 10 #[.agg #[.int .i64 3, .int .i64 0, .string s, .float .f64 0]] w fun e w' => e = .returned (.string (B (quoteL s.data.toList))) ∧ Below w.heap.size w w' := by
  have hi := is_str s
  rw [decide_eq_true h] at hi
  have hq := quoted_is (2 * s.size + 5) s.data.toList (by rw [size_data]; omega) (by rw [size_data]; omega)
  rw [B_data] at hq
  have HI := Lib.hid hi
  have HQ := Lib.hid hq
  clear hi hq
  go_enter Tryd.func10, Tryd.ntmps10
  go_wp2_with (first | (go_at_call 24; refine (value_Is.calls _ _ _ _ _ _ _ HI.out).mono ?_; rintro e w1 ⟨rfl, hb1⟩; obtain ⟨hc1, hf1⟩ := bcell hb1) | (go_at_call 27; refine (text_quoted.calls _ _ _ _ HQ.out).mono ?_; rintro e w2 ⟨rfl, hb2⟩))
  go_ret
  refine ⟨rfl, ?_⟩
  have h1 := (Below.refl w.heap.size w).alloc (Nat.le_refl _) (.cells #[Value.int IntKind.i64 3, Value.int IntKind.i64 0, Value.string s, Value.float FloatKind.f64 0] 24)
  have h2 := h1.trans (hb1.mono (by simp))
  exact h2.trans (hb2.mono h2.size)
set_option maxRecDepth 100000 in
theorem front_quote (l : List UInt8) (k : Nat) (o r : ByteArray) (b : Bool) (w : World) (h : text_unquoted.f k (B l) = some (o, r, b)) :
    Calls Tryd.prog 33 #[.string (B (34 :: l))] w fun e w' => e = .returned (.tuple #[.agg #[.int .i64 3, .int .i64 0, .string o, .float .f64 0], .string r, .bool b]) ∧ Below w.heap.size w w' := by
  have hp := hasPrefix_is (34 :: l) [34]
  have hf : ((34 :: l).take ([34] : List UInt8).length == [34]) = true := by simp
  rw [hf] at hp
  have HP : Hid (strings_HasPrefix.f (B (34 :: l)) (⟨#[34]⟩ : ByteArray) = some true) := hp
  have HU := Lib.hid h
  have ht := tail1 34 l
  have HT := Lib.hid ht
  obtain ⟨s, hs⟩ : ∃ s, s = B (34 :: l) := ⟨_, rfl⟩
  have hsz : 1 ≤ s.size := by rw [hs, size_cons]; omega
  rw [← hs] at HP HT ⊢
  clear hs hp hf h ht
  go_enter Tryd.func33, Tryd.ntmps33
  go_wp2_with (first | (go_at_call 44; refine (strings_HasPrefix.calls _ _ _ _ HP.out).mono ?_; rintro e w1 ⟨rfl, ⟨n1, rfl⟩⟩) | (go_at_call 50; rw [HT.out]; refine (text_unquoted.calls _ _ _ _ _ _ HU.out).mono ?_; rintro e w2 ⟨rfl, hb2⟩; obtain ⟨hc2, hf2⟩ := bcell hb2; have hz2 := hb2.size))
  refine bodyPost_ret (v := .tuple #[.agg #[.int .i64 3, .int .i64 0, .string o, .float .f64 0], .string r, .bool b]) ?_ rfl ⟨rfl, ?_⟩
  · simp [results, Tryd.results33, go_sem, hc2]
  · have hB : Below w.heap.size w w2 := by
      refine Below.trans ?_ (hb2.mono (by simp))
      repeat (first | exact Below.refl _ _ | apply below_alloc | apply pw_below_drewN | apply below_drew1)
    exact (((hB.setCell (Nat.le_refl _) _).setCell (Nat.le_refl _) _).setCell (Nat.le_refl _) _).setCell (Nat.le_refl _) _
abbrev Av (k i : Int) (s : ByteArray) (f : Nat) : Value := .agg #[.int .i64 k, .int .i64 i, .string s, .float .f64 f]
abbrev zeroCells : Obj := .cells #[Value.int IntKind.i64 0, Value.int IntKind.i64 0, Value.string ⟨#[]⟩, Value.float FloatKind.f64 0] 24
theorem below_zero (w : World) : Below w.heap.size w (w.alloc zeroCells) := (Below.refl w.heap.size w).alloc (Nat.le_refl _) _
section
variable {T : World → Prop} (HM : ∀ {w w' : World}, T w → Below w.heap.size w w' → T w')
include HM
set_option maxRecDepth 100000 in
theorem parse_ok (t n : ByteArray) (hn : n.toList = []) (k i : Int) (s : ByteArray) (f : Nat) (w : World) (hw : T w)
    (FQ : ∀ w, T w → Calls Tryd.prog 33 #[.string t] w fun e w' => e = .returned (.tuple #[Av k i s f, .string n, .bool true]) ∧ Below w.heap.size w w')
    (PS : ∀ w, T w → Calls Tryd.prog 10 #[Av k i s f] w fun e w' => e = .returned (.string t) ∧ Below w.heap.size w w') :
    Calls Tryd.prog 14 #[.string t] w fun e w' => e = .returned (.tuple #[Av k i s f, .int .i64 0]) ∧ Below w.heap.size w w' := by
  have m1 : n.toList.isEmpty = true := by rw [hn]; rfl
  have hT1 : T (w.alloc zeroCells) := HM hw (below_zero w)
  go_enter Tryd.func14, Tryd.ntmps14
  go_wp2_with fail
  go_at_call 33
  refine (FQ _ hT1).mono ?_
  rintro e w1 ⟨rfl, hb1⟩
  have hT2 : T (w1.alloc (.cells #[.int .i64 k, .int .i64 i, .string s, .float .f64 f] 24)) := HM (HM hT1 hb1) ((Below.refl w1.heap.size w1).alloc (Nat.le_refl _) _)
  obtain ⟨hc1, hf1⟩ := bcell hb1
  have hz1 := hb1.size
  simp at hz1
  have hz1a : w.heap.size < w1.heap.size := by omega
  have hz1b : w.heap.size < w1.heap.size + 1 := by omega
  clear hz1
  go_wp2_with fail
  go_at_call 10
  refine (PS _ hT2).mono ?_
  rintro e w2 ⟨rfl, hb2⟩
  obtain ⟨hc2, hf2⟩ := bcell hb2
  have hz2 := hb2.size
  simp at hz2
  have hz2a : w1.heap.size < w2.heap.size := by omega
  have hz2b : w.heap.size < w2.heap.size := by omega
  clear hz2
  go_wp2
  refine bodyPost_ret (v := .tuple #[Av k i s f, .int .i64 0]) ?_ rfl ⟨rfl, ?_⟩
  · simp [results, Tryd.results14, go_sem, hc1, hc2, hz1a, hz1b]
  · have hB1 : Below w.heap.size w w1 := (below_zero w).trans (hb1.mono (by simp))
    have hB2 : Below w.heap.size w w2 := (hB1.trans (((Below.refl w1.heap.size w1).alloc (Nat.le_refl _) _).mono hB1.size)).trans (hb2.mono (by simp; omega))
    exact (((hB2.setCell (Nat.le_refl _) _).setCell (Nat.le_refl _) _).setCell (Nat.le_refl _) _).setCell (Nat.le_refl _) _
set_option maxRecDepth 100000 in
theorem parse_bad (t r : ByteArray) (ok : Bool) (hr : ok = false ∨ r.toList.isEmpty = false) (k i : Int) (s : ByteArray) (f : Nat) (w : World) (hw : T w)
    (FQ : ∀ w, T w → Calls Tryd.prog 33 #[.string t] w fun e w' => e = .returned (.tuple #[Av k i s f, .string r, .bool ok]) ∧ Below w.heap.size w w') :
    Calls Tryd.prog 14 #[.string t] w fun e w' => e = .returned (.tuple #[Av 0 0 ⟨#[]⟩ 0, .int .i64 30]) ∧ Below w.heap.size w w' := by
  have hT1 : T (w.alloc zeroCells) := HM hw (below_zero w)
  go_enter Tryd.func14, Tryd.ntmps14
  go_wp2_with fail
  go_at_call 33
  refine (FQ _ hT1).mono ?_
  rintro e w1 ⟨rfl, hb1⟩
  obtain ⟨hc1, hf1⟩ := bcell hb1
  have hz1 := hb1.size
  simp at hz1
  have hz1a : w.heap.size < w1.heap.size := by omega
  have hz1b : w.heap.size < w1.heap.size + 1 := by omega
  have hB1 : Below w.heap.size w w1 := (below_zero w).trans (hb1.mono (by simp))
  clear hz1
  cases ok with
  | false =>
    clear hr
    go_wp2
    refine bodyPost_ret (v := .tuple #[Av 0 0 ⟨#[]⟩ 0, .int .i64 30]) ?_ rfl ⟨rfl, ?_⟩
    · simp [results, Tryd.results14, go_sem, hc1, hz1a]
    · repeat (first | exact hB1 | apply below_alloc | refine below_set ?_ (Nat.le_refl _))
  | true =>
    have hr := hr.resolve_left (by simp)
    go_wp2
    refine bodyPost_ret (v := .tuple #[Av 0 0 ⟨#[]⟩ 0, .int .i64 30]) ?_ rfl ⟨rfl, ?_⟩
    · simp [results, Tryd.results14, go_sem, hc1, hz1a]
    · repeat (first | exact hB1 | apply below_alloc | refine below_set ?_ (Nat.le_refl _))
set_option maxRecDepth 100000 in
theorem parse_other (t n u : ByteArray) (hn : n.toList = []) (hu : (u.toList == t.toList) = false) (k i : Int) (s : ByteArray) (f : Nat) (w : World) (hw : T w)
    (FQ : ∀ w, T w → Calls Tryd.prog 33 #[.string t] w fun e w' => e = .returned (.tuple #[Av k i s f, .string n, .bool true]) ∧ Below w.heap.size w w')
    (PS : ∀ w, T w → Calls Tryd.prog 10 #[Av k i s f] w fun e w' => e = .returned (.string u) ∧ Below w.heap.size w w') :
    Calls Tryd.prog 14 #[.string t] w fun e w' => e = .returned (.tuple #[Av 0 0 ⟨#[]⟩ 0, .int .i64 30]) ∧ Below w.heap.size w w' := by
  have m1 : n.toList.isEmpty = true := by rw [hn]; rfl
  have hu2 : (u.toList != t.toList) = true := by rw [bne, hu]; rfl
  have hT1 : T (w.alloc zeroCells) := HM hw (below_zero w)
  go_enter Tryd.func14, Tryd.ntmps14
  go_wp2_with fail
  go_at_call 33
  refine (FQ _ hT1).mono ?_
  rintro e w1 ⟨rfl, hb1⟩
  have hT2 : T (w1.alloc (.cells #[.int .i64 k, .int .i64 i, .string s, .float .f64 f] 24)) := HM (HM hT1 hb1) ((Below.refl w1.heap.size w1).alloc (Nat.le_refl _) _)
  obtain ⟨hc1, hf1⟩ := bcell hb1
  have hz1 := hb1.size
  simp at hz1
  have hz1a : w.heap.size < w1.heap.size := by omega
  have hz1b : w.heap.size < w1.heap.size + 1 := by omega
  clear hz1
  go_wp2_with fail
  go_at_call 10
  refine (PS _ hT2).mono ?_
  rintro e w2 ⟨rfl, hb2⟩
  obtain ⟨hc2, hf2⟩ := bcell hb2
  have hz2 := hb2.size
  simp at hz2
  have hz2a : w1.heap.size < w2.heap.size := by omega
  have hz2b : w.heap.size < w2.heap.size := by omega
  clear hz2
  go_wp2
  refine bodyPost_ret (v := .tuple #[Av 0 0 ⟨#[]⟩ 0, .int .i64 30]) ?_ rfl ⟨rfl, ?_⟩
  · simp [results, Tryd.results14, go_sem, hc1, hc2, hz1a, hz1b]
  · have hB1 : Below w.heap.size w w1 := (below_zero w).trans (hb1.mono (by simp))
    have hB2 : Below w.heap.size w w2 := (hB1.trans (((Below.refl w1.heap.size w1).alloc (Nat.le_refl _) _).mono hB1.size)).trans (hb2.mono (by simp; omega))
    exact (((hB2.setCell (Nat.le_refl _) _).setCell (Nat.le_refl _) _).setCell (Nat.le_refl _) _).setCell (Nat.le_refl _) _
end
end Go.Proofs.YtpjfhdbkkomogaaDoor.Mb
namespace Go.Ex
open Go.Proofs Go.RowKit
def d64 : List Value := [.int .u8 0, .int .u8 1, .int .u8 56, .int .u8 2, .int .u8 57, .int .u8 49, .int .u8 28, .int .u8 3, .int .u8 61, .int .u8 58, .int .u8 42, .int .u8 50, .int .u8 38, .int .u8 29, .int .u8 17, .int .u8 4, .int .u8 62, .int .u8 47, .int .u8 59, .int .u8 36, .int .u8 45, .int .u8 43, .int .u8 51, .int .u8 22, .int .u8 53, .int .u8 39, .int .u8 33, .int .u8 30, .int .u8 24, .int .u8 18, .int .u8 12, .int .u8 5, .int .u8 63, .int .u8 55, .int .u8 48, .int .u8 27, .int .u8 60, .int .u8 41, .int .u8 37, .int .u8 16, .int .u8 46, .int .u8 35, .int .u8 44, .int .u8 21, .int .u8 52, .int .u8 32, .int .u8 23, .int .u8 11, .int .u8 54, .int .u8 26, .int .u8 40, .int .u8 15, .int .u8 34, .int .u8 20, .int .u8 31, .int .u8 10, .int .u8 25, .int .u8 14, .int .u8 19, .int .u8 9, .int .u8 13, .int .u8 8, .int .u8 7, .int .u8 6]
def p10 : List Value := [.int .u64 1, .int .u64 10, .int .u64 100, .int .u64 1000, .int .u64 10000, .int .u64 100000, .int .u64 1000000, .int .u64 10000000, .int .u64 100000000, .int .u64 1000000000, .int .u64 10000000000, .int .u64 100000000000, .int .u64 1000000000000, .int .u64 10000000000000, .int .u64 100000000000000, .int .u64 1000000000000000, .int .u64 10000000000000000, .int .u64 100000000000000000, .int .u64 1000000000000000000, .int .u64 10000000000000000000]
theorem d64_tab : d64 = Lib.deBruijn64tab.map fun n : Nat => Value.int .u8 (n : Int) := by rfl
theorem tz_calls (w : World) (e6 : TypeId) (z6 : Nat × Nat) (h6 : w.heap[6]? = some (.cells d64.toArray e6 z6)) :
    Calls Tryd.prog 79 #[.int .u64 16] w fun e w' => e = .returned (.int .i64 4) ∧ Below w.heap.size w w' := by
  refine (Any7.bits_TrailingZeros Tryd.tz27 16 (by decide) w fun _ j hj => ?_).mono fun e w' ⟨he, hw⟩ => ⟨he, hw ▸ Below.refl _ _⟩
  have hc : w.cell? ⟨6, j, none⟩ = d64.toArray[j]? := by simp [World.cell?, h6]
  show w.cell? ⟨6, j, none⟩ = _
  rw [hc, d64_tab, List.getElem?_toArray, List.getElem?_map, List.getD_eq_getElem?_getD, List.getElem?_eq_getElem hj]
  rfl
theorem pow_calls (w : World) : Calls Tryd.prog 78 #[.int .i64 16] w fun e w' => e = .returned (.bool true) ∧ Below w.heap.size w w' := by
  have hb : bits .and .i64 16 15 = 0 := by rfl
  go_enter Tryd.func78, Tryd.ntmps78
  go_wp2
  go_ret
  exact ⟨by first | rfl | (rw [hb]; rfl), Below.refl _ _⟩
theorem repX : Builder.Extra Tryd.prog Tryd.rep105_ren where
  sizeBuilder := by kernel_rfl
  liesBuilder := by kernel_rfl
  t5 := Tryd.underlying5
  a5 := Tryd.isAgg5
  z5 := Tryd.sizeOf5
  v5 := Tryd.zeroValue5
  infoByte := by kernel_rfl
  cellsByte := by kernel_rfl
  sizeByte := by kernel_rfl
  neB5 := by decide
theorem repeat_one (c : Nat) : Lib.repeatL [48] c = List.replicate c 48 := by
  induction c with
  | zero => rfl
  | succ c ih => rw [Lib.repeatL, ih, List.replicate_succ]; rfl
theorem rep_calls (c : Nat) (hc : c < 16) (w : World) :
    Calls Tryd.prog 30 #[.string ⟨[48].toArray⟩, .int .i64 (c : Int)] w fun e w' => e = .returned (.string ⟨(List.replicate c 48).toArray⟩) ∧ Below w.heap.size w w' := by
  have h : (⟨[48].toArray⟩ : ByteArray).size = 1 := rfl
  refine (Any.strings_Repeat Tryd.rep105 repX ⟨[48].toArray⟩ c w (by omega) (by rw [h]; omega)).mono fun e w' ⟨he, hw⟩ => ⟨?_, hw⟩
  rw [he, show (⟨[48].toArray⟩ : ByteArray).data.toList = [48] from rfl, repeat_one]
end Go.Ex
namespace Go.Proofs.YtpjfhdbkkomogaaDoor.Mb
open Go.RowKit
structure Tabs (w : World) : Prop where
  t6 : ∃ e z, w.heap[6]? = some (.cells Ex.d64.toArray e z)
  t1 : ∃ e z, w.heap[1]? = some (.cells Ex.p10.toArray e z)
theorem Tabs.mono {w w' : World} (h : Tabs w) (hb : Below w.heap.size w w') : Tabs w' := by
  obtain ⟨⟨e6, z6, h6⟩, ⟨e1, z1, h1⟩⟩ := h
  have l6 := (Array.getElem?_eq_some_iff.1 h6).1
  have l1 := (Array.getElem?_eq_some_iff.1 h1).1
  exact ⟨⟨e6, z6, (hb.block _ l6).trans h6⟩, ⟨e1, z1, (hb.block _ l1).trans h1⟩⟩
end Go.Proofs.YtpjfhdbkkomogaaDoor.Mb
namespace Go.Proofs.YtpjfhdbkkomogaaDoor.Mb
open Go.RowKit
def laid5 : List (String × DataW Unit) := Rows.textQuotesRow.laid
theorem only (s : String) (z : List (String × DataW Unit)) (hz : (laid5.filter fun x => x.1 == s) = z) (hp : (z.all fun x => x.2.handleName?.isNone) = true) {W : World} (h : laidMetH Tryd.prog laid5 W) : laidMet Tryd.prog z W := by
  have := h.filter fun x => x.1 == s
  rw [hz, MakeChecks.laidMetH_plain _ _ _ hp] at this
  exact this
theorem var_at {w : World} {n : String} {g : Nat} {cs : Array Value} (hg : Tryd.prog.globalNamed n = some g) (h : w.var? Tryd.prog n = some cs) : ∃ e z, w.heap[g]? = some (.cells cs e z) := by
  unfold World.var? at h
  rw [hg, Option.bind_some] at h
  split at h
  · rename_i c e fz hw
    cases h
    exact ⟨e, fz, hw⟩
  · cases h
theorem pow10_of {W : World} (h : laidMetH Tryd.prog laid5 W) : Lib.TabIs Tryd.prog W "internal/strconv.uint64pow10" .u64 Lib.pow10Tab :=
  Lib.tabIs_of_head (g := 1) (by kernel_rfl) (by kernel_rfl) Tryd.underlying112 Tryd.underlying47 (by kernel_rfl) (by kernel_rfl)
    (only "internal/strconv.uint64pow10" [("internal/strconv.uint64pow10", Lib.tabData .u64 Lib.pow10Tab)] (by kernel_rfl) (by kernel_rfl) h)
def d64Tab : List Int := Ex.d64.map fun v => match v with
  | .int _ n => n
  | _ => 0
theorem d64_of {W : World} (h : laidMetH Tryd.prog laid5 W) : Lib.TabIs Tryd.prog W "math/bits.deBruijn64tab" .u8 d64Tab :=
  Lib.tabIs_of_head (g := 6) (by kernel_rfl) (by kernel_rfl) Tryd.underlying129 Tryd.underlying5 (by kernel_rfl) (by kernel_rfl)
    (only "math/bits.deBruijn64tab" [("math/bits.deBruijn64tab", Lib.tabData .u8 d64Tab)] (by kernel_rfl) (by kernel_rfl) h)
theorem p10_eq : (Lib.pow10Tab.map fun z => Value.int .u64 z).toArray = Ex.p10.toArray := by kernel_rfl
theorem d64_eq : (d64Tab.map fun z => Value.int .u8 z).toArray = Ex.d64.toArray := by kernel_rfl
theorem tabs_of {W : World} (h : laidMetH Tryd.prog laid5 W) : Tabs W := by
  have h6 := d64_of h
  have h1 := pow10_of h
  unfold Lib.TabIs at h6 h1
  rw [d64_eq] at h6
  rw [p10_eq] at h1
  exact ⟨var_at (by kernel_rfl) h6, var_at (by kernel_rfl) h1⟩
theorem door_met (os : Os) (args : Array Value) : laidMetH Tryd.prog laid5 ((World.doorLaid Tryd.prog 400 os).forCall (fun _ _ => 0) ⟨#[], args, []⟩).memory :=
  laidMetH_of_parts3 (fuel := 8) (laidMet_of_run' 8 (by kernel_rfl) (by kernel_rfl)) (by kernel_rfl) (by kernel_rfl)
theorem own : ownKnob Tryd.prog.godebug = none := by kernel_rfl
end Go.Proofs.YtpjfhdbkkomogaaDoor.Mb
namespace Go.Proofs.YtpjfhdbkkomogaaDoor.Px
open Go.RowKit Go.Proofs.YtpjfhdbkkomogaaDoor.Gvn Go.Proofs.YtpjfhdbkkomogaaDoorW.PrintWords Go.Proofs.YtpjfhdbkkomogaaDoorW.PrintLast Go.Proofs.YtpjfhdbkkomogaaDoorW.PrintMore
attribute [local go_sem] run_store_float min2_int min_two
set_option linter.unusedVariables false
set_option linter.unusedSimpArgs false
mutual
def rialtoref4_Digits.j0 : Nat → Int → Int → Option (ByteArray)
 | 0, _, _ => none
 | k + 1, x0, x3 => rialtoref4_Digits.l0 k x0 x3 (⟨#[]⟩ : ByteArray)
def rialtoref4_Digits.l0 : Nat → Int → Int → ByteArray → Option (ByteArray)
 | 0, _, _, _ => none
 | k + 1, x0, x3, x4 => (some (([(IntKind.u64.wrap (48 + (Int.tmod x3 10))) % 256] : List Int) : List Int)).bind fun y195 => (if (strOfNums y195).size + x4.size ≤ 9223372036854775807 then (if (IntKind.u64.wrap (Int.tdiv x3 10)) = 0 then (if x0 < 0 then (if 1 + ((strOfNums y195) ++ x4).size ≤ 9223372036854775807 then (some ((⟨#[45]⟩ : ByteArray) ++ ((strOfNums y195) ++ x4))) else (none)) else (some ((strOfNums y195) ++ x4))) else (rialtoref4_Digits.l0 k x0 (IntKind.u64.wrap (Int.tdiv x3 10)) ((strOfNums y195) ++ x4))) else (none))
end
def rialtoref4_Digits.f (k : Nat) (a0 : Int) : Option (ByteArray) := if a0 < 0 then (rialtoref4_Digits.j0 k a0 (IntKind.u64.wrap (-(IntKind.u64.wrap (a0))))) else (rialtoref4_Digits.j0 k a0 (IntKind.u64.wrap (a0)))
theorem rialtoref4_Digits.mono_l : ∀ k, (∀ y0 y1, LeO (rialtoref4_Digits.j0 k y0 y1) (rialtoref4_Digits.j0 (k + 1) y0 y1)) ∧ (∀ y0 y1 y2, LeO (rialtoref4_Digits.l0 k y0 y1 y2) (rialtoref4_Digits.l0 (k + 1) y0 y1 y2))
 | 0 => ⟨fun _ _ r h => by simp [rialtoref4_Digits.j0] at h, fun _ _ _ r h => by simp [rialtoref4_Digits.l0] at h⟩
 | k + 1 => by
  obtain ⟨ih0, ih1⟩ := rialtoref4_Digits.mono_l k
  refine ⟨?_, ?_⟩
  ·intro y0 y1
   unfold rialtoref4_Digits.j0
   repeat' first
   | (with_reducible exact ih0 _ _)
   | (with_reducible exact ih1 _ _ _)
   | (with_reducible exact LeO.refl _)
   | (with_reducible exact LeO.none _)
   | (with_reducible refine LeO.ite ?_ ?_)
   | (with_reducible refine LeO.bind ?_ (fun _ => ?_))
   | exact ih0 _ _
   | exact ih1 _ _ _
   | exact LeO.none _
   | refine LeO.ite ?_ ?_
   | refine LeO.bind ?_ (fun _ => ?_)
  ·intro y0 y1 y2
   unfold rialtoref4_Digits.l0
   repeat' first
   | (with_reducible exact ih0 _ _)
   | (with_reducible exact ih1 _ _ _)
   | (with_reducible exact LeO.refl _)
   | (with_reducible exact LeO.none _)
   | (with_reducible refine LeO.ite ?_ ?_)
   | (with_reducible refine LeO.bind ?_ (fun _ => ?_))
   | exact ih0 _ _
   | exact ih1 _ _ _
   | exact LeO.none _
   | refine LeO.ite ?_ ?_
   | refine LeO.bind ?_ (fun _ => ?_)
theorem rialtoref4_Digits.mono : ∀ a0 k, LeO (rialtoref4_Digits.f k a0) (rialtoref4_Digits.f (k + 1) a0) := by
 intro a0 k
 obtain ⟨ih0, ih1⟩ := rialtoref4_Digits.mono_l k
 unfold rialtoref4_Digits.f
 repeat' first
   | (with_reducible exact ih0 _ _)
   | (with_reducible exact ih1 _ _ _)
   | (with_reducible exact LeO.refl _)
   | (with_reducible exact LeO.none _)
   | (with_reducible refine LeO.ite ?_ ?_)
   | (with_reducible refine LeO.bind ?_ (fun _ => ?_))
   | exact ih0 _ _
   | exact ih1 _ _ _
   | exact LeO.none _
   | refine LeO.ite ?_ ?_
   | refine LeO.bind ?_ (fun _ => ?_)
set_option maxHeartbeats 8000000 in
set_option maxRecDepth 100000 in
theorem rialtoref4_Digits.calls (k : Nat) (a0 : Int) (r : ByteArray) (w : World) (h : rialtoref4_Digits.f k a0 = some r) :
  Calls Tryd.prog 21 #[.int .i64 a0] w fun e w' => e = .returned (.string r) ∧ Below w.heap.size w w' := by
 have HB := Aside0.mk (Below.refl w.heap.size w)
 have H : (if a0 < 0 then (rialtoref4_Digits.j0 k a0 (IntKind.u64.wrap (-(IntKind.u64.wrap (a0))))) else (rialtoref4_Digits.j0 k a0 (IntKind.u64.wrap (a0)))) = some r := h
 clear h
 have HC2 := Aside0.mk H
 clear H
 have k23 := run23
 have k22 := run22
 go_enter Tryd.func21, Tryd.ntmps21
 go_upto_if 8 with (fail)
 go_cut [3] (fun v3 wc => ∃ (kq : Nat) (x3_1 : Int), v3 = .int .u64 x3_1 ∧ Aside0 (rialtoref4_Digits.j0 kq a0 x3_1 = some r) ∧ Aside0 (kq ≤ k) ∧ Aside0 (Below w.heap.size w wc))
 case first =>
  have H := HC2.out
  clear HC2
  by_cases c3 : a0 < 0
  ·rw [if_pos c3] at H
   have c3b0 : decide (a0 < 0) = true := decide_eq_true c3
   clear c3
   (first | rw [c3b0] | (simp only [i64_w, i32_w]; rw [c3b0]) | skip)
   have H' := Aside0.mk H
   clear H
   go_wp2
   go_meet
   case rel => exact ⟨_, (IntKind.u64.wrap (-(IntKind.u64.wrap (a0)))), (by first | rfl | (simp; done) | (simp [*]; done)), H', ⟨by first | omega | exact Nat.le_refl _⟩, ⟨by repeat (first | (with_reducible first | exact HB.out | apply below_alloc | apply pw_below_drewN | apply below_drew1) | exact HB.out)⟩⟩
  ·rw [if_neg c3] at H
   have c3b0 : decide (a0 < 0) = false := decide_eq_false c3
   clear c3
   (first | rw [c3b0] | (simp only [i64_w, i32_w]; rw [c3b0]) | skip)
   have H' := Aside0.mk H
   clear H
   go_wp2
   go_meet
   case rel => exact ⟨_, (IntKind.u64.wrap (a0)), (by first | rfl | (simp; done) | (simp [*]; done)), H', ⟨by first | omega | exact Nat.le_refl _⟩, ⟨by repeat (first | (with_reducible first | exact HB.out | apply below_alloc | apply pw_below_drewN | apply below_drew1) | exact HB.out)⟩⟩
 case rest =>
  clear HC2
  try clear c2;try clear p2;try clear c3;try clear c3b0
  obtain ⟨kq, x3_1, rfl, HA, HJ1, HB⟩ := hcut
  cases kq with
  | zero => exact absurd HA.out (by simp [rialtoref4_Digits.j0])
  | succ kj1 =>
   have H := HA.out
   clear HA
   simp only [rialtoref4_Digits.j0] at H
   have H' := Aside0.mk H
   clear H
   go_wp2
   go_loopg [3, 4] kj1 (fun kq v3 v4 w' => ∃ (x3_2 : Int) (x4_2 : ByteArray), v3 = .int .u64 x3_2 ∧ v4 = .string x4_2 ∧ Aside0 (rialtoref4_Digits.l0 kq a0 x3_2 x4_2 = some r) ∧ Aside0 (kq ≤ kj1) ∧ Aside0 (Below w.heap.size w w'))
   case atStart => exact ⟨(x3_1), ((⟨#[]⟩ : ByteArray)), (by first | rfl | (simp; done) | (simp [*]; done)), (by first | rfl | (simp; done) | (simp [*]; done)), H', ⟨Nat.le_refl _⟩, ⟨by repeat (first | (with_reducible first | exact HB.out | apply below_alloc | apply pw_below_drewN | apply below_drew1) | exact HB.out)⟩⟩
   case round =>
    clear H'
    try clear c2;try clear p2;try clear c3;try clear c3b0;try clear p2
    obtain ⟨x3_2, x4_2, rfl, rfl, HA, HK2, HB⟩ := hrel
    cases gk with
    | zero => exact absurd HA.out (by simp [rialtoref4_Digits.l0])
    | succ k2 =>
     have H := HA.out
     clear HA
     simp only [rialtoref4_Digits.l0] at H
     obtain ⟨y195, hy195⟩ : ∃ y_ : List Int, y_ = (([(IntKind.u64.wrap (48 + (Int.tmod x3_2 10))) % 256] : List Int)) := ⟨_, rfl⟩
     replace H : (if (strOfNums y195).size + x4_2.size ≤ 9223372036854775807 then (if (IntKind.u64.wrap (Int.tdiv x3_2 10)) = 0 then (if a0 < 0 then (if 1 + ((strOfNums y195) ++ x4_2).size ≤ 9223372036854775807 then (some ((⟨#[45]⟩ : ByteArray) ++ ((strOfNums y195) ++ x4_2))) else (none)) else (some ((strOfNums y195) ++ x4_2))) else (rialtoref4_Digits.l0 k2 a0 (IntKind.u64.wrap (Int.tdiv x3_2 10)) ((strOfNums y195) ++ x4_2))) else (none)) = some r := by first | (rw [hy195]; with_reducible exact H) | (have H2_ := (Option.bind_some _ _).symm.trans H; rw [hy195]; with_reducible exact H2_) | (have H2_ := (Option.bind_some _ _).symm.trans H; with_reducible exact H2_) | with_reducible exact H | (rw [hy195]; exact H) | exact H
     have Ny195 := Aside0.mk hy195
     clear hy195
     by_cases c4 : (strOfNums y195).size + x4_2.size ≤ 9223372036854775807
     ·rw [if_pos c4] at H
      have c4b0 := eq_true c4
      have c4b1 : decide ((strOfNums y195).size + x4_2.size ≤ 9223372036854775807) = true := decide_eq_true c4
      try have c4b2 : (9223372036854775807 < (strOfNums y195).size + x4_2.size) = False := eq_false (Nat.not_lt.2 c4)
      try (have c4b3 := c4b2; simp only [ByteArray.size_append, ByteArray.size_extract] at c4b3)
      try have c4b4 : (9223372036854775807 < (strOfNums y195).size + x4_2.size) = False := eq_false (by have h_ := c4; (try simp only [ByteArray.size_append, ByteArray.size_extract] at h_); first | omega | (simp only [Nat.add_zero] at h_; omega))
      by_cases c5 : (IntKind.u64.wrap (Int.tdiv x3_2 10)) = 0
      ·rw [if_pos c5] at H
       have c5b0 : ((IntKind.u64.wrap (Int.tdiv x3_2 10)) == 0) = true := beq_iff_eq.mpr c5
       have c5b1 : ((IntKind.u64.wrap (Int.tdiv x3_2 10)) != 0) = false := bne_eq_false_iff_eq.mpr c5
       clear c5
       by_cases c6 : a0 < 0
       ·rw [if_pos c6] at H
        have c6b0 : decide (a0 < 0) = true := decide_eq_true c6
        clear c6
        by_cases c7 : 1 + ((strOfNums y195) ++ x4_2).size ≤ 9223372036854775807
        ·rw [if_pos c7] at H
         have c7b0 := eq_true c7
         have c7b1 : decide (1 + ((strOfNums y195) ++ x4_2).size ≤ 9223372036854775807) = true := decide_eq_true c7
         try have c7b2 : (9223372036854775807 < 1 + ((strOfNums y195) ++ x4_2).size) = False := eq_false (Nat.not_lt.2 c7)
         try (have c7b3 := c7b2; simp only [ByteArray.size_append, ByteArray.size_extract] at c7b3)
         try have c7b4 : (9223372036854775807 < 1 + ((strOfNums y195).size + x4_2.size)) = False := eq_false (by have h_ := c7; (try simp only [ByteArray.size_append, ByteArray.size_extract] at h_); first | omega | (simp only [Nat.add_zero] at h_; omega))
         obtain rfl := Option.some.inj H
         go_wp2_with (first | ((with_reducible refine gate_dst (N := 15) rfl ?_); refine Kd.R_lit (Kd.int .u8) _ 5 ?hg (N := 15) ?hd (xs := ([(IntKind.u64.wrap (48 + (Int.tmod x3_2 10))) % 256] : List Int)) (inner := [.int .u8 ((IntKind.u64.wrap (48 + (Int.tmod x3_2 10))) % 256)]) (ok := fun _ => True) (okp := fun _ => True) ?hr ?hp (fun _ hk => hk) trivial (Below.refl _ _) (Nat.le_refl _) (by simp) ?_; (case hd => rfl); (case hg => rfl); (case hr => first | (go_simp; done) | (go_simp; rfl)); (case hp => exact (Reps.one (show Kd.M (Kd.int .u8) _ _ _ ((IntKind.u64.wrap (48 + (Int.tmod x3_2 10))) % 256) [.int .u8 ((IntKind.u64.wrap (48 + (Int.tmod x3_2 10))) % 256)] from rfl) (Reps.none _ _))); intro v196 w8 ho9 hb hg_ hnew_; clear hg_ hnew_; (first | rw [← Ny195.out] at ho9 | (simp only [Int.reduceToNat] at ho9; rw [← Ny195.out] at ho9)); have n0_ := Aside0.mk (Kd.R_lower ho9 (below_size (by repeat (first | (with_reducible first | exact HB.out | apply below_alloc | apply pw_below_drewN | apply below_drew1) | exact HB.out)))); have n1_ := Aside0.mk (below_step (by repeat (first | (with_reducible first | exact HB.out | apply below_alloc | apply pw_below_drewN | apply below_drew1) | exact HB.out)) hb); clear HB; have HO197 := n0_; have HB := n1_; clear n0_ n1_; clear hb ho9; have hcv10 := own_string (P := Tryd.prog) Tryd.underlying57 Tryd.underlying5 Tryd.underlying9 (Kd.own_of_R HO197.out)))
         go_ret
         exact ⟨by first | rfl | (simp [errW_none, errW_some] <;> rfl) | (simp [*, errW_none, errW_some] <;> rfl), by repeat (first | (with_reducible first | exact HB.out | apply below_alloc | apply pw_below_drewN | apply below_drew1) | exact HB.out)⟩
        ·rw [if_neg c7] at H
         exact absurd H (by simp)
       ·rw [if_neg c6] at H
        have c6b0 : decide (a0 < 0) = false := decide_eq_false c6
        clear c6
        obtain rfl := Option.some.inj H
        go_wp2_with (first | ((with_reducible refine gate_dst (N := 15) rfl ?_); refine Kd.R_lit (Kd.int .u8) _ 5 ?hg (N := 15) ?hd (xs := ([(IntKind.u64.wrap (48 + (Int.tmod x3_2 10))) % 256] : List Int)) (inner := [.int .u8 ((IntKind.u64.wrap (48 + (Int.tmod x3_2 10))) % 256)]) (ok := fun _ => True) (okp := fun _ => True) ?hr ?hp (fun _ hk => hk) trivial (Below.refl _ _) (Nat.le_refl _) (by simp) ?_; (case hd => rfl); (case hg => rfl); (case hr => first | (go_simp; done) | (go_simp; rfl)); (case hp => exact (Reps.one (show Kd.M (Kd.int .u8) _ _ _ ((IntKind.u64.wrap (48 + (Int.tmod x3_2 10))) % 256) [.int .u8 ((IntKind.u64.wrap (48 + (Int.tmod x3_2 10))) % 256)] from rfl) (Reps.none _ _))); intro v196 w11 ho12 hb hg_ hnew_; clear hg_ hnew_; (first | rw [← Ny195.out] at ho12 | (simp only [Int.reduceToNat] at ho12; rw [← Ny195.out] at ho12)); have n0_ := Aside0.mk (Kd.R_lower ho12 (below_size (by repeat (first | (with_reducible first | exact HB.out | apply below_alloc | apply pw_below_drewN | apply below_drew1) | exact HB.out)))); have n1_ := Aside0.mk (below_step (by repeat (first | (with_reducible first | exact HB.out | apply below_alloc | apply pw_below_drewN | apply below_drew1) | exact HB.out)) hb); clear HB; have HO197 := n0_; have HB := n1_; clear n0_ n1_; clear hb ho12; have hcv13 := own_string (P := Tryd.prog) Tryd.underlying57 Tryd.underlying5 Tryd.underlying9 (Kd.own_of_R HO197.out)))
        go_ret
        exact ⟨by first | rfl | (simp [errW_none, errW_some] <;> rfl) | (simp [*, errW_none, errW_some] <;> rfl), by repeat (first | (with_reducible first | exact HB.out | apply below_alloc | apply pw_below_drewN | apply below_drew1) | exact HB.out)⟩
      ·rw [if_neg c5] at H
       have c5b0 : ((IntKind.u64.wrap (Int.tdiv x3_2 10)) == 0) = false := beq_eq_false_iff_ne.mpr c5
       have c5b1 : ((IntKind.u64.wrap (Int.tdiv x3_2 10)) != 0) = true := bne_iff_ne.mpr c5
       have H' := Aside0.mk H
       clear H
       go_wp2_with (first | ((with_reducible refine gate_dst (N := 15) rfl ?_); refine Kd.R_lit (Kd.int .u8) _ 5 ?hg (N := 15) ?hd (xs := ([(IntKind.u64.wrap (48 + (Int.tmod x3_2 10))) % 256] : List Int)) (inner := [.int .u8 ((IntKind.u64.wrap (48 + (Int.tmod x3_2 10))) % 256)]) (ok := fun _ => True) (okp := fun _ => True) ?hr ?hp (fun _ hk => hk) trivial (Below.refl _ _) (Nat.le_refl _) (by simp) ?_; (case hd => rfl); (case hg => rfl); (case hr => first | (go_simp; done) | (go_simp; rfl)); (case hp => exact (Reps.one (show Kd.M (Kd.int .u8) _ _ _ ((IntKind.u64.wrap (48 + (Int.tmod x3_2 10))) % 256) [.int .u8 ((IntKind.u64.wrap (48 + (Int.tmod x3_2 10))) % 256)] from rfl) (Reps.none _ _))); intro v196 w14 ho15 hb hg_ hnew_; clear hg_ hnew_; (first | rw [← Ny195.out] at ho15 | (simp only [Int.reduceToNat] at ho15; rw [← Ny195.out] at ho15)); have n0_ := Aside0.mk (Kd.R_lower ho15 (below_size (by repeat (first | (with_reducible first | exact HB.out | apply below_alloc | apply pw_below_drewN | apply below_drew1) | exact HB.out)))); have n1_ := Aside0.mk (below_step (by repeat (first | (with_reducible first | exact HB.out | apply below_alloc | apply pw_below_drewN | apply below_drew1) | exact HB.out)) hb); clear HB; have HO197 := n0_; have HB := n1_; clear n0_ n1_; clear hb ho15; have hcv16 := own_string (P := Tryd.prog) Tryd.underlying57 Tryd.underlying5 Tryd.underlying9 (Kd.own_of_R HO197.out)))
       go_roundg k2
       case measure => have := HJ1.out; have := HK2.out; omega
       case rel => exact ⟨(IntKind.u64.wrap (Int.tdiv x3_2 10)), ((strOfNums y195) ++ x4_2), (by first | rfl | (simp; done) | (simp [*]; done)), (by first | rfl | (simp; done) | (simp [*]; done)), H', ⟨by have := HJ1.out; have := HK2.out; omega⟩, ⟨by repeat (first | (with_reducible first | exact HB.out | apply below_alloc | apply pw_below_drewN | apply below_drew1) | exact HB.out)⟩⟩
     ·rw [if_neg c4] at H
      exact absurd H (by simp)
end Go.Proofs.YtpjfhdbkkomogaaDoor.Px
namespace Go.Proofs.YtpjfhdbkkomogaaDoor.Mb
open Go.RowKit Go.Proofs.YtpjfhdbkkomogaaDoorW.PrintWords Go.Proofs.YtpjfhdbkkomogaaDoor.Px
open Go.Lib (decDigits itoa parseUintM parseUintB parseIntB)
theorem dig_toNat (d : Nat) (h : d < 10) : (UInt8.ofNat (48 + d)).toNat = 48 + d := by
  rw [UInt8.toNat_ofNat']
  omega
theorem dec_small (u : Nat) (h : u < 10) : decDigits u = [UInt8.ofNat (48 + u)] := by rw [decDigits, dif_pos h]
theorem dec_big (u : Nat) (h : ¬ u < 10) : decDigits u = decDigits (u / 10) ++ [UInt8.ofNat (48 + u % 10)] := by rw [decDigits, dif_neg h]
def isNum (c : UInt8) : Bool := decide (c.toNat = 45 ∨ (48 ≤ c.toNat ∧ c.toNat ≤ 57))
theorem dec_digits (u : Nat) : (∀ c ∈ decDigits u, 48 ≤ c.toNat ∧ c.toNat ≤ 57) ∧ decDigits u ≠ [] := by
  induction u using Nat.strongRecOn with
  | _ u ih =>
    by_cases h : u < 10
    · rw [dec_small u h]
      refine ⟨fun c hc => ?_, by simp⟩
      obtain rfl := List.mem_singleton.1 hc
      rw [dig_toNat u h]; omega
    · rw [dec_big u h]
      refine ⟨fun c hc => ?_, by simp⟩
      rcases List.mem_append.1 hc with hc | hc
      · exact (ih (u / 10) (by omega)).1 c hc
      · obtain rfl := List.mem_singleton.1 hc
        rw [dig_toNat _ (by omega)]; omega
theorem dec_cons (u : Nat) : ∃ c r, decDigits u = c :: r ∧ 48 ≤ c.toNat ∧ c.toNat ≤ 57 := by
  obtain ⟨h1, h2⟩ := dec_digits u
  cases h : decDigits u with
  | nil => exact absurd h h2
  | cons c r => exact ⟨c, r, rfl, h1 c (by rw [h]; simp)⟩
theorem step_digit (M acc : Nat) (c : UInt8) (r : List UInt8) (d : Nat) (hd : c.toNat = 48 + d) (h9 : d < 10) (h1 : ¬ 1844674407370955162 ≤ acc) (h2 : ¬ M < acc * 10 + d) :
    parseUintM M acc (c :: r) = parseUintM M (acc * 10 + d) r := by
  have e : c.toNat - 48 = d := by omega
  rw [parseUintM, if_pos (by omega), if_neg h1, e, if_neg h2]
theorem parse_dec (M : Nat) (hM : M ≤ 18446744073709551615) (u : Nat) : ∀ r, u ≤ M → parseUintM M 0 (decDigits u ++ r) = parseUintM M u r := by
  induction u using Nat.strongRecOn with
  | _ u ih =>
    intro r hu
    by_cases h : u < 10
    · rw [dec_small u h]
      have := step_digit M 0 (UInt8.ofNat (48 + u)) r u (dig_toNat u h) h (by omega) (by omega)
      rw [Nat.zero_mul, Nat.zero_add] at this
      exact this
    · rw [dec_big u h, List.append_assoc, ih (u / 10) (by omega) _ (by omega)]
      have := step_digit M (u / 10) (UInt8.ofNat (48 + u % 10)) r (u % 10) (dig_toNat _ (by omega)) (by omega) (by omega) (by omega)
      rw [show u / 10 * 10 + u % 10 = u by omega] at this
      exact this
theorem parseU (u : Nat) (h : u < 18446744073709551616) : parseUintB 64 (decDigits u) = .ok u := by
  unfold parseUintB
  rw [if_neg (dec_digits u).2]
  have := parse_dec (2 ^ 64 - 1) (by decide) u [] (by omega)
  rw [List.append_nil] at this
  rw [this, parseUintM]
theorem parseI_cons (c : UInt8) (r : List UInt8) (hc : 48 ≤ c.toNat ∧ c.toNat ≤ 57) (u : Nat) (hu : u < 9223372036854775808) (h : parseUintB 64 (c :: r) = .ok u) : parseIntB 64 (c :: r) = .ok (u : Int) := by
  have h1 : ¬ (c.toNat = 43 ∨ c.toNat = 45) := by omega
  have h2 : ¬ c.toNat = 45 := by omega
  have h3 : ¬ (¬ c.toNat = 45 ∧ 2 ^ (64 - 1) ≤ u) := by omega
  have h4 : ¬ (c.toNat = 45 ∧ 2 ^ (64 - 1) < u) := by omega
  unfold parseIntB
  simp only []
  rw [if_neg h1, h]
  simp only []
  rw [if_neg h3, if_neg h4, if_neg h2]
theorem parseI_minus (r : List UInt8) (u : Nat) (hu : u ≤ 9223372036854775808) (h : parseUintB 64 r = .ok u) : parseIntB 64 (45 :: r) = .ok (-(u : Int)) := by
  have h1 : ((45 : UInt8).toNat = 43 ∨ (45 : UInt8).toNat = 45) := by decide
  have h2 : (45 : UInt8).toNat = 45 := by decide
  have h3 : ¬ (¬ (45 : UInt8).toNat = 45 ∧ 2 ^ (64 - 1) ≤ u) := fun h => h.1 h2
  have h4 : ¬ ((45 : UInt8).toNat = 45 ∧ 2 ^ (64 - 1) < u) := by omega
  unfold parseIntB
  simp only []
  rw [if_pos h1, h]
  simp only []
  rw [if_neg h3, if_neg h4, if_pos h2]
theorem parse_itoa (n : Int) (h0 : -9223372036854775808 ≤ n) (h1 : n ≤ 9223372036854775807) : parseIntB 64 (itoa n) = .ok n := by
  unfold itoa
  by_cases h : n < 0
  · rw [if_pos h, parseI_minus _ n.natAbs (by omega) (parseU _ (by omega))]
    congr 1
    omega
  · rw [if_neg h]
    obtain ⟨c, r, hc, hd⟩ := dec_cons n.toNat
    have := parseU n.toNat (by omega)
    rw [hc] at this ⊢
    rw [parseI_cons c r hd n.toNat (by omega) this]
    congr 1
    omega
theorem parse_nought (n : Int) (h0 : 0 ≤ n) (h1 : n ≤ 9223372036854775807) : parseIntB 64 (48 :: itoa n) = .ok n := by
  unfold itoa
  rw [if_neg (by omega)]
  have e : parseUintB 64 (48 :: decDigits n.toNat) = .ok n.toNat := by
    have := parseU n.toNat (by omega)
    unfold parseUintB at this ⊢
    rw [if_neg (by simp)]
    rw [if_neg (dec_digits _).2] at this
    have s := step_digit (2 ^ 64 - 1) 0 48 (decDigits n.toNat) 0 (by decide) (by omega) (by omega) (by omega)
    rw [s]
    exact this
  rw [parseI_cons 48 _ (by decide) n.toNat (by omega) e]
  congr 1
  omega
theorem parse_nought_neg (n : Int) (h : n < 0) : parseIntB 64 (48 :: itoa n) = parseIntB 64 [] := by
  unfold itoa
  rw [if_pos h]
  have s := step_digit (2 ^ 64 - 1) 0 48 (45 :: decDigits n.natAbs) 0 (by decide) (by omega) (by omega) (by omega)
  have e : parseUintB 64 (48 :: 45 :: decDigits n.natAbs) = parseUintB 64 [] := by
    have e0 : parseUintM (2 ^ 64 - 1) (0 * 10 + 0) (45 :: decDigits n.natAbs) = parseUintB 64 [] := by
      rw [parseUintM, if_neg (by decide)]
      rfl
    rw [← e0, ← s]
    unfold parseUintB
    rw [if_neg (by simp)]
  unfold parseIntB
  have h1 : ¬ ((48 : UInt8).toNat = 43 ∨ (48 : UInt8).toNat = 45) := by decide
  simp only [if_neg h1, e]
  rfl
theorem isNum_iff (c : UInt8) : isNum c = true ↔ (c.toNat = 45 ∨ (48 ≤ c.toNat ∧ c.toNat ≤ 57)) := decide_eq_true_iff
theorem itoa_num (n : Int) : ∀ c ∈ itoa n, isNum c = true := by
  intro c hc
  rw [isNum_iff]
  unfold itoa at hc
  split at hc
  · rcases List.mem_cons.1 hc with rfl | hc
    · exact .inl (by decide)
    · exact .inr ((dec_digits _).1 c hc)
  · exact .inr ((dec_digits _).1 c hc)
def lead (l : List UInt8) : Nat := (l.takeWhile isNum).length
theorem lead_all (l m : List UInt8) (h : ∀ c ∈ l, isNum c = true) (hm : m = [] ∨ ∃ c r, m = c :: r ∧ isNum c = false) : lead (l ++ m) = l.length := by
  induction l with
  | nil =>
    rcases hm with rfl | ⟨c, r, rfl, hc⟩
    · rfl
    · simp [lead, hc]
  | cons c l ih =>
    have hc := h c (by simp)
    have := ih fun d hd => h d (by simp [hd])
    unfold lead at this ⊢
    rw [List.cons_append, List.takeWhile_cons, if_pos hc, List.length_cons, this, List.length_cons]
theorem lead_le (l : List UInt8) : lead l ≤ l.length := (List.takeWhile_sublist _).length_le
theorem lead_in (l : List UInt8) (i : Nat) (hi : i < lead l) (h : i < l.length) : isNum l[i] = true := by
  have hp : (l.takeWhile isNum) <+: l := List.takeWhile_prefix _
  have e : (l.takeWhile isNum)[i]'hi = l[i] := hp.getElem hi
  have hm : (l.takeWhile isNum)[i]'hi ∈ l.takeWhile isNum := List.getElem_mem _
  rw [← e]
  exact List.all_eq_true.1 List.all_takeWhile _ hm
theorem lead_end : ∀ (l : List UInt8) (h : lead l < l.length), isNum l[lead l] = false
  | [], h => by simp at h
  | c :: l, h => by
    by_cases hc : isNum c = true
    · have e : lead (c :: l) = lead l + 1 := by unfold lead; rw [List.takeWhile_cons, if_pos hc, List.length_cons]
      have := lead_end l (by rw [e, List.length_cons] at h; omega)
      simp only [e, List.getElem_cons_succ]
      exact this
    · have e : lead (c :: l) = 0 := by unfold lead; rw [List.takeWhile_cons, if_neg hc]; rfl
      simp only [e, List.getElem_cons_zero]
      simpa using hc
theorem u64_in (u : Nat) (h : u < 18446744073709551616) : IntKind.u64.wrap (u : Int) = (u : Int) := by
  simp [IntKind.wrap, IntKind.bits, IntKind.signed]; omega
theorem dig_byte (u : Nat) (h : u < 18446744073709551616) : strOfNums ([(IntKind.u64.wrap (48 + (Int.tmod (u : Int) 10))) % 256] : List Int) = B [UInt8.ofNat (48 + u % 10)] := by
  have e1 : Int.tmod (u : Int) 10 = ((u % 10 : Nat) : Int) := by rw [Int.tmod_eq_emod_of_nonneg (by omega)]; omega
  have e2 : (48 + ((u % 10 : Nat) : Int)) = ((48 + u % 10 : Nat) : Int) := by omega
  rw [e1, e2, u64_in _ (by omega)]
  have e3 : (((48 + u % 10 : Nat) : Int) % 256) = ((48 + u % 10 : Nat) : Int) := by omega
  rw [e3]
  rfl
theorem dig_rest (u : Nat) (h : u < 18446744073709551616) : IntKind.u64.wrap (Int.tdiv (u : Int) 10) = ((u / 10 : Nat) : Int) := by
  have e1 : Int.tdiv (u : Int) 10 = ((u / 10 : Nat) : Int) := by rw [Int.tdiv_eq_ediv_of_nonneg (by omega)]; omega
  rw [e1, u64_in _ (by omega)]
theorem digits_last (n : Int) (u : Nat) (hu : u < 10) (acc : List UInt8) (ha : acc.length ≤ 1000) (k : Nat) :
    rialtoref4_Digits.l0 (k + 1) n (u : Int) (B acc) = some (B ((if n < 0 then [45] else []) ++ (decDigits u ++ acc))) := by
  have hs : (B [UInt8.ofNat (48 + u % 10)]).size = 1 := by rw [size_B]; rfl
  rw [rialtoref4_Digits.l0, Option.bind_some, dig_byte u (by omega), dig_rest u (by omega), if_pos (by rw [hs, size_B]; omega), if_pos (by omega), append_B, dec_small u hu]
  have e : u % 10 = u := by omega
  rw [e]
  by_cases hn : n < 0
  · rw [if_pos hn, if_pos (by rw [size_B]; simp; omega), if_pos hn, show (⟨#[45]⟩ : ByteArray) = B [45] from rfl, append_B]
  · rw [if_neg hn, if_neg hn]; rfl
theorem digits_loop (n : Int) (d : Nat) : ∀ (u : Nat) (acc : List UInt8), u < 10 ^ (d + 1) → u < 18446744073709551616 → acc.length + d ≤ 1000 →
    ∃ k, rialtoref4_Digits.l0 k n (u : Int) (B acc) = some (B ((if n < 0 then [45] else []) ++ (decDigits u ++ acc))) := by
  induction d with
  | zero => intro u acc hu _ ha; exact ⟨1, digits_last n u (by simpa using hu) acc (by omega) 0⟩
  | succ d ih =>
    intro u acc hu h64 ha
    by_cases h : u < 10
    · exact ⟨1, digits_last n u h acc (by omega) 0⟩
    · obtain ⟨k, hk⟩ := ih (u / 10) (UInt8.ofNat (48 + u % 10) :: acc) (by rw [Nat.pow_succ] at hu; omega) (by omega) (by rw [List.length_cons]; omega)
      refine ⟨k + 1, ?_⟩
      have hs : (B [UInt8.ofNat (48 + u % 10)]).size = 1 := by rw [size_B]; rfl
      rw [rialtoref4_Digits.l0, Option.bind_some, dig_byte u h64, dig_rest u h64, if_pos (by rw [hs, size_B]; omega), if_neg (by omega), append_B]
      rw [List.singleton_append, hk, dec_big u h, List.append_assoc]
      rfl
theorem digits_is (n : Int) (h0 : -9223372036854775808 ≤ n) (h1 : n ≤ 9223372036854775807) : ∃ k, rialtoref4_Digits.f k n = some (B (itoa n)) := by
  by_cases h : n < 0
  · obtain ⟨k, hk⟩ := digits_loop n 19 n.natAbs [] (by omega) (by omega) (by decide)
    refine ⟨k + 1, ?_⟩
    have e : IntKind.u64.wrap (-(IntKind.u64.wrap n)) = ((n.natAbs : Nat) : Int) := by
      simp [IntKind.wrap, IntKind.bits, IntKind.signed]; omega
    unfold rialtoref4_Digits.f
    rw [if_pos h, e, rialtoref4_Digits.j0]
    rw [show (⟨#[]⟩ : ByteArray) = B [] from rfl, hk, if_pos h, List.append_nil]
    unfold itoa
    rw [if_pos h]
    rfl
  · obtain ⟨k, hk⟩ := digits_loop n 19 n.toNat [] (by omega) (by omega) (by decide)
    refine ⟨k + 1, ?_⟩
    have e : IntKind.u64.wrap n = ((n.toNat : Nat) : Int) := by
      simp [IntKind.wrap, IntKind.bits, IntKind.signed]; omega
    unfold rialtoref4_Digits.f
    rw [if_neg h, e, rialtoref4_Digits.j0]
    rw [show (⟨#[]⟩ : ByteArray) = B [] from rfl, hk, if_neg h, List.append_nil, List.nil_append]
    unfold itoa
    rw [if_neg h]
theorem itoa_short (n : Int) (h0 : -9223372036854775808 ≤ n) (h1 : n ≤ 9223372036854775807) : (itoa n).length ≤ 100 := by
  have key : ∀ (d u : Nat), u < 10 ^ (d + 1) → (decDigits u).length ≤ d + 1 := by
    intro d
    induction d with
    | zero => intro u hu; rw [dec_small u (by simpa using hu)]; simp
    | succ d ih =>
      intro u hu
      by_cases h : u < 10
      · rw [dec_small u h]; simp
      · rw [dec_big u h, List.length_append, List.length_singleton]
        have := ih (u / 10) (by rw [Nat.pow_succ] at hu; omega)
        omega
  unfold itoa
  split
  · have := key 19 n.natAbs (by omega)
    rw [List.length_cons]; omega
  · have := key 19 n.toNat (by omega)
    omega
end Go.Proofs.YtpjfhdbkkomogaaDoor.Mb
