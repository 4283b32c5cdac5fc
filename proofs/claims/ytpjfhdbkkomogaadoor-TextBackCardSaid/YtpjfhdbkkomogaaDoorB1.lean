/- Texts of this claim, one behind the other. -/
import Derived.Test.YtpjfhdbkkomogaaDoorB0
import Derived.Outline
/- Functions of this program as Lean functions, and that the calls answer as they do: printed by this session's printmore.py. -/
namespace Go.Proofs.YtpjfhdbkkomogaaDoor.Px
open Go.RowKit Go.Proofs.YtpjfhdbkkomogaaDoor.Gvn Go.Proofs.YtpjfhdbkkomogaaDoorW.PrintWords Go.Proofs.YtpjfhdbkkomogaaDoorW.PrintLast Go.Proofs.YtpjfhdbkkomogaaDoorW.PrintMore
attribute [local go_sem] run_store_float max2_int min2_int max_two min_two max_three min_three max_four min_four   -- for this text's walks alone
set_option linter.unusedVariables false
set_option linter.unusedSimpArgs false

/-! ### text_unhexed: function 51 -/
mutual
def text_unhexed.l0 : Nat → ByteArray → List Int → Option (ByteArray × ByteArray)
  | 0, _, _ => none
  | k + 1, x0, x4 => if (x0.size : Int) > 1 then (if 0 < (x0.size : Int) then ((text_digit.f (bt x0 0)).bind fun t137 => (if t137 ≥ 0 then (if 1 < (x0.size : Int) then ((text_digit.f (bt x0 1)).bind fun t138 => (text_unhexed.j1 k x0 x4 (decide (t138 ≥ 0)))) else (none)) else (text_unhexed.j1 k x0 x4 false))) else (none)) else (text_unhexed.j1 k x0 x4 false)
def text_unhexed.j1 : Nat → ByteArray → List Int → Bool → Option (ByteArray × ByteArray)
  | 0, _, _, _ => none
  | k + 1, x0, x4, x19 => if x19 = true then (if 0 < (x0.size : Int) then ((text_digit.f (bt x0 0)).bind fun t139 => (if 1 < (x0.size : Int) then ((text_digit.f (bt x0 1)).bind fun t140 => (if x4.length < 140737488355328 then (if 2 ≤ (x0.size : Int) then (text_unhexed.l0 k (x0.extract 2 x0.size) (x4 ++ [(Go.bits .or .i64 (wrap64 (t139 * 16)) t140) % 256])) else (none)) else (none))) else (none))) else (none)) else (some (strOfNums x4, x0))
end
def text_unhexed.f (k : Nat) (a0 : ByteArray) : Option (ByteArray × ByteArray) := text_unhexed.l0 k a0 ([] : List Int)
theorem text_unhexed.mono_l : ∀ k, (∀ y0 y1, LeO (text_unhexed.l0 k y0 y1) (text_unhexed.l0 (k + 1) y0 y1)) ∧ (∀ y0 y1 y2, LeO (text_unhexed.j1 k y0 y1 y2) (text_unhexed.j1 (k + 1) y0 y1 y2))
  | 0 => ⟨fun _ _ r h => by simp [text_unhexed.l0] at h, fun _ _ _ r h => by simp [text_unhexed.j1] at h⟩
  | k + 1 => by
    obtain ⟨ih0, ih1⟩ := text_unhexed.mono_l k
    refine ⟨?_, ?_⟩
    · intro y0 y1
      unfold text_unhexed.l0
      repeat' first
      | (with_reducible exact ih0 _ _)
      | (with_reducible exact ih1 _ _ _)
      | (with_reducible exact LeO.refl _)
      | (with_reducible exact LeO.none _)
      | (with_reducible refine LeO.ite ?_ ?_)
      | (with_reducible refine LeO.bind ?_ (fun _ => ?_))
      | exact ih0 _ _
      | exact ih1 _ _ _
      | exact LeO.none _
      | refine LeO.ite ?_ ?_
      | refine LeO.bind ?_ (fun _ => ?_)
    · intro y0 y1 y2
      unfold text_unhexed.j1
      repeat' first
      | (with_reducible exact ih0 _ _)
      | (with_reducible exact ih1 _ _ _)
      | (with_reducible exact LeO.refl _)
      | (with_reducible exact LeO.none _)
      | (with_reducible refine LeO.ite ?_ ?_)
      | (with_reducible refine LeO.bind ?_ (fun _ => ?_))
      | exact ih0 _ _
      | exact ih1 _ _ _
      | exact LeO.none _
      | refine LeO.ite ?_ ?_
      | refine LeO.bind ?_ (fun _ => ?_)
theorem text_unhexed.mono : ∀ a0 k, LeO (text_unhexed.f k a0) (text_unhexed.f (k + 1) a0) := by
  intro a0 k
  obtain ⟨ih0, ih1⟩ := text_unhexed.mono_l k
  unfold text_unhexed.f
  repeat' first
      | (with_reducible exact ih0 _ _)
      | (with_reducible exact ih1 _ _ _)
      | (with_reducible exact LeO.refl _)
      | (with_reducible exact LeO.none _)
      | (with_reducible refine LeO.ite ?_ ?_)
      | (with_reducible refine LeO.bind ?_ (fun _ => ?_))
      | exact ih0 _ _
      | exact ih1 _ _ _
      | exact LeO.none _
      | refine LeO.ite ?_ ?_
      | refine LeO.bind ?_ (fun _ => ?_)
def text_unhexed.T3 : Bool × List (List Nat × List Nat) := (true, [([], []), ([], []), ([1], [1]), ([2], [2]), ([3], [3]), ([], []), ([5], [5]), ([6, 3], [6]), ([4, 7], [4, 7]), ([8], [8]), ([9], [9]), ([0, 10, 7], [0, 10]), ([11, 11, 0, 1, 2, 3, 4, 5, 6, 7, 8, 9, 10, 11], [0, 11])])
def text_unhexed.B3 : List Nat := [0, 0, 2, 6, 14, 0, 32, 110, 254, 510, 1022, 2047, 4095]
theorem text_unhexed.tab3 : rtab .any (opsOf Tryd.f51 3) = text_unhexed.T3 := by kernel_rfl
theorem text_unhexed.bits3 : waitsOk text_unhexed.T3.2 text_unhexed.B3 = true := by kernel_rfl
set_option maxHeartbeats 8000000 in
set_option maxRecDepth 100000 in
theorem text_unhexed.calls (k : Nat) (a0 : ByteArray) (r1 : ByteArray) (r2 : ByteArray) (w : World) (h : text_unhexed.f k a0 = some (r1, r2)) :
    Calls Tryd.prog 51 #[.string a0] w fun e w' => e = .returned (.tuple #[.string r1, .string r2]) ∧ Below w.heap.size w w' := by
  have HB := Aside0.mk (Below.refl w.heap.size w)
  have H : (text_unhexed.l0 k a0 ([] : List Int)) = some (r1, r2) := h
  clear h
  have H' := Aside0.mk H
  clear H
  have k23 := run23
  have k22 := run22
  go_enter Tryd.func51, Tryd.ntmps51
  go_wp2
  go_loopg [0, 4] k (fun kq v0 v4 w' => ∃ (x0_1 : ByteArray) (x4_1 : List Int), v0 = .string x0_1 ∧ Aside0 (text_unhexed.l0 kq x0_1 x4_1 = some (r1, r2)) ∧ Aside0 (kq ≤ k) ∧ Aside0 (Kd.R (Kd.int .u8) 5 w' w.heap.size (fun _ => True) v4 x4_1) ∧ Aside0 (Below w.heap.size w w'))
  case atStart => exact ⟨(a0), (([] : List Int)), (by first | rfl | (simp; done) | (simp [*]; done)), H', ⟨Nat.le_refl _⟩, ⟨by first | exact Kd.R_nil _ _ _ _ _ | exact Kd.N_nil _ _ _ _ _ | exact Kd.V_nil _ _ _ _ _ | exact Kd.Q_nil _ _ _ _ _ | exact Kd.S_nil _ _ _ _ _⟩, ⟨by repeat (first | (with_reducible first | exact HB.out | apply below_alloc | apply pw_below_drewN | apply below_drew1) | exact HB.out)⟩⟩
  case round =>
    clear H'
    obtain ⟨x0_1, x4_1, rfl, HA, HK1, HO_4, HB⟩ := hrel
    cases gk with
    | zero => exact absurd HA.out (by simp [text_unhexed.l0])
    | succ k1 =>
      have H := HA.out
      clear HA
      simp only [text_unhexed.l0] at H
      have HC2 := Aside0.mk H
      clear H
      go_upto_region 2 with (fail)
      go_cut [19] (fun v19 wc => ∃ (kq : Nat) (x19_1 : Bool), v19 = .bool x19_1 ∧ Aside0 (text_unhexed.j1 kq x0_1 x4_1 x19_1 = some (r1, r2)) ∧ Aside0 (kq ≤ k1) ∧ Aside0 (Kd.R (Kd.int .u8) 5 wc w.heap.size (fun _ => True) u4 x4_1) ∧ Aside0 (Below w.heap.size w wc))
      case first =>
        have H := HC2.out
        clear HC2
        by_cases c3 : (x0_1.size : Int) > 1
        · rw [if_pos c3] at H
          have c3b0 : decide (1 < (x0_1.size : Int)) = true := decide_eq_true c3
          have c3b1 : decide (1 < x0_1.size) = true := decide_eq_true (by omega)
          clear c3
          (first | rw [c3b0] | (simp only [i64_w, i32_w]; rw [c3b0]) | skip)
          by_cases c4 : 0 < (x0_1.size : Int)
          · rw [if_pos c4] at H
            have c4b0 : decide (0 < (x0_1.size : Int)) = true := decide_eq_true c4
            have c4b1 : decide (0 < x0_1.size) = true := decide_eq_true (by omega)
            clear c4
            replace H := Option.bind_eq_some_iff.mp H
            obtain ⟨t137, A60, H⟩ := H
            replace H : (if t137 ≥ 0 then (if 1 < (x0_1.size : Int) then ((text_digit.f (bt x0_1 1)).bind fun t138 => (text_unhexed.j1 k1 x0_1 x4_1 (decide (t138 ≥ 0)))) else (none)) else (text_unhexed.j1 k1 x0_1 x4_1 false)) = some (r1, r2) := H
            have A6 := Aside0.mk A60
            clear A60
            by_cases c7 : t137 ≥ 0
            · rw [if_pos c7] at H
              have c7b0 : decide (0 ≤ t137) = true := decide_eq_true c7
              clear c7
              by_cases c8 : 1 < (x0_1.size : Int)
              · rw [if_pos c8] at H
                have c8b0 : decide (1 < (x0_1.size : Int)) = true := decide_eq_true c8
                have c8b1 : decide (1 < x0_1.size) = true := decide_eq_true (by omega)
                clear c8
                replace H := Option.bind_eq_some_iff.mp H
                obtain ⟨t138, A100, H⟩ := H
                replace H : (text_unhexed.j1 k1 x0_1 x4_1 (decide (t138 ≥ 0))) = some (r1, r2) := H
                have A10 := Aside0.mk A100
                clear A100
                have H' := Aside0.mk H
                clear H
                have p5 : 0 ≤ (0 : Int) := (by omega)
                have q5 : 0 < x0_1.size := (by have : (0 : Int) < (x0_1.size : Int) := of_decide_eq_true (by first | (with_reducible assumption) | assumption); omega)
                have hx5 : ∀ h : 0 < x0_1.size, ((x0_1[0]'h).toNat : Int) = bt x0_1 0 := bt_at x0_1 0
                clear p5
                have qi5 : (0 < (x0_1.size : Int)) = True := eq_true (of_decide_eq_true (by first | (with_reducible assumption) | assumption))
                replace q5 := eq_true q5
                go_wp2_with (first | (go_at_call 69; (with_reducible refine (text_digit.calls (bt x0_1 0) t137 _ A6.out).mono ?_); rintro e w' ⟨rfl, ⟨nd, rfl⟩⟩; have p9 : 0 ≤ (1 : Int) := (by omega); have q9 : 1 < x0_1.size := (by have : (1 : Int) < (x0_1.size : Int) := of_decide_eq_true (by first | (with_reducible assumption) | assumption); omega); have hx9 : ∀ h : 1 < x0_1.size, ((x0_1[1]'h).toNat : Int) = bt x0_1 1 := bt_at x0_1 1; clear p9; have qi9 : (1 < (x0_1.size : Int)) = True := eq_true (of_decide_eq_true (by first | (with_reducible assumption) | assumption)); replace q9 := eq_true q9) | (go_at_call 69; (with_reducible refine (text_digit.calls (bt x0_1 1) t138 _ A10.out).mono ?_); rintro e w' ⟨rfl, ⟨nd, rfl⟩⟩))
                go_meet
                case rel => exact ⟨_, (decide (t138 ≥ 0)), (by first | rfl | (simp; done) | (simp [*]; done)), H', ⟨by have := HK1.out; first | omega | exact Nat.le_refl _⟩, ⟨by (with_reducible repeat (first | apply Kd.R_alloc | apply Kd.R_drewN | apply Kd.R_drew)); exact HO_4.out⟩, ⟨by repeat (first | (with_reducible first | exact HB.out | apply below_alloc | apply pw_below_drewN | apply below_drew1) | exact HB.out)⟩⟩
              · rw [if_neg c8] at H
                exact absurd H (by simp)
            · rw [if_neg c7] at H
              have c7b0 : decide (0 ≤ t137) = false := decide_eq_false c7
              clear c7
              have H' := Aside0.mk H
              clear H
              have p5 : 0 ≤ (0 : Int) := (by omega)
              have q5 : 0 < x0_1.size := (by have : (0 : Int) < (x0_1.size : Int) := of_decide_eq_true (by first | (with_reducible assumption) | assumption); omega)
              have hx5 : ∀ h : 0 < x0_1.size, ((x0_1[0]'h).toNat : Int) = bt x0_1 0 := bt_at x0_1 0
              clear p5
              have qi5 : (0 < (x0_1.size : Int)) = True := eq_true (of_decide_eq_true (by first | (with_reducible assumption) | assumption))
              replace q5 := eq_true q5
              go_wp2_with (first | (go_at_call 69; (with_reducible refine (text_digit.calls (bt x0_1 0) t137 _ A6.out).mono ?_); rintro e w' ⟨rfl, ⟨nd, rfl⟩⟩))
              go_meet
              case rel => exact ⟨_, (false), (by first | rfl | (simp; done) | (simp [*]; done)), H', ⟨by have := HK1.out; first | omega | exact Nat.le_refl _⟩, ⟨by (with_reducible repeat (first | apply Kd.R_alloc | apply Kd.R_drewN | apply Kd.R_drew)); exact HO_4.out⟩, ⟨by repeat (first | (with_reducible first | exact HB.out | apply below_alloc | apply pw_below_drewN | apply below_drew1) | exact HB.out)⟩⟩
          · rw [if_neg c4] at H
            exact absurd H (by simp)
        · rw [if_neg c3] at H
          have c3b0 : decide (1 < (x0_1.size : Int)) = false := decide_eq_false c3
          have c3b1 : decide (1 < x0_1.size) = false := decide_eq_false (by omega)
          clear c3
          (first | rw [c3b0] | (simp only [i64_w, i32_w]; rw [c3b0]) | skip)
          have H' := Aside0.mk H
          clear H
          go_wp2
          go_meet
          case rel => exact ⟨_, (false), (by first | rfl | (simp; done) | (simp [*]; done)), H', ⟨by have := HK1.out; first | omega | exact Nat.le_refl _⟩, ⟨by (with_reducible repeat (first | apply Kd.R_alloc | apply Kd.R_drewN | apply Kd.R_drew)); exact HO_4.out⟩, ⟨by repeat (first | (with_reducible first | exact HB.out | apply below_alloc | apply pw_below_drewN | apply below_drew1) | exact HB.out)⟩⟩
      case rest =>
        clear HC2
        try clear p2
        try clear c3
        try clear c3b0
        try clear c3b1
        try clear c4
        try clear c4b0
        try clear c4b1
        try clear c5
        try clear p5
        try clear q5
        try clear hx5
        try clear qi5
        try clear c7
        try clear c7b0
        try clear c8
        try clear c8b0
        try clear c8b1
        try clear p9
        try clear q9
        try clear hx9
        try clear qi9
        try clear p5
        try clear p9
        try clear q5
        try clear q9
        obtain ⟨kq, x19_1, rfl, HA, HJ1, HO_4, HB⟩ := hcut
        cases kq with
        | zero => exact absurd HA.out (by simp [text_unhexed.j1])
        | succ kj1 =>
          have H := HA.out
          clear HA
          simp only [text_unhexed.j1] at H
          by_cases c11 : x19_1 = true
          · subst c11
            have H1 : (if 0 < (x0_1.size : Int) then ((text_digit.f (bt x0_1 0)).bind fun t139 => (if 1 < (x0_1.size : Int) then ((text_digit.f (bt x0_1 1)).bind fun t140 => (if x4_1.length < 140737488355328 then (if 2 ≤ (x0_1.size : Int) then (text_unhexed.l0 kj1 (x0_1.extract 2 x0_1.size) (x4_1 ++ [(Go.bits .or .i64 (wrap64 (t139 * 16)) t140) % 256])) else (none)) else (none))) else (none))) else (none)) = some (r1, r2) := by rw [if_pos rfl] at H; exact H
            clear H
            have H := H1
            clear H1
            by_cases c12 : 0 < (x0_1.size : Int)
            · rw [if_pos c12] at H
              have c12b0 : decide (0 < (x0_1.size : Int)) = true := decide_eq_true c12
              have c12b1 : decide (0 < x0_1.size) = true := decide_eq_true (by omega)
              clear c12
              replace H := Option.bind_eq_some_iff.mp H
              obtain ⟨t139, A140, H⟩ := H
              replace H : (if 1 < (x0_1.size : Int) then ((text_digit.f (bt x0_1 1)).bind fun t140 => (if x4_1.length < 140737488355328 then (if 2 ≤ (x0_1.size : Int) then (text_unhexed.l0 kj1 (x0_1.extract 2 x0_1.size) (x4_1 ++ [(Go.bits .or .i64 (wrap64 (t139 * 16)) t140) % 256])) else (none)) else (none))) else (none)) = some (r1, r2) := H
              have A14 := Aside0.mk A140
              clear A140
              by_cases c15 : 1 < (x0_1.size : Int)
              · rw [if_pos c15] at H
                have c15b0 : decide (1 < (x0_1.size : Int)) = true := decide_eq_true c15
                have c15b1 : decide (1 < x0_1.size) = true := decide_eq_true (by omega)
                clear c15
                replace H := Option.bind_eq_some_iff.mp H
                obtain ⟨t140, A170, H⟩ := H
                replace H : (if x4_1.length < 140737488355328 then (if 2 ≤ (x0_1.size : Int) then (text_unhexed.l0 kj1 (x0_1.extract 2 x0_1.size) (x4_1 ++ [(Go.bits .or .i64 (wrap64 (t139 * 16)) t140) % 256])) else (none)) else (none)) = some (r1, r2) := H
                have A17 := Aside0.mk A170
                clear A170
                by_cases c18 : x4_1.length < 140737488355328
                · rw [if_pos c18] at H
                  have LMc18 := Aside0.mk c18
                  clear c18
                  obtain ⟨y141, hy141⟩ : ∃ y_ : List Int, y_ = (x4_1 ++ [(Go.bits .or .i64 (wrap64 (t139 * 16)) t140) % 256]) := ⟨_, rfl⟩
                  replace H : (if 2 ≤ (x0_1.size : Int) then (text_unhexed.l0 kj1 (x0_1.extract 2 x0_1.size) y141) else (none)) = some (r1, r2) := by first | (rw [hy141]; with_reducible exact H) | (have H2_ := (Option.bind_some _ _).symm.trans H; rw [hy141]; with_reducible exact H2_) | (have H2_ := (Option.bind_some _ _).symm.trans H; with_reducible exact H2_) | with_reducible exact H | (rw [hy141]; exact H) | exact H
                  have Ny141 := Aside0.mk hy141
                  clear hy141
                  by_cases c19 : 2 ≤ (x0_1.size : Int)
                  · rw [if_pos c19] at H
                    have c19b0 := eq_true c19
                    have c19b1 : decide (2 ≤ (x0_1.size : Int)) = true := decide_eq_true c19
                    clear c19
                    have H' := Aside0.mk H
                    clear H
                    try go_wp2
                    have n0_ := Aside0.mk (Kd.R_drew HO_4.out)
                    have n1_ := Aside0.mk (below_drew1 HB.out)
                    clear HO_4
                    clear HB
                    have HO_4 := n0_
                    have HB := n1_
                    clear n0_ n1_
                    have p13 : 0 ≤ (0 : Int) := (by omega)
                    have q13 : 0 < x0_1.size := (by have : (0 : Int) < (x0_1.size : Int) := of_decide_eq_true (by first | (with_reducible assumption) | assumption); omega)
                    have hx13 : ∀ h : 0 < x0_1.size, ((x0_1[0]'h).toNat : Int) = bt x0_1 0 := bt_at x0_1 0
                    clear p13
                    have qi13 : (0 < (x0_1.size : Int)) = True := eq_true (of_decide_eq_true (by first | (with_reducible assumption) | assumption))
                    replace q13 := eq_true q13
                    have p16 : 0 ≤ (1 : Int) := (by omega)
                    have q16 : 1 < x0_1.size := (by have : (1 : Int) < (x0_1.size : Int) := of_decide_eq_true (by first | (with_reducible assumption) | assumption); omega)
                    have hx16 : ∀ h : 1 < x0_1.size, ((x0_1[1]'h).toNat : Int) = bt x0_1 1 := bt_at x0_1 1
                    clear p16
                    have qi16 : (1 < (x0_1.size : Int)) = True := eq_true (of_decide_eq_true (by first | (with_reducible assumption) | assumption))
                    replace q16 := eq_true q16
                    refine start_ (n := 13) (S := fun w' => True) (ds := []) #[false, false, false, false, false, false, false, false, false, false, false, false, false] (by kernel_rfl) rfl rfl trivial (fun hHeld => ?_); refine with_tabW text_unhexed.tab3 text_unhexed.bits3 (fun HT_ HW_ => ?_)
                    generalize wc.drew = w20 at HO_4 HB hHeld ⊢
                    refine pure_ (i := 0) (N := some 20) (v := ?_) (a' := ?_) #[true, false, false, false, false, false, false, false, false, false, false, false, false] rfl rfl (any_of HT_.out (by kernel_rfl)) (fun _ _ _ h => h) (Or.inl ⟨by rfl, ?_⟩) ?_ ?_
                    rotate_left
                    · intro w'
                      go_simp
                      with_reducible rfl
                    rotate_left
                    · simp only [Act.put, List.setIfInBounds_toArray, List.set_cons_zero, List.set_cons_succ, i64_w, i32_w]
                      rfl
                    refine pure_ (i := 1) (N := some 21) (v := ?_) (a' := ?_) #[true, true, false, false, false, false, false, false, false, false, false, false, false] rfl rfl (any_of HT_.out (by kernel_rfl)) (fun _ _ _ h => h) (Or.inl ⟨by rfl, ?_⟩) ?_ ?_
                    rotate_left
                    · intro w'
                      go_simp
                      with_reducible rfl
                    rotate_left
                    · simp only [Act.put, List.setIfInBounds_toArray, List.set_cons_zero, List.set_cons_succ, i64_w, i32_w]
                      rfl
                    refine pure_ (i := 5) (N := some 25) (v := ?_) (a' := ?_) #[true, true, false, false, false, true, false, false, false, false, false, false, false] rfl rfl (any_of HT_.out (by kernel_rfl)) (fun _ _ _ h => h) (Or.inl ⟨by rfl, ?_⟩) ?_ ?_
                    rotate_left
                    · intro w'
                      go_simp
                      with_reducible rfl
                    rotate_left
                    · simp only [Act.put, List.setIfInBounds_toArray, List.set_cons_zero, List.set_cons_succ, i64_w, i32_w]
                      rfl
                    refine take_ (i := 2) (N := some 22) (v := ?_) (a' := ?_) #[true, true, true, false, false, true, false, false, false, false, false, false, false] rfl rfl (take_ofW HT_.out HW_.out (by kernel_rfl)) (fun _ _ _ h => h) (Or.inl ⟨by rfl, ?_⟩) hHeld ?_ ?_
                    rotate_left
                    · intro w' _
                      go_simp
                      with_reducible rfl
                    rotate_left
                    · simp only [Act.put, List.setIfInBounds_toArray, List.set_cons_zero, List.set_cons_succ, i64_w, i32_w]
                      rfl
                    refine take_ (i := 6) (N := some 26) (v := ?_) (a' := ?_) #[true, true, true, false, false, true, true, false, false, false, false, false, false] rfl rfl (take_ofW HT_.out HW_.out (by kernel_rfl)) (fun _ _ _ h => h) (Or.inl ⟨by rfl, ?_⟩) hHeld ?_ ?_
                    rotate_left
                    · intro w' _
                      go_simp
                      with_reducible rfl
                    rotate_left
                    · simp only [Act.put, List.setIfInBounds_toArray, List.set_cons_zero, List.set_cons_succ, i64_w, i32_w]
                      rfl
                    refine one_ (i := 3) (N := some 23) #[true, true, true, true, false, true, true, false, false, false, false, false, false] rfl rfl (one_of HT_.out (by kernel_rfl)) (by decide) (fun K hK => ?_)
                    refine goes_ Tryd.func69 (by kernel_rfl) rfl #[.int .u8 (bt x0_1 0)] (by rfl) rfl rfl (by (try simp only [List.map_toArray, List.map_cons, List.map_nil]); first | done | rfl | (simp only [List.length_drop, List.length_take]; rfl)) ?_
                    with_reducible refine (text_digit.calls (bt x0_1 0) t139 _ A14.out).mono ?_
                    rintro e w' ⟨rfl, ⟨nd, rfl⟩⟩
                    refine ⟨_, rfl, ?_⟩
                    refine hK.out _ _ trivial (fun hHeld => ?_)
                    clear hK K
                    refine norm_ (a' := ?_) ?_ ?_
                    rotate_left
                    · show Act.put _ (some 23) _ = _
                      simp only [Act.put, List.setIfInBounds_toArray, List.set_cons_zero, List.set_cons_succ, i64_w, i32_w]
                      rfl
                    refine pure_ (i := 4) (N := some 24) (v := ?_) (a' := ?_) #[true, true, true, true, true, true, true, false, false, false, false, false, false] rfl rfl (any_of HT_.out (by kernel_rfl)) (fun _ _ _ h => h) (Or.inl ⟨by rfl, ?_⟩) ?_ ?_
                    rotate_left
                    · intro w'
                      go_simp
                      with_reducible rfl
                    rotate_left
                    · simp only [Act.put, List.setIfInBounds_toArray, List.set_cons_zero, List.set_cons_succ, i64_w, i32_w]
                      rfl
                    refine one_ (i := 7) (N := some 27) #[true, true, true, true, true, true, true, true, false, false, false, false, false] rfl rfl (one_of HT_.out (by kernel_rfl)) (by decide) (fun K hK => ?_)
                    refine goes_ Tryd.func69 (by kernel_rfl) rfl #[.int .u8 (bt x0_1 1)] (by rfl) rfl rfl (by (try simp only [List.map_toArray, List.map_cons, List.map_nil]); first | done | rfl | (simp only [List.length_drop, List.length_take]; rfl)) ?_
                    with_reducible refine (text_digit.calls (bt x0_1 1) t140 _ A17.out).mono ?_
                    rintro e w' ⟨rfl, ⟨nd, rfl⟩⟩
                    refine ⟨_, rfl, ?_⟩
                    refine hK.out _ _ trivial (fun hHeld => ?_)
                    clear hK K
                    refine norm_ (a' := ?_) ?_ ?_
                    rotate_left
                    · show Act.put _ (some 27) _ = _
                      simp only [Act.put, List.setIfInBounds_toArray, List.set_cons_zero, List.set_cons_succ, i64_w, i32_w]
                      rfl
                    refine pure_ (i := 8) (N := some 28) (v := ?_) (a' := ?_) #[true, true, true, true, true, true, true, true, true, false, false, false, false] rfl rfl (any_of HT_.out (by kernel_rfl)) (fun _ _ _ h => h) (Or.inl ⟨by rfl, ?_⟩) ?_ ?_
                    rotate_left
                    · intro w'
                      go_simp
                      with_reducible rfl
                    rotate_left
                    · simp only [Act.put, List.setIfInBounds_toArray, List.set_cons_zero, List.set_cons_succ, i64_w, i32_w]
                      rfl
                    refine pure_ (i := 9) (N := some 29) (v := ?_) (a' := ?_) #[true, true, true, true, true, true, true, true, true, true, false, false, false] rfl rfl (any_of HT_.out (by kernel_rfl)) (fun _ _ _ h => h) (Or.inl ⟨by rfl, ?_⟩) ?_ ?_
                    rotate_left
                    · intro w'
                      go_simp
                      with_reducible rfl
                    rotate_left
                    · simp only [Act.put, List.setIfInBounds_toArray, List.set_cons_zero, List.set_cons_succ, i64_w, i32_w]
                      rfl
                    refine one_ (i := 10) (N := some 30) #[true, true, true, true, true, true, true, true, true, true, true, false, false] rfl rfl (one_of HT_.out (by kernel_rfl)) (by decide) (fun K hK => ?_)
                    refine value_ (w1 := ?_) (v := ?_) (by rfl) rfl ?_ ?_
                    rotate_left 2
                    · go_simp
                      constructor
                      · rfl
                      · rfl
                    refine hK.out _ _ trivial (fun hHeld => ?_)
                    clear hK K
                    refine norm_ (a' := ?_) ?_ ?_
                    rotate_left
                    · show Act.put _ (some 30) _ = _
                      simp only [Act.put, List.setIfInBounds_toArray, List.set_cons_zero, List.set_cons_succ, i64_w, i32_w]
                      rfl
                    refine one_ (i := 11) (N := some 31) #[true, true, true, true, true, true, true, true, true, true, true, true, false] rfl rfl (one_of HT_.out (by kernel_rfl)) (by decide) (fun K hK => ?_)
                    refine Kd.R_append_step (Kd.int .u8) (w0 := w) w.heap.size (by rfl) (.tmp 20) (.tmp 30) 57 5 (.int .u8 0) 1 rfl Tryd.underlying57 info5 rfl (by decide) (by omega) u4 x4_1 ((Go.bits .or .i64 (wrap64 (t139 * 16)) t140) % 256) [.int .u8 ((Go.bits .or .i64 (wrap64 (t139 * 16)) t140) % 256)] (fun _ => True) (fun _ => False) rfl rfl ?aP (fun _ hk => hk.elim) ?aF ?aO ?aB ?aS ?aL ?_
                    (case aP => exact rfl)
                    (case aB => exact (by repeat (first | (with_reducible first | exact HB.out | apply below_alloc | apply pw_below_drewN | apply below_drew1) | exact HB.out)))
                    (case aF => exact (fun _ _ => trivial))
                    (case aO => exact (by (with_reducible repeat (first | apply Kd.R_alloc | apply Kd.R_drewN | apply Kd.R_drew)); exact HO_4.out))
                    (case aS => exact (below_size (by repeat (first | (with_reducible first | exact HB.out | apply below_alloc | apply pw_below_drewN | apply below_drew1) | exact HB.out))))
                    (case aL => have := LMc18.out; omega)
                    intro v142 w21 ho hb hg hat
                    rw [← Ny141.out] at ho
                    have n0_ := Aside0.mk (hb)
                    have n1_ := Aside0.mk (ho)
                    clear HB
                    clear HO_4
                    have HB := n0_
                    have HO143 := n1_
                    clear n0_ n1_
                    clear ho hb hg hat
                    refine hK.out _ _ trivial (fun hHeld => ?_)
                    clear hK K
                    refine norm_ (a' := ?_) ?_ ?_
                    rotate_left
                    · show Act.put _ (some 31) _ = _
                      simp only [Act.put, List.setIfInBounds_toArray, List.set_cons_zero, List.set_cons_succ, i64_w, i32_w]
                      rfl
                    refine pure_ (i := 12) (N := some 4) (v := ?_) (a' := ?_) #[true, true, true, true, true, true, true, true, true, true, true, true, true] rfl rfl (any_of HT_.out (by kernel_rfl)) (fun _ _ _ h => h) (Or.inl ⟨by rfl, ?_⟩) ?_ ?_
                    rotate_left
                    · intro w'
                      go_simp
                      with_reducible rfl
                    rotate_left
                    · simp only [Act.put, List.setIfInBounds_toArray, List.set_cons_zero, List.set_cons_succ, i64_w, i32_w]
                      rfl
                    refine done_ (done_of HT_.out (by kernel_rfl)) ?_
                    try go_wp2
                    go_roundg kj1
                    case measure => have := HK1.out; have := HJ1.out; omega
                    case rel => exact ⟨(x0_1.extract 2 x0_1.size), (y141), (by first | rfl | (simp; done) | (simp [*]; done)), H', ⟨by have := HK1.out; have := HJ1.out; omega⟩, ⟨by (with_reducible repeat (first | apply Kd.R_alloc | apply Kd.R_drewN | apply Kd.R_drew)); exact HO143.out⟩, ⟨by repeat (first | (with_reducible first | exact HB.out | apply below_alloc | apply pw_below_drewN | apply below_drew1) | exact HB.out)⟩⟩
                  · rw [if_neg c19] at H
                    exact absurd H (by simp)
                · rw [if_neg c18] at H
                  exact absurd H (by simp)
              · rw [if_neg c15] at H
                exact absurd H (by simp)
            · rw [if_neg c12] at H
              exact absurd H (by simp)
          · replace c11 := Bool.eq_false_iff.mpr c11
            subst c11
            have H1 : (some (strOfNums x4_1, x0_1)) = some (r1, r2) := by rw [if_neg (show ¬ (false = true) by decide)] at H; exact H
            clear H
            have H := H1
            clear H1
            simp only [Option.some.injEq, Prod.mk.injEq] at H
            obtain ⟨rfl, rfl⟩ := H
            have hcv22 := own_string (P := Tryd.prog) Tryd.underlying57 Tryd.underlying5 Tryd.underlying9 (Kd.own_of_R HO_4.out)
            go_wp2
            go_ret2
            exact ⟨by first | rfl | (simp [errW_none, errW_some] <;> rfl) | (simp [*, errW_none, errW_some] <;> rfl), by repeat (first | (with_reducible first | exact HB.out | apply below_alloc | apply pw_below_drewN | apply below_drew1) | exact HB.out)⟩

end Go.Proofs.YtpjfhdbkkomogaaDoor.Px
/- Functions of this program as Lean functions, and that the calls answer as they do: printed by this session's printmore.py. -/
namespace Go.Proofs.YtpjfhdbkkomogaaDoor.Px
open Go.RowKit Go.Proofs.YtpjfhdbkkomogaaDoor.Gvn Go.Proofs.YtpjfhdbkkomogaaDoorW.PrintWords Go.Proofs.YtpjfhdbkkomogaaDoorW.PrintLast Go.Proofs.YtpjfhdbkkomogaaDoorW.PrintMore
attribute [local go_sem] run_store_float max2_int min2_int max_two min_two max_three min_three max_four min_four   -- for this text's walks alone
set_option linter.unusedVariables false
set_option linter.unusedSimpArgs false

/-! ### text_unquoted: function 50 -/
mutual
def text_unquoted.l0 : Nat → ByteArray → List Int → Option (ByteArray × ByteArray × Bool)
  | 0, _, _ => none
  | k + 1, x0, x5 => if x0.toList = ([] : List UInt8) then (some ((⟨#[]⟩ : ByteArray), (⟨#[]⟩ : ByteArray), false)) else (if 0 < (x0.size : Int) then (if 1 ≤ (x0.size : Int) then (if (bt x0 0) = 34 then (some (strOfNums x5, x0.extract 1 x0.size, true)) else (if (bt x0 0) = 92 then ((strings_HasPrefix.f (x0.extract 1 x0.size) (⟨#[120]⟩ : ByteArray)).bind fun t144 => (if t144 = true then (text_unquoted.j1 k (x0.extract 1 x0.size) x5 (decide (((x0.extract 1 x0.size).size : Int) > 2))) else (text_unquoted.j1 k (x0.extract 1 x0.size) x5 false))) else (if x5.length < 140737488355328 then (text_unquoted.l0 k (x0.extract 1 x0.size) (x5 ++ [bt x0 0])) else (none)))) else (none)) else (none))
def text_unquoted.j1 : Nat → ByteArray → List Int → Bool → Option (ByteArray × ByteArray × Bool)
  | 0, _, _, _ => none
  | k + 1, x0, x5, x28 => if x28 = true then (if 1 ≤ 3 then (if 3 ≤ (x0.size : Int) then ((text_unhexed.f k (x0.extract 1 3)).bind fun bt145 => (if bt145.2.toList = ([] : List UInt8) then (if x5.length + bt145.1.size < 140737488355328 then (text_unquoted.l0 k (x0.extract 3 x0.size) (x5 ++ bytesOf bt145.1)) else (none)) else (some ((⟨#[]⟩ : ByteArray), (⟨#[]⟩ : ByteArray), false)))) else (none)) else (none)) else (if x0.toList = ([] : List UInt8) then (text_unquoted.l0 k x0 x5) else (if 0 < (x0.size : Int) then (if x5.length < 140737488355328 then (if 1 ≤ (x0.size : Int) then (text_unquoted.l0 k (x0.extract 1 x0.size) (x5 ++ [bt x0 0])) else (none)) else (none)) else (none)))
end
def text_unquoted.f (k : Nat) (a0 : ByteArray) : Option (ByteArray × ByteArray × Bool) := text_unquoted.l0 k a0 ([] : List Int)
theorem text_unquoted.mono_l : ∀ k, (∀ y0 y1, LeO (text_unquoted.l0 k y0 y1) (text_unquoted.l0 (k + 1) y0 y1)) ∧ (∀ y0 y1 y2, LeO (text_unquoted.j1 k y0 y1 y2) (text_unquoted.j1 (k + 1) y0 y1 y2))
  | 0 => ⟨fun _ _ r h => by simp [text_unquoted.l0] at h, fun _ _ _ r h => by simp [text_unquoted.j1] at h⟩
  | k + 1 => by
    obtain ⟨ih0, ih1⟩ := text_unquoted.mono_l k
    refine ⟨?_, ?_⟩
    · intro y0 y1
      unfold text_unquoted.l0
      repeat' first
      | (with_reducible exact ih0 _ _)
      | (with_reducible exact ih1 _ _ _)
      | (with_reducible exact text_unhexed.mono _ _)
      | (with_reducible exact LeO.refl _)
      | (with_reducible exact LeO.none _)
      | (with_reducible refine LeO.ite ?_ ?_)
      | (with_reducible refine LeO.bind ?_ (fun _ => ?_))
      | exact ih0 _ _
      | exact ih1 _ _ _
      | exact text_unhexed.mono _ _
      | exact LeO.none _
      | refine LeO.ite ?_ ?_
      | refine LeO.bind ?_ (fun _ => ?_)
    · intro y0 y1 y2
      unfold text_unquoted.j1
      repeat' first
      | (with_reducible exact ih0 _ _)
      | (with_reducible exact ih1 _ _ _)
      | (with_reducible exact text_unhexed.mono _ _)
      | (with_reducible exact LeO.refl _)
      | (with_reducible exact LeO.none _)
      | (with_reducible refine LeO.ite ?_ ?_)
      | (with_reducible refine LeO.bind ?_ (fun _ => ?_))
      | exact ih0 _ _
      | exact ih1 _ _ _
      | exact text_unhexed.mono _ _
      | exact LeO.none _
      | refine LeO.ite ?_ ?_
      | refine LeO.bind ?_ (fun _ => ?_)
theorem text_unquoted.mono : ∀ a0 k, LeO (text_unquoted.f k a0) (text_unquoted.f (k + 1) a0) := by
  intro a0 k
  obtain ⟨ih0, ih1⟩ := text_unquoted.mono_l k
  unfold text_unquoted.f
  repeat' first
      | (with_reducible exact ih0 _ _)
      | (with_reducible exact ih1 _ _ _)
      | (with_reducible exact text_unhexed.mono _ _)
      | (with_reducible exact LeO.refl _)
      | (with_reducible exact LeO.none _)
      | (with_reducible refine LeO.ite ?_ ?_)
      | (with_reducible refine LeO.bind ?_ (fun _ => ?_))
      | exact ih0 _ _
      | exact ih1 _ _ _
      | exact text_unhexed.mono _ _
      | exact LeO.none _
      | refine LeO.ite ?_ ?_
      | refine LeO.bind ?_ (fun _ => ?_)
set_option maxHeartbeats 8000000 in
set_option maxRecDepth 100000 in
theorem text_unquoted.calls (k : Nat) (a0 : ByteArray) (r1 : ByteArray) (r2 : ByteArray) (r3 : Bool) (w : World) (h : text_unquoted.f k a0 = some (r1, r2, r3)) :
    Calls Tryd.prog 50 #[.string a0] w fun e w' => e = .returned (.tuple #[.string r1, .string r2, .bool r3]) ∧ Below w.heap.size w w' := by
  have HB := Aside0.mk (Below.refl w.heap.size w)
  have H : (text_unquoted.l0 k a0 ([] : List Int)) = some (r1, r2, r3) := h
  clear h
  have H' := Aside0.mk H
  clear H
  have k23 := run23
  have k22 := run22
  go_enter Tryd.func50, Tryd.ntmps50
  go_wp2
  go_loopg [0, 5] k (fun kq v0 v5 w' => ∃ (x0_1 : ByteArray) (x5_1 : List Int), v0 = .string x0_1 ∧ Aside0 (text_unquoted.l0 kq x0_1 x5_1 = some (r1, r2, r3)) ∧ Aside0 (kq ≤ k) ∧ Aside0 (Kd.R (Kd.int .u8) 5 w' w.heap.size (fun _ => True) v5 x5_1) ∧ Aside0 (Below w.heap.size w w'))
  case atStart => exact ⟨(a0), (([] : List Int)), (by first | rfl | (simp; done) | (simp [*]; done)), H', ⟨Nat.le_refl _⟩, ⟨by first | exact Kd.R_nil _ _ _ _ _ | exact Kd.N_nil _ _ _ _ _ | exact Kd.V_nil _ _ _ _ _ | exact Kd.Q_nil _ _ _ _ _ | exact Kd.S_nil _ _ _ _ _⟩, ⟨by repeat (first | (with_reducible first | exact HB.out | apply below_alloc | apply pw_below_drewN | apply below_drew1) | exact HB.out)⟩⟩
  case round =>
    clear H'
    obtain ⟨x0_1, x5_1, rfl, HA, HK1, HO_5, HB⟩ := hrel
    cases gk with
    | zero => exact absurd HA.out (by simp [text_unquoted.l0])
    | succ k1 =>
      have H := HA.out
      clear HA
      simp only [text_unquoted.l0] at H
      by_cases c2 : x0_1.toList = ([] : List UInt8)
      · rw [if_pos c2] at H
        have c2b0 : (x0_1.toList == ([] : List UInt8)) = true := beq_iff_eq.mpr c2
        have c2b1 : (x0_1.toList != ([] : List UInt8)) = false := bne_eq_false_iff_eq.mpr c2
        clear c2
        simp only [Option.some.injEq, Prod.mk.injEq] at H
        obtain ⟨rfl, rfl, rfl⟩ := H
        go_wp2
        go_ret3
        exact ⟨by first | rfl | (simp [errW_none, errW_some] <;> rfl) | (simp [*, errW_none, errW_some] <;> rfl), by repeat (first | (with_reducible first | exact HB.out | apply below_alloc | apply pw_below_drewN | apply below_drew1) | exact HB.out)⟩
      · rw [if_neg c2] at H
        have c2b0 : (x0_1.toList == ([] : List UInt8)) = false := beq_eq_false_iff_ne.mpr c2
        have c2b1 : (x0_1.toList != ([] : List UInt8)) = true := bne_iff_ne.mpr c2
        by_cases c3 : 0 < (x0_1.size : Int)
        · rw [if_pos c3] at H
          have c3b0 : decide (0 < (x0_1.size : Int)) = true := decide_eq_true c3
          have c3b1 : decide (0 < x0_1.size) = true := decide_eq_true (by omega)
          clear c3
          by_cases c5 : 1 ≤ (x0_1.size : Int)
          · rw [if_pos c5] at H
            have c5b0 := eq_true c5
            have c5b1 : decide (1 ≤ (x0_1.size : Int)) = true := decide_eq_true c5
            clear c5
            by_cases c6 : (bt x0_1 0) = 34
            · rw [if_pos c6] at H
              have c6b0 : ((bt x0_1 0) == 34) = true := beq_iff_eq.mpr c6
              have c6b1 : ((bt x0_1 0) != 34) = false := bne_eq_false_iff_eq.mpr c6
              clear c6
              simp only [Option.some.injEq, Prod.mk.injEq] at H
              obtain ⟨rfl, rfl, rfl⟩ := H
              have p4 : 0 ≤ (0 : Int) := (by omega)
              have q4 : 0 < x0_1.size := (by have : (0 : Int) < (x0_1.size : Int) := of_decide_eq_true (by first | (with_reducible assumption) | assumption); omega)
              have hx4 : ∀ h : 0 < x0_1.size, ((x0_1[0]'h).toNat : Int) = bt x0_1 0 := bt_at x0_1 0
              clear p4
              have qi4 : (0 < (x0_1.size : Int)) = True := eq_true (of_decide_eq_true (by first | (with_reducible assumption) | assumption))
              replace q4 := eq_true q4
              have hcv7 := own_string (P := Tryd.prog) Tryd.underlying57 Tryd.underlying5 Tryd.underlying9 (Kd.own_of_R HO_5.out)
              go_wp2
              go_ret3
              exact ⟨by first | rfl | (simp [errW_none, errW_some] <;> rfl) | (simp [*, errW_none, errW_some] <;> rfl), by repeat (first | (with_reducible first | exact HB.out | apply below_alloc | apply pw_below_drewN | apply below_drew1) | exact HB.out)⟩
            · rw [if_neg c6] at H
              have c6b0 : ((bt x0_1 0) == 34) = false := beq_eq_false_iff_ne.mpr c6
              have c6b1 : ((bt x0_1 0) != 34) = true := bne_iff_ne.mpr c6
              by_cases c8 : (bt x0_1 0) = 92
              · rw [if_pos c8] at H
                have c8b0 : ((bt x0_1 0) == 92) = true := beq_iff_eq.mpr c8
                have c8b1 : ((bt x0_1 0) != 92) = false := bne_eq_false_iff_eq.mpr c8
                clear c8
                have HC9 := Aside0.mk H
                clear H
                have p4 : 0 ≤ (0 : Int) := (by omega)
                have q4 : 0 < x0_1.size := (by have : (0 : Int) < (x0_1.size : Int) := of_decide_eq_true (by first | (with_reducible assumption) | assumption); omega)
                have hx4 : ∀ h : 0 < x0_1.size, ((x0_1[0]'h).toNat : Int) = bt x0_1 0 := bt_at x0_1 0
                clear p4
                have qi4 : (0 < (x0_1.size : Int)) = True := eq_true (of_decide_eq_true (by first | (with_reducible assumption) | assumption))
                replace q4 := eq_true q4
                go_upto_region 9 with (fail)
                go_cut [28] (fun v28 wc => ∃ (kq : Nat) (x28_8 : Bool), v28 = .bool x28_8 ∧ Aside0 (text_unquoted.j1 kq (x0_1.extract 1 x0_1.size) x5_1 x28_8 = some (r1, r2, r3)) ∧ Aside0 (kq ≤ k1) ∧ Aside0 (Kd.R (Kd.int .u8) 5 wc w.heap.size (fun _ => True) u5 x5_1) ∧ Aside0 (Below w.heap.size w wc))
                case first =>
                  have H := HC9.out
                  clear HC9
                  replace H := Option.bind_eq_some_iff.mp H
                  obtain ⟨t144, A100, H⟩ := H
                  replace H : (if t144 = true then (text_unquoted.j1 k1 (x0_1.extract 1 x0_1.size) x5_1 (decide (((x0_1.extract 1 x0_1.size).size : Int) > 2))) else (text_unquoted.j1 k1 (x0_1.extract 1 x0_1.size) x5_1 false)) = some (r1, r2, r3) := H
                  have A10 := Aside0.mk A100
                  clear A100
                  by_cases c11 : t144 = true
                  · subst c11
                    have H1 : (text_unquoted.j1 k1 (x0_1.extract 1 x0_1.size) x5_1 (decide (((x0_1.extract 1 x0_1.size).size : Int) > 2))) = some (r1, r2, r3) := by rw [if_pos rfl] at H; exact H
                    clear H
                    have H := H1
                    clear H1
                    have H' := Aside0.mk H
                    clear H
                    go_wp2_with (first | ((with_reducible refine gate_callee (f := 44) rfl ?_); refine goesL_ (some 30) rfl rfl Tryd.func44 (by kernel_rfl) rfl #[.string (x0_1.extract 1 x0_1.size), .string (⟨#[120]⟩ : ByteArray)] rfl (by (try simp only [List.map_toArray, List.map_cons, List.map_nil]); first | done | rfl | (simp only [List.length_drop, List.length_take]; rfl)) ?_; (with_reducible refine (strings_HasPrefix.calls (x0_1.extract 1 x0_1.size) (⟨#[120]⟩ : ByteArray) true _ A10.out).mono ?_); rintro e w' ⟨rfl, ⟨nd, rfl⟩⟩; refine ⟨_, rfl, ?_⟩))
                    go_meet
                    case rel => exact ⟨_, (decide (((x0_1.extract 1 x0_1.size).size : Int) > 2)), (by first | rfl | (simp; done) | (simp [*]; done)), H', ⟨by have := HK1.out; first | omega | exact Nat.le_refl _⟩, ⟨by (with_reducible repeat (first | apply Kd.R_alloc | apply Kd.R_drewN | apply Kd.R_drew)); exact HO_5.out⟩, ⟨by repeat (first | (with_reducible first | exact HB.out | apply below_alloc | apply pw_below_drewN | apply below_drew1) | exact HB.out)⟩⟩
                  · replace c11 := Bool.eq_false_iff.mpr c11
                    subst c11
                    have H1 : (text_unquoted.j1 k1 (x0_1.extract 1 x0_1.size) x5_1 false) = some (r1, r2, r3) := by rw [if_neg (show ¬ (false = true) by decide)] at H; exact H
                    clear H
                    have H := H1
                    clear H1
                    have H' := Aside0.mk H
                    clear H
                    go_wp2_with (first | ((with_reducible refine gate_callee (f := 44) rfl ?_); refine goesL_ (some 30) rfl rfl Tryd.func44 (by kernel_rfl) rfl #[.string (x0_1.extract 1 x0_1.size), .string (⟨#[120]⟩ : ByteArray)] rfl (by (try simp only [List.map_toArray, List.map_cons, List.map_nil]); first | done | rfl | (simp only [List.length_drop, List.length_take]; rfl)) ?_; (with_reducible refine (strings_HasPrefix.calls (x0_1.extract 1 x0_1.size) (⟨#[120]⟩ : ByteArray) false _ A10.out).mono ?_); rintro e w' ⟨rfl, ⟨nd, rfl⟩⟩; refine ⟨_, rfl, ?_⟩))
                    go_meet
                    case rel => exact ⟨_, (false), (by first | rfl | (simp; done) | (simp [*]; done)), H', ⟨by have := HK1.out; first | omega | exact Nat.le_refl _⟩, ⟨by (with_reducible repeat (first | apply Kd.R_alloc | apply Kd.R_drewN | apply Kd.R_drew)); exact HO_5.out⟩, ⟨by repeat (first | (with_reducible first | exact HB.out | apply below_alloc | apply pw_below_drewN | apply below_drew1) | exact HB.out)⟩⟩
                case rest =>
                  clear HC9
                  try clear c1
                  try clear c2
                  try clear c2b0
                  try clear c2b1
                  try clear p2
                  try clear c3
                  try clear c3b0
                  try clear c3b1
                  try clear c4
                  try clear p4
                  try clear q4
                  try clear hx4
                  try clear qi4
                  try clear c5
                  try clear c5b0
                  try clear c5b1
                  try clear c6
                  try clear c6b0
                  try clear c6b1
                  try clear hcv7
                  try clear c8
                  try clear c8b0
                  try clear c8b1
                  try clear c11
                  try clear p4
                  try clear q4
                  obtain ⟨kq, x28_8, rfl, HA, HJ8, HO_5, HB⟩ := hcut
                  generalize x0_1.extract 1 x0_1.size = sx0_ at HA ⊢
                  cases kq with
                  | zero => exact absurd HA.out (by simp [text_unquoted.j1])
                  | succ kj8 =>
                    have H := HA.out
                    clear HA
                    simp only [text_unquoted.j1] at H
                    by_cases c12 : x28_8 = true
                    · subst c12
                      have H1 : (if 1 ≤ 3 then (if 3 ≤ (sx0_.size : Int) then ((text_unhexed.f kj8 (sx0_.extract 1 3)).bind fun bt145 => (if bt145.2.toList = ([] : List UInt8) then (if x5_1.length + bt145.1.size < 140737488355328 then (text_unquoted.l0 kj8 (sx0_.extract 3 sx0_.size) (x5_1 ++ bytesOf bt145.1)) else (none)) else (some ((⟨#[]⟩ : ByteArray), (⟨#[]⟩ : ByteArray), false)))) else (none)) else (none)) = some (r1, r2, r3) := by rw [if_pos rfl] at H; exact H
                      clear H
                      have H := H1
                      clear H1
                      by_cases c13 : 1 ≤ 3
                      · rw [if_pos c13] at H
                        have c13b0 := eq_true c13
                        have c13b1 : decide (1 ≤ 3) = true := decide_eq_true c13
                        clear c13
                        by_cases c14 : 3 ≤ (sx0_.size : Int)
                        · rw [if_pos c14] at H
                          have c14b0 := eq_true c14
                          have c14b1 : decide (3 ≤ (sx0_.size : Int)) = true := decide_eq_true c14
                          clear c14
                          replace H := Option.bind_eq_some_iff.mp H
                          obtain ⟨⟨t145, t146⟩, A150, H⟩ := H
                          replace H : (if t146.toList = ([] : List UInt8) then (if x5_1.length + t145.size < 140737488355328 then (text_unquoted.l0 kj8 (sx0_.extract 3 sx0_.size) (x5_1 ++ bytesOf t145)) else (none)) else (some ((⟨#[]⟩ : ByteArray), (⟨#[]⟩ : ByteArray), false))) = some (r1, r2, r3) := H
                          have A15 := Aside0.mk A150
                          clear A150
                          by_cases c16 : t146.toList = ([] : List UInt8)
                          · rw [if_pos c16] at H
                            have c16b0 : (t146.toList == ([] : List UInt8)) = true := beq_iff_eq.mpr c16
                            have c16b1 : (t146.toList != ([] : List UInt8)) = false := bne_eq_false_iff_eq.mpr c16
                            clear c16
                            by_cases c17 : x5_1.length + t145.size < 140737488355328
                            · rw [if_pos c17] at H
                              have LMc17 := Aside0.mk c17
                              clear c17
                              obtain ⟨y147, hy147⟩ : ∃ y_ : List Int, y_ = (x5_1 ++ bytesOf t145) := ⟨_, rfl⟩
                              replace H : (text_unquoted.l0 kj8 (sx0_.extract 3 sx0_.size) y147) = some (r1, r2, r3) := by first | (rw [hy147]; with_reducible exact H) | (have H2_ := (Option.bind_some _ _).symm.trans H; rw [hy147]; with_reducible exact H2_) | (have H2_ := (Option.bind_some _ _).symm.trans H; with_reducible exact H2_) | with_reducible exact H | (rw [hy147]; exact H) | exact H
                              have Ny147 := Aside0.mk hy147
                              clear hy147
                              have c18b0 := eq_true (of_decide_eq_true (by first | (with_reducible assumption) | assumption) : 3 ≤ (sx0_.size : Int))
                              have H' := Aside0.mk H
                              clear H
                              go_wp2_with (first | ((with_reducible refine gate_callee (f := 51) rfl ?_); refine goesL_ (some 39) rfl rfl Tryd.func51 (by kernel_rfl) rfl #[.string (sx0_.extract 1 3)] rfl (by (try simp only [List.map_toArray, List.map_cons, List.map_nil]); first | done | rfl | (simp only [List.length_drop, List.length_take]; rfl)) ?_; (with_reducible refine (text_unhexed.calls kj8 (sx0_.extract 1 3) t145 t146 _ A15.out).mono ?_); rintro e w19 ⟨rfl, hb⟩; refine ⟨_, rfl, ?_⟩; have n0_ := Aside0.mk (Kd.R_below (by (with_reducible repeat (first | apply Kd.R_alloc | apply Kd.R_drewN | apply Kd.R_drew)); exact HO_5.out) hb); have n1_ := Aside0.mk (below_step (by repeat (first | (with_reducible first | exact HB.out | apply below_alloc | apply pw_below_drewN | apply below_drew1) | exact HB.out)) hb); clear HO_5; clear HB; have HO_5 := n0_; have HB := n1_; clear n0_ n1_; (try clear hb); (try clear hb2); (try clear hk); (try clear hi)) | (at_builtin; refine print_append_str (w0 := w) w.heap.size rfl (.tmp 44) _ 57 9 5 rfl Tryd.underlying57 Tryd.underlying9 info5 u5 x5_1 t145 rfl rfl ?aO ?aB ?aS ?aL ?_; (case aB => exact (by repeat (first | (with_reducible first | exact HB.out | apply below_alloc | apply pw_below_drewN | apply below_drew1) | exact HB.out))); (case aO => exact (Kd.own_of_R (by (with_reducible repeat (first | apply Kd.R_alloc | apply Kd.R_drewN | apply Kd.R_drew)); exact HO_5.out))); (case aS => exact (below_size (by repeat (first | (with_reducible first | exact HB.out | apply below_alloc | apply pw_below_drewN | apply below_drew1) | exact HB.out)))); (case aL => have := LMc17.out; omega); intro v148 w20 ho0 hb hg; have ho := Kd.R_of_own (h1 := fun _ => rfl) (ok := fun _ => True) ho0 (fun _ _ => trivial); clear ho0; have hat := True.intro; rw [← Ny147.out] at ho; change Kd.R (Kd.int .u8) 5 w20 w.heap.size (fun _ => True) v148 y147 at ho; have n0_ := Aside0.mk (hb); have n1_ := Aside0.mk (ho); clear HB; clear HO_5; have HB := n0_; have HO149 := n1_; clear n0_ n1_; clear ho hb hg hat))
                              go_roundg kj8
                              case measure => have := HK1.out; have := HJ8.out; omega
                              case rel => exact ⟨(sx0_.extract 3 sx0_.size), (y147), (by first | rfl | (simp; done) | (simp [*]; done)), H', ⟨by have := HK1.out; have := HJ8.out; omega⟩, ⟨by (with_reducible repeat (first | apply Kd.R_alloc | apply Kd.R_drewN | apply Kd.R_drew)); exact HO149.out⟩, ⟨by repeat (first | (with_reducible first | exact HB.out | apply below_alloc | apply pw_below_drewN | apply below_drew1) | exact HB.out)⟩⟩
                            · rw [if_neg c17] at H
                              exact absurd H (by simp)
                          · rw [if_neg c16] at H
                            have c16b0 : (t146.toList == ([] : List UInt8)) = false := beq_eq_false_iff_ne.mpr c16
                            have c16b1 : (t146.toList != ([] : List UInt8)) = true := bne_iff_ne.mpr c16
                            simp only [Option.some.injEq, Prod.mk.injEq] at H
                            obtain ⟨rfl, rfl, rfl⟩ := H
                            go_wp2_with (first | ((with_reducible refine gate_callee (f := 51) rfl ?_); refine goesL_ (some 39) rfl rfl Tryd.func51 (by kernel_rfl) rfl #[.string (sx0_.extract 1 3)] rfl (by (try simp only [List.map_toArray, List.map_cons, List.map_nil]); first | done | rfl | (simp only [List.length_drop, List.length_take]; rfl)) ?_; (with_reducible refine (text_unhexed.calls kj8 (sx0_.extract 1 3) t145 t146 _ A15.out).mono ?_); rintro e w21 ⟨rfl, hb⟩; refine ⟨_, rfl, ?_⟩; have n0_ := Aside0.mk (Kd.R_below (by (with_reducible repeat (first | apply Kd.R_alloc | apply Kd.R_drewN | apply Kd.R_drew)); exact HO_5.out) hb); have n1_ := Aside0.mk (below_step (by repeat (first | (with_reducible first | exact HB.out | apply below_alloc | apply pw_below_drewN | apply below_drew1) | exact HB.out)) hb); clear HO_5; clear HB; have HO_5 := n0_; have HB := n1_; clear n0_ n1_; (try clear hb); (try clear hb2); (try clear hk); (try clear hi)))
                            go_ret3
                            exact ⟨by first | rfl | (simp [errW_none, errW_some] <;> rfl) | (simp [*, errW_none, errW_some] <;> rfl), by repeat (first | (with_reducible first | exact HB.out | apply below_alloc | apply pw_below_drewN | apply below_drew1) | exact HB.out)⟩
                        · rw [if_neg c14] at H
                          exact absurd H (by simp)
                      · rw [if_neg c13] at H
                        exact absurd H (by simp)
                    · replace c12 := Bool.eq_false_iff.mpr c12
                      subst c12
                      have H1 : (if sx0_.toList = ([] : List UInt8) then (text_unquoted.l0 kj8 sx0_ x5_1) else (if 0 < (sx0_.size : Int) then (if x5_1.length < 140737488355328 then (if 1 ≤ (sx0_.size : Int) then (text_unquoted.l0 kj8 (sx0_.extract 1 sx0_.size) (x5_1 ++ [bt sx0_ 0])) else (none)) else (none)) else (none))) = some (r1, r2, r3) := by rw [if_neg (show ¬ (false = true) by decide)] at H; exact H
                      clear H
                      have H := H1
                      clear H1
                      by_cases c22 : sx0_.toList = ([] : List UInt8)
                      · rw [if_pos c22] at H
                        have c22b0 : (sx0_.toList == ([] : List UInt8)) = true := beq_iff_eq.mpr c22
                        have c22b1 : (sx0_.toList != ([] : List UInt8)) = false := bne_eq_false_iff_eq.mpr c22
                        clear c22
                        have H' := Aside0.mk H
                        clear H
                        go_wp2
                        go_roundg kj8
                        case measure => have := HK1.out; have := HJ8.out; omega
                        case rel => exact ⟨(sx0_), (x5_1), (by first | rfl | (simp; done) | (simp [*]; done)), H', ⟨by have := HK1.out; have := HJ8.out; omega⟩, ⟨by (with_reducible repeat (first | apply Kd.R_alloc | apply Kd.R_drewN | apply Kd.R_drew)); exact HO_5.out⟩, ⟨by repeat (first | (with_reducible first | exact HB.out | apply below_alloc | apply pw_below_drewN | apply below_drew1) | exact HB.out)⟩⟩
                      · rw [if_neg c22] at H
                        have c22b0 : (sx0_.toList == ([] : List UInt8)) = false := beq_eq_false_iff_ne.mpr c22
                        have c22b1 : (sx0_.toList != ([] : List UInt8)) = true := bne_iff_ne.mpr c22
                        by_cases c23 : 0 < (sx0_.size : Int)
                        · rw [if_pos c23] at H
                          have c23b0 : decide (0 < (sx0_.size : Int)) = true := decide_eq_true c23
                          have c23b1 : decide (0 < sx0_.size) = true := decide_eq_true (by omega)
                          (try (have c23b2 : (0 < (x0_1.size - 1)) = True := eq_true (by have h_ := c23; (try simp only [ByteArray.size_append, ByteArray.size_extract] at h_); omega)))
                          clear c23
                          by_cases c25 : x5_1.length < 140737488355328
                          · rw [if_pos c25] at H
                            have LMc25 := Aside0.mk c25
                            clear c25
                            obtain ⟨y150, hy150⟩ : ∃ y_ : List Int, y_ = (x5_1 ++ [bt sx0_ 0]) := ⟨_, rfl⟩
                            replace H : (if 1 ≤ (sx0_.size : Int) then (text_unquoted.l0 kj8 (sx0_.extract 1 sx0_.size) y150) else (none)) = some (r1, r2, r3) := by first | (rw [hy150]; with_reducible exact H) | (have H2_ := (Option.bind_some _ _).symm.trans H; rw [hy150]; with_reducible exact H2_) | (have H2_ := (Option.bind_some _ _).symm.trans H; with_reducible exact H2_) | with_reducible exact H | (rw [hy150]; exact H) | exact H
                            have Ny150 := Aside0.mk hy150
                            clear hy150
                            by_cases c26 : 1 ≤ (sx0_.size : Int)
                            · rw [if_pos c26] at H
                              have c26b0 := eq_true c26
                              have c26b1 : decide (1 ≤ (sx0_.size : Int)) = true := decide_eq_true c26
                              clear c26
                              have H' := Aside0.mk H
                              clear H
                              have p24 : 0 ≤ (0 : Int) := (by omega)
                              have q24 : 0 < sx0_.size := (by have : (0 : Int) < (sx0_.size : Int) := of_decide_eq_true (by first | (with_reducible assumption) | assumption); omega)
                              have hx24 : ∀ h : 0 < sx0_.size, ((sx0_[0]'h).toNat : Int) = bt sx0_ 0 := bt_at sx0_ 0
                              clear p24
                              have qi24 : (0 < (sx0_.size : Int)) = True := eq_true (of_decide_eq_true (by first | (with_reducible assumption) | assumption))
                              replace q24 := eq_true q24
                              go_wp2_with (first | ((with_reducible refine gate_builtin (b := .append) (xs := #[.tmp 52, .tmp 55]) rfl ?_); (try (refine gate_guard (by rfl) ?_; dsimp only)); at_builtin; refine Kd.R_append (Kd.int .u8) (w0 := w) w.heap.size rfl (.tmp 52) (.tmp 55) 57 5 (.int .u8 0) 1 rfl Tryd.underlying57 info5 rfl (by decide) (by omega) u5 x5_1 (bt sx0_ 0) [.int .u8 (bt sx0_ 0)] (fun _ => True) (fun _ => False) rfl rfl ?aP (fun _ hk => hk.elim) ?aF ?aO ?aB ?aS ?aL ?_; (case aP => exact rfl); (case aB => exact (by repeat (first | (with_reducible first | exact HB.out | apply below_alloc | apply pw_below_drewN | apply below_drew1) | exact HB.out))); (case aF => exact (fun _ _ => trivial)); (case aO => exact (by (with_reducible repeat (first | apply Kd.R_alloc | apply Kd.R_drewN | apply Kd.R_drew)); exact HO_5.out)); (case aS => exact (below_size (by repeat (first | (with_reducible first | exact HB.out | apply below_alloc | apply pw_below_drewN | apply below_drew1) | exact HB.out)))); (case aL => have := LMc25.out; omega); intro v151 w27 ho hb hg hat; rw [← Ny150.out] at ho; have n0_ := Aside0.mk (hb); have n1_ := Aside0.mk (ho); clear HB; clear HO_5; have HB := n0_; have HO152 := n1_; clear n0_ n1_; clear ho hb hg hat))
                              go_roundg kj8
                              case measure => have := HK1.out; have := HJ8.out; omega
                              case rel => exact ⟨(sx0_.extract 1 sx0_.size), (y150), (by first | rfl | (simp; done) | (simp [*]; done)), H', ⟨by have := HK1.out; have := HJ8.out; omega⟩, ⟨by (with_reducible repeat (first | apply Kd.R_alloc | apply Kd.R_drewN | apply Kd.R_drew)); exact HO152.out⟩, ⟨by repeat (first | (with_reducible first | exact HB.out | apply below_alloc | apply pw_below_drewN | apply below_drew1) | exact HB.out)⟩⟩
                            · rw [if_neg c26] at H
                              exact absurd H (by simp)
                          · rw [if_neg c25] at H
                            exact absurd H (by simp)
                        · rw [if_neg c23] at H
                          exact absurd H (by simp)
              · rw [if_neg c8] at H
                have c8b0 : ((bt x0_1 0) == 92) = false := beq_eq_false_iff_ne.mpr c8
                have c8b1 : ((bt x0_1 0) != 92) = true := bne_iff_ne.mpr c8
                by_cases c28 : x5_1.length < 140737488355328
                · rw [if_pos c28] at H
                  have LMc28 := Aside0.mk c28
                  clear c28
                  obtain ⟨y153, hy153⟩ : ∃ y_ : List Int, y_ = (x5_1 ++ [bt x0_1 0]) := ⟨_, rfl⟩
                  replace H : (text_unquoted.l0 k1 (x0_1.extract 1 x0_1.size) y153) = some (r1, r2, r3) := by first | (rw [hy153]; with_reducible exact H) | (have H2_ := (Option.bind_some _ _).symm.trans H; rw [hy153]; with_reducible exact H2_) | (have H2_ := (Option.bind_some _ _).symm.trans H; with_reducible exact H2_) | with_reducible exact H | (rw [hy153]; exact H) | exact H
                  have Ny153 := Aside0.mk hy153
                  clear hy153
                  have H' := Aside0.mk H
                  clear H
                  have p4 : 0 ≤ (0 : Int) := (by omega)
                  have q4 : 0 < x0_1.size := (by have : (0 : Int) < (x0_1.size : Int) := of_decide_eq_true (by first | (with_reducible assumption) | assumption); omega)
                  have hx4 : ∀ h : 0 < x0_1.size, ((x0_1[0]'h).toNat : Int) = bt x0_1 0 := bt_at x0_1 0
                  clear p4
                  have qi4 : (0 < (x0_1.size : Int)) = True := eq_true (of_decide_eq_true (by first | (with_reducible assumption) | assumption))
                  replace q4 := eq_true q4
                  go_wp2_with (first | ((with_reducible refine gate_builtin (b := .append) (xs := #[.tmp 24, .tmp 26]) rfl ?_); (try (refine gate_guard (by rfl) ?_; dsimp only)); at_builtin; refine Kd.R_append (Kd.int .u8) (w0 := w) w.heap.size rfl (.tmp 24) (.tmp 26) 57 5 (.int .u8 0) 1 rfl Tryd.underlying57 info5 rfl (by decide) (by omega) u5 x5_1 (bt x0_1 0) [.int .u8 (bt x0_1 0)] (fun _ => True) (fun _ => False) rfl rfl ?aP (fun _ hk => hk.elim) ?aF ?aO ?aB ?aS ?aL ?_; (case aP => exact rfl); (case aB => exact (by repeat (first | (with_reducible first | exact HB.out | apply below_alloc | apply pw_below_drewN | apply below_drew1) | exact HB.out))); (case aF => exact (fun _ _ => trivial)); (case aO => exact (by (with_reducible repeat (first | apply Kd.R_alloc | apply Kd.R_drewN | apply Kd.R_drew)); exact HO_5.out)); (case aS => exact (below_size (by repeat (first | (with_reducible first | exact HB.out | apply below_alloc | apply pw_below_drewN | apply below_drew1) | exact HB.out)))); (case aL => have := LMc28.out; omega); intro v154 w29 ho hb hg hat; rw [← Ny153.out] at ho; have n0_ := Aside0.mk (hb); have n1_ := Aside0.mk (ho); clear HB; clear HO_5; have HB := n0_; have HO155 := n1_; clear n0_ n1_; clear ho hb hg hat))
                  go_roundg k1
                  case measure => have := HK1.out; omega
                  case rel => exact ⟨(x0_1.extract 1 x0_1.size), (y153), (by first | rfl | (simp; done) | (simp [*]; done)), H', ⟨by have := HK1.out; omega⟩, ⟨by (with_reducible repeat (first | apply Kd.R_alloc | apply Kd.R_drewN | apply Kd.R_drew)); exact HO155.out⟩, ⟨by repeat (first | (with_reducible first | exact HB.out | apply below_alloc | apply pw_below_drewN | apply below_drew1) | exact HB.out)⟩⟩
                · rw [if_neg c28] at H
                  exact absurd H (by simp)
          · rw [if_neg c5] at H
            exact absurd H (by simp)
        · rw [if_neg c3] at H
          exact absurd H (by simp)

end Go.Proofs.YtpjfhdbkkomogaaDoor.Px
/- What the program's reading of a quoted string comes to, on what its printing writes. -/
namespace Go.Proofs.YtpjfhdbkkomogaaDoor.Mb
open Go.RowKit Go.Proofs.YtpjfhdbkkomogaaDoorW.PrintWords Go.Proofs.YtpjfhdbkkomogaaDoor.Px Go.Proofs.YtpjfhdbkkomogaaDoor.Gvn

/-- A digit's number; -1: it is none. -/
def dg (c : UInt8) : Int := Lib.indexByte DG c
theorem digit_is (c : UInt8) : text_digit.f (c.toNat : Int) = some (dg c) := by
  unfold text_digit.f strings_IndexByte.f
  rw [Option.bind_some]
  congr 1
  have : (c.toNat : Int).toNat.toUInt8 = c := by simp
  rw [this]
  rfl
theorem dg_hx : ∀ n, n < 16 → dg (hx n) = n := by decide
theorem hasPrefix_is (l p : List UInt8) : strings_HasPrefix.f (B l) (B p) = some (l.take p.length == p) := by
  unfold strings_HasPrefix.f stringslite_HasPrefix.f
  by_cases h : p.length ≤ l.length
  · rw [if_pos (by rw [size_B, size_B]; omega), if_pos (by rw [size_B]; omega), if_pos (by rw [size_B, size_B]; omega), Option.bind_some]
    rw [extract_B, toList_B, toList_B, size_B]
    simp
  · rw [if_neg (by rw [size_B, size_B]; omega), Option.bind_some]
    congr 1
    symm
    rw [beq_eq_false_iff_ne]
    intro he
    have := congrArg List.length he
    rw [List.length_take] at this
    omega
theorem or_lt (a b : Nat) (ha : a < 16) (hb : b < 16) : Go.bits .or .i64 (wrap64 ((a : Int) * 16)) (b : Int) = ((16 * a + b : Nat) : Int) := by
  have hw : wrap64 ((a : Int) * 16) = ((16 * a : Nat) : Int) := by rw [wrap_in _ (by omega) (by omega)]; omega
  rw [hw]
  have e : (BitVec.ofInt 64 ((16 * a : Nat) : Int) ||| BitVec.ofInt 64 (b : Int)).toNat = 16 * a + b := by
    rw [BitVec.toNat_or, bv_nat _ (by omega), bv_nat _ (by omega)]
    have h4 := Nat.two_pow_add_eq_or_of_lt (show b < 2 ^ 4 from hb) a
    rw [show (2 ^ 4 : Nat) = 16 from rfl] at h4
    exact h4.symm
  show IntKind.i64.wrap ((BitVec.ofInt 64 ((16 * a : Nat) : Int) ||| BitVec.ofInt 64 (b : Int)).toNat : Int) = _
  rw [e]
  rw [YtpjfhdbkkomogaaDoorW.PrintLast.i64_w]
  exact wrap_in _ (by omega) (by omega)
theorem or_byte (c : UInt8) : Go.bits .or .i64 (wrap64 (((c.toNat / 16 : Nat) : Int) * 16)) ((c.toNat % 16 : Nat) : Int) % 256 = (c.toNat : Int) := by
  have hc := c.toNat_lt
  rw [or_lt _ _ (by omega) (by omega)]
  omega
theorem bt_two0 (c : UInt8) (m : List UInt8) : bt (B (two c ++ m)) 0 = ((hx (c.toNat / 16)).toNat : Int) := bt_cons _ _
theorem bt_two1 (c : UInt8) (m : List UInt8) : bt (B (two c ++ m)) 1 = ((hx (c.toNat % 16)).toNat : Int) := bt_cons2 _ _ _
theorem size_two (c : UInt8) (m : List UInt8) : (B (two c ++ m)).size = m.length + 2 := by rw [size_B, List.length_append, Nat.add_comm]; rfl
theorem tail_two (c : UInt8) (m : List UInt8) : (B (two c ++ m)).extract 2 (B (two c ++ m)).size = B m := by rw [tail_B]; rfl
theorem digit_hi (c : UInt8) : text_digit.f ((hx (c.toNat / 16)).toNat : Int) = some ((c.toNat / 16 : Nat) : Int) := by
  have hc := c.toNat_lt
  rw [digit_is, dg_hx _ (by omega)]
theorem digit_lo (c : UInt8) : text_digit.f ((hx (c.toNat % 16)).toNat : Int) = some ((c.toNat % 16 : Nat) : Int) := by
  rw [digit_is, dg_hx _ (by omega)]
/-- Two digits are read as a byte. -/
theorem unhexed_step (k : Nat) (c : UInt8) (m acc : List UInt8) (hl : acc.length < 1000000) :
    text_unhexed.l0 (k + 2) (B (two c ++ m)) (N acc) = text_unhexed.l0 k (B m) (N (acc ++ [c])) := by
  have n1 : ((c.toNat / 16 : Nat) : Int) ≥ 0 := by omega
  have n2 : ((c.toNat % 16 : Nat) : Int) ≥ 0 := by omega
  have s1 : ((B (two c ++ m)).size : Int) > 1 := by rw [size_two]; omega
  have s0 : (0 : Int) < ((B (two c ++ m)).size : Int) := by rw [size_two]; omega
  have s2 : (2 : Int) ≤ ((B (two c ++ m)).size : Int) := by rw [size_two]; omega
  have sa : (N acc).length < 140737488355328 := by rw [N_length]; omega
  rw [text_unhexed.l0, if_pos s1, if_pos s0, bt_two0, digit_hi, Option.bind_some, if_pos n1, if_pos s1, bt_two1, digit_lo, Option.bind_some]
  rw [text_unhexed.j1, if_pos (decide_eq_true n2), if_pos s0, bt_two0, digit_hi, Option.bind_some, if_pos s1, bt_two1, digit_lo, Option.bind_some, if_pos sa, if_pos s2, tail_two, or_byte]
  rw [show ([(c.toNat : Int)] : List Int) = N [c] from rfl, N_append]
/-- What is no digit ends it. -/
theorem unhexed_end (k : Nat) (m acc : List UInt8) (hm : m = [] ∨ ∃ c r, m = c :: r ∧ dg c < 0) :
    text_unhexed.l0 (k + 2) (B m) (N acc) = some (B acc, B m) := by
  have fin : text_unhexed.j1 (k + 1) (B m) (N acc) false = some (B acc, B m) := by
    rw [text_unhexed.j1, if_neg (by simp), str_N]
  rw [text_unhexed.l0]
  by_cases h : ((B m).size : Int) > 1
  · rcases hm with rfl | ⟨c, r, rfl, hc⟩
    · rw [size_B] at h; simp at h
    · rw [if_pos h, if_pos (by omega), bt_cons, digit_is, Option.bind_some, if_neg (by omega), fin]
  · rw [if_neg h, fin]
theorem unhexed_is (l : List UInt8) : ∀ (m acc : List UInt8), (m = [] ∨ ∃ c r, m = c :: r ∧ dg c < 0) → acc.length + l.length < 1000000 →
    ∃ k, text_unhexed.l0 k (B (hexL l ++ m)) (N acc) = some (B (acc ++ l), B m) := by
  induction l with
  | nil => intro m acc hm _; exact ⟨2, by rw [List.append_nil]; exact unhexed_end 0 m acc hm⟩
  | cons c l ih =>
    intro m acc hm hl
    rw [List.length_cons] at hl
    obtain ⟨k, hk⟩ := ih m (acc ++ [c]) hm (by rw [List.length_append, List.length_singleton]; omega)
    refine ⟨k + 2, ?_⟩
    rw [show hexL (c :: l) ++ m = two c ++ (hexL l ++ m) by rw [show hexL (c :: l) = two c ++ hexL l from rfl, List.append_assoc]]
    rw [unhexed_step k c _ acc (by omega), hk, List.append_assoc]
    rfl
theorem unhexed_two (k : Nat) (c : UInt8) (hk : 8 ≤ k) : text_unhexed.f k (B (two c)) = some (B [c], B []) := by
  obtain ⟨k, rfl⟩ : ∃ m, k = m + 4 := ⟨k - 4, by omega⟩
  have h := unhexed_step (k + 2) c [] [] (by decide)
  rw [List.append_nil] at h
  unfold text_unhexed.f
  exact h.trans (unhexed_end k [] [c] (.inl rfl))
theorem cons_ne (c : UInt8) (l : List UInt8) : ¬ ((B (c :: l)).toList = ([] : List UInt8)) := by rw [toList_B]; simp
theorem size_cons (c : UInt8) (l : List UInt8) : (B (c :: l)).size = l.length + 1 := rfl
theorem tail1 (c : UInt8) (l : List UInt8) : (B (c :: l)).extract 1 (B (c :: l)).size = B l := tail_B (c :: l) 1
theorem b_34 (c : UInt8) : c ≠ 34 ↔ ¬ ((c.toNat : Int) = 34) :=
  not_congr ⟨fun h => by rw [h]; decide, fun h => UInt8.toNat_inj.1 (by rw [show (34 : UInt8).toNat = 34 by decide]; omega)⟩
theorem b_92 (c : UInt8) : c ≠ 92 ↔ ¬ ((c.toNat : Int) = 92) :=
  not_congr ⟨fun h => by rw [h]; decide, fun h => UInt8.toNat_inj.1 (by rw [show (92 : UInt8).toNat = 92 by decide]; omega)⟩
/-- One plain byte. -/
theorem unq_plain (k : Nat) (c : UInt8) (m acc : List UInt8) (h34 : c ≠ 34) (h92 : c ≠ 92) (hl : acc.length < 1000000) :
    text_unquoted.l0 (k + 1) (B (c :: m)) (N acc) = text_unquoted.l0 k (B m) (N (acc ++ [c])) := by
  have a34 := (b_34 c).1 h34
  have a92 := (b_92 c).1 h92
  simp only [text_unquoted.l0, bt_cons, tail1]
  rw [if_neg (cons_ne c m), if_pos (by rw [size_cons]; omega), if_pos (by rw [size_cons]; omega), if_neg a34, if_neg a92, if_pos (by rw [N_length]; omega)]
  rw [show ([(c.toNat : Int)] : List Int) = N [c] from rfl, N_append]
/-- A byte behind a stroke. -/
theorem unq_stroke (k : Nat) (c : UInt8) (m acc : List UInt8) (hx : c ≠ 120) (hl : acc.length < 1000000) :
    text_unquoted.l0 (k + 2) (B (92 :: c :: m)) (N acc) = text_unquoted.l0 k (B m) (N (acc ++ [c])) := by
  have hp := hasPrefix_is (c :: m) [120]
  have hf : ((c :: m).take ([120] : List UInt8).length == [120]) = false := by simp [hx]
  rw [hf] at hp
  simp only [text_unquoted.l0, bt_cons, tail1]
  rw [if_neg (cons_ne 92 _), if_pos (by rw [size_cons]; omega), if_pos (by rw [size_cons]; omega), if_neg (by decide), if_pos (by decide)]
  rw [show (⟨#[120]⟩ : ByteArray) = B [120] from rfl, hp, Option.bind_some, if_neg (by simp)]
  simp only [text_unquoted.j1, bt_cons, tail1]
  rw [if_neg (by simp), if_neg (cons_ne c m), if_pos (by rw [size_cons]; omega), if_pos (by rw [N_length]; omega), if_pos (by rw [size_cons]; omega)]
  rw [show ([(c.toNat : Int)] : List Int) = N [c] from rfl, N_append]
/-- A byte in digits. -/
theorem unq_hex (k : Nat) (c : UInt8) (m acc : List UInt8) (hk : 8 ≤ k) (hl : acc.length < 1000000) :
    text_unquoted.l0 (k + 2) (B (92 :: 120 :: two c ++ m)) (N acc) = text_unquoted.l0 k (B m) (N (acc ++ [c])) := by
  have hp := hasPrefix_is (120 :: (two c ++ m)) [120]
  have hf : ((120 :: (two c ++ m)).take ([120] : List UInt8).length == [120]) = true := by simp
  rw [hf] at hp
  have hl2 : (two c ++ m).length = m.length + 2 := by simp [two]
  rw [show (92 :: 120 :: two c ++ m : List UInt8) = 92 :: 120 :: (two c ++ m) from rfl]
  simp only [text_unquoted.l0, bt_cons, tail1]
  rw [if_neg (cons_ne 92 _), if_pos (by rw [size_cons]; omega), if_pos (by rw [size_cons]; omega), if_neg (by decide), if_pos (by decide)]
  rw [show (⟨#[120]⟩ : ByteArray) = B [120] from rfl, hp, Option.bind_some, if_pos rfl]
  simp only [text_unquoted.j1]
  rw [if_pos (by rw [size_cons, hl2, decide_eq_true_eq]; omega), if_pos (by omega), if_pos (by rw [size_cons, hl2]; omega)]
  have e1 : (B (120 :: (two c ++ m))).extract 1 3 = B (two c) := by rw [extract_B]; rfl
  have e3 : (B (120 :: (two c ++ m))).extract 3 (B (120 :: (two c ++ m))).size = B m := by rw [tail_B]; rfl
  rw [e1, unhexed_two k c hk, Option.bind_some]
  simp only []
  rw [if_pos (toList_B []), if_pos (by rw [N_length, size_cons]; simp; omega), e3, bytesOf_B, N_append]
theorem unq_esc (k : Nat) (c : UInt8) (m acc : List UInt8) (hk : 8 ≤ k) (hl : acc.length < 1000000) :
    ∃ j, k ≤ j ∧ j ≤ k + 2 ∧ text_unquoted.l0 j (B (esc c ++ m)) (N acc) = text_unquoted.l0 k (B m) (N (acc ++ [c])) := by
  unfold esc
  by_cases h : c = 34 ∨ c = 92
  · rw [if_pos h]
    exact ⟨k + 2, by omega, by omega, unq_stroke k c m acc (by rcases h with rfl | rfl <;> decide) hl⟩
  · rw [if_neg h]
    by_cases h2 : c < 32 ∨ 126 < c
    · rw [if_pos h2]; exact ⟨k + 2, by omega, by omega, unq_hex k c m acc hk hl⟩
    · rw [if_neg h2]; exact ⟨k + 1, by omega, by omega, unq_plain k c m acc (fun e => h (.inl e)) (fun e => h (.inr e)) hl⟩
theorem unq_back (l : List UInt8) : ∀ (acc r : List UInt8), acc.length + l.length < 1000000 →
    ∃ k, text_unquoted.l0 k (B (l.flatMap esc ++ 34 :: r)) (N acc) = some (B (acc ++ l), B r, true) ∧ 8 ≤ k := by
  induction l with
  | nil =>
    intro acc r hl
    refine ⟨9, ?_, by omega⟩
    rw [List.flatMap_nil, List.nil_append, List.append_nil]
    simp only [text_unquoted.l0, bt_cons, tail1]
    rw [if_neg (cons_ne 34 _), if_pos (by rw [size_cons]; omega), if_pos (by rw [size_cons]; omega), if_pos (by decide), str_N]
  | cons c l ih =>
    intro acc r hl
    obtain ⟨k, hk, h8⟩ := ih (acc ++ [c]) r (by simp at hl ⊢; omega)
    obtain ⟨j, hj, _, he⟩ := unq_esc k c (l.flatMap esc ++ 34 :: r) acc h8 (by simp at hl; omega)
    refine ⟨j, ?_, by omega⟩
    rw [List.flatMap_cons, List.append_assoc, he, hk, List.append_assoc]
    rfl
theorem unq_open (l : List UInt8) : ∀ (acc : List UInt8), acc.length + l.length < 1000000 →
    ∃ k, text_unquoted.l0 k (B (l.flatMap esc)) (N acc) = some (B [], B [], false) ∧ 8 ≤ k := by
  induction l with
  | nil =>
    intro acc hl
    refine ⟨9, ?_, by omega⟩
    simp only [text_unquoted.l0, List.flatMap_nil]
    rw [if_pos (toList_B [])]
    rfl
  | cons c l ih =>
    intro acc hl
    obtain ⟨k, hk, h8⟩ := ih (acc ++ [c]) (by simp at hl ⊢; omega)
    obtain ⟨j, hj, _, he⟩ := unq_esc k c (l.flatMap esc) acc h8 (by simp at hl; omega)
    exact ⟨j, by rw [List.flatMap_cons, he, hk], by omega⟩
theorem unquoted_back (l r : List UInt8) (hl : l.length < 1000000) : ∃ k, text_unquoted.f k (B (l.flatMap esc ++ 34 :: r)) = some (B l, B r, true) := by
  obtain ⟨k, hk, _⟩ := unq_back l [] r (by simpa using hl)
  exact ⟨k, hk⟩
theorem unquoted_open (l : List UInt8) (hl : l.length < 1000000) : ∃ k, text_unquoted.f k (B (l.flatMap esc)) = some (B [], B [], false) := by
  obtain ⟨k, hk, _⟩ := unq_open l [] (by simpa using hl)
  exact ⟨k, hk⟩
end Go.Proofs.YtpjfhdbkkomogaaDoor.Mb
/- Functions of this program as Lean functions, and that the calls answer as they do: printed by this session's printmore.py. -/
namespace Go.Proofs.YtpjfhdbkkomogaaDoor.Px
open Go.RowKit Go.Proofs.YtpjfhdbkkomogaaDoor.Gvn Go.Proofs.YtpjfhdbkkomogaaDoorW.PrintWords Go.Proofs.YtpjfhdbkkomogaaDoorW.PrintLast Go.Proofs.YtpjfhdbkkomogaaDoorW.PrintMore
attribute [local go_sem] run_store_float max2_int min2_int max_two min_two max_three min_three max_four min_four   -- for this text's walks alone
set_option linter.unusedVariables false
set_option linter.unusedSimpArgs false

/-! ### value_Is: function 24 -/
def value_Is.j0 : Nat → Bool → Int → Bool → Int → Int → ByteArray → Nat → Option (Bool)
  | 0, _, _, _, _, _, _, _ => none
  | k + 1, x3, x9, x36, x102000, x102001, x102002, x102003 => if x36 = true then (if (x102002.size : Int) ≤ 60 then (if x102001 = 0 then (some x3) else (some false)) else (some false)) else (if x9 = 5 then (if x102001 = 0 then (some (x102002.toList == ([] : List UInt8))) else (some false)) else (some false))
def value_Is.f (k : Nat) (a0_0 : Int) (a0_1 : Int) (a0_2 : ByteArray) (a0_3 : Nat) : Option (Bool) := (bits_Order.f a0_3).bind fun t102 => (if a0_0 = 1 then (if a0_2.toList = ([] : List UInt8) then (some (t102 == 9223372036854775808)) else (some false)) else (if a0_0 = 2 then (if a0_1 = 0 then (if a0_2.toList = ([] : List UInt8) then (some (t102 == 9223372036854775808)) else (some false)) else (if a0_1 = 1 then (if a0_2.toList = ([] : List UInt8) then (some (t102 == 9223372036854775808)) else (some false)) else (some false))) else (if a0_0 = 3 then (value_Is.j0 k (t102 == 9223372036854775808) a0_0 (a0_0 == 3) a0_0 a0_1 a0_2 a0_3) else (value_Is.j0 k (t102 == 9223372036854775808) a0_0 (a0_0 == 4) a0_0 a0_1 a0_2 a0_3))))
theorem value_Is.mono_l : ∀ k, (∀ y0 y1 y2 y3 y4 y5 y6, LeO (value_Is.j0 k y0 y1 y2 y3 y4 y5 y6) (value_Is.j0 (k + 1) y0 y1 y2 y3 y4 y5 y6))
  | 0 => fun _ _ _ _ _ _ _ r h => by simp [value_Is.j0] at h
  | k + 1 => by
    have ih0 := value_Is.mono_l k
    · intro y0 y1 y2 y3 y4 y5 y6
      unfold value_Is.j0
      repeat' first
      | (with_reducible exact ih0 _ _ _ _ _ _ _)
      | (with_reducible exact LeO.refl _)
      | (with_reducible exact LeO.none _)
      | (with_reducible refine LeO.ite ?_ ?_)
      | (with_reducible refine LeO.bind ?_ (fun _ => ?_))
      | exact ih0 _ _ _ _ _ _ _
      | exact LeO.none _
      | refine LeO.ite ?_ ?_
      | refine LeO.bind ?_ (fun _ => ?_)
theorem value_Is.mono : ∀ a0 a1 a2 a3 k, LeO (value_Is.f k a0 a1 a2 a3) (value_Is.f (k + 1) a0 a1 a2 a3) := by
  intro a0 a1 a2 a3 k
  have ih0 := value_Is.mono_l k
  unfold value_Is.f
  repeat' first
      | (with_reducible exact ih0 _ _ _ _ _ _ _)
      | (with_reducible exact LeO.refl _)
      | (with_reducible exact LeO.none _)
      | (with_reducible refine LeO.ite ?_ ?_)
      | (with_reducible refine LeO.bind ?_ (fun _ => ?_))
      | exact ih0 _ _ _ _ _ _ _
      | exact LeO.none _
      | refine LeO.ite ?_ ?_
      | refine LeO.bind ?_ (fun _ => ?_)
set_option maxHeartbeats 8000000 in
set_option maxRecDepth 100000 in
theorem value_Is.calls (k : Nat) (a0_0 : Int) (a0_1 : Int) (a0_2 : ByteArray) (a0_3 : Nat) (r : Bool) (w : World) (h : value_Is.f k a0_0 a0_1 a0_2 a0_3 = some r) :
    Calls Tryd.prog 24 #[.agg #[.int .i64 a0_0, .int .i64 a0_1, .string a0_2, .float .f64 a0_3]] w fun e w' => e = .returned (.bool r) ∧ Below w.heap.size w w' := by
  have hu24 := Tryd.underlying24
  have HB := Aside0.mk (Below.refl w.heap.size w)
  have H : ((bits_Order.f a0_3).bind fun t102 => (if a0_0 = 1 then (if a0_2.toList = ([] : List UInt8) then (some (t102 == 9223372036854775808)) else (some false)) else (if a0_0 = 2 then (if a0_1 = 0 then (if a0_2.toList = ([] : List UInt8) then (some (t102 == 9223372036854775808)) else (some false)) else (if a0_1 = 1 then (if a0_2.toList = ([] : List UInt8) then (some (t102 == 9223372036854775808)) else (some false)) else (some false))) else (if a0_0 = 3 then (value_Is.j0 k (t102 == 9223372036854775808) a0_0 (a0_0 == 3) a0_0 a0_1 a0_2 a0_3) else (value_Is.j0 k (t102 == 9223372036854775808) a0_0 (a0_0 == 4) a0_0 a0_1 a0_2 a0_3))))) = some r := h
  clear h
  replace H := Option.bind_eq_some_iff.mp H
  obtain ⟨t102, A20, H⟩ := H
  replace H : (if a0_0 = 1 then (if a0_2.toList = ([] : List UInt8) then (some (t102 == 9223372036854775808)) else (some false)) else (if a0_0 = 2 then (if a0_1 = 0 then (if a0_2.toList = ([] : List UInt8) then (some (t102 == 9223372036854775808)) else (some false)) else (if a0_1 = 1 then (if a0_2.toList = ([] : List UInt8) then (some (t102 == 9223372036854775808)) else (some false)) else (some false))) else (if a0_0 = 3 then (value_Is.j0 k (t102 == 9223372036854775808) a0_0 (a0_0 == 3) a0_0 a0_1 a0_2 a0_3) else (value_Is.j0 k (t102 == 9223372036854775808) a0_0 (a0_0 == 4) a0_0 a0_1 a0_2 a0_3)))) = some r := H
  have A2 := Aside0.mk A20
  clear A20
  by_cases c3 : a0_0 = 1
  · rw [if_pos c3] at H
    have c3b0 : (a0_0 == 1) = true := beq_iff_eq.mpr c3
    have c3b1 : (a0_0 != 1) = false := bne_eq_false_iff_eq.mpr c3
    clear c3
    by_cases c4 : a0_2.toList = ([] : List UInt8)
    · rw [if_pos c4] at H
      have c4b0 : (a0_2.toList == ([] : List UInt8)) = true := beq_iff_eq.mpr c4
      have c4b1 : (a0_2.toList != ([] : List UInt8)) = false := bne_eq_false_iff_eq.mpr c4
      clear c4
      obtain rfl := Option.some.inj H
      have k23 := run23
      have k22 := run22
      go_enter Tryd.func24, Tryd.ntmps24
      go_wp2_with (first | ((with_reducible refine gate_dst (N := 1) rfl ?_); refine box_event ?hg (N := 1) ?hd (cs := #[.int .i64 a0_0, .int .i64 a0_1, .string a0_2, .float .f64 a0_3]) (t := 24) ?hr ?_; (case hd => rfl); (case hg => rfl); (case hr => first | (go_simp; done) | (go_simp; rfl)); intro gb101 hg w5 hbox hb; have n0_ := Aside0.mk (below_step (by repeat (first | (with_reducible first | exact HB.out | apply below_alloc | apply pw_below_drewN | apply below_drew1) | exact HB.out)) hb); have n1_ := Aside0.mk (hbox); have n2_ := Aside0.mk ((by rw [hg]; exact (below_size (by repeat (first | (with_reducible first | exact HB.out | apply below_alloc | apply pw_below_drewN | apply below_drew1) | exact HB.out))) : w.heap.size ≤ gb101)); have n3_ := Aside0.mk ((by rw [hg]; exact (below_size (by repeat (first | (with_reducible first | exact HB.out | apply below_alloc | apply pw_below_drewN | apply below_drew1) | exact HB.out))) : w.heap.size ≤ gb101)); clear HB; have HB := n0_; have BK101 := n1_; have GW101 := n2_; have GE101 := n3_; clear n0_ n1_ n2_ n3_; clear hb hbox hg; have hcz6_0 : w5.cell? ⟨gb101, 0, none⟩ = some (.int .i64 a0_0) := (blk_cell BK101.out 0).trans rfl; have hcz6_1 : w5.cell? ⟨gb101, 1, none⟩ = some (.int .i64 a0_1) := (blk_cell BK101.out 1).trans rfl; have hcz6_2 : w5.cell? ⟨gb101, 2, none⟩ = some (.string a0_2) := (blk_cell BK101.out 2).trans rfl; have hcz6_3 : w5.cell? ⟨gb101, 3, none⟩ = some (.float .f64 a0_3) := (blk_cell BK101.out 3).trans rfl; have hfz6_0 := blk_frozen BK101.out 0; have hfz6_1 := blk_frozen BK101.out 1; have hfz6_2 := blk_frozen BK101.out 2; have hfz6_3 := blk_frozen BK101.out 3) | ((with_reducible refine gate_callee (f := 39) rfl ?_); refine goesL_ (some 6) rfl rfl Tryd.func39 (by kernel_rfl) rfl #[.float .f64 a0_3] rfl (by (try simp only [List.map_toArray, List.map_cons, List.map_nil]); first | done | rfl | (simp only [List.length_drop, List.length_take]; rfl)) ?_; (with_reducible refine (bits_Order.calls a0_3 t102 _ A2.out).mono ?_); rintro e w' ⟨rfl, ⟨nd, rfl⟩⟩; refine ⟨_, rfl, ?_⟩))
      go_ret
      exact ⟨by first | rfl | (simp [errW_none, errW_some] <;> rfl) | (simp [*, errW_none, errW_some] <;> rfl), by repeat (first | (with_reducible first | exact HB.out | apply below_alloc | apply pw_below_drewN | apply below_drew1 | refine below_set ?_ GE101.out) | exact HB.out)⟩
    · rw [if_neg c4] at H
      have c4b0 : (a0_2.toList == ([] : List UInt8)) = false := beq_eq_false_iff_ne.mpr c4
      have c4b1 : (a0_2.toList != ([] : List UInt8)) = true := bne_iff_ne.mpr c4
      obtain rfl := Option.some.inj H
      have k23 := run23
      have k22 := run22
      go_enter Tryd.func24, Tryd.ntmps24
      go_wp2_with (first | ((with_reducible refine gate_dst (N := 1) rfl ?_); refine box_event ?hg (N := 1) ?hd (cs := #[.int .i64 a0_0, .int .i64 a0_1, .string a0_2, .float .f64 a0_3]) (t := 24) ?hr ?_; (case hd => rfl); (case hg => rfl); (case hr => first | (go_simp; done) | (go_simp; rfl)); intro gb101 hg w7 hbox hb; have n0_ := Aside0.mk (below_step (by repeat (first | (with_reducible first | exact HB.out | apply below_alloc | apply pw_below_drewN | apply below_drew1) | exact HB.out)) hb); have n1_ := Aside0.mk (hbox); have n2_ := Aside0.mk ((by rw [hg]; exact (below_size (by repeat (first | (with_reducible first | exact HB.out | apply below_alloc | apply pw_below_drewN | apply below_drew1) | exact HB.out))) : w.heap.size ≤ gb101)); have n3_ := Aside0.mk ((by rw [hg]; exact (below_size (by repeat (first | (with_reducible first | exact HB.out | apply below_alloc | apply pw_below_drewN | apply below_drew1) | exact HB.out))) : w.heap.size ≤ gb101)); clear HB; have HB := n0_; have BK101 := n1_; have GW101 := n2_; have GE101 := n3_; clear n0_ n1_ n2_ n3_; clear hb hbox hg; have hcz8_0 : w7.cell? ⟨gb101, 0, none⟩ = some (.int .i64 a0_0) := (blk_cell BK101.out 0).trans rfl; have hcz8_1 : w7.cell? ⟨gb101, 1, none⟩ = some (.int .i64 a0_1) := (blk_cell BK101.out 1).trans rfl; have hcz8_2 : w7.cell? ⟨gb101, 2, none⟩ = some (.string a0_2) := (blk_cell BK101.out 2).trans rfl; have hcz8_3 : w7.cell? ⟨gb101, 3, none⟩ = some (.float .f64 a0_3) := (blk_cell BK101.out 3).trans rfl; have hfz8_0 := blk_frozen BK101.out 0; have hfz8_1 := blk_frozen BK101.out 1; have hfz8_2 := blk_frozen BK101.out 2; have hfz8_3 := blk_frozen BK101.out 3) | ((with_reducible refine gate_callee (f := 39) rfl ?_); refine goesL_ (some 6) rfl rfl Tryd.func39 (by kernel_rfl) rfl #[.float .f64 a0_3] rfl (by (try simp only [List.map_toArray, List.map_cons, List.map_nil]); first | done | rfl | (simp only [List.length_drop, List.length_take]; rfl)) ?_; (with_reducible refine (bits_Order.calls a0_3 t102 _ A2.out).mono ?_); rintro e w' ⟨rfl, ⟨nd, rfl⟩⟩; refine ⟨_, rfl, ?_⟩))
      go_ret
      exact ⟨by first | rfl | (simp [errW_none, errW_some] <;> rfl) | (simp [*, errW_none, errW_some] <;> rfl), by repeat (first | (with_reducible first | exact HB.out | apply below_alloc | apply pw_below_drewN | apply below_drew1 | refine below_set ?_ GE101.out) | exact HB.out)⟩
  · rw [if_neg c3] at H
    have c3b0 : (a0_0 == 1) = false := beq_eq_false_iff_ne.mpr c3
    have c3b1 : (a0_0 != 1) = true := bne_iff_ne.mpr c3
    by_cases c9 : a0_0 = 2
    · rw [if_pos c9] at H
      have c9b0 : (a0_0 == 2) = true := beq_iff_eq.mpr c9
      have c9b1 : (a0_0 != 2) = false := bne_eq_false_iff_eq.mpr c9
      clear c9
      by_cases c10 : a0_1 = 0
      · rw [if_pos c10] at H
        have c10b0 : (a0_1 == 0) = true := beq_iff_eq.mpr c10
        have c10b1 : (a0_1 != 0) = false := bne_eq_false_iff_eq.mpr c10
        clear c10
        by_cases c11 : a0_2.toList = ([] : List UInt8)
        · rw [if_pos c11] at H
          have c11b0 : (a0_2.toList == ([] : List UInt8)) = true := beq_iff_eq.mpr c11
          have c11b1 : (a0_2.toList != ([] : List UInt8)) = false := bne_eq_false_iff_eq.mpr c11
          clear c11
          obtain rfl := Option.some.inj H
          have k23 := run23
          have k22 := run22
          go_enter Tryd.func24, Tryd.ntmps24
          go_wp2_with (first | ((with_reducible refine gate_dst (N := 1) rfl ?_); refine box_event ?hg (N := 1) ?hd (cs := #[.int .i64 a0_0, .int .i64 a0_1, .string a0_2, .float .f64 a0_3]) (t := 24) ?hr ?_; (case hd => rfl); (case hg => rfl); (case hr => first | (go_simp; done) | (go_simp; rfl)); intro gb101 hg w12 hbox hb; have n0_ := Aside0.mk (below_step (by repeat (first | (with_reducible first | exact HB.out | apply below_alloc | apply pw_below_drewN | apply below_drew1) | exact HB.out)) hb); have n1_ := Aside0.mk (hbox); have n2_ := Aside0.mk ((by rw [hg]; exact (below_size (by repeat (first | (with_reducible first | exact HB.out | apply below_alloc | apply pw_below_drewN | apply below_drew1) | exact HB.out))) : w.heap.size ≤ gb101)); have n3_ := Aside0.mk ((by rw [hg]; exact (below_size (by repeat (first | (with_reducible first | exact HB.out | apply below_alloc | apply pw_below_drewN | apply below_drew1) | exact HB.out))) : w.heap.size ≤ gb101)); clear HB; have HB := n0_; have BK101 := n1_; have GW101 := n2_; have GE101 := n3_; clear n0_ n1_ n2_ n3_; clear hb hbox hg; have hcz13_0 : w12.cell? ⟨gb101, 0, none⟩ = some (.int .i64 a0_0) := (blk_cell BK101.out 0).trans rfl; have hcz13_1 : w12.cell? ⟨gb101, 1, none⟩ = some (.int .i64 a0_1) := (blk_cell BK101.out 1).trans rfl; have hcz13_2 : w12.cell? ⟨gb101, 2, none⟩ = some (.string a0_2) := (blk_cell BK101.out 2).trans rfl; have hcz13_3 : w12.cell? ⟨gb101, 3, none⟩ = some (.float .f64 a0_3) := (blk_cell BK101.out 3).trans rfl; have hfz13_0 := blk_frozen BK101.out 0; have hfz13_1 := blk_frozen BK101.out 1; have hfz13_2 := blk_frozen BK101.out 2; have hfz13_3 := blk_frozen BK101.out 3) | ((with_reducible refine gate_callee (f := 39) rfl ?_); refine goesL_ (some 6) rfl rfl Tryd.func39 (by kernel_rfl) rfl #[.float .f64 a0_3] rfl (by (try simp only [List.map_toArray, List.map_cons, List.map_nil]); first | done | rfl | (simp only [List.length_drop, List.length_take]; rfl)) ?_; (with_reducible refine (bits_Order.calls a0_3 t102 _ A2.out).mono ?_); rintro e w' ⟨rfl, ⟨nd, rfl⟩⟩; refine ⟨_, rfl, ?_⟩))
          go_ret
          exact ⟨by first | rfl | (simp [errW_none, errW_some] <;> rfl) | (simp [*, errW_none, errW_some] <;> rfl), by repeat (first | (with_reducible first | exact HB.out | apply below_alloc | apply pw_below_drewN | apply below_drew1 | refine below_set ?_ GE101.out) | exact HB.out)⟩
        · rw [if_neg c11] at H
          have c11b0 : (a0_2.toList == ([] : List UInt8)) = false := beq_eq_false_iff_ne.mpr c11
          have c11b1 : (a0_2.toList != ([] : List UInt8)) = true := bne_iff_ne.mpr c11
          obtain rfl := Option.some.inj H
          have k23 := run23
          have k22 := run22
          go_enter Tryd.func24, Tryd.ntmps24
          go_wp2_with (first | ((with_reducible refine gate_dst (N := 1) rfl ?_); refine box_event ?hg (N := 1) ?hd (cs := #[.int .i64 a0_0, .int .i64 a0_1, .string a0_2, .float .f64 a0_3]) (t := 24) ?hr ?_; (case hd => rfl); (case hg => rfl); (case hr => first | (go_simp; done) | (go_simp; rfl)); intro gb101 hg w14 hbox hb; have n0_ := Aside0.mk (below_step (by repeat (first | (with_reducible first | exact HB.out | apply below_alloc | apply pw_below_drewN | apply below_drew1) | exact HB.out)) hb); have n1_ := Aside0.mk (hbox); have n2_ := Aside0.mk ((by rw [hg]; exact (below_size (by repeat (first | (with_reducible first | exact HB.out | apply below_alloc | apply pw_below_drewN | apply below_drew1) | exact HB.out))) : w.heap.size ≤ gb101)); have n3_ := Aside0.mk ((by rw [hg]; exact (below_size (by repeat (first | (with_reducible first | exact HB.out | apply below_alloc | apply pw_below_drewN | apply below_drew1) | exact HB.out))) : w.heap.size ≤ gb101)); clear HB; have HB := n0_; have BK101 := n1_; have GW101 := n2_; have GE101 := n3_; clear n0_ n1_ n2_ n3_; clear hb hbox hg; have hcz15_0 : w14.cell? ⟨gb101, 0, none⟩ = some (.int .i64 a0_0) := (blk_cell BK101.out 0).trans rfl; have hcz15_1 : w14.cell? ⟨gb101, 1, none⟩ = some (.int .i64 a0_1) := (blk_cell BK101.out 1).trans rfl; have hcz15_2 : w14.cell? ⟨gb101, 2, none⟩ = some (.string a0_2) := (blk_cell BK101.out 2).trans rfl; have hcz15_3 : w14.cell? ⟨gb101, 3, none⟩ = some (.float .f64 a0_3) := (blk_cell BK101.out 3).trans rfl; have hfz15_0 := blk_frozen BK101.out 0; have hfz15_1 := blk_frozen BK101.out 1; have hfz15_2 := blk_frozen BK101.out 2; have hfz15_3 := blk_frozen BK101.out 3) | ((with_reducible refine gate_callee (f := 39) rfl ?_); refine goesL_ (some 6) rfl rfl Tryd.func39 (by kernel_rfl) rfl #[.float .f64 a0_3] rfl (by (try simp only [List.map_toArray, List.map_cons, List.map_nil]); first | done | rfl | (simp only [List.length_drop, List.length_take]; rfl)) ?_; (with_reducible refine (bits_Order.calls a0_3 t102 _ A2.out).mono ?_); rintro e w' ⟨rfl, ⟨nd, rfl⟩⟩; refine ⟨_, rfl, ?_⟩))
          go_ret
          exact ⟨by first | rfl | (simp [errW_none, errW_some] <;> rfl) | (simp [*, errW_none, errW_some] <;> rfl), by repeat (first | (with_reducible first | exact HB.out | apply below_alloc | apply pw_below_drewN | apply below_drew1 | refine below_set ?_ GE101.out) | exact HB.out)⟩
      · rw [if_neg c10] at H
        have c10b0 : (a0_1 == 0) = false := beq_eq_false_iff_ne.mpr c10
        have c10b1 : (a0_1 != 0) = true := bne_iff_ne.mpr c10
        by_cases c16 : a0_1 = 1
        · rw [if_pos c16] at H
          have c16b0 : (a0_1 == 1) = true := beq_iff_eq.mpr c16
          have c16b1 : (a0_1 != 1) = false := bne_eq_false_iff_eq.mpr c16
          clear c16
          by_cases c17 : a0_2.toList = ([] : List UInt8)
          · rw [if_pos c17] at H
            have c17b0 : (a0_2.toList == ([] : List UInt8)) = true := beq_iff_eq.mpr c17
            have c17b1 : (a0_2.toList != ([] : List UInt8)) = false := bne_eq_false_iff_eq.mpr c17
            clear c17
            obtain rfl := Option.some.inj H
            have k23 := run23
            have k22 := run22
            go_enter Tryd.func24, Tryd.ntmps24
            go_wp2_with (first | ((with_reducible refine gate_dst (N := 1) rfl ?_); refine box_event ?hg (N := 1) ?hd (cs := #[.int .i64 a0_0, .int .i64 a0_1, .string a0_2, .float .f64 a0_3]) (t := 24) ?hr ?_; (case hd => rfl); (case hg => rfl); (case hr => first | (go_simp; done) | (go_simp; rfl)); intro gb101 hg w18 hbox hb; have n0_ := Aside0.mk (below_step (by repeat (first | (with_reducible first | exact HB.out | apply below_alloc | apply pw_below_drewN | apply below_drew1) | exact HB.out)) hb); have n1_ := Aside0.mk (hbox); have n2_ := Aside0.mk ((by rw [hg]; exact (below_size (by repeat (first | (with_reducible first | exact HB.out | apply below_alloc | apply pw_below_drewN | apply below_drew1) | exact HB.out))) : w.heap.size ≤ gb101)); have n3_ := Aside0.mk ((by rw [hg]; exact (below_size (by repeat (first | (with_reducible first | exact HB.out | apply below_alloc | apply pw_below_drewN | apply below_drew1) | exact HB.out))) : w.heap.size ≤ gb101)); clear HB; have HB := n0_; have BK101 := n1_; have GW101 := n2_; have GE101 := n3_; clear n0_ n1_ n2_ n3_; clear hb hbox hg; have hcz19_0 : w18.cell? ⟨gb101, 0, none⟩ = some (.int .i64 a0_0) := (blk_cell BK101.out 0).trans rfl; have hcz19_1 : w18.cell? ⟨gb101, 1, none⟩ = some (.int .i64 a0_1) := (blk_cell BK101.out 1).trans rfl; have hcz19_2 : w18.cell? ⟨gb101, 2, none⟩ = some (.string a0_2) := (blk_cell BK101.out 2).trans rfl; have hcz19_3 : w18.cell? ⟨gb101, 3, none⟩ = some (.float .f64 a0_3) := (blk_cell BK101.out 3).trans rfl; have hfz19_0 := blk_frozen BK101.out 0; have hfz19_1 := blk_frozen BK101.out 1; have hfz19_2 := blk_frozen BK101.out 2; have hfz19_3 := blk_frozen BK101.out 3) | ((with_reducible refine gate_callee (f := 39) rfl ?_); refine goesL_ (some 6) rfl rfl Tryd.func39 (by kernel_rfl) rfl #[.float .f64 a0_3] rfl (by (try simp only [List.map_toArray, List.map_cons, List.map_nil]); first | done | rfl | (simp only [List.length_drop, List.length_take]; rfl)) ?_; (with_reducible refine (bits_Order.calls a0_3 t102 _ A2.out).mono ?_); rintro e w' ⟨rfl, ⟨nd, rfl⟩⟩; refine ⟨_, rfl, ?_⟩))
            go_ret
            exact ⟨by first | rfl | (simp [errW_none, errW_some] <;> rfl) | (simp [*, errW_none, errW_some] <;> rfl), by repeat (first | (with_reducible first | exact HB.out | apply below_alloc | apply pw_below_drewN | apply below_drew1 | refine below_set ?_ GE101.out) | exact HB.out)⟩
          · rw [if_neg c17] at H
            have c17b0 : (a0_2.toList == ([] : List UInt8)) = false := beq_eq_false_iff_ne.mpr c17
            have c17b1 : (a0_2.toList != ([] : List UInt8)) = true := bne_iff_ne.mpr c17
            obtain rfl := Option.some.inj H
            have k23 := run23
            have k22 := run22
            go_enter Tryd.func24, Tryd.ntmps24
            go_wp2_with (first | ((with_reducible refine gate_dst (N := 1) rfl ?_); refine box_event ?hg (N := 1) ?hd (cs := #[.int .i64 a0_0, .int .i64 a0_1, .string a0_2, .float .f64 a0_3]) (t := 24) ?hr ?_; (case hd => rfl); (case hg => rfl); (case hr => first | (go_simp; done) | (go_simp; rfl)); intro gb101 hg w20 hbox hb; have n0_ := Aside0.mk (below_step (by repeat (first | (with_reducible first | exact HB.out | apply below_alloc | apply pw_below_drewN | apply below_drew1) | exact HB.out)) hb); have n1_ := Aside0.mk (hbox); have n2_ := Aside0.mk ((by rw [hg]; exact (below_size (by repeat (first | (with_reducible first | exact HB.out | apply below_alloc | apply pw_below_drewN | apply below_drew1) | exact HB.out))) : w.heap.size ≤ gb101)); have n3_ := Aside0.mk ((by rw [hg]; exact (below_size (by repeat (first | (with_reducible first | exact HB.out | apply below_alloc | apply pw_below_drewN | apply below_drew1) | exact HB.out))) : w.heap.size ≤ gb101)); clear HB; have HB := n0_; have BK101 := n1_; have GW101 := n2_; have GE101 := n3_; clear n0_ n1_ n2_ n3_; clear hb hbox hg; have hcz21_0 : w20.cell? ⟨gb101, 0, none⟩ = some (.int .i64 a0_0) := (blk_cell BK101.out 0).trans rfl; have hcz21_1 : w20.cell? ⟨gb101, 1, none⟩ = some (.int .i64 a0_1) := (blk_cell BK101.out 1).trans rfl; have hcz21_2 : w20.cell? ⟨gb101, 2, none⟩ = some (.string a0_2) := (blk_cell BK101.out 2).trans rfl; have hcz21_3 : w20.cell? ⟨gb101, 3, none⟩ = some (.float .f64 a0_3) := (blk_cell BK101.out 3).trans rfl; have hfz21_0 := blk_frozen BK101.out 0; have hfz21_1 := blk_frozen BK101.out 1; have hfz21_2 := blk_frozen BK101.out 2; have hfz21_3 := blk_frozen BK101.out 3) | ((with_reducible refine gate_callee (f := 39) rfl ?_); refine goesL_ (some 6) rfl rfl Tryd.func39 (by kernel_rfl) rfl #[.float .f64 a0_3] rfl (by (try simp only [List.map_toArray, List.map_cons, List.map_nil]); first | done | rfl | (simp only [List.length_drop, List.length_take]; rfl)) ?_; (with_reducible refine (bits_Order.calls a0_3 t102 _ A2.out).mono ?_); rintro e w' ⟨rfl, ⟨nd, rfl⟩⟩; refine ⟨_, rfl, ?_⟩))
            go_ret
            exact ⟨by first | rfl | (simp [errW_none, errW_some] <;> rfl) | (simp [*, errW_none, errW_some] <;> rfl), by repeat (first | (with_reducible first | exact HB.out | apply below_alloc | apply pw_below_drewN | apply below_drew1 | refine below_set ?_ GE101.out) | exact HB.out)⟩
        · rw [if_neg c16] at H
          have c16b0 : (a0_1 == 1) = false := beq_eq_false_iff_ne.mpr c16
          have c16b1 : (a0_1 != 1) = true := bne_iff_ne.mpr c16
          obtain rfl := Option.some.inj H
          have k23 := run23
          have k22 := run22
          go_enter Tryd.func24, Tryd.ntmps24
          go_wp2_with (first | ((with_reducible refine gate_dst (N := 1) rfl ?_); refine box_event ?hg (N := 1) ?hd (cs := #[.int .i64 a0_0, .int .i64 a0_1, .string a0_2, .float .f64 a0_3]) (t := 24) ?hr ?_; (case hd => rfl); (case hg => rfl); (case hr => first | (go_simp; done) | (go_simp; rfl)); intro gb101 hg w22 hbox hb; have n0_ := Aside0.mk (below_step (by repeat (first | (with_reducible first | exact HB.out | apply below_alloc | apply pw_below_drewN | apply below_drew1) | exact HB.out)) hb); have n1_ := Aside0.mk (hbox); have n2_ := Aside0.mk ((by rw [hg]; exact (below_size (by repeat (first | (with_reducible first | exact HB.out | apply below_alloc | apply pw_below_drewN | apply below_drew1) | exact HB.out))) : w.heap.size ≤ gb101)); have n3_ := Aside0.mk ((by rw [hg]; exact (below_size (by repeat (first | (with_reducible first | exact HB.out | apply below_alloc | apply pw_below_drewN | apply below_drew1) | exact HB.out))) : w.heap.size ≤ gb101)); clear HB; have HB := n0_; have BK101 := n1_; have GW101 := n2_; have GE101 := n3_; clear n0_ n1_ n2_ n3_; clear hb hbox hg; have hcz23_0 : w22.cell? ⟨gb101, 0, none⟩ = some (.int .i64 a0_0) := (blk_cell BK101.out 0).trans rfl; have hcz23_1 : w22.cell? ⟨gb101, 1, none⟩ = some (.int .i64 a0_1) := (blk_cell BK101.out 1).trans rfl; have hcz23_2 : w22.cell? ⟨gb101, 2, none⟩ = some (.string a0_2) := (blk_cell BK101.out 2).trans rfl; have hcz23_3 : w22.cell? ⟨gb101, 3, none⟩ = some (.float .f64 a0_3) := (blk_cell BK101.out 3).trans rfl; have hfz23_0 := blk_frozen BK101.out 0; have hfz23_1 := blk_frozen BK101.out 1; have hfz23_2 := blk_frozen BK101.out 2; have hfz23_3 := blk_frozen BK101.out 3) | ((with_reducible refine gate_callee (f := 39) rfl ?_); refine goesL_ (some 6) rfl rfl Tryd.func39 (by kernel_rfl) rfl #[.float .f64 a0_3] rfl (by (try simp only [List.map_toArray, List.map_cons, List.map_nil]); first | done | rfl | (simp only [List.length_drop, List.length_take]; rfl)) ?_; (with_reducible refine (bits_Order.calls a0_3 t102 _ A2.out).mono ?_); rintro e w' ⟨rfl, ⟨nd, rfl⟩⟩; refine ⟨_, rfl, ?_⟩))
          go_ret
          exact ⟨by first | rfl | (simp [errW_none, errW_some] <;> rfl) | (simp [*, errW_none, errW_some] <;> rfl), by repeat (first | (with_reducible first | exact HB.out | apply below_alloc | apply pw_below_drewN | apply below_drew1 | refine below_set ?_ GE101.out) | exact HB.out)⟩
    · rw [if_neg c9] at H
      have c9b0 : (a0_0 == 2) = false := beq_eq_false_iff_ne.mpr c9
      have c9b1 : (a0_0 != 2) = true := bne_iff_ne.mpr c9
      have HC24 := Aside0.mk H
      clear H
      have k23 := run23
      have k22 := run22
      go_enter Tryd.func24, Tryd.ntmps24
      go_upto_if 36 with (first | ((with_reducible refine gate_dst (N := 1) rfl ?_); refine box_event ?hg (N := 1) ?hd (cs := #[.int .i64 a0_0, .int .i64 a0_1, .string a0_2, .float .f64 a0_3]) (t := 24) ?hr ?_; (case hd => rfl); (case hg => rfl); (case hr => first | (go_simp; done) | (go_simp; rfl)); intro gb101 hg w25 hbox hb; have n0_ := Aside0.mk (below_step (by repeat (first | (with_reducible first | exact HB.out | apply below_alloc | apply pw_below_drewN | apply below_drew1) | exact HB.out)) hb); have n1_ := Aside0.mk (hbox); have n2_ := Aside0.mk ((by rw [hg]; exact (below_size (by repeat (first | (with_reducible first | exact HB.out | apply below_alloc | apply pw_below_drewN | apply below_drew1) | exact HB.out))) : w.heap.size ≤ gb101)); have n3_ := Aside0.mk ((by rw [hg]; exact (below_size (by repeat (first | (with_reducible first | exact HB.out | apply below_alloc | apply pw_below_drewN | apply below_drew1) | exact HB.out))) : w.heap.size ≤ gb101)); clear HB; have HB := n0_; have BK101 := n1_; have GW101 := n2_; have GE101 := n3_; clear n0_ n1_ n2_ n3_; clear hb hbox hg; have hcz26_0 : w25.cell? ⟨gb101, 0, none⟩ = some (.int .i64 a0_0) := (blk_cell BK101.out 0).trans rfl; have hcz26_1 : w25.cell? ⟨gb101, 1, none⟩ = some (.int .i64 a0_1) := (blk_cell BK101.out 1).trans rfl; have hcz26_2 : w25.cell? ⟨gb101, 2, none⟩ = some (.string a0_2) := (blk_cell BK101.out 2).trans rfl; have hcz26_3 : w25.cell? ⟨gb101, 3, none⟩ = some (.float .f64 a0_3) := (blk_cell BK101.out 3).trans rfl; have hfz26_0 := blk_frozen BK101.out 0; have hfz26_1 := blk_frozen BK101.out 1; have hfz26_2 := blk_frozen BK101.out 2; have hfz26_3 := blk_frozen BK101.out 3) | ((with_reducible refine gate_callee (f := 39) rfl ?_); refine goesL_ (some 6) rfl rfl Tryd.func39 (by kernel_rfl) rfl #[.float .f64 a0_3] rfl (by (try simp only [List.map_toArray, List.map_cons, List.map_nil]); first | done | rfl | (simp only [List.length_drop, List.length_take]; rfl)) ?_; (with_reducible refine (bits_Order.calls a0_3 t102 _ A2.out).mono ?_); rintro e w' ⟨rfl, ⟨nd, rfl⟩⟩; refine ⟨_, rfl, ?_⟩))
      (try simp only [Act.put, List.setIfInBounds_toArray, List.set_cons_zero, List.set_cons_succ])
      go_cut [36] (fun v36 wc => ∃ (kq : Nat) (x36_23 : Bool), v36 = .bool x36_23 ∧ Aside0 (value_Is.j0 kq (t102 == 9223372036854775808) a0_0 x36_23 a0_0 a0_1 a0_2 a0_3 = some r) ∧ Aside0 (kq ≤ k) ∧ Aside0 (wc.heap[gb101]? = some (.cells #[.int .i64 a0_0, .int .i64 a0_1, .string a0_2, .float .f64 a0_3] 24 (0, 0))) ∧ Aside0 (Below w.heap.size w wc))
      case first =>
        have H := HC24.out
        clear HC24
        by_cases c27 : a0_0 = 3
        · rw [if_pos c27] at H
          have c27b0 : (a0_0 == 3) = true := beq_iff_eq.mpr c27
          have c27b1 : (a0_0 != 3) = false := bne_eq_false_iff_eq.mpr c27
          clear c27
          (first | rw [c27b0] | (simp only [i64_w, i32_w]; rw [c27b0]) | skip)
          have H' := Aside0.mk H
          clear H
          go_wp2
          go_meet
          case rel => exact ⟨_, ((a0_0 == 3)), (by first | rfl | (simp; done) | (simp [*]; done)), H', ⟨by first | omega | exact Nat.le_refl _⟩, ⟨by (with_reducible repeat (first | refine blk_drewN ?_ _ | refine blk_drew ?_ | refine blk_alloc ?_ _)); exact BK101.out⟩, ⟨by repeat (first | (with_reducible first | exact HB.out | apply below_alloc | apply pw_below_drewN | apply below_drew1 | refine below_set ?_ GE101.out) | exact HB.out)⟩⟩
        · rw [if_neg c27] at H
          have c27b0 : (a0_0 == 3) = false := beq_eq_false_iff_ne.mpr c27
          have c27b1 : (a0_0 != 3) = true := bne_iff_ne.mpr c27
          (first | rw [c27b0] | (simp only [i64_w, i32_w]; rw [c27b0]) | skip)
          have H' := Aside0.mk H
          clear H
          go_wp2
          go_meet
          case rel => exact ⟨_, ((a0_0 == 4)), (by first | rfl | (simp; done) | (simp [*]; done)), H', ⟨by first | omega | exact Nat.le_refl _⟩, ⟨by (with_reducible repeat (first | refine blk_drewN ?_ _ | refine blk_drew ?_ | refine blk_alloc ?_ _)); exact BK101.out⟩, ⟨by repeat (first | (with_reducible first | exact HB.out | apply below_alloc | apply pw_below_drewN | apply below_drew1 | refine below_set ?_ GE101.out) | exact HB.out)⟩⟩
      case rest =>
        clear HC24
        try clear c1
        try clear c2
        try clear p2
        try clear c3
        try clear c3b0
        try clear c3b1
        try clear c4
        try clear c4b0
        try clear c4b1
        try clear c9
        try clear c9b0
        try clear c9b1
        try clear c10
        try clear c10b0
        try clear c10b1
        try clear c11
        try clear c11b0
        try clear c11b1
        try clear c16
        try clear c16b0
        try clear c16b1
        try clear c17
        try clear c17b0
        try clear c17b1
        try clear c24
        try clear c27
        try clear c27b0
        try clear c27b1
        try clear hcz13_0
        try clear hcz13_1
        try clear hcz13_2
        try clear hcz13_3
        try clear hcz15_0
        try clear hcz15_1
        try clear hcz15_2
        try clear hcz15_3
        try clear hcz19_0
        try clear hcz19_1
        try clear hcz19_2
        try clear hcz19_3
        try clear hcz21_0
        try clear hcz21_1
        try clear hcz21_2
        try clear hcz21_3
        try clear hcz23_0
        try clear hcz23_1
        try clear hcz23_2
        try clear hcz23_3
        try clear hcz26_0
        try clear hcz26_1
        try clear hcz26_2
        try clear hcz26_3
        try clear hcz6_0
        try clear hcz6_1
        try clear hcz6_2
        try clear hcz6_3
        try clear hcz8_0
        try clear hcz8_1
        try clear hcz8_2
        try clear hcz8_3
        try clear hfz13_0
        try clear hfz13_1
        try clear hfz13_2
        try clear hfz13_3
        try clear hfz15_0
        try clear hfz15_1
        try clear hfz15_2
        try clear hfz15_3
        try clear hfz19_0
        try clear hfz19_1
        try clear hfz19_2
        try clear hfz19_3
        try clear hfz21_0
        try clear hfz21_1
        try clear hfz21_2
        try clear hfz21_3
        try clear hfz23_0
        try clear hfz23_1
        try clear hfz23_2
        try clear hfz23_3
        try clear hfz26_0
        try clear hfz26_1
        try clear hfz26_2
        try clear hfz26_3
        try clear hfz6_0
        try clear hfz6_1
        try clear hfz6_2
        try clear hfz6_3
        try clear hfz8_0
        try clear hfz8_1
        try clear hfz8_2
        try clear hfz8_3
        obtain ⟨kq, x36_23, rfl, HA, HJ23, BK101, HB⟩ := hcut
        cases kq with
        | zero => exact absurd HA.out (by simp [value_Is.j0])
        | succ kj23 =>
          have H := HA.out
          clear HA
          simp only [value_Is.j0] at H
          by_cases c28 : x36_23 = true
          · subst c28
            have H1 : (if (a0_2.size : Int) ≤ 60 then (if a0_1 = 0 then (some (t102 == 9223372036854775808)) else (some false)) else (some false)) = some r := by rw [if_pos rfl] at H; exact H
            clear H
            have H := H1
            clear H1
            by_cases c29 : (a0_2.size : Int) ≤ 60
            · rw [if_pos c29] at H
              have c29b0 : decide ((a0_2.size : Int) ≤ 60) = true := decide_eq_true c29
              have c29b1 : decide (a0_2.size ≤ 60) = true := decide_eq_true (by omega)
              clear c29
              by_cases c30 : a0_1 = 0
              · rw [if_pos c30] at H
                have c30b0 : (a0_1 == 0) = true := beq_iff_eq.mpr c30
                have c30b1 : (a0_1 != 0) = false := bne_eq_false_iff_eq.mpr c30
                clear c30
                obtain rfl := Option.some.inj H
                have hcz31_0 : wc.cell? ⟨gb101, 0, none⟩ = some (.int .i64 a0_0) := (blk_cell BK101.out 0).trans rfl
                have hcz31_1 : wc.cell? ⟨gb101, 1, none⟩ = some (.int .i64 a0_1) := (blk_cell BK101.out 1).trans rfl
                have hcz31_2 : wc.cell? ⟨gb101, 2, none⟩ = some (.string a0_2) := (blk_cell BK101.out 2).trans rfl
                have hcz31_3 : wc.cell? ⟨gb101, 3, none⟩ = some (.float .f64 a0_3) := (blk_cell BK101.out 3).trans rfl
                have hfz31_0 := blk_frozen BK101.out 0
                have hfz31_1 := blk_frozen BK101.out 1
                have hfz31_2 := blk_frozen BK101.out 2
                have hfz31_3 := blk_frozen BK101.out 3
                go_wp2
                go_ret
                exact ⟨by first | rfl | (simp [errW_none, errW_some] <;> rfl) | (simp [*, errW_none, errW_some] <;> rfl), by repeat (first | (with_reducible first | exact HB.out | apply below_alloc | apply pw_below_drewN | apply below_drew1 | refine below_set ?_ GE101.out) | exact HB.out)⟩
              · rw [if_neg c30] at H
                have c30b0 : (a0_1 == 0) = false := beq_eq_false_iff_ne.mpr c30
                have c30b1 : (a0_1 != 0) = true := bne_iff_ne.mpr c30
                obtain rfl := Option.some.inj H
                have hcz32_0 : wc.cell? ⟨gb101, 0, none⟩ = some (.int .i64 a0_0) := (blk_cell BK101.out 0).trans rfl
                have hcz32_1 : wc.cell? ⟨gb101, 1, none⟩ = some (.int .i64 a0_1) := (blk_cell BK101.out 1).trans rfl
                have hcz32_2 : wc.cell? ⟨gb101, 2, none⟩ = some (.string a0_2) := (blk_cell BK101.out 2).trans rfl
                have hcz32_3 : wc.cell? ⟨gb101, 3, none⟩ = some (.float .f64 a0_3) := (blk_cell BK101.out 3).trans rfl
                have hfz32_0 := blk_frozen BK101.out 0
                have hfz32_1 := blk_frozen BK101.out 1
                have hfz32_2 := blk_frozen BK101.out 2
                have hfz32_3 := blk_frozen BK101.out 3
                go_wp2
                go_ret
                exact ⟨by first | rfl | (simp [errW_none, errW_some] <;> rfl) | (simp [*, errW_none, errW_some] <;> rfl), by repeat (first | (with_reducible first | exact HB.out | apply below_alloc | apply pw_below_drewN | apply below_drew1 | refine below_set ?_ GE101.out) | exact HB.out)⟩
            · rw [if_neg c29] at H
              have c29b0 : decide ((a0_2.size : Int) ≤ 60) = false := decide_eq_false c29
              have c29b1 : decide (a0_2.size ≤ 60) = false := decide_eq_false (by omega)
              clear c29
              obtain rfl := Option.some.inj H
              have hcz33_0 : wc.cell? ⟨gb101, 0, none⟩ = some (.int .i64 a0_0) := (blk_cell BK101.out 0).trans rfl
              have hcz33_1 : wc.cell? ⟨gb101, 1, none⟩ = some (.int .i64 a0_1) := (blk_cell BK101.out 1).trans rfl
              have hcz33_2 : wc.cell? ⟨gb101, 2, none⟩ = some (.string a0_2) := (blk_cell BK101.out 2).trans rfl
              have hcz33_3 : wc.cell? ⟨gb101, 3, none⟩ = some (.float .f64 a0_3) := (blk_cell BK101.out 3).trans rfl
              have hfz33_0 := blk_frozen BK101.out 0
              have hfz33_1 := blk_frozen BK101.out 1
              have hfz33_2 := blk_frozen BK101.out 2
              have hfz33_3 := blk_frozen BK101.out 3
              go_wp2
              go_ret
              exact ⟨by first | rfl | (simp [errW_none, errW_some] <;> rfl) | (simp [*, errW_none, errW_some] <;> rfl), by repeat (first | (with_reducible first | exact HB.out | apply below_alloc | apply pw_below_drewN | apply below_drew1 | refine below_set ?_ GE101.out) | exact HB.out)⟩
          · replace c28 := Bool.eq_false_iff.mpr c28
            subst c28
            have H1 : (if a0_0 = 5 then (if a0_1 = 0 then (some (a0_2.toList == ([] : List UInt8))) else (some false)) else (some false)) = some r := by rw [if_neg (show ¬ (false = true) by decide)] at H; exact H
            clear H
            have H := H1
            clear H1
            by_cases c34 : a0_0 = 5
            · rw [if_pos c34] at H
              have c34b0 : (a0_0 == 5) = true := beq_iff_eq.mpr c34
              have c34b1 : (a0_0 != 5) = false := bne_eq_false_iff_eq.mpr c34
              clear c34
              by_cases c35 : a0_1 = 0
              · rw [if_pos c35] at H
                have c35b0 : (a0_1 == 0) = true := beq_iff_eq.mpr c35
                have c35b1 : (a0_1 != 0) = false := bne_eq_false_iff_eq.mpr c35
                clear c35
                obtain rfl := Option.some.inj H
                have hcz36_0 : wc.cell? ⟨gb101, 0, none⟩ = some (.int .i64 a0_0) := (blk_cell BK101.out 0).trans rfl
                have hcz36_1 : wc.cell? ⟨gb101, 1, none⟩ = some (.int .i64 a0_1) := (blk_cell BK101.out 1).trans rfl
                have hcz36_2 : wc.cell? ⟨gb101, 2, none⟩ = some (.string a0_2) := (blk_cell BK101.out 2).trans rfl
                have hcz36_3 : wc.cell? ⟨gb101, 3, none⟩ = some (.float .f64 a0_3) := (blk_cell BK101.out 3).trans rfl
                have hfz36_0 := blk_frozen BK101.out 0
                have hfz36_1 := blk_frozen BK101.out 1
                have hfz36_2 := blk_frozen BK101.out 2
                have hfz36_3 := blk_frozen BK101.out 3
                go_wp2
                go_ret
                exact ⟨by first | rfl | (simp [errW_none, errW_some] <;> rfl) | (simp [*, errW_none, errW_some] <;> rfl), by repeat (first | (with_reducible first | exact HB.out | apply below_alloc | apply pw_below_drewN | apply below_drew1 | refine below_set ?_ GE101.out) | exact HB.out)⟩
              · rw [if_neg c35] at H
                have c35b0 : (a0_1 == 0) = false := beq_eq_false_iff_ne.mpr c35
                have c35b1 : (a0_1 != 0) = true := bne_iff_ne.mpr c35
                obtain rfl := Option.some.inj H
                have hcz37_0 : wc.cell? ⟨gb101, 0, none⟩ = some (.int .i64 a0_0) := (blk_cell BK101.out 0).trans rfl
                have hcz37_1 : wc.cell? ⟨gb101, 1, none⟩ = some (.int .i64 a0_1) := (blk_cell BK101.out 1).trans rfl
                have hcz37_2 : wc.cell? ⟨gb101, 2, none⟩ = some (.string a0_2) := (blk_cell BK101.out 2).trans rfl
                have hcz37_3 : wc.cell? ⟨gb101, 3, none⟩ = some (.float .f64 a0_3) := (blk_cell BK101.out 3).trans rfl
                have hfz37_0 := blk_frozen BK101.out 0
                have hfz37_1 := blk_frozen BK101.out 1
                have hfz37_2 := blk_frozen BK101.out 2
                have hfz37_3 := blk_frozen BK101.out 3
                go_wp2
                go_ret
                exact ⟨by first | rfl | (simp [errW_none, errW_some] <;> rfl) | (simp [*, errW_none, errW_some] <;> rfl), by repeat (first | (with_reducible first | exact HB.out | apply below_alloc | apply pw_below_drewN | apply below_drew1 | refine below_set ?_ GE101.out) | exact HB.out)⟩
            · rw [if_neg c34] at H
              have c34b0 : (a0_0 == 5) = false := beq_eq_false_iff_ne.mpr c34
              have c34b1 : (a0_0 != 5) = true := bne_iff_ne.mpr c34
              obtain rfl := Option.some.inj H
              go_wp2
              go_ret
              exact ⟨by first | rfl | (simp [errW_none, errW_some] <;> rfl) | (simp [*, errW_none, errW_some] <;> rfl), by repeat (first | (with_reducible first | exact HB.out | apply below_alloc | apply pw_below_drewN | apply below_drew1 | refine below_set ?_ GE101.out) | exact HB.out)⟩

end Go.Proofs.YtpjfhdbkkomogaaDoor.Px
/- Walks: what the program prints of a string. -/
namespace Go.Proofs.YtpjfhdbkkomogaaDoor.Mb
open Go.RowKit Go.Proofs.YtpjfhdbkkomogaaDoorW.PrintWords Go.Proofs.YtpjfhdbkkomogaaDoorW.PrintLast Go.Proofs.YtpjfhdbkkomogaaDoorW.PrintMore Go.Proofs.YtpjfhdbkkomogaaDoor.Px Go.Proofs.YtpjfhdbkkomogaaDoor.Gvn

theorem size_data (s : ByteArray) : s.data.toList.length = s.size := rfl
attribute [local go_sem] run_store_float

theorem order0 : bits_Order.f 0 = some 9223372036854775808 := by unfold bits_Order.f; rw [if_pos (by omega), if_pos (by omega)]; rfl
theorem is_str (s : ByteArray) : value_Is.f 1 3 0 s 0 = some (decide (s.size ≤ 60)) := by
  unfold value_Is.f
  rw [order0, Option.bind_some, if_neg (by omega), if_neg (by omega), if_pos rfl]
  have e3 : ((3 : Int) == 3) = true := rfl
  rw [e3, value_Is.j0, if_pos rfl]
  by_cases h : s.size ≤ 60
  · have h' : (s.size : Int) ≤ 60 := by omega
    rw [if_pos h', if_pos rfl, decide_eq_true h]; rfl
  · have h' : ¬ (s.size : Int) ≤ 60 := by omega
    rw [if_neg h', decide_eq_false h]
theorem bcell {W w1 : World} (hb : Below W.heap.size W w1) : (∀ b o, b < W.heap.size → w1.cell? ⟨b, o, none⟩ = W.cell? ⟨b, o, none⟩) ∧ (∀ b o, b < W.heap.size → w1.frozen? ⟨b, o, none⟩ = W.frozen? ⟨b, o, none⟩) :=
  ⟨fun b o h => hb.cell (p := ⟨b, o, none⟩) h, fun b o h => hb.frozen (p := ⟨b, o, none⟩) h⟩
set_option maxRecDepth 100000 in
theorem print_str (s : ByteArray) (w : World) (h : s.size ≤ 60) :
    Calls Tryd.prog 10 #[.agg #[.int .i64 3, .int .i64 0, .string s, .float .f64 0]] w fun e w' => e = .returned (.string (B (quoteL s.data.toList))) ∧ Below w.heap.size w w' := by
  have hi := is_str s
  rw [decide_eq_true h] at hi
  have hq := quoted_is (2 * s.size + 5) s.data.toList (by rw [size_data]; omega) (by rw [size_data]; omega)
  rw [B_data] at hq
  have HI := Lib.hid hi
  have HQ := Lib.hid hq
  clear hi hq
  go_enter Tryd.func10, Tryd.ntmps10
  go_wp2_with (first | (go_at_call 24; refine (value_Is.calls _ _ _ _ _ _ _ HI.out).mono ?_; rintro e w1 ⟨rfl, hb1⟩; obtain ⟨hc1, hf1⟩ := bcell hb1) | (go_at_call 27; refine (text_quoted.calls _ _ _ _ HQ.out).mono ?_; rintro e w2 ⟨rfl, hb2⟩))
  go_ret
  refine ⟨rfl, ?_⟩
  have h1 := (Below.refl w.heap.size w).alloc (Nat.le_refl _) (.cells #[Value.int IntKind.i64 3, Value.int IntKind.i64 0, Value.string s, Value.float FloatKind.f64 0] 24)
  have h2 := h1.trans (hb1.mono (by simp))
  exact h2.trans (hb2.mono h2.size)
set_option maxRecDepth 100000 in
theorem print_long (s : ByteArray) (w : World) (h : ¬ s.size ≤ 60) :
    Calls Tryd.prog 10 #[.agg #[.int .i64 3, .int .i64 0, .string s, .float .f64 0]] w fun e w' => e = .returned (.string (B [63])) ∧ Below w.heap.size w w' := by
  have hi := is_str s
  rw [decide_eq_false h] at hi
  have HI := Lib.hid hi
  clear hi
  go_enter Tryd.func10, Tryd.ntmps10
  go_wp2_with (first | (go_at_call 24; refine (value_Is.calls _ _ _ _ _ _ _ HI.out).mono ?_; rintro e w1 ⟨rfl, hb1⟩))
  go_ret
  refine ⟨rfl, ?_⟩
  have h1 := (Below.refl w.heap.size w).alloc (Nat.le_refl _) (.cells #[Value.int IntKind.i64 3, Value.int IntKind.i64 0, Value.string s, Value.float FloatKind.f64 0] 24)
  exact h1.trans (hb1.mono (by simp))
set_option maxRecDepth 100000 in
theorem front_quote (l : List UInt8) (k : Nat) (o r : ByteArray) (b : Bool) (w : World) (h : text_unquoted.f k (B l) = some (o, r, b)) :
    Calls Tryd.prog 33 #[.string (B (34 :: l))] w fun e w' => e = .returned (.tuple #[.agg #[.int .i64 3, .int .i64 0, .string o, .float .f64 0], .string r, .bool b]) ∧ Below w.heap.size w w' := by
  have hp := hasPrefix_is (34 :: l) [34]
  have hf : ((34 :: l).take ([34] : List UInt8).length == [34]) = true := by simp
  rw [hf] at hp
  have HP : Hid (strings_HasPrefix.f (B (34 :: l)) (⟨#[34]⟩ : ByteArray) = some true) := hp
  have HU := Lib.hid h
  have ht := tail1 34 l
  have HT := Lib.hid ht
  obtain ⟨s, hs⟩ : ∃ s, s = B (34 :: l) := ⟨_, rfl⟩
  have hsz : 1 ≤ s.size := by rw [hs, size_cons]; omega
  rw [← hs] at HP HT ⊢
  clear hs hp hf h ht
  go_enter Tryd.func33, Tryd.ntmps33
  go_wp2_with (first | (go_at_call 44; refine (strings_HasPrefix.calls _ _ _ _ HP.out).mono ?_; rintro e w1 ⟨rfl, ⟨n1, rfl⟩⟩) | (go_at_call 50; rw [HT.out]; refine (text_unquoted.calls _ _ _ _ _ _ HU.out).mono ?_; rintro e w2 ⟨rfl, hb2⟩; obtain ⟨hc2, hf2⟩ := bcell hb2; have hz2 := hb2.size))
  refine bodyPost_ret (v := .tuple #[.agg #[.int .i64 3, .int .i64 0, .string o, .float .f64 0], .string r, .bool b]) ?_ rfl ⟨rfl, ?_⟩
  · simp [results, Tryd.results33, go_sem, hc2]
  · have hB : Below w.heap.size w w2 := by
      refine Below.trans ?_ (hb2.mono (by simp))
      repeat (first | exact Below.refl _ _ | apply below_alloc | apply pw_below_drewN | apply below_drew1)
    exact (((hB.setCell (Nat.le_refl _) _).setCell (Nat.le_refl _) _).setCell (Nat.le_refl _) _).setCell (Nat.le_refl _) _
/-- A value, as the walk has it. -/
abbrev Av (k i : Int) (s : ByteArray) (f : Nat) : Value := .agg #[.int .i64 k, .int .i64 i, .string s, .float .f64 f]
abbrev zeroCells : Obj := .cells #[Value.int IntKind.i64 0, Value.int IntKind.i64 0, Value.string ⟨#[]⟩, Value.float FloatKind.f64 0] 24
theorem below_zero (w : World) : Below w.heap.size w (w.alloc zeroCells) := (Below.refl w.heap.size w).alloc (Nat.le_refl _) _
section
variable {T : World → Prop} (HM : ∀ {w w' : World}, T w → Below w.heap.size w w' → T w')
include HM
set_option maxRecDepth 100000 in
/-- text.Parse: what is read is printed as the text. -/
theorem parse_ok (t n : ByteArray) (hn : n.toList = []) (k i : Int) (s : ByteArray) (f : Nat) (w : World) (hw : T w)
    (FQ : ∀ w, T w → Calls Tryd.prog 33 #[.string t] w fun e w' => e = .returned (.tuple #[Av k i s f, .string n, .bool true]) ∧ Below w.heap.size w w')
    (PS : ∀ w, T w → Calls Tryd.prog 10 #[Av k i s f] w fun e w' => e = .returned (.string t) ∧ Below w.heap.size w w') :
    Calls Tryd.prog 14 #[.string t] w fun e w' => e = .returned (.tuple #[Av k i s f, .int .i64 0]) ∧ Below w.heap.size w w' := by
  have m1 : n.toList.isEmpty = true := by rw [hn]; rfl
  have hT1 : T (w.alloc zeroCells) := HM hw (below_zero w)
  go_enter Tryd.func14, Tryd.ntmps14
  go_wp2_with fail
  go_at_call 33
  refine (FQ _ hT1).mono ?_
  rintro e w1 ⟨rfl, hb1⟩
  have hT2 : T (w1.alloc (.cells #[.int .i64 k, .int .i64 i, .string s, .float .f64 f] 24)) := HM (HM hT1 hb1) ((Below.refl w1.heap.size w1).alloc (Nat.le_refl _) _)
  obtain ⟨hc1, hf1⟩ := bcell hb1
  have hz1 := hb1.size
  simp at hz1
  have hz1a : w.heap.size < w1.heap.size := by omega
  have hz1b : w.heap.size < w1.heap.size + 1 := by omega
  clear hz1
  go_wp2_with fail
  go_at_call 10
  refine (PS _ hT2).mono ?_
  rintro e w2 ⟨rfl, hb2⟩
  obtain ⟨hc2, hf2⟩ := bcell hb2
  have hz2 := hb2.size
  simp at hz2
  have hz2a : w1.heap.size < w2.heap.size := by omega
  have hz2b : w.heap.size < w2.heap.size := by omega
  clear hz2
  go_wp2
  refine bodyPost_ret (v := .tuple #[Av k i s f, .int .i64 0]) ?_ rfl ⟨rfl, ?_⟩
  · simp [results, Tryd.results14, go_sem, hc1, hc2, hz1a, hz1b]
  · have hB1 : Below w.heap.size w w1 := (below_zero w).trans (hb1.mono (by simp))
    have hB2 : Below w.heap.size w w2 := (hB1.trans (((Below.refl w1.heap.size w1).alloc (Nat.le_refl _) _).mono hB1.size)).trans (hb2.mono (by simp; omega))
    exact (((hB2.setCell (Nat.le_refl _) _).setCell (Nat.le_refl _) _).setCell (Nat.le_refl _) _).setCell (Nat.le_refl _) _
set_option maxRecDepth 100000 in
/-- text.Parse: no value is read, or something is left. -/
theorem parse_bad (t r : ByteArray) (ok : Bool) (hr : ok = false ∨ r.toList.isEmpty = false) (k i : Int) (s : ByteArray) (f : Nat) (w : World) (hw : T w)
    (FQ : ∀ w, T w → Calls Tryd.prog 33 #[.string t] w fun e w' => e = .returned (.tuple #[Av k i s f, .string r, .bool ok]) ∧ Below w.heap.size w w') :
    Calls Tryd.prog 14 #[.string t] w fun e w' => e = .returned (.tuple #[Av 0 0 ⟨#[]⟩ 0, .int .i64 30]) ∧ Below w.heap.size w w' := by
  have hT1 : T (w.alloc zeroCells) := HM hw (below_zero w)
  go_enter Tryd.func14, Tryd.ntmps14
  go_wp2_with fail
  go_at_call 33
  refine (FQ _ hT1).mono ?_
  rintro e w1 ⟨rfl, hb1⟩
  obtain ⟨hc1, hf1⟩ := bcell hb1
  have hz1 := hb1.size
  simp at hz1
  have hz1a : w.heap.size < w1.heap.size := by omega
  have hz1b : w.heap.size < w1.heap.size + 1 := by omega
  have hB1 : Below w.heap.size w w1 := (below_zero w).trans (hb1.mono (by simp))
  clear hz1
  cases ok with
  | false =>
    clear hr
    go_wp2
    refine bodyPost_ret (v := .tuple #[Av 0 0 ⟨#[]⟩ 0, .int .i64 30]) ?_ rfl ⟨rfl, ?_⟩
    · simp [results, Tryd.results14, go_sem, hc1, hz1a]
    · repeat (first | exact hB1 | apply below_alloc | refine below_set ?_ (Nat.le_refl _))
  | true =>
    have hr := hr.resolve_left (by simp)
    go_wp2
    refine bodyPost_ret (v := .tuple #[Av 0 0 ⟨#[]⟩ 0, .int .i64 30]) ?_ rfl ⟨rfl, ?_⟩
    · simp [results, Tryd.results14, go_sem, hc1, hz1a]
    · repeat (first | exact hB1 | apply below_alloc | refine below_set ?_ (Nat.le_refl _))
set_option maxRecDepth 100000 in
/-- text.Parse: what is read is printed otherwise. -/
theorem parse_other (t n u : ByteArray) (hn : n.toList = []) (hu : (u.toList == t.toList) = false) (k i : Int) (s : ByteArray) (f : Nat) (w : World) (hw : T w)
    (FQ : ∀ w, T w → Calls Tryd.prog 33 #[.string t] w fun e w' => e = .returned (.tuple #[Av k i s f, .string n, .bool true]) ∧ Below w.heap.size w w')
    (PS : ∀ w, T w → Calls Tryd.prog 10 #[Av k i s f] w fun e w' => e = .returned (.string u) ∧ Below w.heap.size w w') :
    Calls Tryd.prog 14 #[.string t] w fun e w' => e = .returned (.tuple #[Av 0 0 ⟨#[]⟩ 0, .int .i64 30]) ∧ Below w.heap.size w w' := by
  have m1 : n.toList.isEmpty = true := by rw [hn]; rfl
  have hu2 : (u.toList != t.toList) = true := by rw [bne, hu]; rfl
  have hT1 : T (w.alloc zeroCells) := HM hw (below_zero w)
  go_enter Tryd.func14, Tryd.ntmps14
  go_wp2_with fail
  go_at_call 33
  refine (FQ _ hT1).mono ?_
  rintro e w1 ⟨rfl, hb1⟩
  have hT2 : T (w1.alloc (.cells #[.int .i64 k, .int .i64 i, .string s, .float .f64 f] 24)) := HM (HM hT1 hb1) ((Below.refl w1.heap.size w1).alloc (Nat.le_refl _) _)
  obtain ⟨hc1, hf1⟩ := bcell hb1
  have hz1 := hb1.size
  simp at hz1
  have hz1a : w.heap.size < w1.heap.size := by omega
  have hz1b : w.heap.size < w1.heap.size + 1 := by omega
  clear hz1
  go_wp2_with fail
  go_at_call 10
  refine (PS _ hT2).mono ?_
  rintro e w2 ⟨rfl, hb2⟩
  obtain ⟨hc2, hf2⟩ := bcell hb2
  have hz2 := hb2.size
  simp at hz2
  have hz2a : w1.heap.size < w2.heap.size := by omega
  have hz2b : w.heap.size < w2.heap.size := by omega
  clear hz2
  go_wp2
  refine bodyPost_ret (v := .tuple #[Av 0 0 ⟨#[]⟩ 0, .int .i64 30]) ?_ rfl ⟨rfl, ?_⟩
  · simp [results, Tryd.results14, go_sem, hc1, hc2, hz1a, hz1b]
  · have hB1 : Below w.heap.size w w1 := (below_zero w).trans (hb1.mono (by simp))
    have hB2 : Below w.heap.size w w2 := (hB1.trans (((Below.refl w1.heap.size w1).alloc (Nat.le_refl _) _).mono hB1.size)).trans (hb2.mono (by simp; omega))
    exact (((hB2.setCell (Nat.le_refl _) _).setCell (Nat.le_refl _) _).setCell (Nat.le_refl _) _).setCell (Nat.le_refl _) _
end
end Go.Proofs.YtpjfhdbkkomogaaDoor.Mb
