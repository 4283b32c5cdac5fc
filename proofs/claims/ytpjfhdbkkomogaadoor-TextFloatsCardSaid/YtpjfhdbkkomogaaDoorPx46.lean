/- Functions of this program as Lean functions, and that the calls answer as they do: printed by this session's printmore.py. -/
import Derived.Test.YtpjfhdbkkomogaaDoorPx0
import Derived.Test.YtpjfhdbkkomogaaDoorPx27
import Derived.Test.YtpjfhdbkkomogaaDoorPx45
namespace Go.Proofs.YtpjfhdbkkomogaaDoor.Px
open Go.RowKit Go.Proofs.YtpjfhdbkkomogaaDoor.Gvn Go.Proofs.YtpjfhdbkkomogaaDoorW.PrintWords Go.Proofs.YtpjfhdbkkomogaaDoorW.PrintLast Go.Proofs.YtpjfhdbkkomogaaDoorW.PrintMore
attribute [local go_sem] run_store_float max2_int min2_int max_two min_two max_three min_three max_four min_four   -- for this text's walks alone
set_option linter.unusedVariables false
set_option linter.unusedSimpArgs false

/-! ### text_unquoted: function 50 -/
mutual
def text_unquoted.l0 : Nat → ByteArray → List Int → Option (ByteArray × ByteArray × Bool)
  | 0, _, _ => none
  | k + 1, x0, x5 => if x0.toList = ([] : List UInt8) then (some ((⟨#[]⟩ : ByteArray), (⟨#[]⟩ : ByteArray), false)) else (if 0 < (x0.size : Int) then (if 1 ≤ (x0.size : Int) then (if (bt x0 0) = 34 then (some (strOfNums x5, x0.extract 1 x0.size, true)) else (if (bt x0 0) = 92 then ((strings_HasPrefix.f (x0.extract 1 x0.size) (⟨#[120]⟩ : ByteArray)).bind fun t142 => (if t142 = true then (text_unquoted.j1 k (x0.extract 1 x0.size) x5 (decide (((x0.extract 1 x0.size).size : Int) > 2))) else (text_unquoted.j1 k (x0.extract 1 x0.size) x5 false))) else (if x5.length < 140737488355328 then (text_unquoted.l0 k (x0.extract 1 x0.size) (x5 ++ [bt x0 0])) else (none)))) else (none)) else (none))
def text_unquoted.j1 : Nat → ByteArray → List Int → Bool → Option (ByteArray × ByteArray × Bool)
  | 0, _, _, _ => none
  | k + 1, x0, x5, x28 => if x28 = true then (if 1 ≤ 3 then (if 3 ≤ (x0.size : Int) then ((text_unhexed.f k (x0.extract 1 3)).bind fun bt143 => (if bt143.2.toList = ([] : List UInt8) then (if x5.length + bt143.1.size < 140737488355328 then (text_unquoted.l0 k (x0.extract 3 x0.size) (x5 ++ bytesOf bt143.1)) else (none)) else (some ((⟨#[]⟩ : ByteArray), (⟨#[]⟩ : ByteArray), false)))) else (none)) else (none)) else (if x0.toList = ([] : List UInt8) then (text_unquoted.l0 k x0 x5) else (if 0 < (x0.size : Int) then (if x5.length < 140737488355328 then (if 1 ≤ (x0.size : Int) then (text_unquoted.l0 k (x0.extract 1 x0.size) (x5 ++ [bt x0 0])) else (none)) else (none)) else (none)))
end
def text_unquoted.f (k : Nat) (a0 : ByteArray) : Option (ByteArray × ByteArray × Bool) := text_unquoted.l0 k a0 ([] : List Int)
theorem text_unquoted.mono_l : ∀ k, (∀ y0 y1, LeO (text_unquoted.l0 k y0 y1) (text_unquoted.l0 (k + 1) y0 y1)) ∧ (∀ y0 y1 y2, LeO (text_unquoted.j1 k y0 y1 y2) (text_unquoted.j1 (k + 1) y0 y1 y2))
  | 0 => ⟨fun _ _ r h => by simp [text_unquoted.l0] at h, fun _ _ _ r h => by simp [text_unquoted.j1] at h⟩
  | k + 1 => by
    obtain ⟨ih0, ih1⟩ := text_unquoted.mono_l k
    refine ⟨?_, ?_⟩
    · intro y0 y1
      unfold text_unquoted.l0
      repeat' first
      | (with_reducible exact ih0 _ _)
      | (with_reducible exact ih1 _ _ _)
      | (with_reducible exact text_unhexed.mono _ _)
      | (with_reducible exact LeO.refl _)
      | (with_reducible exact LeO.none _)
      | (with_reducible refine LeO.ite ?_ ?_)
      | (with_reducible refine LeO.bind ?_ (fun _ => ?_))
      | exact ih0 _ _
      | exact ih1 _ _ _
      | exact text_unhexed.mono _ _
      | exact LeO.none _
      | refine LeO.ite ?_ ?_
      | refine LeO.bind ?_ (fun _ => ?_)
    · intro y0 y1 y2
      unfold text_unquoted.j1
      repeat' first
      | (with_reducible exact ih0 _ _)
      | (with_reducible exact ih1 _ _ _)
      | (with_reducible exact text_unhexed.mono _ _)
      | (with_reducible exact LeO.refl _)
      | (with_reducible exact LeO.none _)
      | (with_reducible refine LeO.ite ?_ ?_)
      | (with_reducible refine LeO.bind ?_ (fun _ => ?_))
      | exact ih0 _ _
      | exact ih1 _ _ _
      | exact text_unhexed.mono _ _
      | exact LeO.none _
      | refine LeO.ite ?_ ?_
      | refine LeO.bind ?_ (fun _ => ?_)
theorem text_unquoted.mono : ∀ a0 k, LeO (text_unquoted.f k a0) (text_unquoted.f (k + 1) a0) := by
  intro a0 k
  obtain ⟨ih0, ih1⟩ := text_unquoted.mono_l k
  unfold text_unquoted.f
  repeat' first
      | (with_reducible exact ih0 _ _)
      | (with_reducible exact ih1 _ _ _)
      | (with_reducible exact text_unhexed.mono _ _)
      | (with_reducible exact LeO.refl _)
      | (with_reducible exact LeO.none _)
      | (with_reducible refine LeO.ite ?_ ?_)
      | (with_reducible refine LeO.bind ?_ (fun _ => ?_))
      | exact ih0 _ _
      | exact ih1 _ _ _
      | exact text_unhexed.mono _ _
      | exact LeO.none _
      | refine LeO.ite ?_ ?_
      | refine LeO.bind ?_ (fun _ => ?_)
set_option maxHeartbeats 8000000 in
set_option maxRecDepth 100000 in
theorem text_unquoted.calls (k : Nat) (a0 : ByteArray) (r1 : ByteArray) (r2 : ByteArray) (r3 : Bool) (w : World) (h : text_unquoted.f k a0 = some (r1, r2, r3)) :
    Calls Tryd.prog 50 #[.string a0] w fun e w' => e = .returned (.tuple #[.string r1, .string r2, .bool r3]) ∧ Below w.heap.size w w' := by
  have HB := Aside0.mk (Below.refl w.heap.size w)
  have H : (text_unquoted.l0 k a0 ([] : List Int)) = some (r1, r2, r3) := h
  clear h
  have H' := Aside0.mk H
  clear H
  have k23 := run23
  have k22 := run22
  go_enter Tryd.func50, Tryd.ntmps50
  go_wp2
  go_loopg [0, 5] k (fun kq v0 v5 w' => ∃ (x0_1 : ByteArray) (x5_1 : List Int), v0 = .string x0_1 ∧ Aside0 (text_unquoted.l0 kq x0_1 x5_1 = some (r1, r2, r3)) ∧ Aside0 (kq ≤ k) ∧ Aside0 (Kd.R (Kd.int .u8) 5 w' w.heap.size (fun _ => True) v5 x5_1) ∧ Aside0 (Below w.heap.size w w'))
  case atStart => exact ⟨(a0), (([] : List Int)), (by first | rfl | (simp; done) | (simp [*]; done)), H', ⟨Nat.le_refl _⟩, ⟨by first | exact Kd.R_nil _ _ _ _ _ | exact Kd.N_nil _ _ _ _ _ | exact Kd.V_nil _ _ _ _ _ | exact Kd.Q_nil _ _ _ _ _ | exact Kd.S_nil _ _ _ _ _⟩, ⟨by repeat (first | (with_reducible first | exact HB.out | apply below_alloc | apply pw_below_drewN | apply below_drew1) | exact HB.out)⟩⟩
  case round =>
    clear H'
    obtain ⟨x0_1, x5_1, rfl, HA, HK1, HO_5, HB⟩ := hrel
    cases gk with
    | zero => exact absurd HA.out (by simp [text_unquoted.l0])
    | succ k1 =>
      have H := HA.out
      clear HA
      simp only [text_unquoted.l0] at H
      by_cases c2 : x0_1.toList = ([] : List UInt8)
      · rw [if_pos c2] at H
        have c2b0 : (x0_1.toList == ([] : List UInt8)) = true := beq_iff_eq.mpr c2
        have c2b1 : (x0_1.toList != ([] : List UInt8)) = false := bne_eq_false_iff_eq.mpr c2
        clear c2
        simp only [Option.some.injEq, Prod.mk.injEq] at H
        obtain ⟨rfl, rfl, rfl⟩ := H
        go_wp2
        go_ret3
        exact ⟨by first | rfl | (simp [errW_none, errW_some] <;> rfl) | (simp [*, errW_none, errW_some] <;> rfl), by repeat (first | (with_reducible first | exact HB.out | apply below_alloc | apply pw_below_drewN | apply below_drew1) | exact HB.out)⟩
      · rw [if_neg c2] at H
        have c2b0 : (x0_1.toList == ([] : List UInt8)) = false := beq_eq_false_iff_ne.mpr c2
        have c2b1 : (x0_1.toList != ([] : List UInt8)) = true := bne_iff_ne.mpr c2
        by_cases c3 : 0 < (x0_1.size : Int)
        · rw [if_pos c3] at H
          have c3b0 : decide (0 < (x0_1.size : Int)) = true := decide_eq_true c3
          have c3b1 : decide (0 < x0_1.size) = true := decide_eq_true (by omega)
          clear c3
          by_cases c5 : 1 ≤ (x0_1.size : Int)
          · rw [if_pos c5] at H
            have c5b0 := eq_true c5
            have c5b1 : decide (1 ≤ (x0_1.size : Int)) = true := decide_eq_true c5
            clear c5
            by_cases c6 : (bt x0_1 0) = 34
            · rw [if_pos c6] at H
              have c6b0 : ((bt x0_1 0) == 34) = true := beq_iff_eq.mpr c6
              have c6b1 : ((bt x0_1 0) != 34) = false := bne_eq_false_iff_eq.mpr c6
              clear c6
              simp only [Option.some.injEq, Prod.mk.injEq] at H
              obtain ⟨rfl, rfl, rfl⟩ := H
              have p4 : 0 ≤ (0 : Int) := (by omega)
              have q4 : 0 < x0_1.size := (by have : (0 : Int) < (x0_1.size : Int) := of_decide_eq_true (by first | (with_reducible assumption) | assumption); omega)
              have hx4 : ∀ h : 0 < x0_1.size, ((x0_1[0]'h).toNat : Int) = bt x0_1 0 := bt_at x0_1 0
              clear p4
              have qi4 : (0 < (x0_1.size : Int)) = True := eq_true (of_decide_eq_true (by first | (with_reducible assumption) | assumption))
              replace q4 := eq_true q4
              have hcv7 := own_string (P := Tryd.prog) Tryd.underlying57 Tryd.underlying5 Tryd.underlying9 (Kd.own_of_R HO_5.out)
              go_wp2
              go_ret3
              exact ⟨by first | rfl | (simp [errW_none, errW_some] <;> rfl) | (simp [*, errW_none, errW_some] <;> rfl), by repeat (first | (with_reducible first | exact HB.out | apply below_alloc | apply pw_below_drewN | apply below_drew1) | exact HB.out)⟩
            · rw [if_neg c6] at H
              have c6b0 : ((bt x0_1 0) == 34) = false := beq_eq_false_iff_ne.mpr c6
              have c6b1 : ((bt x0_1 0) != 34) = true := bne_iff_ne.mpr c6
              by_cases c8 : (bt x0_1 0) = 92
              · rw [if_pos c8] at H
                have c8b0 : ((bt x0_1 0) == 92) = true := beq_iff_eq.mpr c8
                have c8b1 : ((bt x0_1 0) != 92) = false := bne_eq_false_iff_eq.mpr c8
                clear c8
                have HC9 := Aside0.mk H
                clear H
                have p4 : 0 ≤ (0 : Int) := (by omega)
                have q4 : 0 < x0_1.size := (by have : (0 : Int) < (x0_1.size : Int) := of_decide_eq_true (by first | (with_reducible assumption) | assumption); omega)
                have hx4 : ∀ h : 0 < x0_1.size, ((x0_1[0]'h).toNat : Int) = bt x0_1 0 := bt_at x0_1 0
                clear p4
                have qi4 : (0 < (x0_1.size : Int)) = True := eq_true (of_decide_eq_true (by first | (with_reducible assumption) | assumption))
                replace q4 := eq_true q4
                go_upto_region 9 with (fail)
                go_cut [28] (fun v28 wc => ∃ (kq : Nat) (x28_8 : Bool), v28 = .bool x28_8 ∧ Aside0 (text_unquoted.j1 kq (x0_1.extract 1 x0_1.size) x5_1 x28_8 = some (r1, r2, r3)) ∧ Aside0 (kq ≤ k1) ∧ Aside0 (Kd.R (Kd.int .u8) 5 wc w.heap.size (fun _ => True) u5 x5_1) ∧ Aside0 (Below w.heap.size w wc))
                case first =>
                  have H := HC9.out
                  clear HC9
                  replace H := Option.bind_eq_some_iff.mp H
                  obtain ⟨t142, A100, H⟩ := H
                  replace H : (if t142 = true then (text_unquoted.j1 k1 (x0_1.extract 1 x0_1.size) x5_1 (decide (((x0_1.extract 1 x0_1.size).size : Int) > 2))) else (text_unquoted.j1 k1 (x0_1.extract 1 x0_1.size) x5_1 false)) = some (r1, r2, r3) := H
                  have A10 := Aside0.mk A100
                  clear A100
                  by_cases c11 : t142 = true
                  · subst c11
                    have H1 : (text_unquoted.j1 k1 (x0_1.extract 1 x0_1.size) x5_1 (decide (((x0_1.extract 1 x0_1.size).size : Int) > 2))) = some (r1, r2, r3) := by rw [if_pos rfl] at H; exact H
                    clear H
                    have H := H1
                    clear H1
                    have H' := Aside0.mk H
                    clear H
                    go_wp2_with (first | ((with_reducible refine gate_callee (f := 44) rfl ?_); refine goesL_ (some 30) rfl rfl Tryd.func44 (by kernel_rfl) rfl #[.string (x0_1.extract 1 x0_1.size), .string (⟨#[120]⟩ : ByteArray)] rfl (by (try simp only [List.map_toArray, List.map_cons, List.map_nil]); first | done | rfl | (simp only [List.length_drop, List.length_take]; rfl)) ?_; (with_reducible refine (strings_HasPrefix.calls (x0_1.extract 1 x0_1.size) (⟨#[120]⟩ : ByteArray) true _ A10.out).mono ?_); rintro e w' ⟨rfl, ⟨nd, rfl⟩⟩; refine ⟨_, rfl, ?_⟩))
                    go_meet
                    case rel => exact ⟨_, (decide (((x0_1.extract 1 x0_1.size).size : Int) > 2)), (by first | rfl | (simp; done) | (simp [*]; done)), H', ⟨by have := HK1.out; first | omega | exact Nat.le_refl _⟩, ⟨by (with_reducible repeat (first | apply Kd.R_alloc | apply Kd.R_drewN | apply Kd.R_drew)); exact HO_5.out⟩, ⟨by repeat (first | (with_reducible first | exact HB.out | apply below_alloc | apply pw_below_drewN | apply below_drew1) | exact HB.out)⟩⟩
                  · replace c11 := Bool.eq_false_iff.mpr c11
                    subst c11
                    have H1 : (text_unquoted.j1 k1 (x0_1.extract 1 x0_1.size) x5_1 false) = some (r1, r2, r3) := by rw [if_neg (show ¬ (false = true) by decide)] at H; exact H
                    clear H
                    have H := H1
                    clear H1
                    have H' := Aside0.mk H
                    clear H
                    go_wp2_with (first | ((with_reducible refine gate_callee (f := 44) rfl ?_); refine goesL_ (some 30) rfl rfl Tryd.func44 (by kernel_rfl) rfl #[.string (x0_1.extract 1 x0_1.size), .string (⟨#[120]⟩ : ByteArray)] rfl (by (try simp only [List.map_toArray, List.map_cons, List.map_nil]); first | done | rfl | (simp only [List.length_drop, List.length_take]; rfl)) ?_; (with_reducible refine (strings_HasPrefix.calls (x0_1.extract 1 x0_1.size) (⟨#[120]⟩ : ByteArray) false _ A10.out).mono ?_); rintro e w' ⟨rfl, ⟨nd, rfl⟩⟩; refine ⟨_, rfl, ?_⟩))
                    go_meet
                    case rel => exact ⟨_, (false), (by first | rfl | (simp; done) | (simp [*]; done)), H', ⟨by have := HK1.out; first | omega | exact Nat.le_refl _⟩, ⟨by (with_reducible repeat (first | apply Kd.R_alloc | apply Kd.R_drewN | apply Kd.R_drew)); exact HO_5.out⟩, ⟨by repeat (first | (with_reducible first | exact HB.out | apply below_alloc | apply pw_below_drewN | apply below_drew1) | exact HB.out)⟩⟩
                case rest =>
                  clear HC9
                  try clear c1
                  try clear c2
                  try clear c2b0
                  try clear c2b1
                  try clear p2
                  try clear c3
                  try clear c3b0
                  try clear c3b1
                  try clear c4
                  try clear p4
                  try clear q4
                  try clear hx4
                  try clear qi4
                  try clear c5
                  try clear c5b0
                  try clear c5b1
                  try clear c6
                  try clear c6b0
                  try clear c6b1
                  try clear hcv7
                  try clear c8
                  try clear c8b0
                  try clear c8b1
                  try clear c11
                  try clear p4
                  try clear q4
                  obtain ⟨kq, x28_8, rfl, HA, HJ8, HO_5, HB⟩ := hcut
                  generalize x0_1.extract 1 x0_1.size = sx0_ at HA ⊢
                  cases kq with
                  | zero => exact absurd HA.out (by simp [text_unquoted.j1])
                  | succ kj8 =>
                    have H := HA.out
                    clear HA
                    simp only [text_unquoted.j1] at H
                    by_cases c12 : x28_8 = true
                    · subst c12
                      have H1 : (if 1 ≤ 3 then (if 3 ≤ (sx0_.size : Int) then ((text_unhexed.f kj8 (sx0_.extract 1 3)).bind fun bt143 => (if bt143.2.toList = ([] : List UInt8) then (if x5_1.length + bt143.1.size < 140737488355328 then (text_unquoted.l0 kj8 (sx0_.extract 3 sx0_.size) (x5_1 ++ bytesOf bt143.1)) else (none)) else (some ((⟨#[]⟩ : ByteArray), (⟨#[]⟩ : ByteArray), false)))) else (none)) else (none)) = some (r1, r2, r3) := by rw [if_pos rfl] at H; exact H
                      clear H
                      have H := H1
                      clear H1
                      by_cases c13 : 1 ≤ 3
                      · rw [if_pos c13] at H
                        have c13b0 := eq_true c13
                        have c13b1 : decide (1 ≤ 3) = true := decide_eq_true c13
                        clear c13
                        by_cases c14 : 3 ≤ (sx0_.size : Int)
                        · rw [if_pos c14] at H
                          have c14b0 := eq_true c14
                          have c14b1 : decide (3 ≤ (sx0_.size : Int)) = true := decide_eq_true c14
                          clear c14
                          replace H := Option.bind_eq_some_iff.mp H
                          obtain ⟨⟨t143, t144⟩, A150, H⟩ := H
                          replace H : (if t144.toList = ([] : List UInt8) then (if x5_1.length + t143.size < 140737488355328 then (text_unquoted.l0 kj8 (sx0_.extract 3 sx0_.size) (x5_1 ++ bytesOf t143)) else (none)) else (some ((⟨#[]⟩ : ByteArray), (⟨#[]⟩ : ByteArray), false))) = some (r1, r2, r3) := H
                          have A15 := Aside0.mk A150
                          clear A150
                          by_cases c16 : t144.toList = ([] : List UInt8)
                          · rw [if_pos c16] at H
                            have c16b0 : (t144.toList == ([] : List UInt8)) = true := beq_iff_eq.mpr c16
                            have c16b1 : (t144.toList != ([] : List UInt8)) = false := bne_eq_false_iff_eq.mpr c16
                            clear c16
                            by_cases c17 : x5_1.length + t143.size < 140737488355328
                            · rw [if_pos c17] at H
                              have LMc17 := Aside0.mk c17
                              clear c17
                              obtain ⟨y145, hy145⟩ : ∃ y_ : List Int, y_ = (x5_1 ++ bytesOf t143) := ⟨_, rfl⟩
                              replace H : (text_unquoted.l0 kj8 (sx0_.extract 3 sx0_.size) y145) = some (r1, r2, r3) := by first | (rw [hy145]; with_reducible exact H) | (have H2_ := (Option.bind_some _ _).symm.trans H; rw [hy145]; with_reducible exact H2_) | (have H2_ := (Option.bind_some _ _).symm.trans H; with_reducible exact H2_) | with_reducible exact H | (rw [hy145]; exact H) | exact H
                              have Ny145 := Aside0.mk hy145
                              clear hy145
                              have c18b0 := eq_true (of_decide_eq_true (by first | (with_reducible assumption) | assumption) : 3 ≤ (sx0_.size : Int))
                              have H' := Aside0.mk H
                              clear H
                              go_wp2_with (first | ((with_reducible refine gate_callee (f := 51) rfl ?_); refine goesL_ (some 39) rfl rfl Tryd.func51 (by kernel_rfl) rfl #[.string (sx0_.extract 1 3)] rfl (by (try simp only [List.map_toArray, List.map_cons, List.map_nil]); first | done | rfl | (simp only [List.length_drop, List.length_take]; rfl)) ?_; (with_reducible refine (text_unhexed.calls kj8 (sx0_.extract 1 3) t143 t144 _ A15.out).mono ?_); rintro e w19 ⟨rfl, hb⟩; refine ⟨_, rfl, ?_⟩; have n0_ := Aside0.mk (Kd.R_below (by (with_reducible repeat (first | apply Kd.R_alloc | apply Kd.R_drewN | apply Kd.R_drew)); exact HO_5.out) hb); have n1_ := Aside0.mk (below_step (by repeat (first | (with_reducible first | exact HB.out | apply below_alloc | apply pw_below_drewN | apply below_drew1) | exact HB.out)) hb); clear HO_5; clear HB; have HO_5 := n0_; have HB := n1_; clear n0_ n1_; (try clear hb); (try clear hb2); (try clear hk); (try clear hi)) | (at_builtin; refine print_append_str (w0 := w) w.heap.size rfl (.tmp 44) _ 57 9 5 rfl Tryd.underlying57 Tryd.underlying9 info5 u5 x5_1 t143 rfl rfl ?aO ?aB ?aS ?aL ?_; (case aB => exact (by repeat (first | (with_reducible first | exact HB.out | apply below_alloc | apply pw_below_drewN | apply below_drew1) | exact HB.out))); (case aO => exact (Kd.own_of_R (by (with_reducible repeat (first | apply Kd.R_alloc | apply Kd.R_drewN | apply Kd.R_drew)); exact HO_5.out))); (case aS => exact (below_size (by repeat (first | (with_reducible first | exact HB.out | apply below_alloc | apply pw_below_drewN | apply below_drew1) | exact HB.out)))); (case aL => have := LMc17.out; omega); intro v146 w20 ho0 hb hg; have ho := Kd.R_of_own (h1 := fun _ => rfl) (ok := fun _ => True) ho0 (fun _ _ => trivial); clear ho0; have hat := True.intro; rw [← Ny145.out] at ho; change Kd.R (Kd.int .u8) 5 w20 w.heap.size (fun _ => True) v146 y145 at ho; have n0_ := Aside0.mk (hb); have n1_ := Aside0.mk (ho); clear HB; clear HO_5; have HB := n0_; have HO147 := n1_; clear n0_ n1_; clear ho hb hg hat))
                              go_roundg kj8
                              case measure => have := HK1.out; have := HJ8.out; omega
                              case rel => exact ⟨(sx0_.extract 3 sx0_.size), (y145), (by first | rfl | (simp; done) | (simp [*]; done)), H', ⟨by have := HK1.out; have := HJ8.out; omega⟩, ⟨by (with_reducible repeat (first | apply Kd.R_alloc | apply Kd.R_drewN | apply Kd.R_drew)); exact HO147.out⟩, ⟨by repeat (first | (with_reducible first | exact HB.out | apply below_alloc | apply pw_below_drewN | apply below_drew1) | exact HB.out)⟩⟩
                            · rw [if_neg c17] at H
                              exact absurd H (by simp)
                          · rw [if_neg c16] at H
                            have c16b0 : (t144.toList == ([] : List UInt8)) = false := beq_eq_false_iff_ne.mpr c16
                            have c16b1 : (t144.toList != ([] : List UInt8)) = true := bne_iff_ne.mpr c16
                            simp only [Option.some.injEq, Prod.mk.injEq] at H
                            obtain ⟨rfl, rfl, rfl⟩ := H
                            go_wp2_with (first | ((with_reducible refine gate_callee (f := 51) rfl ?_); refine goesL_ (some 39) rfl rfl Tryd.func51 (by kernel_rfl) rfl #[.string (sx0_.extract 1 3)] rfl (by (try simp only [List.map_toArray, List.map_cons, List.map_nil]); first | done | rfl | (simp only [List.length_drop, List.length_take]; rfl)) ?_; (with_reducible refine (text_unhexed.calls kj8 (sx0_.extract 1 3) t143 t144 _ A15.out).mono ?_); rintro e w21 ⟨rfl, hb⟩; refine ⟨_, rfl, ?_⟩; have n0_ := Aside0.mk (Kd.R_below (by (with_reducible repeat (first | apply Kd.R_alloc | apply Kd.R_drewN | apply Kd.R_drew)); exact HO_5.out) hb); have n1_ := Aside0.mk (below_step (by repeat (first | (with_reducible first | exact HB.out | apply below_alloc | apply pw_below_drewN | apply below_drew1) | exact HB.out)) hb); clear HO_5; clear HB; have HO_5 := n0_; have HB := n1_; clear n0_ n1_; (try clear hb); (try clear hb2); (try clear hk); (try clear hi)))
                            go_ret3
                            exact ⟨by first | rfl | (simp [errW_none, errW_some] <;> rfl) | (simp [*, errW_none, errW_some] <;> rfl), by repeat (first | (with_reducible first | exact HB.out | apply below_alloc | apply pw_below_drewN | apply below_drew1) | exact HB.out)⟩
                        · rw [if_neg c14] at H
                          exact absurd H (by simp)
                      · rw [if_neg c13] at H
                        exact absurd H (by simp)
                    · replace c12 := Bool.eq_false_iff.mpr c12
                      subst c12
                      have H1 : (if sx0_.toList = ([] : List UInt8) then (text_unquoted.l0 kj8 sx0_ x5_1) else (if 0 < (sx0_.size : Int) then (if x5_1.length < 140737488355328 then (if 1 ≤ (sx0_.size : Int) then (text_unquoted.l0 kj8 (sx0_.extract 1 sx0_.size) (x5_1 ++ [bt sx0_ 0])) else (none)) else (none)) else (none))) = some (r1, r2, r3) := by rw [if_neg (show ¬ (false = true) by decide)] at H; exact H
                      clear H
                      have H := H1
                      clear H1
                      by_cases c22 : sx0_.toList = ([] : List UInt8)
                      · rw [if_pos c22] at H
                        have c22b0 : (sx0_.toList == ([] : List UInt8)) = true := beq_iff_eq.mpr c22
                        have c22b1 : (sx0_.toList != ([] : List UInt8)) = false := bne_eq_false_iff_eq.mpr c22
                        clear c22
                        have H' := Aside0.mk H
                        clear H
                        go_wp2
                        go_roundg kj8
                        case measure => have := HK1.out; have := HJ8.out; omega
                        case rel => exact ⟨(sx0_), (x5_1), (by first | rfl | (simp; done) | (simp [*]; done)), H', ⟨by have := HK1.out; have := HJ8.out; omega⟩, ⟨by (with_reducible repeat (first | apply Kd.R_alloc | apply Kd.R_drewN | apply Kd.R_drew)); exact HO_5.out⟩, ⟨by repeat (first | (with_reducible first | exact HB.out | apply below_alloc | apply pw_below_drewN | apply below_drew1) | exact HB.out)⟩⟩
                      · rw [if_neg c22] at H
                        have c22b0 : (sx0_.toList == ([] : List UInt8)) = false := beq_eq_false_iff_ne.mpr c22
                        have c22b1 : (sx0_.toList != ([] : List UInt8)) = true := bne_iff_ne.mpr c22
                        by_cases c23 : 0 < (sx0_.size : Int)
                        · rw [if_pos c23] at H
                          have c23b0 : decide (0 < (sx0_.size : Int)) = true := decide_eq_true c23
                          have c23b1 : decide (0 < sx0_.size) = true := decide_eq_true (by omega)
                          (try (have c23b2 : (0 < (x0_1.size - 1)) = True := eq_true (by have h_ := c23; (try simp only [ByteArray.size_append, ByteArray.size_extract] at h_); omega)))
                          clear c23
                          by_cases c25 : x5_1.length < 140737488355328
                          · rw [if_pos c25] at H
                            have LMc25 := Aside0.mk c25
                            clear c25
                            obtain ⟨y148, hy148⟩ : ∃ y_ : List Int, y_ = (x5_1 ++ [bt sx0_ 0]) := ⟨_, rfl⟩
                            replace H : (if 1 ≤ (sx0_.size : Int) then (text_unquoted.l0 kj8 (sx0_.extract 1 sx0_.size) y148) else (none)) = some (r1, r2, r3) := by first | (rw [hy148]; with_reducible exact H) | (have H2_ := (Option.bind_some _ _).symm.trans H; rw [hy148]; with_reducible exact H2_) | (have H2_ := (Option.bind_some _ _).symm.trans H; with_reducible exact H2_) | with_reducible exact H | (rw [hy148]; exact H) | exact H
                            have Ny148 := Aside0.mk hy148
                            clear hy148
                            by_cases c26 : 1 ≤ (sx0_.size : Int)
                            · rw [if_pos c26] at H
                              have c26b0 := eq_true c26
                              have c26b1 : decide (1 ≤ (sx0_.size : Int)) = true := decide_eq_true c26
                              clear c26
                              have H' := Aside0.mk H
                              clear H
                              have p24 : 0 ≤ (0 : Int) := (by omega)
                              have q24 : 0 < sx0_.size := (by have : (0 : Int) < (sx0_.size : Int) := of_decide_eq_true (by first | (with_reducible assumption) | assumption); omega)
                              have hx24 : ∀ h : 0 < sx0_.size, ((sx0_[0]'h).toNat : Int) = bt sx0_ 0 := bt_at sx0_ 0
                              clear p24
                              have qi24 : (0 < (sx0_.size : Int)) = True := eq_true (of_decide_eq_true (by first | (with_reducible assumption) | assumption))
                              replace q24 := eq_true q24
                              go_wp2_with (first | ((with_reducible refine gate_builtin (b := .append) (xs := #[.tmp 52, .tmp 55]) rfl ?_); (try (refine gate_guard (by rfl) ?_; dsimp only)); at_builtin; refine Kd.R_append (Kd.int .u8) (w0 := w) w.heap.size rfl (.tmp 52) (.tmp 55) 57 5 (.int .u8 0) 1 rfl Tryd.underlying57 info5 rfl (by decide) (by omega) u5 x5_1 (bt sx0_ 0) [.int .u8 (bt sx0_ 0)] (fun _ => True) (fun _ => False) rfl rfl ?aP (fun _ hk => hk.elim) ?aF ?aO ?aB ?aS ?aL ?_; (case aP => exact rfl); (case aB => exact (by repeat (first | (with_reducible first | exact HB.out | apply below_alloc | apply pw_below_drewN | apply below_drew1) | exact HB.out))); (case aF => exact (fun _ _ => trivial)); (case aO => exact (by (with_reducible repeat (first | apply Kd.R_alloc | apply Kd.R_drewN | apply Kd.R_drew)); exact HO_5.out)); (case aS => exact (below_size (by repeat (first | (with_reducible first | exact HB.out | apply below_alloc | apply pw_below_drewN | apply below_drew1) | exact HB.out)))); (case aL => have := LMc25.out; omega); intro v149 w27 ho hb hg hat; rw [← Ny148.out] at ho; have n0_ := Aside0.mk (hb); have n1_ := Aside0.mk (ho); clear HB; clear HO_5; have HB := n0_; have HO150 := n1_; clear n0_ n1_; clear ho hb hg hat))
                              go_roundg kj8
                              case measure => have := HK1.out; have := HJ8.out; omega
                              case rel => exact ⟨(sx0_.extract 1 sx0_.size), (y148), (by first | rfl | (simp; done) | (simp [*]; done)), H', ⟨by have := HK1.out; have := HJ8.out; omega⟩, ⟨by (with_reducible repeat (first | apply Kd.R_alloc | apply Kd.R_drewN | apply Kd.R_drew)); exact HO150.out⟩, ⟨by repeat (first | (with_reducible first | exact HB.out | apply below_alloc | apply pw_below_drewN | apply below_drew1) | exact HB.out)⟩⟩
                            · rw [if_neg c26] at H
                              exact absurd H (by simp)
                          · rw [if_neg c25] at H
                            exact absurd H (by simp)
                        · rw [if_neg c23] at H
                          exact absurd H (by simp)
              · rw [if_neg c8] at H
                have c8b0 : ((bt x0_1 0) == 92) = false := beq_eq_false_iff_ne.mpr c8
                have c8b1 : ((bt x0_1 0) != 92) = true := bne_iff_ne.mpr c8
                by_cases c28 : x5_1.length < 140737488355328
                · rw [if_pos c28] at H
                  have LMc28 := Aside0.mk c28
                  clear c28
                  obtain ⟨y151, hy151⟩ : ∃ y_ : List Int, y_ = (x5_1 ++ [bt x0_1 0]) := ⟨_, rfl⟩
                  replace H : (text_unquoted.l0 k1 (x0_1.extract 1 x0_1.size) y151) = some (r1, r2, r3) := by first | (rw [hy151]; with_reducible exact H) | (have H2_ := (Option.bind_some _ _).symm.trans H; rw [hy151]; with_reducible exact H2_) | (have H2_ := (Option.bind_some _ _).symm.trans H; with_reducible exact H2_) | with_reducible exact H | (rw [hy151]; exact H) | exact H
                  have Ny151 := Aside0.mk hy151
                  clear hy151
                  have H' := Aside0.mk H
                  clear H
                  have p4 : 0 ≤ (0 : Int) := (by omega)
                  have q4 : 0 < x0_1.size := (by have : (0 : Int) < (x0_1.size : Int) := of_decide_eq_true (by first | (with_reducible assumption) | assumption); omega)
                  have hx4 : ∀ h : 0 < x0_1.size, ((x0_1[0]'h).toNat : Int) = bt x0_1 0 := bt_at x0_1 0
                  clear p4
                  have qi4 : (0 < (x0_1.size : Int)) = True := eq_true (of_decide_eq_true (by first | (with_reducible assumption) | assumption))
                  replace q4 := eq_true q4
                  go_wp2_with (first | ((with_reducible refine gate_builtin (b := .append) (xs := #[.tmp 24, .tmp 26]) rfl ?_); (try (refine gate_guard (by rfl) ?_; dsimp only)); at_builtin; refine Kd.R_append (Kd.int .u8) (w0 := w) w.heap.size rfl (.tmp 24) (.tmp 26) 57 5 (.int .u8 0) 1 rfl Tryd.underlying57 info5 rfl (by decide) (by omega) u5 x5_1 (bt x0_1 0) [.int .u8 (bt x0_1 0)] (fun _ => True) (fun _ => False) rfl rfl ?aP (fun _ hk => hk.elim) ?aF ?aO ?aB ?aS ?aL ?_; (case aP => exact rfl); (case aB => exact (by repeat (first | (with_reducible first | exact HB.out | apply below_alloc | apply pw_below_drewN | apply below_drew1) | exact HB.out))); (case aF => exact (fun _ _ => trivial)); (case aO => exact (by (with_reducible repeat (first | apply Kd.R_alloc | apply Kd.R_drewN | apply Kd.R_drew)); exact HO_5.out)); (case aS => exact (below_size (by repeat (first | (with_reducible first | exact HB.out | apply below_alloc | apply pw_below_drewN | apply below_drew1) | exact HB.out)))); (case aL => have := LMc28.out; omega); intro v152 w29 ho hb hg hat; rw [← Ny151.out] at ho; have n0_ := Aside0.mk (hb); have n1_ := Aside0.mk (ho); clear HB; clear HO_5; have HB := n0_; have HO153 := n1_; clear n0_ n1_; clear ho hb hg hat))
                  go_roundg k1
                  case measure => have := HK1.out; omega
                  case rel => exact ⟨(x0_1.extract 1 x0_1.size), (y151), (by first | rfl | (simp; done) | (simp [*]; done)), H', ⟨by have := HK1.out; omega⟩, ⟨by (with_reducible repeat (first | apply Kd.R_alloc | apply Kd.R_drewN | apply Kd.R_drew)); exact HO153.out⟩, ⟨by repeat (first | (with_reducible first | exact HB.out | apply below_alloc | apply pw_below_drewN | apply below_drew1) | exact HB.out)⟩⟩
                · rw [if_neg c28] at H
                  exact absurd H (by simp)
          · rw [if_neg c5] at H
            exact absurd H (by simp)
        · rw [if_neg c3] at H
          exact absurd H (by simp)

end Go.Proofs.YtpjfhdbkkomogaaDoor.Px
