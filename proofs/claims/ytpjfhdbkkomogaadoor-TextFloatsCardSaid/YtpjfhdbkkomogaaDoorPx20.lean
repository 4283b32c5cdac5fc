/- Functions of this program as Lean functions, and that the calls answer as they do: printed by this session's printmore.py. -/
import Derived.Test.YtpjfhdbkkomogaaDoorPx0
import Derived.Test.YtpjfhdbkkomogaaDoorPx19
namespace Go.Proofs.YtpjfhdbkkomogaaDoor.Px
open Go.RowKit Go.Proofs.YtpjfhdbkkomogaaDoor.Gvn Go.Proofs.YtpjfhdbkkomogaaDoorW.PrintWords Go.Proofs.YtpjfhdbkkomogaaDoorW.PrintLast Go.Proofs.YtpjfhdbkkomogaaDoorW.PrintMore
attribute [local go_sem] run_store_float max2_int min2_int max_two min_two max_three min_three max_four min_four   -- for this text's walks alone
set_option linter.unusedVariables false
set_option linter.unusedSimpArgs false

/-! ### text_quoted: function 27 -/
mutual
def text_quoted.l0 : Nat → ByteArray → ByteArray → Int → Int → Option (ByteArray)
  | 0, _, _, _, _ => none
  | k + 1, x0, x3, x7, x8 => if x8 < x7 then (if 0 ≤ x8 then (if x8 < (x0.size : Int) then (if (bt x0 x8) = 34 then (text_quoted.j1 k x0 x3 x8 (bt x0 x8) x7 x8 true) else (text_quoted.j1 k x0 x3 x8 (bt x0 x8) x7 x8 ((bt x0 x8) == 92))) else (none)) else (none)) else (if x3.size + 1 ≤ 9223372036854775807 then (some (x3 ++ (⟨#[34]⟩ : ByteArray))) else (none))
def text_quoted.j1 : Nat → ByteArray → ByteArray → Int → Int → Int → Int → Bool → Option (ByteArray)
  | 0, _, _, _, _, _, _, _ => none
  | k + 1, x0, x3, x4, x5, x7, x8, x21 => if x21 = true then (if 0 ≤ x4 then (if x4 ≤ (wrap64 (x4 + 1)) then (if (wrap64 (x4 + 1)) ≤ (x0.size : Int) then (if 1 + (x0.extract (x4 : Int).toNat ((wrap64 (x4 + 1)) : Int).toNat).size ≤ 9223372036854775807 then (if x3.size + ((⟨#[92]⟩ : ByteArray) ++ (x0.extract (x4 : Int).toNat ((wrap64 (x4 + 1)) : Int).toNat)).size ≤ 9223372036854775807 then (text_quoted.l0 k x0 (x3 ++ ((⟨#[92]⟩ : ByteArray) ++ (x0.extract (x4 : Int).toNat ((wrap64 (x4 + 1)) : Int).toNat))) x7 (wrap64 (x8 + 1))) else (none)) else (none)) else (none)) else (none)) else (none)) else (if x5 < 32 then (if 0 ≤ x4 then (if x4 ≤ (wrap64 (x4 + 1)) then (if (wrap64 (x4 + 1)) ≤ (x0.size : Int) then ((text_hexed.f k (x0.extract (x4 : Int).toNat ((wrap64 (x4 + 1)) : Int).toNat)).bind fun t126 => (if 2 + t126.size ≤ 9223372036854775807 then (if x3.size + ((⟨#[92, 120]⟩ : ByteArray) ++ t126).size ≤ 9223372036854775807 then (text_quoted.l0 k x0 (x3 ++ ((⟨#[92, 120]⟩ : ByteArray) ++ t126)) x7 (wrap64 (x8 + 1))) else (none)) else (none))) else (none)) else (none)) else (none)) else (if x5 > 126 then (if 0 ≤ x4 then (if x4 ≤ (wrap64 (x4 + 1)) then (if (wrap64 (x4 + 1)) ≤ (x0.size : Int) then ((text_hexed.f k (x0.extract (x4 : Int).toNat ((wrap64 (x4 + 1)) : Int).toNat)).bind fun t127 => (if 2 + t127.size ≤ 9223372036854775807 then (if x3.size + ((⟨#[92, 120]⟩ : ByteArray) ++ t127).size ≤ 9223372036854775807 then (text_quoted.l0 k x0 (x3 ++ ((⟨#[92, 120]⟩ : ByteArray) ++ t127)) x7 (wrap64 (x8 + 1))) else (none)) else (none))) else (none)) else (none)) else (none)) else (if 0 ≤ x4 then (if x4 ≤ (wrap64 (x4 + 1)) then (if (wrap64 (x4 + 1)) ≤ (x0.size : Int) then (if x3.size + (x0.extract (x4 : Int).toNat ((wrap64 (x4 + 1)) : Int).toNat).size ≤ 9223372036854775807 then (text_quoted.l0 k x0 (x3 ++ (x0.extract (x4 : Int).toNat ((wrap64 (x4 + 1)) : Int).toNat)) x7 (wrap64 (x8 + 1))) else (none)) else (none)) else (none)) else (none))))
end
def text_quoted.f (k : Nat) (a0 : ByteArray) : Option (ByteArray) := text_quoted.l0 k a0 (⟨#[34]⟩ : ByteArray) (a0.size : Int) 0
theorem text_quoted.mono_l : ∀ k, (∀ y0 y1 y2 y3, LeO (text_quoted.l0 k y0 y1 y2 y3) (text_quoted.l0 (k + 1) y0 y1 y2 y3)) ∧ (∀ y0 y1 y2 y3 y4 y5 y6, LeO (text_quoted.j1 k y0 y1 y2 y3 y4 y5 y6) (text_quoted.j1 (k + 1) y0 y1 y2 y3 y4 y5 y6))
  | 0 => ⟨fun _ _ _ _ r h => by simp [text_quoted.l0] at h, fun _ _ _ _ _ _ _ r h => by simp [text_quoted.j1] at h⟩
  | k + 1 => by
    obtain ⟨ih0, ih1⟩ := text_quoted.mono_l k
    refine ⟨?_, ?_⟩
    · intro y0 y1 y2 y3
      unfold text_quoted.l0
      repeat' first
      | (with_reducible exact ih0 _ _ _ _)
      | (with_reducible exact ih1 _ _ _ _ _ _ _)
      | (with_reducible exact text_hexed.mono _ _)
      | (with_reducible exact LeO.refl _)
      | (with_reducible exact LeO.none _)
      | (with_reducible refine LeO.ite ?_ ?_)
      | (with_reducible refine LeO.bind ?_ (fun _ => ?_))
      | exact ih0 _ _ _ _
      | exact ih1 _ _ _ _ _ _ _
      | exact text_hexed.mono _ _
      | exact LeO.none _
      | refine LeO.ite ?_ ?_
      | refine LeO.bind ?_ (fun _ => ?_)
    · intro y0 y1 y2 y3 y4 y5 y6
      unfold text_quoted.j1
      repeat' first
      | (with_reducible exact ih0 _ _ _ _)
      | (with_reducible exact ih1 _ _ _ _ _ _ _)
      | (with_reducible exact text_hexed.mono _ _)
      | (with_reducible exact LeO.refl _)
      | (with_reducible exact LeO.none _)
      | (with_reducible refine LeO.ite ?_ ?_)
      | (with_reducible refine LeO.bind ?_ (fun _ => ?_))
      | exact ih0 _ _ _ _
      | exact ih1 _ _ _ _ _ _ _
      | exact text_hexed.mono _ _
      | exact LeO.none _
      | refine LeO.ite ?_ ?_
      | refine LeO.bind ?_ (fun _ => ?_)
theorem text_quoted.mono : ∀ a0 k, LeO (text_quoted.f k a0) (text_quoted.f (k + 1) a0) := by
  intro a0 k
  obtain ⟨ih0, ih1⟩ := text_quoted.mono_l k
  unfold text_quoted.f
  repeat' first
      | (with_reducible exact ih0 _ _ _ _)
      | (with_reducible exact ih1 _ _ _ _ _ _ _)
      | (with_reducible exact text_hexed.mono _ _)
      | (with_reducible exact LeO.refl _)
      | (with_reducible exact LeO.none _)
      | (with_reducible refine LeO.ite ?_ ?_)
      | (with_reducible refine LeO.bind ?_ (fun _ => ?_))
      | exact ih0 _ _ _ _
      | exact ih1 _ _ _ _ _ _ _
      | exact text_hexed.mono _ _
      | exact LeO.none _
      | refine LeO.ite ?_ ?_
      | refine LeO.bind ?_ (fun _ => ?_)
set_option maxHeartbeats 8000000 in
set_option maxRecDepth 100000 in
theorem text_quoted.calls (k : Nat) (a0 : ByteArray) (r : ByteArray) (w : World) (h : text_quoted.f k a0 = some r) :
    Calls Tryd.prog 27 #[.string a0] w fun e w' => e = .returned (.string r) ∧ Below w.heap.size w w' := by
  have HB := Aside0.mk (Below.refl w.heap.size w)
  have H : (text_quoted.l0 k a0 (⟨#[34]⟩ : ByteArray) (a0.size : Int) 0) = some r := h
  clear h
  have H' := Aside0.mk H
  clear H
  have k23 := run23
  have k22 := run22
  go_enter Tryd.func27, Tryd.ntmps27
  go_wp2
  go_loopg [3, 8] k (fun kq v3 v8 w' => ∃ (x3_1 : ByteArray) (x8_1 : Int), v3 = .string x3_1 ∧ v8 = .int .i64 x8_1 ∧ Aside0 (text_quoted.l0 kq a0 x3_1 (a0.size : Int) x8_1 = some r) ∧ Aside0 (kq ≤ k) ∧ Aside0 (Below w.heap.size w w'))
  case atStart => exact ⟨((⟨#[34]⟩ : ByteArray)), (0), (by first | rfl | (simp; done) | (simp [*]; done)), (by first | rfl | (simp; done) | (simp [*]; done)), H', ⟨Nat.le_refl _⟩, ⟨by repeat (first | (with_reducible first | exact HB.out | apply below_alloc | apply pw_below_drewN | apply below_drew1) | exact HB.out)⟩⟩
  case round =>
    clear H'
    obtain ⟨x3_1, x8_1, rfl, rfl, HA, HK1, HB⟩ := hrel
    cases gk with
    | zero => exact absurd HA.out (by simp [text_quoted.l0])
    | succ k1 =>
      have H := HA.out
      clear HA
      simp only [text_quoted.l0] at H
      by_cases c2 : x8_1 < (a0.size : Int)
      · rw [if_pos c2] at H
        have c2b0 : decide (x8_1 < (a0.size : Int)) = true := decide_eq_true c2
        clear c2
        by_cases c3 : 0 ≤ x8_1
        · rw [if_pos c3] at H
          have c3b0 : decide (0 ≤ x8_1) = true := decide_eq_true c3
          clear c3
          by_cases c4 : x8_1 < (a0.size : Int)
          · rw [if_pos c4] at H
            have c4b0 : decide (x8_1 < (a0.size : Int)) = true := decide_eq_true c4
            clear c4
            have HC6 := Aside0.mk H
            clear H
            have p5 : 0 ≤ (x8_1 : Int) := of_decide_eq_true (by first | (with_reducible assumption) | assumption)
            have q5 : x8_1 < (a0.size : Int) := of_decide_eq_true (by first | (with_reducible assumption) | assumption)
            have hx5 := bt_at a0 x8_1
            replace p5 := eq_true p5
            replace q5 := eq_true q5
            go_upto_region 7 with (fail)
            go_cut [21] (fun v21 wc => ∃ (kq : Nat) (x21_5 : Bool), v21 = .bool x21_5 ∧ Aside0 (text_quoted.j1 kq a0 x3_1 x8_1 (bt a0 x8_1) (a0.size : Int) x8_1 x21_5 = some r) ∧ Aside0 (kq ≤ k1) ∧ Aside0 (Below w.heap.size w wc))
            case first =>
              have H := HC6.out
              clear HC6
              by_cases c7 : (bt a0 x8_1) = 34
              · rw [if_pos c7] at H
                have c7b0 : ((bt a0 x8_1) == 34) = true := beq_iff_eq.mpr c7
                have c7b1 : ((bt a0 x8_1) != 34) = false := bne_eq_false_iff_eq.mpr c7
                clear c7
                (first | rw [c7b0] | (simp only [i64_w, i32_w]; rw [c7b0]) | skip)
                have H' := Aside0.mk H
                clear H
                go_wp2
                go_meet
                case rel => exact ⟨_, (true), (by first | rfl | (simp; done) | (simp [*]; done)), H', ⟨by have := HK1.out; first | omega | exact Nat.le_refl _⟩, ⟨by repeat (first | (with_reducible first | exact HB.out | apply below_alloc | apply pw_below_drewN | apply below_drew1) | exact HB.out)⟩⟩
              · rw [if_neg c7] at H
                have c7b0 : ((bt a0 x8_1) == 34) = false := beq_eq_false_iff_ne.mpr c7
                have c7b1 : ((bt a0 x8_1) != 34) = true := bne_iff_ne.mpr c7
                (first | rw [c7b0] | (simp only [i64_w, i32_w]; rw [c7b0]) | skip)
                have H' := Aside0.mk H
                clear H
                go_wp2
                go_meet
                case rel => exact ⟨_, (((bt a0 x8_1) == 92)), (by first | rfl | (simp; done) | (simp [*]; done)), H', ⟨by have := HK1.out; first | omega | exact Nat.le_refl _⟩, ⟨by repeat (first | (with_reducible first | exact HB.out | apply below_alloc | apply pw_below_drewN | apply below_drew1) | exact HB.out)⟩⟩
            case rest =>
              clear HC6
              try clear c2
              try clear c2b0
              try clear p2
              try clear c3
              try clear c3b0
              try clear c4
              try clear c4b0
              try clear p5
              try clear q5
              try clear hx5
              try clear c7
              try clear c7b0
              try clear c7b1
              try clear p5
              try clear q5
              obtain ⟨kq, x21_5, rfl, HA, HJ5, HB⟩ := hcut
              cases kq with
              | zero => exact absurd HA.out (by simp [text_quoted.j1])
              | succ kj5 =>
                have H := HA.out
                clear HA
                simp only [text_quoted.j1] at H
                by_cases c8 : x21_5 = true
                · subst c8
                  have H1 : (if 0 ≤ x8_1 then (if x8_1 ≤ (wrap64 (x8_1 + 1)) then (if (wrap64 (x8_1 + 1)) ≤ (a0.size : Int) then (if 1 + (a0.extract (x8_1 : Int).toNat ((wrap64 (x8_1 + 1)) : Int).toNat).size ≤ 9223372036854775807 then (if x3_1.size + ((⟨#[92]⟩ : ByteArray) ++ (a0.extract (x8_1 : Int).toNat ((wrap64 (x8_1 + 1)) : Int).toNat)).size ≤ 9223372036854775807 then (text_quoted.l0 kj5 a0 (x3_1 ++ ((⟨#[92]⟩ : ByteArray) ++ (a0.extract (x8_1 : Int).toNat ((wrap64 (x8_1 + 1)) : Int).toNat))) (a0.size : Int) (wrap64 (x8_1 + 1))) else (none)) else (none)) else (none)) else (none)) else (none)) = some r := by rw [if_pos rfl] at H; exact H
                  clear H
                  have H := H1
                  clear H1
                  by_cases c9 : 0 ≤ x8_1
                  · rw [if_pos c9] at H
                    have c9b0 := eq_true c9
                    have c9b1 : decide (0 ≤ x8_1) = true := decide_eq_true c9
                    clear c9
                    by_cases c10 : x8_1 ≤ (wrap64 (x8_1 + 1))
                    · rw [if_pos c10] at H
                      have c10b0 := eq_true c10
                      have c10b1 : decide (x8_1 ≤ (wrap64 (x8_1 + 1))) = true := decide_eq_true c10
                      by_cases c11 : (wrap64 (x8_1 + 1)) ≤ (a0.size : Int)
                      · rw [if_pos c11] at H
                        have c11b0 := eq_true c11
                        have c11b1 : decide ((wrap64 (x8_1 + 1)) ≤ (a0.size : Int)) = true := decide_eq_true c11
                        by_cases c12 : 1 + (a0.extract (x8_1 : Int).toNat ((wrap64 (x8_1 + 1)) : Int).toNat).size ≤ 9223372036854775807
                        · rw [if_pos c12] at H
                          have c12b0 := eq_true c12
                          have c12b1 : decide (1 + (a0.extract (x8_1 : Int).toNat ((wrap64 (x8_1 + 1)) : Int).toNat).size ≤ 9223372036854775807) = true := decide_eq_true c12
                          try have c12b2 : (9223372036854775807 < 1 + (a0.extract (x8_1 : Int).toNat ((wrap64 (x8_1 + 1)) : Int).toNat).size) = False := eq_false (Nat.not_lt.2 c12)
                          try (have c12b3 := c12b2; simp only [ByteArray.size_append, ByteArray.size_extract] at c12b3)
                          try have c12b4 : (9223372036854775807 < 1 + (((wrap64 (x8_1 + 1)) : Int).toNat - (x8_1 : Int).toNat)) = False := eq_false (by have h_ := c12; (try simp only [ByteArray.size_append, ByteArray.size_extract] at h_); first | omega | (simp only [Nat.add_zero] at h_; omega))
                          by_cases c13 : x3_1.size + ((⟨#[92]⟩ : ByteArray) ++ (a0.extract (x8_1 : Int).toNat ((wrap64 (x8_1 + 1)) : Int).toNat)).size ≤ 9223372036854775807
                          · rw [if_pos c13] at H
                            have c13b0 := eq_true c13
                            have c13b1 : decide (x3_1.size + ((⟨#[92]⟩ : ByteArray) ++ (a0.extract (x8_1 : Int).toNat ((wrap64 (x8_1 + 1)) : Int).toNat)).size ≤ 9223372036854775807) = true := decide_eq_true c13
                            try have c13b2 : (9223372036854775807 < x3_1.size + ((⟨#[92]⟩ : ByteArray) ++ (a0.extract (x8_1 : Int).toNat ((wrap64 (x8_1 + 1)) : Int).toNat)).size) = False := eq_false (Nat.not_lt.2 c13)
                            try (have c13b3 := c13b2; simp only [ByteArray.size_append, ByteArray.size_extract] at c13b3)
                            try have c13b4 : (9223372036854775807 < x3_1.size + (1 + (((wrap64 (x8_1 + 1)) : Int).toNat - (x8_1 : Int).toNat))) = False := eq_false (by have h_ := c13; (try simp only [ByteArray.size_append, ByteArray.size_extract] at h_); first | omega | (simp only [show (⟨#[92]⟩ : ByteArray).size = 1 from rfl] at h_; omega))
                            have H' := Aside0.mk H
                            clear H
                            go_wp2
                            go_roundg kj5
                            case measure => have := HK1.out; have := HJ5.out; omega
                            case rel => exact ⟨(x3_1 ++ ((⟨#[92]⟩ : ByteArray) ++ (a0.extract (x8_1 : Int).toNat ((wrap64 (x8_1 + 1)) : Int).toNat))), (wrap64 (x8_1 + 1)), (by first | rfl | (simp; done) | (simp [*]; done)), (by first | rfl | (simp; done) | (simp [*]; done)), H', ⟨by have := HK1.out; have := HJ5.out; omega⟩, ⟨by repeat (first | (with_reducible first | exact HB.out | apply below_alloc | apply pw_below_drewN | apply below_drew1) | exact HB.out)⟩⟩
                          · rw [if_neg c13] at H
                            exact absurd H (by simp)
                        · rw [if_neg c12] at H
                          exact absurd H (by simp)
                      · rw [if_neg c11] at H
                        exact absurd H (by simp)
                    · rw [if_neg c10] at H
                      exact absurd H (by simp)
                  · rw [if_neg c9] at H
                    exact absurd H (by simp)
                · replace c8 := Bool.eq_false_iff.mpr c8
                  subst c8
                  have H1 : (if (bt a0 x8_1) < 32 then (if 0 ≤ x8_1 then (if x8_1 ≤ (wrap64 (x8_1 + 1)) then (if (wrap64 (x8_1 + 1)) ≤ (a0.size : Int) then ((text_hexed.f kj5 (a0.extract (x8_1 : Int).toNat ((wrap64 (x8_1 + 1)) : Int).toNat)).bind fun t126 => (if 2 + t126.size ≤ 9223372036854775807 then (if x3_1.size + ((⟨#[92, 120]⟩ : ByteArray) ++ t126).size ≤ 9223372036854775807 then (text_quoted.l0 kj5 a0 (x3_1 ++ ((⟨#[92, 120]⟩ : ByteArray) ++ t126)) (a0.size : Int) (wrap64 (x8_1 + 1))) else (none)) else (none))) else (none)) else (none)) else (none)) else (if (bt a0 x8_1) > 126 then (if 0 ≤ x8_1 then (if x8_1 ≤ (wrap64 (x8_1 + 1)) then (if (wrap64 (x8_1 + 1)) ≤ (a0.size : Int) then ((text_hexed.f kj5 (a0.extract (x8_1 : Int).toNat ((wrap64 (x8_1 + 1)) : Int).toNat)).bind fun t127 => (if 2 + t127.size ≤ 9223372036854775807 then (if x3_1.size + ((⟨#[92, 120]⟩ : ByteArray) ++ t127).size ≤ 9223372036854775807 then (text_quoted.l0 kj5 a0 (x3_1 ++ ((⟨#[92, 120]⟩ : ByteArray) ++ t127)) (a0.size : Int) (wrap64 (x8_1 + 1))) else (none)) else (none))) else (none)) else (none)) else (none)) else (if 0 ≤ x8_1 then (if x8_1 ≤ (wrap64 (x8_1 + 1)) then (if (wrap64 (x8_1 + 1)) ≤ (a0.size : Int) then (if x3_1.size + (a0.extract (x8_1 : Int).toNat ((wrap64 (x8_1 + 1)) : Int).toNat).size ≤ 9223372036854775807 then (text_quoted.l0 kj5 a0 (x3_1 ++ (a0.extract (x8_1 : Int).toNat ((wrap64 (x8_1 + 1)) : Int).toNat)) (a0.size : Int) (wrap64 (x8_1 + 1))) else (none)) else (none)) else (none)) else (none)))) = some r := by rw [if_neg (show ¬ (false = true) by decide)] at H; exact H
                  clear H
                  have H := H1
                  clear H1
                  by_cases c14 : (bt a0 x8_1) < 32
                  · rw [if_pos c14] at H
                    have c14b0 : decide ((bt a0 x8_1) < 32) = true := decide_eq_true c14
                    clear c14
                    by_cases c15 : 0 ≤ x8_1
                    · rw [if_pos c15] at H
                      have c15b0 := eq_true c15
                      have c15b1 : decide (0 ≤ x8_1) = true := decide_eq_true c15
                      clear c15
                      by_cases c16 : x8_1 ≤ (wrap64 (x8_1 + 1))
                      · rw [if_pos c16] at H
                        have c16b0 := eq_true c16
                        have c16b1 : decide (x8_1 ≤ (wrap64 (x8_1 + 1))) = true := decide_eq_true c16
                        by_cases c17 : (wrap64 (x8_1 + 1)) ≤ (a0.size : Int)
                        · rw [if_pos c17] at H
                          have c17b0 := eq_true c17
                          have c17b1 : decide ((wrap64 (x8_1 + 1)) ≤ (a0.size : Int)) = true := decide_eq_true c17
                          replace H := Option.bind_eq_some_iff.mp H
                          obtain ⟨t126, A180, H⟩ := H
                          replace H : (if 2 + t126.size ≤ 9223372036854775807 then (if x3_1.size + ((⟨#[92, 120]⟩ : ByteArray) ++ t126).size ≤ 9223372036854775807 then (text_quoted.l0 kj5 a0 (x3_1 ++ ((⟨#[92, 120]⟩ : ByteArray) ++ t126)) (a0.size : Int) (wrap64 (x8_1 + 1))) else (none)) else (none)) = some r := H
                          have A18 := Aside0.mk A180
                          clear A180
                          by_cases c19 : 2 + t126.size ≤ 9223372036854775807
                          · rw [if_pos c19] at H
                            have c19b0 := eq_true c19
                            have c19b1 : decide (2 + t126.size ≤ 9223372036854775807) = true := decide_eq_true c19
                            try have c19b2 : (9223372036854775807 < 2 + t126.size) = False := eq_false (Nat.not_lt.2 c19)
                            try (have c19b3 := c19b2; simp only [ByteArray.size_append, ByteArray.size_extract] at c19b3)
                            try have c19b4 : (9223372036854775807 < 2 + t126.size) = False := eq_false (by have h_ := c19; (try simp only [ByteArray.size_append, ByteArray.size_extract] at h_); first | omega | (simp only [Nat.add_zero] at h_; omega))
                            by_cases c20 : x3_1.size + ((⟨#[92, 120]⟩ : ByteArray) ++ t126).size ≤ 9223372036854775807
                            · rw [if_pos c20] at H
                              have c20b0 := eq_true c20
                              have c20b1 : decide (x3_1.size + ((⟨#[92, 120]⟩ : ByteArray) ++ t126).size ≤ 9223372036854775807) = true := decide_eq_true c20
                              try have c20b2 : (9223372036854775807 < x3_1.size + ((⟨#[92, 120]⟩ : ByteArray) ++ t126).size) = False := eq_false (Nat.not_lt.2 c20)
                              try (have c20b3 := c20b2; simp only [ByteArray.size_append, ByteArray.size_extract] at c20b3)
                              try have c20b4 : (9223372036854775807 < x3_1.size + (2 + t126.size)) = False := eq_false (by have h_ := c20; (try simp only [ByteArray.size_append, ByteArray.size_extract] at h_); first | omega | (simp only [show (⟨#[92, 120]⟩ : ByteArray).size = 2 from rfl] at h_; omega))
                              have H' := Aside0.mk H
                              clear H
                              go_wp2_with (first | ((with_reducible refine gate_callee (f := 28) rfl ?_); refine goesL_ (some 49) rfl rfl Tryd.func28 (by kernel_rfl) rfl #[.string (a0.extract (x8_1 : Int).toNat ((wrap64 (x8_1 + 1)) : Int).toNat)] rfl (by (try simp only [List.map_toArray, List.map_cons, List.map_nil]); first | done | rfl | (simp only [List.length_drop, List.length_take]; rfl)) ?_; (with_reducible refine (text_hexed.calls kj5 (a0.extract (x8_1 : Int).toNat ((wrap64 (x8_1 + 1)) : Int).toNat) t126 _ A18.out).mono ?_); rintro e w21 ⟨rfl, hb⟩; refine ⟨_, rfl, ?_⟩; have n0_ := Aside0.mk (below_step (by repeat (first | (with_reducible first | exact HB.out | apply below_alloc | apply pw_below_drewN | apply below_drew1) | exact HB.out)) hb); clear HB; have HB := n0_; clear n0_; (try clear hb); (try clear hb2); (try clear hk); (try clear hi)))
                              go_roundg kj5
                              case measure => have := HK1.out; have := HJ5.out; omega
                              case rel => exact ⟨(x3_1 ++ ((⟨#[92, 120]⟩ : ByteArray) ++ t126)), (wrap64 (x8_1 + 1)), (by first | rfl | (simp; done) | (simp [*]; done)), (by first | rfl | (simp; done) | (simp [*]; done)), H', ⟨by have := HK1.out; have := HJ5.out; omega⟩, ⟨by repeat (first | (with_reducible first | exact HB.out | apply below_alloc | apply pw_below_drewN | apply below_drew1) | exact HB.out)⟩⟩
                            · rw [if_neg c20] at H
                              exact absurd H (by simp)
                          · rw [if_neg c19] at H
                            exact absurd H (by simp)
                        · rw [if_neg c17] at H
                          exact absurd H (by simp)
                      · rw [if_neg c16] at H
                        exact absurd H (by simp)
                    · rw [if_neg c15] at H
                      exact absurd H (by simp)
                  · rw [if_neg c14] at H
                    have c14b0 : decide ((bt a0 x8_1) < 32) = false := decide_eq_false c14
                    clear c14
                    by_cases c22 : (bt a0 x8_1) > 126
                    · rw [if_pos c22] at H
                      have c22b0 : decide (126 < (bt a0 x8_1)) = true := decide_eq_true c22
                      clear c22
                      by_cases c23 : 0 ≤ x8_1
                      · rw [if_pos c23] at H
                        have c23b0 := eq_true c23
                        have c23b1 : decide (0 ≤ x8_1) = true := decide_eq_true c23
                        clear c23
                        by_cases c24 : x8_1 ≤ (wrap64 (x8_1 + 1))
                        · rw [if_pos c24] at H
                          have c24b0 := eq_true c24
                          have c24b1 : decide (x8_1 ≤ (wrap64 (x8_1 + 1))) = true := decide_eq_true c24
                          by_cases c25 : (wrap64 (x8_1 + 1)) ≤ (a0.size : Int)
                          · rw [if_pos c25] at H
                            have c25b0 := eq_true c25
                            have c25b1 : decide ((wrap64 (x8_1 + 1)) ≤ (a0.size : Int)) = true := decide_eq_true c25
                            replace H := Option.bind_eq_some_iff.mp H
                            obtain ⟨t127, A260, H⟩ := H
                            replace H : (if 2 + t127.size ≤ 9223372036854775807 then (if x3_1.size + ((⟨#[92, 120]⟩ : ByteArray) ++ t127).size ≤ 9223372036854775807 then (text_quoted.l0 kj5 a0 (x3_1 ++ ((⟨#[92, 120]⟩ : ByteArray) ++ t127)) (a0.size : Int) (wrap64 (x8_1 + 1))) else (none)) else (none)) = some r := H
                            have A26 := Aside0.mk A260
                            clear A260
                            by_cases c27 : 2 + t127.size ≤ 9223372036854775807
                            · rw [if_pos c27] at H
                              have c27b0 := eq_true c27
                              have c27b1 : decide (2 + t127.size ≤ 9223372036854775807) = true := decide_eq_true c27
                              try have c27b2 : (9223372036854775807 < 2 + t127.size) = False := eq_false (Nat.not_lt.2 c27)
                              try (have c27b3 := c27b2; simp only [ByteArray.size_append, ByteArray.size_extract] at c27b3)
                              try have c27b4 : (9223372036854775807 < 2 + t127.size) = False := eq_false (by have h_ := c27; (try simp only [ByteArray.size_append, ByteArray.size_extract] at h_); first | omega | (simp only [Nat.add_zero] at h_; omega))
                              by_cases c28 : x3_1.size + ((⟨#[92, 120]⟩ : ByteArray) ++ t127).size ≤ 9223372036854775807
                              · rw [if_pos c28] at H
                                have c28b0 := eq_true c28
                                have c28b1 : decide (x3_1.size + ((⟨#[92, 120]⟩ : ByteArray) ++ t127).size ≤ 9223372036854775807) = true := decide_eq_true c28
                                try have c28b2 : (9223372036854775807 < x3_1.size + ((⟨#[92, 120]⟩ : ByteArray) ++ t127).size) = False := eq_false (Nat.not_lt.2 c28)
                                try (have c28b3 := c28b2; simp only [ByteArray.size_append, ByteArray.size_extract] at c28b3)
                                try have c28b4 : (9223372036854775807 < x3_1.size + (2 + t127.size)) = False := eq_false (by have h_ := c28; (try simp only [ByteArray.size_append, ByteArray.size_extract] at h_); first | omega | (simp only [show (⟨#[92, 120]⟩ : ByteArray).size = 2 from rfl] at h_; omega))
                                have H' := Aside0.mk H
                                clear H
                                go_wp2_with (first | ((with_reducible refine gate_callee (f := 28) rfl ?_); refine goesL_ (some 49) rfl rfl Tryd.func28 (by kernel_rfl) rfl #[.string (a0.extract (x8_1 : Int).toNat ((wrap64 (x8_1 + 1)) : Int).toNat)] rfl (by (try simp only [List.map_toArray, List.map_cons, List.map_nil]); first | done | rfl | (simp only [List.length_drop, List.length_take]; rfl)) ?_; (with_reducible refine (text_hexed.calls kj5 (a0.extract (x8_1 : Int).toNat ((wrap64 (x8_1 + 1)) : Int).toNat) t127 _ A26.out).mono ?_); rintro e w29 ⟨rfl, hb⟩; refine ⟨_, rfl, ?_⟩; have n0_ := Aside0.mk (below_step (by repeat (first | (with_reducible first | exact HB.out | apply below_alloc | apply pw_below_drewN | apply below_drew1) | exact HB.out)) hb); clear HB; have HB := n0_; clear n0_; (try clear hb); (try clear hb2); (try clear hk); (try clear hi)))
                                go_roundg kj5
                                case measure => have := HK1.out; have := HJ5.out; omega
                                case rel => exact ⟨(x3_1 ++ ((⟨#[92, 120]⟩ : ByteArray) ++ t127)), (wrap64 (x8_1 + 1)), (by first | rfl | (simp; done) | (simp [*]; done)), (by first | rfl | (simp; done) | (simp [*]; done)), H', ⟨by have := HK1.out; have := HJ5.out; omega⟩, ⟨by repeat (first | (with_reducible first | exact HB.out | apply below_alloc | apply pw_below_drewN | apply below_drew1) | exact HB.out)⟩⟩
                              · rw [if_neg c28] at H
                                exact absurd H (by simp)
                            · rw [if_neg c27] at H
                              exact absurd H (by simp)
                          · rw [if_neg c25] at H
                            exact absurd H (by simp)
                        · rw [if_neg c24] at H
                          exact absurd H (by simp)
                      · rw [if_neg c23] at H
                        exact absurd H (by simp)
                    · rw [if_neg c22] at H
                      have c22b0 : decide (126 < (bt a0 x8_1)) = false := decide_eq_false c22
                      clear c22
                      by_cases c30 : 0 ≤ x8_1
                      · rw [if_pos c30] at H
                        have c30b0 := eq_true c30
                        have c30b1 : decide (0 ≤ x8_1) = true := decide_eq_true c30
                        clear c30
                        by_cases c31 : x8_1 ≤ (wrap64 (x8_1 + 1))
                        · rw [if_pos c31] at H
                          have c31b0 := eq_true c31
                          have c31b1 : decide (x8_1 ≤ (wrap64 (x8_1 + 1))) = true := decide_eq_true c31
                          by_cases c32 : (wrap64 (x8_1 + 1)) ≤ (a0.size : Int)
                          · rw [if_pos c32] at H
                            have c32b0 := eq_true c32
                            have c32b1 : decide ((wrap64 (x8_1 + 1)) ≤ (a0.size : Int)) = true := decide_eq_true c32
                            by_cases c33 : x3_1.size + (a0.extract (x8_1 : Int).toNat ((wrap64 (x8_1 + 1)) : Int).toNat).size ≤ 9223372036854775807
                            · rw [if_pos c33] at H
                              have c33b0 := eq_true c33
                              have c33b1 : decide (x3_1.size + (a0.extract (x8_1 : Int).toNat ((wrap64 (x8_1 + 1)) : Int).toNat).size ≤ 9223372036854775807) = true := decide_eq_true c33
                              try have c33b2 : (9223372036854775807 < x3_1.size + (a0.extract (x8_1 : Int).toNat ((wrap64 (x8_1 + 1)) : Int).toNat).size) = False := eq_false (Nat.not_lt.2 c33)
                              try (have c33b3 := c33b2; simp only [ByteArray.size_append, ByteArray.size_extract] at c33b3)
                              try have c33b4 : (9223372036854775807 < x3_1.size + (((wrap64 (x8_1 + 1)) : Int).toNat - (x8_1 : Int).toNat)) = False := eq_false (by have h_ := c33; (try simp only [ByteArray.size_append, ByteArray.size_extract] at h_); first | omega | (simp only [Nat.add_zero] at h_; omega))
                              have H' := Aside0.mk H
                              clear H
                              go_wp2
                              go_roundg kj5
                              case measure => have := HK1.out; have := HJ5.out; omega
                              case rel => exact ⟨(x3_1 ++ (a0.extract (x8_1 : Int).toNat ((wrap64 (x8_1 + 1)) : Int).toNat)), (wrap64 (x8_1 + 1)), (by first | rfl | (simp; done) | (simp [*]; done)), (by first | rfl | (simp; done) | (simp [*]; done)), H', ⟨by have := HK1.out; have := HJ5.out; omega⟩, ⟨by repeat (first | (with_reducible first | exact HB.out | apply below_alloc | apply pw_below_drewN | apply below_drew1) | exact HB.out)⟩⟩
                            · rw [if_neg c33] at H
                              exact absurd H (by simp)
                          · rw [if_neg c32] at H
                            exact absurd H (by simp)
                        · rw [if_neg c31] at H
                          exact absurd H (by simp)
                      · rw [if_neg c30] at H
                        exact absurd H (by simp)
          · rw [if_neg c4] at H
            exact absurd H (by simp)
        · rw [if_neg c3] at H
          exact absurd H (by simp)
      · rw [if_neg c2] at H
        have c2b0 : decide (x8_1 < (a0.size : Int)) = false := decide_eq_false c2
        clear c2
        by_cases c34 : x3_1.size + 1 ≤ 9223372036854775807
        · rw [if_pos c34] at H
          have c34b0 := eq_true c34
          have c34b1 : decide (x3_1.size + 1 ≤ 9223372036854775807) = true := decide_eq_true c34
          try have c34b2 : (9223372036854775807 < x3_1.size + 1) = False := eq_false (Nat.not_lt.2 c34)
          try (have c34b3 := c34b2; simp only [ByteArray.size_append, ByteArray.size_extract] at c34b3)
          try have c34b4 : (9223372036854775807 < x3_1.size + 1) = False := eq_false (by have h_ := c34; (try simp only [ByteArray.size_append, ByteArray.size_extract] at h_); first | omega | (simp only [Nat.add_zero] at h_; omega))
          obtain rfl := Option.some.inj H
          go_wp2
          go_ret
          exact ⟨by first | rfl | (simp [errW_none, errW_some] <;> rfl) | (simp [*, errW_none, errW_some] <;> rfl), by repeat (first | (with_reducible first | exact HB.out | apply below_alloc | apply pw_below_drewN | apply below_drew1) | exact HB.out)⟩
        · rw [if_neg c34] at H
          exact absurd H (by simp)

end Go.Proofs.YtpjfhdbkkomogaaDoor.Px
