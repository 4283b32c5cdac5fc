/- Texts of this claim, one behind the other. -/
import Derived.Test.YtpjfhdbkkomogaaDoorH1
import Derived.Test.YtpjfhdbkkomogaaDoorH8
namespace Go.Proofs.YtpjfhdbkkomogaaDoor.Px
open Go.RowKit Go.Proofs.YtpjfhdbkkomogaaDoor.Gvn Go.Proofs.YtpjfhdbkkomogaaDoorW.PrintWords Go.Proofs.YtpjfhdbkkomogaaDoorW.PrintLast Go.Proofs.YtpjfhdbkkomogaaDoorW.PrintMore
attribute [local go_sem] run_store_float min2_int min_two
set_option linter.unusedVariables false
set_option linter.unusedSimpArgs false
mutual
def rialtoref4_read.j0 : Nat → ByteArray → Int → Bool → Option (Int × Int × ByteArray × Nat)
 | 0, _, _, _ => none
 | k + 1, x0, x3, x16 => if x16 = true then (if x0.toList = ([116, 114, 117, 101] : List UInt8) then (some (2, 1, (⟨#[]⟩ : ByteArray), 0)) else (some (2, 0, (⟨#[]⟩ : ByteArray), 0))) else (if x3 > 0 then (if 0 < (x0.size : Int) then (rialtoref4_read.j1 k x0 x3 ((bt x0 0) == 34)) else (none)) else (rialtoref4_read.j1 k x0 x3 false))
def rialtoref4_read.j1 : Nat → ByteArray → Int → Bool → Option (Int × Int × ByteArray × Nat)
 | 0, _, _, _ => none
 | k + 1, x0, x3, x28 => if x28 = true then ((rialtoref4_unquoted.f k x0).bind fun t280 => (some (3, 0, t280, 0))) else (if x3 > 0 then (if 0 < (x0.size : Int) then (rialtoref4_read.j2 k x0 x3 ((bt x0 0) == 120)) else (none)) else (rialtoref4_read.j2 k x0 x3 false))
def rialtoref4_read.j2 : Nat → ByteArray → Int → Bool → Option (Int × Int × ByteArray × Nat)
 | 0, _, _, _ => none
 | k + 1, x0, x3, x39 => if x39 = true then (if 1 ≤ (x0.size : Int) then ((rialtoref4_bytes.f k (x0.extract 1 x0.size)).bind fun bt281 => (some (4, 0, strOfNums bt281.1, 0))) else (none)) else (if x3 = 17 then (if 0 < (x0.size : Int) then (rialtoref4_read.j3 k x0 x3 ((bt x0 0) == 102)) else (none)) else (rialtoref4_read.j3 k x0 x3 false))
def rialtoref4_read.j3 : Nat → ByteArray → Int → Bool → Option (Int × Int × ByteArray × Nat)
 | 0, _, _, _ => none
 | k + 1, x0, x3, x56 => if x56 = true then (if 1 ≤ (x0.size : Int) then ((rialtoref4_bytes.f k (x0.extract 1 x0.size)).bind fun bt285 => (rialtoref4_read.l0 k bt285.1 bt285.2 0 0)) else (none)) else (if x3 > 0 then (if 0 < (x0.size : Int) then (rialtoref4_read.j5 k x0 x3 0 ((bt x0 0) == 45)) else (none)) else (rialtoref4_read.j5 k x0 x3 0 false))
def rialtoref4_read.l0 : Nat → List Int → Bool → Int → Int → Option (Int × Int × ByteArray × Nat)
 | 0, _, _, _, _ => none
 | k + 1, x7, x8, x9, x10 => if x8 = true then (if x10 < 8 then (if 0 ≤ x10 then (if x10 < (x7.length : Int) then (rialtoref4_read.l0 k x7 x8 (Go.bits .or .u64 (IntKind.u64.wrap (x9 * 256)) (IntKind.u64.wrap (rd x7 x10))) (wrap64 (x10 + 1))) else (none)) else (none)) else (some (5, 0, (⟨#[]⟩ : ByteArray), (x9 : Int).toNat))) else (some (5, 0, (⟨#[]⟩ : ByteArray), (x9 : Int).toNat))
def rialtoref4_read.j5 : Nat → ByteArray → Int → Int → Bool → Option (Int × Int × ByteArray × Nat)
 | 0, _, _, _, _ => none
 | k + 1, x0, x3, x11, x12 => rialtoref4_read.l1 k x0 x3 x11 x12 0
def rialtoref4_read.l1 : Nat → ByteArray → Int → Int → Bool → Int → Option (Int × Int × ByteArray × Nat)
 | 0, _, _, _, _, _ => none
 | k + 1, x0, x3, x11, x12, x13 => if x13 < x3 then (if 0 ≤ x13 then (if x13 < (x0.size : Int) then (if (bt x0 x13) ≥ 48 then (if (bt x0 x13) ≤ 57 then (rialtoref4_read.l1 k x0 x3 (IntKind.u64.wrap ((IntKind.u64.wrap (10 * x11)) + (((bt x0 x13) - 48) % 256))) x12 (wrap64 (x13 + 1))) else (rialtoref4_read.l1 k x0 x3 x11 x12 (wrap64 (x13 + 1)))) else (rialtoref4_read.l1 k x0 x3 x11 x12 (wrap64 (x13 + 1)))) else (none)) else (none)) else (if x12 = true then (some (1, wrap64 (IntKind.u64.wrap (-x11)), (⟨#[]⟩ : ByteArray), 0)) else (some (1, wrap64 (x11), (⟨#[]⟩ : ByteArray), 0)))
end
def rialtoref4_read.f (k : Nat) (a0 : ByteArray) : Option (Int × Int × ByteArray × Nat) := if a0.toList = ([116, 114, 117, 101] : List UInt8) then (rialtoref4_read.j0 k a0 (a0.size : Int) true) else (rialtoref4_read.j0 k a0 (a0.size : Int) (a0.toList == ([102, 97, 108, 115, 101] : List UInt8)))
theorem rialtoref4_read.mono_l : ∀ k, (∀ y0 y1 y2, LeO (rialtoref4_read.j0 k y0 y1 y2) (rialtoref4_read.j0 (k + 1) y0 y1 y2)) ∧ (∀ y0 y1 y2, LeO (rialtoref4_read.j1 k y0 y1 y2) (rialtoref4_read.j1 (k + 1) y0 y1 y2)) ∧ (∀ y0 y1 y2, LeO (rialtoref4_read.j2 k y0 y1 y2) (rialtoref4_read.j2 (k + 1) y0 y1 y2)) ∧ (∀ y0 y1 y2, LeO (rialtoref4_read.j3 k y0 y1 y2) (rialtoref4_read.j3 (k + 1) y0 y1 y2)) ∧ (∀ y0 y1 y2 y3, LeO (rialtoref4_read.l0 k y0 y1 y2 y3) (rialtoref4_read.l0 (k + 1) y0 y1 y2 y3)) ∧ (∀ y0 y1 y2 y3, LeO (rialtoref4_read.j5 k y0 y1 y2 y3) (rialtoref4_read.j5 (k + 1) y0 y1 y2 y3)) ∧ (∀ y0 y1 y2 y3 y4, LeO (rialtoref4_read.l1 k y0 y1 y2 y3 y4) (rialtoref4_read.l1 (k + 1) y0 y1 y2 y3 y4))
 | 0 => ⟨fun _ _ _ r h => by simp [rialtoref4_read.j0] at h, fun _ _ _ r h => by simp [rialtoref4_read.j1] at h, fun _ _ _ r h => by simp [rialtoref4_read.j2] at h, fun _ _ _ r h => by simp [rialtoref4_read.j3] at h, fun _ _ _ _ r h => by simp [rialtoref4_read.l0] at h, fun _ _ _ _ r h => by simp [rialtoref4_read.j5] at h, fun _ _ _ _ _ r h => by simp [rialtoref4_read.l1] at h⟩
 | k + 1 => by
  obtain ⟨ih0, ih1, ih2, ih3, ih4, ih5, ih6⟩ := rialtoref4_read.mono_l k
  refine ⟨?_, ?_, ?_, ?_, ?_, ?_, ?_⟩
  ·intro y0 y1 y2
   unfold rialtoref4_read.j0
   repeat' first
   | (with_reducible exact ih0 _ _ _)
   | (with_reducible exact ih1 _ _ _)
   | (with_reducible exact ih2 _ _ _)
   | (with_reducible exact ih3 _ _ _)
   | (with_reducible exact ih4 _ _ _ _)
   | (with_reducible exact ih5 _ _ _ _)
   | (with_reducible exact ih6 _ _ _ _ _)
   | (with_reducible exact rialtoref4_bytes.mono _ _)
   | (with_reducible exact rialtoref4_unquoted.mono _ _)
   | (with_reducible exact LeO.refl _)
   | (with_reducible exact LeO.none _)
   | (with_reducible refine LeO.ite ?_ ?_)
   | (with_reducible refine LeO.bind ?_ (fun _ => ?_))
   | exact ih0 _ _ _
   | exact ih1 _ _ _
   | exact ih2 _ _ _
   | exact ih3 _ _ _
   | exact ih4 _ _ _ _
   | exact ih5 _ _ _ _
   | exact ih6 _ _ _ _ _
   | exact rialtoref4_bytes.mono _ _
   | exact rialtoref4_unquoted.mono _ _
   | exact LeO.none _
   | refine LeO.ite ?_ ?_
   | refine LeO.bind ?_ (fun _ => ?_)
  ·intro y0 y1 y2
   unfold rialtoref4_read.j1
   repeat' first
   | (with_reducible exact ih0 _ _ _)
   | (with_reducible exact ih1 _ _ _)
   | (with_reducible exact ih2 _ _ _)
   | (with_reducible exact ih3 _ _ _)
   | (with_reducible exact ih4 _ _ _ _)
   | (with_reducible exact ih5 _ _ _ _)
   | (with_reducible exact ih6 _ _ _ _ _)
   | (with_reducible exact rialtoref4_bytes.mono _ _)
   | (with_reducible exact rialtoref4_unquoted.mono _ _)
   | (with_reducible exact LeO.refl _)
   | (with_reducible exact LeO.none _)
   | (with_reducible refine LeO.ite ?_ ?_)
   | (with_reducible refine LeO.bind ?_ (fun _ => ?_))
   | exact ih0 _ _ _
   | exact ih1 _ _ _
   | exact ih2 _ _ _
   | exact ih3 _ _ _
   | exact ih4 _ _ _ _
   | exact ih5 _ _ _ _
   | exact ih6 _ _ _ _ _
   | exact rialtoref4_bytes.mono _ _
   | exact rialtoref4_unquoted.mono _ _
   | exact LeO.none _
   | refine LeO.ite ?_ ?_
   | refine LeO.bind ?_ (fun _ => ?_)
  ·intro y0 y1 y2
   unfold rialtoref4_read.j2
   repeat' first
   | (with_reducible exact ih0 _ _ _)
   | (with_reducible exact ih1 _ _ _)
   | (with_reducible exact ih2 _ _ _)
   | (with_reducible exact ih3 _ _ _)
   | (with_reducible exact ih4 _ _ _ _)
   | (with_reducible exact ih5 _ _ _ _)
   | (with_reducible exact ih6 _ _ _ _ _)
   | (with_reducible exact rialtoref4_bytes.mono _ _)
   | (with_reducible exact rialtoref4_unquoted.mono _ _)
   | (with_reducible exact LeO.refl _)
   | (with_reducible exact LeO.none _)
   | (with_reducible refine LeO.ite ?_ ?_)
   | (with_reducible refine LeO.bind ?_ (fun _ => ?_))
   | exact ih0 _ _ _
   | exact ih1 _ _ _
   | exact ih2 _ _ _
   | exact ih3 _ _ _
   | exact ih4 _ _ _ _
   | exact ih5 _ _ _ _
   | exact ih6 _ _ _ _ _
   | exact rialtoref4_bytes.mono _ _
   | exact rialtoref4_unquoted.mono _ _
   | exact LeO.none _
   | refine LeO.ite ?_ ?_
   | refine LeO.bind ?_ (fun _ => ?_)
  ·intro y0 y1 y2
   unfold rialtoref4_read.j3
   repeat' first
   | (with_reducible exact ih0 _ _ _)
   | (with_reducible exact ih1 _ _ _)
   | (with_reducible exact ih2 _ _ _)
   | (with_reducible exact ih3 _ _ _)
   | (with_reducible exact ih4 _ _ _ _)
   | (with_reducible exact ih5 _ _ _ _)
   | (with_reducible exact ih6 _ _ _ _ _)
   | (with_reducible exact rialtoref4_bytes.mono _ _)
   | (with_reducible exact rialtoref4_unquoted.mono _ _)
   | (with_reducible exact LeO.refl _)
   | (with_reducible exact LeO.none _)
   | (with_reducible refine LeO.ite ?_ ?_)
   | (with_reducible refine LeO.bind ?_ (fun _ => ?_))
   | exact ih0 _ _ _
   | exact ih1 _ _ _
   | exact ih2 _ _ _
   | exact ih3 _ _ _
   | exact ih4 _ _ _ _
   | exact ih5 _ _ _ _
   | exact ih6 _ _ _ _ _
   | exact rialtoref4_bytes.mono _ _
   | exact rialtoref4_unquoted.mono _ _
   | exact LeO.none _
   | refine LeO.ite ?_ ?_
   | refine LeO.bind ?_ (fun _ => ?_)
  ·intro y0 y1 y2 y3
   unfold rialtoref4_read.l0
   repeat' first
   | (with_reducible exact ih0 _ _ _)
   | (with_reducible exact ih1 _ _ _)
   | (with_reducible exact ih2 _ _ _)
   | (with_reducible exact ih3 _ _ _)
   | (with_reducible exact ih4 _ _ _ _)
   | (with_reducible exact ih5 _ _ _ _)
   | (with_reducible exact ih6 _ _ _ _ _)
   | (with_reducible exact rialtoref4_bytes.mono _ _)
   | (with_reducible exact rialtoref4_unquoted.mono _ _)
   | (with_reducible exact LeO.refl _)
   | (with_reducible exact LeO.none _)
   | (with_reducible refine LeO.ite ?_ ?_)
   | (with_reducible refine LeO.bind ?_ (fun _ => ?_))
   | exact ih0 _ _ _
   | exact ih1 _ _ _
   | exact ih2 _ _ _
   | exact ih3 _ _ _
   | exact ih4 _ _ _ _
   | exact ih5 _ _ _ _
   | exact ih6 _ _ _ _ _
   | exact rialtoref4_bytes.mono _ _
   | exact rialtoref4_unquoted.mono _ _
   | exact LeO.none _
   | refine LeO.ite ?_ ?_
   | refine LeO.bind ?_ (fun _ => ?_)
  ·intro y0 y1 y2 y3
   unfold rialtoref4_read.j5
   repeat' first
   | (with_reducible exact ih0 _ _ _)
   | (with_reducible exact ih1 _ _ _)
   | (with_reducible exact ih2 _ _ _)
   | (with_reducible exact ih3 _ _ _)
   | (with_reducible exact ih4 _ _ _ _)
   | (with_reducible exact ih5 _ _ _ _)
   | (with_reducible exact ih6 _ _ _ _ _)
   | (with_reducible exact rialtoref4_bytes.mono _ _)
   | (with_reducible exact rialtoref4_unquoted.mono _ _)
   | (with_reducible exact LeO.refl _)
   | (with_reducible exact LeO.none _)
   | (with_reducible refine LeO.ite ?_ ?_)
   | (with_reducible refine LeO.bind ?_ (fun _ => ?_))
   | exact ih0 _ _ _
   | exact ih1 _ _ _
   | exact ih2 _ _ _
   | exact ih3 _ _ _
   | exact ih4 _ _ _ _
   | exact ih5 _ _ _ _
   | exact ih6 _ _ _ _ _
   | exact rialtoref4_bytes.mono _ _
   | exact rialtoref4_unquoted.mono _ _
   | exact LeO.none _
   | refine LeO.ite ?_ ?_
   | refine LeO.bind ?_ (fun _ => ?_)
  ·intro y0 y1 y2 y3 y4
   unfold rialtoref4_read.l1
   repeat' first
   | (with_reducible exact ih0 _ _ _)
   | (with_reducible exact ih1 _ _ _)
   | (with_reducible exact ih2 _ _ _)
   | (with_reducible exact ih3 _ _ _)
   | (with_reducible exact ih4 _ _ _ _)
   | (with_reducible exact ih5 _ _ _ _)
   | (with_reducible exact ih6 _ _ _ _ _)
   | (with_reducible exact rialtoref4_bytes.mono _ _)
   | (with_reducible exact rialtoref4_unquoted.mono _ _)
   | (with_reducible exact LeO.refl _)
   | (with_reducible exact LeO.none _)
   | (with_reducible refine LeO.ite ?_ ?_)
   | (with_reducible refine LeO.bind ?_ (fun _ => ?_))
   | exact ih0 _ _ _
   | exact ih1 _ _ _
   | exact ih2 _ _ _
   | exact ih3 _ _ _
   | exact ih4 _ _ _ _
   | exact ih5 _ _ _ _
   | exact ih6 _ _ _ _ _
   | exact rialtoref4_bytes.mono _ _
   | exact rialtoref4_unquoted.mono _ _
   | exact LeO.none _
   | refine LeO.ite ?_ ?_
   | refine LeO.bind ?_ (fun _ => ?_)
theorem rialtoref4_read.mono : ∀ a0 k, LeO (rialtoref4_read.f k a0) (rialtoref4_read.f (k + 1) a0) := by
 intro a0 k
 obtain ⟨ih0, ih1, ih2, ih3, ih4, ih5, ih6⟩ := rialtoref4_read.mono_l k
 unfold rialtoref4_read.f
 repeat' first
   | (with_reducible exact ih0 _ _ _)
   | (with_reducible exact ih1 _ _ _)
   | (with_reducible exact ih2 _ _ _)
   | (with_reducible exact ih3 _ _ _)
   | (with_reducible exact ih4 _ _ _ _)
   | (with_reducible exact ih5 _ _ _ _)
   | (with_reducible exact ih6 _ _ _ _ _)
   | (with_reducible exact rialtoref4_bytes.mono _ _)
   | (with_reducible exact rialtoref4_unquoted.mono _ _)
   | (with_reducible exact LeO.refl _)
   | (with_reducible exact LeO.none _)
   | (with_reducible refine LeO.ite ?_ ?_)
   | (with_reducible refine LeO.bind ?_ (fun _ => ?_))
   | exact ih0 _ _ _
   | exact ih1 _ _ _
   | exact ih2 _ _ _
   | exact ih3 _ _ _
   | exact ih4 _ _ _ _
   | exact ih5 _ _ _ _
   | exact ih6 _ _ _ _ _
   | exact rialtoref4_bytes.mono _ _
   | exact rialtoref4_unquoted.mono _ _
   | exact LeO.none _
   | refine LeO.ite ?_ ?_
   | refine LeO.bind ?_ (fun _ => ?_)
set_option maxHeartbeats 60000000 in
set_option maxRecDepth 100000 in
theorem rialtoref4_read.calls (k : Nat) (a0 : ByteArray) (r1 : Int) (r2 : Int) (r3 : ByteArray) (r4 : Nat) (w : World) (h : rialtoref4_read.f k a0 = some (r1, r2, r3, r4)) :
  Calls Tryd.prog 34 #[.string a0] w fun e w' => e = .returned (.agg #[.int .i64 r1, .int .i64 r2, .string r3, .float .f64 r4]) ∧ Below w.heap.size w w' := by
 have hu24 := Tryd.underlying24
 have HB := Aside0.mk (Below.refl w.heap.size w)
 have H : (if a0.toList = ([116, 114, 117, 101] : List UInt8) then (rialtoref4_read.j0 k a0 (a0.size : Int) true) else (rialtoref4_read.j0 k a0 (a0.size : Int) (a0.toList == ([102, 97, 108, 115, 101] : List UInt8)))) = some (r1, r2, r3, r4) := h
 clear h
 have HC2 := Aside0.mk H
 clear H
 have k23 := run23
 have k22 := run22
 go_enter Tryd.func34, Tryd.ntmps34
 go_upto_region 2 with (first | ((with_reducible refine gate_dst (N := 2) rfl ?_); refine box_event ?hg (N := 2) ?hd (cs := #[.int .i64 0, .int .i64 0, .string (⟨#[]⟩ : ByteArray), .float .f64 0]) (t := 24) ?hr ?_; (case hd => rfl); (case hg => rfl); (case hr => first | (go_simp; done) | (go_simp; rfl)); intro gb278 hg w3 hbox hb; have n0_ := Aside0.mk (below_step (by repeat (first | (with_reducible first | exact HB.out | apply below_alloc | apply pw_below_drewN | apply below_drew1) | exact HB.out)) hb); have n1_ := Aside0.mk (hbox); have n2_ := Aside0.mk ((by rw [hg]; exact (below_size (by repeat (first | (with_reducible first | exact HB.out | apply below_alloc | apply pw_below_drewN | apply below_drew1) | exact HB.out))) : w.heap.size ≤ gb278)); have n3_ := Aside0.mk ((by rw [hg]; exact (below_size (by repeat (first | (with_reducible first | exact HB.out | apply below_alloc | apply pw_below_drewN | apply below_drew1) | exact HB.out))) : w.heap.size ≤ gb278)); clear HB; have HB := n0_; have BK278 := n1_; have GW278 := n2_; have GE278 := n3_; clear n0_ n1_ n2_ n3_; clear hb hbox hg))
 (try simp only [Act.put, List.setIfInBounds_toArray, List.set_cons_zero, List.set_cons_succ])
 go_cut [16] (fun v16 wc => ∃ (kq : Nat) (x16_1 : Bool), v16 = .bool x16_1 ∧ Aside0 (rialtoref4_read.j0 kq a0 (a0.size : Int) x16_1 = some (r1, r2, r3, r4)) ∧ Aside0 (kq ≤ k) ∧ Aside0 (wc.heap[gb278]? = some (.cells #[.int .i64 0, .int .i64 0, .string (⟨#[]⟩ : ByteArray), .float .f64 0] 24 (0, 0))) ∧ Aside0 (Below w.heap.size w wc))
 case first =>
  have H := HC2.out
  clear HC2
  by_cases c4 : a0.toList = ([116, 114, 117, 101] : List UInt8)
  ·rw [if_pos c4] at H
   have c4b0 : (a0.toList == ([116, 114, 117, 101] : List UInt8)) = true := beq_iff_eq.mpr c4
   have c4b1 : (a0.toList != ([116, 114, 117, 101] : List UInt8)) = false := bne_eq_false_iff_eq.mpr c4
   clear c4
   (first | rw [c4b0] | (simp only [i64_w, i32_w]; rw [c4b0]) | skip)
   have H' := Aside0.mk H
   clear H
   go_wp2
   go_meet
   case rel => exact ⟨_, (true), (by first | rfl | (simp; done) | (simp [*]; done)), H', ⟨by first | omega | exact Nat.le_refl _⟩, ⟨by (with_reducible repeat (first | refine blk_drewN ?_ _ | refine blk_drew ?_ | refine blk_alloc ?_ _)); exact BK278.out⟩, ⟨by repeat (first | (with_reducible first | exact HB.out | apply below_alloc | apply pw_below_drewN | apply below_drew1 | refine below_set ?_ GE278.out) | exact HB.out)⟩⟩
  ·rw [if_neg c4] at H
   have c4b0 : (a0.toList == ([116, 114, 117, 101] : List UInt8)) = false := beq_eq_false_iff_ne.mpr c4
   have c4b1 : (a0.toList != ([116, 114, 117, 101] : List UInt8)) = true := bne_iff_ne.mpr c4
   (first | rw [c4b0] | (simp only [i64_w, i32_w]; rw [c4b0]) | skip)
   have H' := Aside0.mk H
   clear H
   go_wp2
   go_meet
   case rel => exact ⟨_, ((a0.toList == ([102, 97, 108, 115, 101] : List UInt8))), (by first | rfl | (simp; done) | (simp [*]; done)), H', ⟨by first | omega | exact Nat.le_refl _⟩, ⟨by (with_reducible repeat (first | refine blk_drewN ?_ _ | refine blk_drew ?_ | refine blk_alloc ?_ _)); exact BK278.out⟩, ⟨by repeat (first | (with_reducible first | exact HB.out | apply below_alloc | apply pw_below_drewN | apply below_drew1 | refine below_set ?_ GE278.out) | exact HB.out)⟩⟩
 case rest =>
  clear HC2
  try clear p2;try clear c3;try clear c4;try clear c4b0;try clear c4b1
  obtain ⟨kq, x16_1, rfl, HA, HJ1, BK278, HB⟩ := hcut
  cases kq with
  | zero => exact absurd HA.out (by simp [rialtoref4_read.j0])
  | succ kj1 =>
   have H := HA.out
   clear HA
   simp only [rialtoref4_read.j0] at H
   by_cases c5 : x16_1 = true
   ·subst c5
    have H1 : (if a0.toList = ([116, 114, 117, 101] : List UInt8) then (some (2, 1, (⟨#[]⟩ : ByteArray), 0)) else (some (2, 0, (⟨#[]⟩ : ByteArray), 0))) = some (r1, r2, r3, r4) := by rw [if_pos rfl] at H; exact H
    clear H
    have H := H1
    clear H1
    by_cases c6 : a0.toList = ([116, 114, 117, 101] : List UInt8)
    ·rw [if_pos c6] at H
     have c6b0 : (a0.toList == ([116, 114, 117, 101] : List UInt8)) = true := beq_iff_eq.mpr c6
     have c6b1 : (a0.toList != ([116, 114, 117, 101] : List UInt8)) = false := bne_eq_false_iff_eq.mpr c6
     clear c6
     simp only [Option.some.injEq, Prod.mk.injEq] at H
     obtain ⟨rfl, rfl, rfl, rfl⟩ := H
     go_wp2_with (first | ((with_reducible refine gate_dst (N := 4) rfl ?_); refine box_event ?hg (N := 4) ?hd (cs := #[.int .i64 0, .int .i64 0, .string (⟨#[]⟩ : ByteArray), .float .f64 0]) (t := 24) ?hr ?_; (case hd => rfl); (case hg => rfl); (case hr => first | (go_simp; done) | (go_simp; rfl)); intro gb279 hg w7 hbox hb; have n0_ := Aside0.mk (blk_below (g := gb278) (o := .cells #[.int .i64 0, .int .i64 0, .string (⟨#[]⟩ : ByteArray), .float .f64 0] 24 (0, 0)) (by (with_reducible repeat (first | refine blk_drewN ?_ _ | refine blk_drew ?_ | refine blk_alloc ?_ _)); exact BK278.out) hb); have n1_ := Aside0.mk (below_step (by repeat (first | (with_reducible first | exact HB.out | apply below_alloc | apply pw_below_drewN | apply below_drew1 | refine below_set ?_ GE278.out) | exact HB.out)) hb); have n2_ := Aside0.mk (hbox); have n3_ := Aside0.mk ((by rw [hg]; exact (below_size (by repeat (first | (with_reducible first | exact HB.out | apply below_alloc | apply pw_below_drewN | apply below_drew1 | refine below_set ?_ GE278.out) | exact HB.out))) : w.heap.size ≤ gb279)); have n4_ := Aside0.mk ((by rw [hg]; exact (below_size (by repeat (first | (with_reducible first | exact HB.out | apply below_alloc | apply pw_below_drewN | apply below_drew1 | refine below_set ?_ GE278.out) | exact HB.out))) : w.heap.size ≤ gb279)); have n5_ := Aside0.mk ((by rw [hg]; exact Nat.ne_of_lt (blk_lt (g := gb278) (o := .cells #[.int .i64 0, .int .i64 0, .string (⟨#[]⟩ : ByteArray), .float .f64 0] 24 (0, 0)) (by (with_reducible repeat (first | refine blk_drewN ?_ _ | refine blk_drew ?_ | refine blk_alloc ?_ _)); exact BK278.out)) : gb278 ≠ gb279)); have n6_ := Aside0.mk ((by rw [hg]; exact Nat.ne_of_gt (blk_lt (g := gb278) (o := .cells #[.int .i64 0, .int .i64 0, .string (⟨#[]⟩ : ByteArray), .float .f64 0] 24 (0, 0)) (by (with_reducible repeat (first | refine blk_drewN ?_ _ | refine blk_drew ?_ | refine blk_alloc ?_ _)); exact BK278.out)) : gb279 ≠ gb278)); clear BK278; clear HB; have BK278 := n0_; have HB := n1_; have BK279 := n2_; have GW279 := n3_; have GE279 := n4_; have NB278_279 := n5_; have NB279_278 := n6_; clear n0_ n1_ n2_ n3_ n4_ n5_ n6_; clear hb hbox hg; have hnb8 := NB279_278.out; have hnc8 := NB278_279.out; have hcz9_0 : w7.cell? ⟨gb279, 0, none⟩ = some (.int .i64 0) := (blk_cell BK279.out 0).trans rfl; have hcz9_1 : w7.cell? ⟨gb279, 1, none⟩ = some (.int .i64 0) := (blk_cell BK279.out 1).trans rfl; have hcz9_2 : w7.cell? ⟨gb279, 2, none⟩ = some (.string (⟨#[]⟩ : ByteArray)) := (blk_cell BK279.out 2).trans rfl; have hcz9_3 : w7.cell? ⟨gb279, 3, none⟩ = some (.float .f64 0) := (blk_cell BK279.out 3).trans rfl; have hfz9_0 := blk_frozen BK279.out 0; have hfz9_1 := blk_frozen BK279.out 1; have hfz9_2 := blk_frozen BK279.out 2; have hfz9_3 := blk_frozen BK279.out 3; have hcz10_0 : w7.cell? ⟨gb278, 0, none⟩ = some (.int .i64 0) := (blk_cell BK278.out 0).trans rfl; have hcz10_1 : w7.cell? ⟨gb278, 1, none⟩ = some (.int .i64 0) := (blk_cell BK278.out 1).trans rfl; have hcz10_2 : w7.cell? ⟨gb278, 2, none⟩ = some (.string (⟨#[]⟩ : ByteArray)) := (blk_cell BK278.out 2).trans rfl; have hcz10_3 : w7.cell? ⟨gb278, 3, none⟩ = some (.float .f64 0) := (blk_cell BK278.out 3).trans rfl; have hfz10_0 := blk_frozen BK278.out 0; have hfz10_1 := blk_frozen BK278.out 1; have hfz10_2 := blk_frozen BK278.out 2; have hfz10_3 := blk_frozen BK278.out 3; have hqh : (((((w7.setCell ⟨gb279, 0, none⟩ (.int .i64 2)).setCell ⟨gb279, 1, none⟩ (.int .i64 0)).setCell ⟨gb279, 2, none⟩ (.string (⟨#[]⟩ : ByteArray))).setCell ⟨gb279, 3, none⟩ (.float .f64 0)).setCell ⟨gb279, 1, none⟩ (.int .i64 1)).heap[gb279]? = some (.cells #[.int .i64 2, .int .i64 1, .string (⟨#[]⟩ : ByteArray), .float .f64 0] 24 (0, 0)) := (by refine blk_put (cs := #[.int .i64 2, .int .i64 0, .string (⟨#[]⟩ : ByteArray), .float .f64 0]) ?_ 1 _ rfl; refine blk_put (cs := #[.int .i64 2, .int .i64 0, .string (⟨#[]⟩ : ByteArray), .float .f64 0]) ?_ 3 _ rfl; refine blk_put (cs := #[.int .i64 2, .int .i64 0, .string (⟨#[]⟩ : ByteArray), .float .f64 0]) ?_ 2 _ rfl; refine blk_put (cs := #[.int .i64 2, .int .i64 0, .string (⟨#[]⟩ : ByteArray), .float .f64 0]) ?_ 1 _ rfl; refine blk_put (cs := #[.int .i64 0, .int .i64 0, .string (⟨#[]⟩ : ByteArray), .float .f64 0]) ?_ 0 _ rfl; exact BK279.out); have hq1 := (blk_cell hqh 1).trans rfl; clear hqh))
     refine bodyPost_ret (results_cell_row rfl _ _ gb278 24 #[.int .i64 2, .int .i64 1, .string (⟨#[]⟩ : ByteArray), .float .f64 0] (0, 0) _ rfl (by (with_reducible repeat (first | refine blk_drewN ?_ _ | refine blk_drew ?_ | refine blk_alloc ?_ _)); refine blk_put (cs := #[.int .i64 2, .int .i64 1, .string (⟨#[]⟩ : ByteArray), .float .f64 0]) ?_ 3 _ rfl; (with_reducible repeat (first | refine blk_drewN ?_ _ | refine blk_drew ?_ | refine blk_alloc ?_ _)); refine blk_put (cs := #[.int .i64 2, .int .i64 1, .string (⟨#[]⟩ : ByteArray), .float .f64 0]) ?_ 2 _ rfl; (with_reducible repeat (first | refine blk_drewN ?_ _ | refine blk_drew ?_ | refine blk_alloc ?_ _)); refine blk_put (cs := #[.int .i64 2, .int .i64 0, .string (⟨#[]⟩ : ByteArray), .float .f64 0]) ?_ 1 _ rfl; (with_reducible repeat (first | refine blk_drewN ?_ _ | refine blk_drew ?_ | refine blk_alloc ?_ _)); refine blk_put (cs := #[.int .i64 0, .int .i64 0, .string (⟨#[]⟩ : ByteArray), .float .f64 0]) ?_ 0 _ rfl; (with_reducible repeat (first | refine blk_drewN ?_ _ | refine blk_drew ?_ | refine blk_alloc ?_ _)); refine blk_far ?_ NB278_279.out _; (with_reducible repeat (first | refine blk_drewN ?_ _ | refine blk_drew ?_ | refine blk_alloc ?_ _)); refine blk_far ?_ NB278_279.out _; (with_reducible repeat (first | refine blk_drewN ?_ _ | refine blk_drew ?_ | refine blk_alloc ?_ _)); refine blk_far ?_ NB278_279.out _; (with_reducible repeat (first | refine blk_drewN ?_ _ | refine blk_drew ?_ | refine blk_alloc ?_ _)); refine blk_far ?_ NB278_279.out _; (with_reducible repeat (first | refine blk_drewN ?_ _ | refine blk_drew ?_ | refine blk_alloc ?_ _)); refine blk_far ?_ NB278_279.out _; (with_reducible repeat (first | refine blk_drewN ?_ _ | refine blk_drew ?_ | refine blk_alloc ?_ _)); exact BK278.out) Tryd.underlying24 rfl (by kernel_rfl)) rfl ?_
     exact ⟨by first | rfl | (simp [errW_none, errW_some] <;> rfl) | (simp [*, errW_none, errW_some] <;> rfl), by repeat (first | (with_reducible first | exact HB.out | apply below_alloc | apply pw_below_drewN | apply below_drew1 | refine below_set ?_ GE278.out | refine below_set ?_ GE279.out) | exact HB.out)⟩
    ·rw [if_neg c6] at H
     have c6b0 : (a0.toList == ([116, 114, 117, 101] : List UInt8)) = false := beq_eq_false_iff_ne.mpr c6
     have c6b1 : (a0.toList != ([116, 114, 117, 101] : List UInt8)) = true := bne_iff_ne.mpr c6
     simp only [Option.some.injEq, Prod.mk.injEq] at H
     obtain ⟨rfl, rfl, rfl, rfl⟩ := H
     go_wp2_with (first | ((with_reducible refine gate_dst (N := 4) rfl ?_); refine box_event ?hg (N := 4) ?hd (cs := #[.int .i64 0, .int .i64 0, .string (⟨#[]⟩ : ByteArray), .float .f64 0]) (t := 24) ?hr ?_; (case hd => rfl); (case hg => rfl); (case hr => first | (go_simp; done) | (go_simp; rfl)); intro gb279 hg w11 hbox hb; have n0_ := Aside0.mk (blk_below (g := gb278) (o := .cells #[.int .i64 0, .int .i64 0, .string (⟨#[]⟩ : ByteArray), .float .f64 0] 24 (0, 0)) (by (with_reducible repeat (first | refine blk_drewN ?_ _ | refine blk_drew ?_ | refine blk_alloc ?_ _)); exact BK278.out) hb); have n1_ := Aside0.mk (below_step (by repeat (first | (with_reducible first | exact HB.out | apply below_alloc | apply pw_below_drewN | apply below_drew1 | refine below_set ?_ GE278.out) | exact HB.out)) hb); have n2_ := Aside0.mk (hbox); have n3_ := Aside0.mk ((by rw [hg]; exact (below_size (by repeat (first | (with_reducible first | exact HB.out | apply below_alloc | apply pw_below_drewN | apply below_drew1 | refine below_set ?_ GE278.out) | exact HB.out))) : w.heap.size ≤ gb279)); have n4_ := Aside0.mk ((by rw [hg]; exact (below_size (by repeat (first | (with_reducible first | exact HB.out | apply below_alloc | apply pw_below_drewN | apply below_drew1 | refine below_set ?_ GE278.out) | exact HB.out))) : w.heap.size ≤ gb279)); have n5_ := Aside0.mk ((by rw [hg]; exact Nat.ne_of_lt (blk_lt (g := gb278) (o := .cells #[.int .i64 0, .int .i64 0, .string (⟨#[]⟩ : ByteArray), .float .f64 0] 24 (0, 0)) (by (with_reducible repeat (first | refine blk_drewN ?_ _ | refine blk_drew ?_ | refine blk_alloc ?_ _)); exact BK278.out)) : gb278 ≠ gb279)); have n6_ := Aside0.mk ((by rw [hg]; exact Nat.ne_of_gt (blk_lt (g := gb278) (o := .cells #[.int .i64 0, .int .i64 0, .string (⟨#[]⟩ : ByteArray), .float .f64 0] 24 (0, 0)) (by (with_reducible repeat (first | refine blk_drewN ?_ _ | refine blk_drew ?_ | refine blk_alloc ?_ _)); exact BK278.out)) : gb279 ≠ gb278)); clear BK278; clear HB; have BK278 := n0_; have HB := n1_; have BK279 := n2_; have GW279 := n3_; have GE279 := n4_; have NB278_279 := n5_; have NB279_278 := n6_; clear n0_ n1_ n2_ n3_ n4_ n5_ n6_; clear hb hbox hg; have hnb12 := NB279_278.out; have hnc12 := NB278_279.out; have hcz13_0 : w11.cell? ⟨gb279, 0, none⟩ = some (.int .i64 0) := (blk_cell BK279.out 0).trans rfl; have hcz13_1 : w11.cell? ⟨gb279, 1, none⟩ = some (.int .i64 0) := (blk_cell BK279.out 1).trans rfl; have hcz13_2 : w11.cell? ⟨gb279, 2, none⟩ = some (.string (⟨#[]⟩ : ByteArray)) := (blk_cell BK279.out 2).trans rfl; have hcz13_3 : w11.cell? ⟨gb279, 3, none⟩ = some (.float .f64 0) := (blk_cell BK279.out 3).trans rfl; have hfz13_0 := blk_frozen BK279.out 0; have hfz13_1 := blk_frozen BK279.out 1; have hfz13_2 := blk_frozen BK279.out 2; have hfz13_3 := blk_frozen BK279.out 3; have hcz14_0 : w11.cell? ⟨gb278, 0, none⟩ = some (.int .i64 0) := (blk_cell BK278.out 0).trans rfl; have hcz14_1 : w11.cell? ⟨gb278, 1, none⟩ = some (.int .i64 0) := (blk_cell BK278.out 1).trans rfl; have hcz14_2 : w11.cell? ⟨gb278, 2, none⟩ = some (.string (⟨#[]⟩ : ByteArray)) := (blk_cell BK278.out 2).trans rfl; have hcz14_3 : w11.cell? ⟨gb278, 3, none⟩ = some (.float .f64 0) := (blk_cell BK278.out 3).trans rfl; have hfz14_0 := blk_frozen BK278.out 0; have hfz14_1 := blk_frozen BK278.out 1; have hfz14_2 := blk_frozen BK278.out 2; have hfz14_3 := blk_frozen BK278.out 3))
     refine bodyPost_ret (results_cell_row rfl _ _ gb278 24 #[.int .i64 2, .int .i64 0, .string (⟨#[]⟩ : ByteArray), .float .f64 0] (0, 0) _ rfl (by (with_reducible repeat (first | refine blk_drewN ?_ _ | refine blk_drew ?_ | refine blk_alloc ?_ _)); refine blk_put (cs := #[.int .i64 2, .int .i64 0, .string (⟨#[]⟩ : ByteArray), .float .f64 0]) ?_ 3 _ rfl; (with_reducible repeat (first | refine blk_drewN ?_ _ | refine blk_drew ?_ | refine blk_alloc ?_ _)); refine blk_put (cs := #[.int .i64 2, .int .i64 0, .string (⟨#[]⟩ : ByteArray), .float .f64 0]) ?_ 2 _ rfl; (with_reducible repeat (first | refine blk_drewN ?_ _ | refine blk_drew ?_ | refine blk_alloc ?_ _)); refine blk_put (cs := #[.int .i64 2, .int .i64 0, .string (⟨#[]⟩ : ByteArray), .float .f64 0]) ?_ 1 _ rfl; (with_reducible repeat (first | refine blk_drewN ?_ _ | refine blk_drew ?_ | refine blk_alloc ?_ _)); refine blk_put (cs := #[.int .i64 0, .int .i64 0, .string (⟨#[]⟩ : ByteArray), .float .f64 0]) ?_ 0 _ rfl; (with_reducible repeat (first | refine blk_drewN ?_ _ | refine blk_drew ?_ | refine blk_alloc ?_ _)); refine blk_far ?_ NB278_279.out _; (with_reducible repeat (first | refine blk_drewN ?_ _ | refine blk_drew ?_ | refine blk_alloc ?_ _)); refine blk_far ?_ NB278_279.out _; (with_reducible repeat (first | refine blk_drewN ?_ _ | refine blk_drew ?_ | refine blk_alloc ?_ _)); refine blk_far ?_ NB278_279.out _; (with_reducible repeat (first | refine blk_drewN ?_ _ | refine blk_drew ?_ | refine blk_alloc ?_ _)); refine blk_far ?_ NB278_279.out _; (with_reducible repeat (first | refine blk_drewN ?_ _ | refine blk_drew ?_ | refine blk_alloc ?_ _)); exact BK278.out) Tryd.underlying24 rfl (by kernel_rfl)) rfl ?_
     exact ⟨by first | rfl | (simp [errW_none, errW_some] <;> rfl) | (simp [*, errW_none, errW_some] <;> rfl), by repeat (first | (with_reducible first | exact HB.out | apply below_alloc | apply pw_below_drewN | apply below_drew1 | refine below_set ?_ GE278.out | refine below_set ?_ GE279.out) | exact HB.out)⟩
   ·replace c5 := Bool.eq_false_iff.mpr c5
    subst c5
    have H1 : (if (a0.size : Int) > 0 then (if 0 < (a0.size : Int) then (rialtoref4_read.j1 kj1 a0 (a0.size : Int) ((bt a0 0) == 34)) else (none)) else (rialtoref4_read.j1 kj1 a0 (a0.size : Int) false)) = some (r1, r2, r3, r4) := by rw [if_neg (show ¬ (false = true) by decide)] at H; exact H
    clear H
    have H := H1
    clear H1
    have HC15 := Aside0.mk H
    clear H
    go_upto_region 7 with (fail)
    go_cut [28] (fun v28 wc => ∃ (kq : Nat) (x28_14 : Bool), v28 = .bool x28_14 ∧ Aside0 (rialtoref4_read.j1 kq a0 (a0.size : Int) x28_14 = some (r1, r2, r3, r4)) ∧ Aside0 (kq ≤ kj1) ∧ Aside0 (wc.heap[gb278]? = some (.cells #[.int .i64 0, .int .i64 0, .string (⟨#[]⟩ : ByteArray), .float .f64 0] 24 (0, 0))) ∧ Aside0 (Below w.heap.size w wc))
    case first =>
     have H := HC15.out
     clear HC15
     by_cases c16 : (a0.size : Int) > 0
     ·rw [if_pos c16] at H
      have c16b0 : decide (0 < (a0.size : Int)) = true := decide_eq_true c16
      have c16b1 : decide (0 < a0.size) = true := decide_eq_true (by omega)
      clear c16
      (first | rw [c16b0] | (simp only [i64_w, i32_w]; rw [c16b0]) | skip)
      by_cases c17 : 0 < (a0.size : Int)
      ·rw [if_pos c17] at H
       have c17b0 : decide (0 < (a0.size : Int)) = true := decide_eq_true c17
       have c17b1 : decide (0 < a0.size) = true := decide_eq_true (by omega)
       clear c17
       have H' := Aside0.mk H
       clear H
       have p18 : 0 ≤ (0 : Int) := (by omega)
       have q18 : 0 < a0.size := (by have : (0 : Int) < (a0.size : Int) := of_decide_eq_true (by first | (with_reducible assumption) | assumption); omega)
       have hx18 : ∀ h : 0 < a0.size, ((a0[0]'h).toNat : Int) = bt a0 0 := bt_at a0 0
       clear p18
       have qi18 : (0 < (a0.size : Int)) = True := eq_true (of_decide_eq_true (by first | (with_reducible assumption) | assumption))
       replace q18 := eq_true q18
       go_wp2
       go_meet
       case rel => exact ⟨_, (((bt a0 0) == 34)), (by first | rfl | (simp; done) | (simp [*]; done)), H', ⟨by have := HJ1.out; first | omega | exact Nat.le_refl _⟩, ⟨by (with_reducible repeat (first | refine blk_drewN ?_ _ | refine blk_drew ?_ | refine blk_alloc ?_ _)); exact BK278.out⟩, ⟨by repeat (first | (with_reducible first | exact HB.out | apply below_alloc | apply pw_below_drewN | apply below_drew1 | refine below_set ?_ GE278.out) | exact HB.out)⟩⟩
      ·rw [if_neg c17] at H
       exact absurd H (by simp)
     ·rw [if_neg c16] at H
      have c16b0 : decide (0 < (a0.size : Int)) = false := decide_eq_false c16
      have c16b1 : decide (0 < a0.size) = false := decide_eq_false (by omega)
      clear c16
      (first | rw [c16b0] | (simp only [i64_w, i32_w]; rw [c16b0]) | skip)
      have H' := Aside0.mk H
      clear H
      go_wp2
      go_meet
      case rel => exact ⟨_, (false), (by first | rfl | (simp; done) | (simp [*]; done)), H', ⟨by have := HJ1.out; first | omega | exact Nat.le_refl _⟩, ⟨by (with_reducible repeat (first | refine blk_drewN ?_ _ | refine blk_drew ?_ | refine blk_alloc ?_ _)); exact BK278.out⟩, ⟨by repeat (first | (with_reducible first | exact HB.out | apply below_alloc | apply pw_below_drewN | apply below_drew1 | refine below_set ?_ GE278.out) | exact HB.out)⟩⟩
    case rest =>
     clear HC15
     try clear c1;try clear p1;try clear q1;try clear hx1;try clear qi1;try clear p2;try clear c3;try clear c4;try clear c4b0;try clear c4b1;try clear c5;try clear c6;try clear c6b0;try clear c6b1;try clear c8;try clear c12;try clear c16;try clear c16b0;try clear c16b1;try clear c17;try clear c17b0;try clear c17b1;try clear p18;try clear q18;try clear hx18;try clear qi18;try clear hcz10_0;try clear hcz10_1;try clear hcz10_2;try clear hcz10_3;try clear hcz13_0;try clear hcz13_1;try clear hcz13_2;try clear hcz13_3;try clear hcz14_0;try clear hcz14_1;try clear hcz14_2;try clear hcz14_3;try clear hcz9_0;try clear hcz9_1;try clear hcz9_2;try clear hcz9_3;try clear hfz10_0;try clear hfz10_1;try clear hfz10_2;try clear hfz10_3;try clear hfz13_0;try clear hfz13_1;try clear hfz13_2;try clear hfz13_3;try clear hfz14_0;try clear hfz14_1;try clear hfz14_2;try clear hfz14_3;try clear hfz9_0;try clear hfz9_1;try clear hfz9_2;try clear hfz9_3;try clear p18;try clear p2;try clear q18
     obtain ⟨kq, x28_14, rfl, HA, HJ14, BK278, HB⟩ := hcut
     cases kq with
     | zero => exact absurd HA.out (by simp [rialtoref4_read.j1])
     | succ kj14 =>
      have H := HA.out
      clear HA
      simp only [rialtoref4_read.j1] at H
      by_cases c19 : x28_14 = true
      ·subst c19
       have H1 : ((rialtoref4_unquoted.f kj14 a0).bind fun t280 => (some (3, 0, t280, 0))) = some (r1, r2, r3, r4) := by rw [if_pos rfl] at H; exact H
       clear H
       have H := H1
       clear H1
       replace H := Option.bind_eq_some_iff.mp H
       obtain ⟨t280, A200, H⟩ := H
       replace H : (some (3, 0, t280, 0)) = some (r1, r2, r3, r4) := H
       have A20 := Aside0.mk A200
       clear A200
       simp only [Option.some.injEq, Prod.mk.injEq] at H
       obtain ⟨rfl, rfl, rfl, rfl⟩ := H
       go_wp2_with (first | ((with_reducible refine gate_callee (f := 54) rfl ?_); refine goesL_ (some 37) rfl rfl Tryd.func54 (by kernel_rfl) rfl #[.string a0] rfl (by (try simp only [List.map_toArray, List.map_cons, List.map_nil]); first | done | rfl | (simp only [List.length_drop, List.length_take]; rfl)) ?_; (with_reducible refine (rialtoref4_unquoted.calls kj14 a0 t280 _ A20.out).mono ?_); rintro e w21 ⟨rfl, hb⟩; refine ⟨_, rfl, ?_⟩; have n0_ := Aside0.mk (blk_below (g := gb278) (o := .cells #[.int .i64 0, .int .i64 0, .string (⟨#[]⟩ : ByteArray), .float .f64 0] 24 (0, 0)) (by (with_reducible repeat (first | refine blk_drewN ?_ _ | refine blk_drew ?_ | refine blk_alloc ?_ _)); exact BK278.out) hb); have n1_ := Aside0.mk (below_step (by repeat (first | (with_reducible first | exact HB.out | apply below_alloc | apply pw_below_drewN | apply below_drew1 | refine below_set ?_ GE278.out) | exact HB.out)) hb); clear BK278; clear HB; have BK278 := n0_; have HB := n1_; clear n0_ n1_; (try clear hb); (try clear hb2); (try clear hk); (try clear hi); have hcz22_0 : w21.cell? ⟨gb278, 0, none⟩ = some (.int .i64 0) := (blk_cell BK278.out 0).trans rfl; have hcz22_1 : w21.cell? ⟨gb278, 1, none⟩ = some (.int .i64 0) := (blk_cell BK278.out 1).trans rfl; have hcz22_2 : w21.cell? ⟨gb278, 2, none⟩ = some (.string (⟨#[]⟩ : ByteArray)) := (blk_cell BK278.out 2).trans rfl; have hcz22_3 : w21.cell? ⟨gb278, 3, none⟩ = some (.float .f64 0) := (blk_cell BK278.out 3).trans rfl; have hfz22_0 := blk_frozen BK278.out 0; have hfz22_1 := blk_frozen BK278.out 1; have hfz22_2 := blk_frozen BK278.out 2; have hfz22_3 := blk_frozen BK278.out 3))
       refine bodyPost_ret (results_cell_row rfl _ _ gb278 24 #[.int .i64 3, .int .i64 0, .string t280, .float .f64 0] (0, 0) _ rfl (by (with_reducible repeat (first | refine blk_drewN ?_ _ | refine blk_drew ?_ | refine blk_alloc ?_ _)); refine blk_put (cs := #[.int .i64 3, .int .i64 0, .string t280, .float .f64 0]) ?_ 3 _ rfl; (with_reducible repeat (first | refine blk_drewN ?_ _ | refine blk_drew ?_ | refine blk_alloc ?_ _)); refine blk_put (cs := #[.int .i64 3, .int .i64 0, .string (⟨#[]⟩ : ByteArray), .float .f64 0]) ?_ 2 _ rfl; (with_reducible repeat (first | refine blk_drewN ?_ _ | refine blk_drew ?_ | refine blk_alloc ?_ _)); refine blk_put (cs := #[.int .i64 3, .int .i64 0, .string (⟨#[]⟩ : ByteArray), .float .f64 0]) ?_ 1 _ rfl; (with_reducible repeat (first | refine blk_drewN ?_ _ | refine blk_drew ?_ | refine blk_alloc ?_ _)); refine blk_put (cs := #[.int .i64 0, .int .i64 0, .string (⟨#[]⟩ : ByteArray), .float .f64 0]) ?_ 0 _ rfl; (with_reducible repeat (first | refine blk_drewN ?_ _ | refine blk_drew ?_ | refine blk_alloc ?_ _)); exact BK278.out) Tryd.underlying24 rfl (by kernel_rfl)) rfl ?_
       exact ⟨by first | rfl | (simp [errW_none, errW_some] <;> rfl) | (simp [*, errW_none, errW_some] <;> rfl), by repeat (first | (with_reducible first | exact HB.out | apply below_alloc | apply pw_below_drewN | apply below_drew1 | refine below_set ?_ GE278.out) | exact HB.out)⟩
      ·replace c19 := Bool.eq_false_iff.mpr c19
       subst c19
       have H1 : (if (a0.size : Int) > 0 then (if 0 < (a0.size : Int) then (rialtoref4_read.j2 kj14 a0 (a0.size : Int) ((bt a0 0) == 120)) else (none)) else (rialtoref4_read.j2 kj14 a0 (a0.size : Int) false)) = some (r1, r2, r3, r4) := by rw [if_neg (show ¬ (false = true) by decide)] at H; exact H
       clear H
       have H := H1
       clear H1
       have HC23 := Aside0.mk H
       clear H
       go_upto_region 9 with (fail)
       go_cut [39] (fun v39 wc => ∃ (kq : Nat) (x39_22 : Bool), v39 = .bool x39_22 ∧ Aside0 (rialtoref4_read.j2 kq a0 (a0.size : Int) x39_22 = some (r1, r2, r3, r4)) ∧ Aside0 (kq ≤ kj14) ∧ Aside0 (wc.heap[gb278]? = some (.cells #[.int .i64 0, .int .i64 0, .string (⟨#[]⟩ : ByteArray), .float .f64 0] 24 (0, 0))) ∧ Aside0 (Below w.heap.size w wc))
       case first =>
        have H := HC23.out
        clear HC23
        by_cases c24 : (a0.size : Int) > 0
        ·rw [if_pos c24] at H
         have c24b0 : decide (0 < (a0.size : Int)) = true := decide_eq_true c24
         have c24b1 : decide (0 < a0.size) = true := decide_eq_true (by omega)
         clear c24
         (first | rw [c24b0] | (simp only [i64_w, i32_w]; rw [c24b0]) | skip)
         by_cases c25 : 0 < (a0.size : Int)
         ·rw [if_pos c25] at H
          have c25b0 : decide (0 < (a0.size : Int)) = true := decide_eq_true c25
          have c25b1 : decide (0 < a0.size) = true := decide_eq_true (by omega)
          clear c25
          have H' := Aside0.mk H
          clear H
          have p26 : 0 ≤ (0 : Int) := (by omega)
          have q26 : 0 < a0.size := (by have : (0 : Int) < (a0.size : Int) := of_decide_eq_true (by first | (with_reducible assumption) | assumption); omega)
          have hx26 : ∀ h : 0 < a0.size, ((a0[0]'h).toNat : Int) = bt a0 0 := bt_at a0 0
          clear p26
          have qi26 : (0 < (a0.size : Int)) = True := eq_true (of_decide_eq_true (by first | (with_reducible assumption) | assumption))
          replace q26 := eq_true q26
          go_wp2
          go_meet
          case rel => exact ⟨_, (((bt a0 0) == 120)), (by first | rfl | (simp; done) | (simp [*]; done)), H', ⟨by have := HJ1.out; have := HJ14.out; first | omega | exact Nat.le_refl _⟩, ⟨by (with_reducible repeat (first | refine blk_drewN ?_ _ | refine blk_drew ?_ | refine blk_alloc ?_ _)); exact BK278.out⟩, ⟨by repeat (first | (with_reducible first | exact HB.out | apply below_alloc | apply pw_below_drewN | apply below_drew1 | refine below_set ?_ GE278.out) | exact HB.out)⟩⟩
         ·rw [if_neg c25] at H
          exact absurd H (by simp)
        ·rw [if_neg c24] at H
         have c24b0 : decide (0 < (a0.size : Int)) = false := decide_eq_false c24
         have c24b1 : decide (0 < a0.size) = false := decide_eq_false (by omega)
         clear c24
         (first | rw [c24b0] | (simp only [i64_w, i32_w]; rw [c24b0]) | skip)
         have H' := Aside0.mk H
         clear H
         go_wp2
         go_meet
         case rel => exact ⟨_, (false), (by first | rfl | (simp; done) | (simp [*]; done)), H', ⟨by have := HJ1.out; have := HJ14.out; first | omega | exact Nat.le_refl _⟩, ⟨by (with_reducible repeat (first | refine blk_drewN ?_ _ | refine blk_drew ?_ | refine blk_alloc ?_ _)); exact BK278.out⟩, ⟨by repeat (first | (with_reducible first | exact HB.out | apply below_alloc | apply pw_below_drewN | apply below_drew1 | refine below_set ?_ GE278.out) | exact HB.out)⟩⟩
       case rest =>
        clear HC23
        try clear c1;try clear p1;try clear q1;try clear hx1;try clear qi1;try clear c2;try clear p2;try clear q2;try clear hx2;try clear qi2;try clear c3;try clear c4;try clear c4b0;try clear c4b1;try clear c5;try clear c6;try clear c6b0;try clear c6b1;try clear c8;try clear c12;try clear c16;try clear c16b0;try clear c16b1;try clear c17;try clear c17b0;try clear c17b1;try clear p18;try clear q18;try clear hx18;try clear qi18;try clear c19;try clear c24;try clear c24b0;try clear c24b1;try clear c25;try clear c25b0;try clear c25b1;try clear p26;try clear q26;try clear hx26;try clear qi26;try clear hcz10_0;try clear hcz10_1;try clear hcz10_2;try clear hcz10_3;try clear hcz13_0;try clear hcz13_1;try clear hcz13_2;try clear hcz13_3;try clear hcz14_0;try clear hcz14_1;try clear hcz14_2;try clear hcz14_3;try clear hcz22_0;try clear hcz22_1;try clear hcz22_2;try clear hcz22_3;try clear hcz9_0;try clear hcz9_1;try clear hcz9_2;try clear hcz9_3;try clear hfz10_0;try clear hfz10_1;try clear hfz10_2;try clear hfz10_3;try clear hfz13_0;try clear hfz13_1;try clear hfz13_2;try clear hfz13_3;try clear hfz14_0;try clear hfz14_1;try clear hfz14_2;try clear hfz14_3;try clear hfz22_0;try clear hfz22_1;try clear hfz22_2;try clear hfz22_3;try clear hfz9_0;try clear hfz9_1;try clear hfz9_2;try clear hfz9_3;try clear p1;try clear p18;try clear p2;try clear p26;try clear q1;try clear q18;try clear q26
        obtain ⟨kq, x39_22, rfl, HA, HJ22, BK278, HB⟩ := hcut
        cases kq with
        | zero => exact absurd HA.out (by simp [rialtoref4_read.j2])
        | succ kj22 =>
         have H := HA.out
         clear HA
         simp only [rialtoref4_read.j2] at H
         by_cases c27 : x39_22 = true
         ·subst c27
          have H1 : (if 1 ≤ (a0.size : Int) then ((rialtoref4_bytes.f kj22 (a0.extract 1 a0.size)).bind fun bt281 => (some (4, 0, strOfNums bt281.1, 0))) else (none)) = some (r1, r2, r3, r4) := by rw [if_pos rfl] at H; exact H
          clear H
          have H := H1
          clear H1
          by_cases c28 : 1 ≤ (a0.size : Int)
          ·rw [if_pos c28] at H
           have c28b0 := eq_true c28
           have c28b1 : decide (1 ≤ (a0.size : Int)) = true := decide_eq_true c28
           clear c28
           replace H := Option.bind_eq_some_iff.mp H
           obtain ⟨⟨t281, t282⟩, A290, H⟩ := H
           replace H : (some (4, 0, strOfNums t281, 0)) = some (r1, r2, r3, r4) := H
           have A29 := Aside0.mk A290
           clear A290
           simp only [Option.some.injEq, Prod.mk.injEq] at H
           obtain ⟨rfl, rfl, rfl, rfl⟩ := H
           go_wp2_with (first | ((with_reducible refine gate_callee (f := 55) rfl ?_); refine goesL_ (some 50) rfl rfl Tryd.func55 (by kernel_rfl) rfl #[.string (a0.extract 1 a0.size)] rfl (by (try simp only [List.map_toArray, List.map_cons, List.map_nil]); first | done | rfl | (simp only [List.length_drop, List.length_take]; rfl)) ?_; (with_reducible refine (rialtoref4_bytes.calls kj22 (a0.extract 1 a0.size) t281 t282 _ A29.out).mono ?_); rintro e w30 ⟨v283, rfl, ho0, hb⟩; refine ⟨_, rfl, ?_⟩; have n0_ := Aside0.mk (Kd.R_lower ho0 (below_size (by repeat (first | (with_reducible first | exact HB.out | apply below_alloc | apply pw_below_drewN | apply below_drew1 | refine below_set ?_ GE278.out) | exact HB.out)))); have n1_ := Aside0.mk (blk_below (g := gb278) (o := .cells #[.int .i64 0, .int .i64 0, .string (⟨#[]⟩ : ByteArray), .float .f64 0] 24 (0, 0)) (by (with_reducible repeat (first | refine blk_drewN ?_ _ | refine blk_drew ?_ | refine blk_alloc ?_ _)); exact BK278.out) hb); have n2_ := Aside0.mk (below_step (by repeat (first | (with_reducible first | exact HB.out | apply below_alloc | apply pw_below_drewN | apply below_drew1 | refine below_set ?_ GE278.out) | exact HB.out)) hb); clear BK278; clear HB; have HO284 := n0_; have BK278 := n1_; have HB := n2_; clear n0_ n1_ n2_; (try clear hb); (try clear hb2); (try clear hk); (try clear hi); (try clear ho0); have hcv31 := own_string (P := Tryd.prog) Tryd.underlying57 Tryd.underlying5 Tryd.underlying9 (Kd.own_of_R HO284.out); have hcz32_0 : w30.cell? ⟨gb278, 0, none⟩ = some (.int .i64 0) := (blk_cell BK278.out 0).trans rfl; have hcz32_1 : w30.cell? ⟨gb278, 1, none⟩ = some (.int .i64 0) := (blk_cell BK278.out 1).trans rfl; have hcz32_2 : w30.cell? ⟨gb278, 2, none⟩ = some (.string (⟨#[]⟩ : ByteArray)) := (blk_cell BK278.out 2).trans rfl; have hcz32_3 : w30.cell? ⟨gb278, 3, none⟩ = some (.float .f64 0) := (blk_cell BK278.out 3).trans rfl; have hfz32_0 := blk_frozen BK278.out 0; have hfz32_1 := blk_frozen BK278.out 1; have hfz32_2 := blk_frozen BK278.out 2; have hfz32_3 := blk_frozen BK278.out 3))
           refine bodyPost_ret (results_cell_row rfl _ _ gb278 24 #[.int .i64 4, .int .i64 0, .string (strOfNums t281), .float .f64 0] (0, 0) _ rfl (by (with_reducible repeat (first | refine blk_drewN ?_ _ | refine blk_drew ?_ | refine blk_alloc ?_ _)); refine blk_put (cs := #[.int .i64 4, .int .i64 0, .string (strOfNums t281), .float .f64 0]) ?_ 3 _ rfl; (with_reducible repeat (first | refine blk_drewN ?_ _ | refine blk_drew ?_ | refine blk_alloc ?_ _)); refine blk_put (cs := #[.int .i64 4, .int .i64 0, .string (⟨#[]⟩ : ByteArray), .float .f64 0]) ?_ 2 _ rfl; (with_reducible repeat (first | refine blk_drewN ?_ _ | refine blk_drew ?_ | refine blk_alloc ?_ _)); refine blk_put (cs := #[.int .i64 4, .int .i64 0, .string (⟨#[]⟩ : ByteArray), .float .f64 0]) ?_ 1 _ rfl; (with_reducible repeat (first | refine blk_drewN ?_ _ | refine blk_drew ?_ | refine blk_alloc ?_ _)); refine blk_put (cs := #[.int .i64 0, .int .i64 0, .string (⟨#[]⟩ : ByteArray), .float .f64 0]) ?_ 0 _ rfl; (with_reducible repeat (first | refine blk_drewN ?_ _ | refine blk_drew ?_ | refine blk_alloc ?_ _)); exact BK278.out) Tryd.underlying24 rfl (by kernel_rfl)) rfl ?_
           exact ⟨by first | rfl | (simp [errW_none, errW_some] <;> rfl) | (simp [*, errW_none, errW_some] <;> rfl), by repeat (first | (with_reducible first | exact HB.out | apply below_alloc | apply pw_below_drewN | apply below_drew1 | refine below_set ?_ GE278.out) | exact HB.out)⟩
          ·rw [if_neg c28] at H
           exact absurd H (by simp)
         ·replace c27 := Bool.eq_false_iff.mpr c27
          subst c27
          have H1 : (if (a0.size : Int) = 17 then (if 0 < (a0.size : Int) then (rialtoref4_read.j3 kj22 a0 (a0.size : Int) ((bt a0 0) == 102)) else (none)) else (rialtoref4_read.j3 kj22 a0 (a0.size : Int) false)) = some (r1, r2, r3, r4) := by rw [if_neg (show ¬ (false = true) by decide)] at H; exact H
          clear H
          have H := H1
          clear H1
          have HC33 := Aside0.mk H
          clear H
          go_upto_region 12 with (fail)
          go_cut [56] (fun v56 wc => ∃ (kq : Nat) (x56_32 : Bool), v56 = .bool x56_32 ∧ Aside0 (rialtoref4_read.j3 kq a0 (a0.size : Int) x56_32 = some (r1, r2, r3, r4)) ∧ Aside0 (kq ≤ kj22) ∧ Aside0 (wc.heap[gb278]? = some (.cells #[.int .i64 0, .int .i64 0, .string (⟨#[]⟩ : ByteArray), .float .f64 0] 24 (0, 0))) ∧ Aside0 (Below w.heap.size w wc))
          case first =>
           have H := HC33.out
           clear HC33
           by_cases c34 : (a0.size : Int) = 17
           ·rw [if_pos c34] at H
            have c34b0 : ((a0.size : Int) == 17) = true := beq_iff_eq.mpr c34
            have c34b1 : ((a0.size : Int) != 17) = false := bne_eq_false_iff_eq.mpr c34
            clear c34
            (first | rw [c34b0] | (simp only [i64_w, i32_w]; rw [c34b0]) | skip)
            by_cases c35 : 0 < (a0.size : Int)
            ·rw [if_pos c35] at H
             have c35b0 : decide (0 < (a0.size : Int)) = true := decide_eq_true c35
             have c35b1 : decide (0 < a0.size) = true := decide_eq_true (by omega)
             clear c35
             have H' := Aside0.mk H
             clear H
             have p36 : 0 ≤ (0 : Int) := (by omega)
             have q36 : 0 < a0.size := (by have : (0 : Int) < (a0.size : Int) := of_decide_eq_true (by first | (with_reducible assumption) | assumption); omega)
             have hx36 : ∀ h : 0 < a0.size, ((a0[0]'h).toNat : Int) = bt a0 0 := bt_at a0 0
             clear p36
             have qi36 : (0 < (a0.size : Int)) = True := eq_true (of_decide_eq_true (by first | (with_reducible assumption) | assumption))
             replace q36 := eq_true q36
             go_wp2
             go_meet
             case rel => exact ⟨_, (((bt a0 0) == 102)), (by first | rfl | (simp; done) | (simp [*]; done)), H', ⟨by have := HJ1.out; have := HJ14.out; have := HJ22.out; first | omega | exact Nat.le_refl _⟩, ⟨by (with_reducible repeat (first | refine blk_drewN ?_ _ | refine blk_drew ?_ | refine blk_alloc ?_ _)); exact BK278.out⟩, ⟨by repeat (first | (with_reducible first | exact HB.out | apply below_alloc | apply pw_below_drewN | apply below_drew1 | refine below_set ?_ GE278.out) | exact HB.out)⟩⟩
            ·rw [if_neg c35] at H
             exact absurd H (by simp)
           ·rw [if_neg c34] at H
            have c34b0 : ((a0.size : Int) == 17) = false := beq_eq_false_iff_ne.mpr c34
            have c34b1 : ((a0.size : Int) != 17) = true := bne_iff_ne.mpr c34
            (first | rw [c34b0] | (simp only [i64_w, i32_w]; rw [c34b0]) | skip)
            have H' := Aside0.mk H
            clear H
            go_wp2
            go_meet
            case rel => exact ⟨_, (false), (by first | rfl | (simp; done) | (simp [*]; done)), H', ⟨by have := HJ1.out; have := HJ14.out; have := HJ22.out; first | omega | exact Nat.le_refl _⟩, ⟨by (with_reducible repeat (first | refine blk_drewN ?_ _ | refine blk_drew ?_ | refine blk_alloc ?_ _)); exact BK278.out⟩, ⟨by repeat (first | (with_reducible first | exact HB.out | apply below_alloc | apply pw_below_drewN | apply below_drew1 | refine below_set ?_ GE278.out) | exact HB.out)⟩⟩
          case rest =>
           clear HC33
           try clear c1;try clear p1;try clear q1;try clear hx1;try clear qi1;try clear c2;try clear p2;try clear q2;try clear hx2;try clear qi2;try clear c3;try clear p3;try clear q3;try clear hx3;try clear hcv3;try clear qi3;try clear c4;try clear c4b0;try clear c4b1;try clear c5;try clear c6;try clear c6b0;try clear c6b1;try clear c8;try clear c12;try clear c16;try clear c16b0;try clear c16b1;try clear c17;try clear c17b0;try clear c17b1;try clear p18;try clear q18;try clear hx18;try clear qi18;try clear c19;try clear c24;try clear c24b0;try clear c24b1;try clear c25;try clear c25b0;try clear c25b1;try clear p26;try clear q26;try clear hx26;try clear qi26;try clear c27;try clear c28;try clear c28b0;try clear c28b1;try clear hcv31;try clear c34;try clear c34b0;try clear c34b1;try clear c35;try clear c35b0;try clear c35b1;try clear p36;try clear q36;try clear hx36;try clear qi36;try clear hcz10_0;try clear hcz10_1;try clear hcz10_2;try clear hcz10_3;try clear hcz13_0;try clear hcz13_1;try clear hcz13_2;try clear hcz13_3;try clear hcz14_0;try clear hcz14_1;try clear hcz14_2;try clear hcz14_3;try clear hcz22_0;try clear hcz22_1;try clear hcz22_2;try clear hcz22_3;try clear hcz32_0;try clear hcz32_1;try clear hcz32_2;try clear hcz32_3;try clear hcz9_0;try clear hcz9_1;try clear hcz9_2;try clear hcz9_3;try clear hfz10_0;try clear hfz10_1;try clear hfz10_2;try clear hfz10_3;try clear hfz13_0;try clear hfz13_1;try clear hfz13_2;try clear hfz13_3;try clear hfz14_0;try clear hfz14_1;try clear hfz14_2;try clear hfz14_3;try clear hfz22_0;try clear hfz22_1;try clear hfz22_2;try clear hfz22_3;try clear hfz32_0;try clear hfz32_1;try clear hfz32_2;try clear hfz32_3;try clear hfz9_0;try clear hfz9_1;try clear hfz9_2;try clear hfz9_3;try clear p1;try clear p18;try clear p2;try clear p26;try clear p36;try clear q1;try clear q18;try clear q2;try clear q26;try clear q36
           obtain ⟨kq, x56_32, rfl, HA, HJ32, BK278, HB⟩ := hcut
           cases kq with
           | zero => exact absurd HA.out (by simp [rialtoref4_read.j3])
           | succ kj32 =>
            have H := HA.out
            clear HA
            simp only [rialtoref4_read.j3] at H
            by_cases c37 : x56_32 = true
            ·subst c37
             have H1 : (if 1 ≤ (a0.size : Int) then ((rialtoref4_bytes.f kj32 (a0.extract 1 a0.size)).bind fun bt285 => (rialtoref4_read.l0 kj32 bt285.1 bt285.2 0 0)) else (none)) = some (r1, r2, r3, r4) := by rw [if_pos rfl] at H; exact H
             clear H
             have H := H1
             clear H1
             by_cases c38 : 1 ≤ (a0.size : Int)
             ·rw [if_pos c38] at H
              have c38b0 := eq_true c38
              have c38b1 : decide (1 ≤ (a0.size : Int)) = true := decide_eq_true c38
              clear c38
              replace H := Option.bind_eq_some_iff.mp H
              obtain ⟨⟨t285, t286⟩, A390, H⟩ := H
              replace H : (rialtoref4_read.l0 kj32 t285 t286 0 0) = some (r1, r2, r3, r4) := H
              have A39 := Aside0.mk A390
              clear A390
              have H' := Aside0.mk H
              clear H
              go_wp2_with (first | ((with_reducible refine gate_callee (f := 55) rfl ?_); refine goesL_ (some 67) rfl rfl Tryd.func55 (by kernel_rfl) rfl #[.string (a0.extract 1 a0.size)] rfl (by (try simp only [List.map_toArray, List.map_cons, List.map_nil]); first | done | rfl | (simp only [List.length_drop, List.length_take]; rfl)) ?_; (with_reducible refine (rialtoref4_bytes.calls kj32 (a0.extract 1 a0.size) t285 t286 _ A39.out).mono ?_); rintro e w40 ⟨v287, rfl, ho0, hb⟩; refine ⟨_, rfl, ?_⟩; have n0_ := Aside0.mk (Kd.R_lower ho0 (below_size (by repeat (first | (with_reducible first | exact HB.out | apply below_alloc | apply pw_below_drewN | apply below_drew1 | refine below_set ?_ GE278.out) | exact HB.out)))); have n1_ := Aside0.mk (blk_below (g := gb278) (o := .cells #[.int .i64 0, .int .i64 0, .string (⟨#[]⟩ : ByteArray), .float .f64 0] 24 (0, 0)) (by (with_reducible repeat (first | refine blk_drewN ?_ _ | refine blk_drew ?_ | refine blk_alloc ?_ _)); exact BK278.out) hb); have n2_ := Aside0.mk (below_step (by repeat (first | (with_reducible first | exact HB.out | apply below_alloc | apply pw_below_drewN | apply below_drew1 | refine below_set ?_ GE278.out) | exact HB.out)) hb); clear BK278; clear HB; have HO288 := n0_; have BK278 := n1_; have HB := n2_; clear n0_ n1_ n2_; (try clear hb); (try clear hb2); (try clear hk); (try clear hi); (try clear ho0)))
              go_loopg [9, 10] kj32 (fun kq v9 v10 w' => ∃ (x9_5 : Int) (x10_5 : Int), v9 = .int .u64 x9_5 ∧ v10 = .int .i64 x10_5 ∧ Aside0 (rialtoref4_read.l0 kq t285 t286 x9_5 x10_5 = some (r1, r2, r3, r4)) ∧ Aside0 (kq ≤ kj32) ∧ Aside0 (Kd.R (Kd.int .u8) 5 w' w.heap.size (fun _ => True) v287 t285) ∧ Aside0 (w'.heap[gb278]? = some (.cells #[.int .i64 0, .int .i64 0, .string (⟨#[]⟩ : ByteArray), .float .f64 0] 24 (0, 0))) ∧ Aside0 (Below w.heap.size w w'))
              case atStart => exact ⟨(0), (0), (by first | rfl | (simp; done) | (simp [*]; done)), (by first | rfl | (simp; done) | (simp [*]; done)), H', ⟨Nat.le_refl _⟩, ⟨by (with_reducible repeat (first | apply Kd.R_alloc | apply Kd.R_drewN | apply Kd.R_drew)); exact HO288.out⟩, ⟨by (with_reducible repeat (first | refine blk_drewN ?_ _ | refine blk_drew ?_ | refine blk_alloc ?_ _)); exact BK278.out⟩, ⟨by repeat (first | (with_reducible first | exact HB.out | apply below_alloc | apply pw_below_drewN | apply below_drew1 | refine below_set ?_ GE278.out) | exact HB.out)⟩⟩
              case round =>
               clear H'
               try clear c1;try clear p1;try clear q1;try clear hx1;try clear qi1;try clear c2;try clear p2;try clear q2;try clear hx2;try clear qi2;try clear c3;try clear p3;try clear q3;try clear hx3;try clear hcv3;try clear qi3;try clear c4;try clear c4b0;try clear c4b1;try clear c5;try clear c6;try clear c6b0;try clear c6b1;try clear c8;try clear c12;try clear c16;try clear c16b0;try clear c16b1;try clear c17;try clear c17b0;try clear c17b1;try clear p18;try clear q18;try clear hx18;try clear qi18;try clear c19;try clear c24;try clear c24b0;try clear c24b1;try clear c25;try clear c25b0;try clear c25b1;try clear p26;try clear q26;try clear hx26;try clear qi26;try clear c27;try clear c28;try clear c28b0;try clear c28b1;try clear hcv31;try clear c34;try clear c34b0;try clear c34b1;try clear c35;try clear c35b0;try clear c35b1;try clear p36;try clear q36;try clear hx36;try clear qi36;try clear c37;try clear c38;try clear c38b0;try clear c38b1;try clear hcz10_0;try clear hcz10_1;try clear hcz10_2;try clear hcz10_3;try clear hcz13_0;try clear hcz13_1;try clear hcz13_2;try clear hcz13_3;try clear hcz14_0;try clear hcz14_1;try clear hcz14_2;try clear hcz14_3;try clear hcz22_0;try clear hcz22_1;try clear hcz22_2;try clear hcz22_3;try clear hcz32_0;try clear hcz32_1;try clear hcz32_2;try clear hcz32_3;try clear hcz9_0;try clear hcz9_1;try clear hcz9_2;try clear hcz9_3;try clear hfz10_0;try clear hfz10_1;try clear hfz10_2;try clear hfz10_3;try clear hfz13_0;try clear hfz13_1;try clear hfz13_2;try clear hfz13_3;try clear hfz14_0;try clear hfz14_1;try clear hfz14_2;try clear hfz14_3;try clear hfz22_0;try clear hfz22_1;try clear hfz22_2;try clear hfz22_3;try clear hfz32_0;try clear hfz32_1;try clear hfz32_2;try clear hfz32_3;try clear hfz9_0;try clear hfz9_1;try clear hfz9_2;try clear hfz9_3;try clear p1;try clear p18;try clear p2;try clear p26;try clear p3;try clear p36;try clear q1;try clear q18;try clear q2;try clear q26;try clear q3;try clear q36
               obtain ⟨x9_5, x10_5, rfl, rfl, HA, HK5, HO_7, BK278, HB⟩ := hrel
               cases gk with
               | zero => exact absurd HA.out (by simp [rialtoref4_read.l0])
               | succ k5 =>
                have H := HA.out
                clear HA
                simp only [rialtoref4_read.l0] at H
                by_cases c41 : t286 = true
                ·subst c41
                 have H1 : (if x10_5 < 8 then (if 0 ≤ x10_5 then (if x10_5 < (t285.length : Int) then (rialtoref4_read.l0 k5 t285 true (Go.bits .or .u64 (IntKind.u64.wrap (x9_5 * 256)) (IntKind.u64.wrap (rd t285 x10_5))) (wrap64 (x10_5 + 1))) else (none)) else (none)) else (some (5, 0, (⟨#[]⟩ : ByteArray), (x9_5 : Int).toNat))) = some (r1, r2, r3, r4) := by rw [if_pos rfl] at H; exact H
                 clear H
                 have H := H1
                 clear H1
                 by_cases c42 : x10_5 < 8
                 ·rw [if_pos c42] at H
                  have c42b0 : decide (x10_5 < 8) = true := decide_eq_true c42
                  clear c42
                  by_cases c43 : 0 ≤ x10_5
                  ·rw [if_pos c43] at H
                   have c43b0 : decide (0 ≤ x10_5) = true := decide_eq_true c43
                   clear c43
                   by_cases c44 : x10_5 < (t285.length : Int)
                   ·rw [if_pos c44] at H
                    have c44b0 : decide (x10_5 < (t285.length : Int)) = true := decide_eq_true c44
                    clear c44
                    have H' := Aside0.mk H
                    clear H
                    obtain ⟨Ao45, co45, eo45⟩ := Kd.R_slice HO_7.out
                    subst eo45
                    have p289 : 0 ≤ (x10_5 : Int) := of_decide_eq_true (by first | (with_reducible assumption) | assumption)
                    have q289 : x10_5 < (t285.length : Int) := of_decide_eq_true (by first | (with_reducible assumption) | assumption)
                    obtain ⟨ad289, e289, hx289_0⟩ := Kd.at_int (Kd.R_reads' HO_7.out).2.2 x10_5 p289 q289
                    cases e289
                    replace p289 := eq_true p289
                    replace q289 := eq_true q289
                    go_wp2
                    go_roundg k5
                    case measure => have := HJ1.out; have := HJ14.out; have := HJ22.out; have := HJ32.out; have := HK5.out; omega
                    case rel => exact ⟨(Go.bits .or .u64 (IntKind.u64.wrap (x9_5 * 256)) (IntKind.u64.wrap (rd t285 x10_5))), (wrap64 (x10_5 + 1)), (by first | rfl | (simp; done) | (simp [*]; done)), (by first | rfl | (simp; done) | (simp [*]; done)), H', ⟨by have := HJ1.out; have := HJ14.out; have := HJ22.out; have := HJ32.out; have := HK5.out; omega⟩, ⟨by (with_reducible repeat (first | apply Kd.R_alloc | apply Kd.R_drewN | apply Kd.R_drew)); exact HO_7.out⟩, ⟨by (with_reducible repeat (first | refine blk_drewN ?_ _ | refine blk_drew ?_ | refine blk_alloc ?_ _)); exact BK278.out⟩, ⟨by repeat (first | (with_reducible first | exact HB.out | apply below_alloc | apply pw_below_drewN | apply below_drew1 | refine below_set ?_ GE278.out) | exact HB.out)⟩⟩
                   ·rw [if_neg c44] at H
                    exact absurd H (by simp)
                  ·rw [if_neg c43] at H
                   exact absurd H (by simp)
                 ·rw [if_neg c42] at H
                  have c42b0 : decide (x10_5 < 8) = false := decide_eq_false c42
                  clear c42
                  simp only [Option.some.injEq, Prod.mk.injEq] at H
                  obtain ⟨rfl, rfl, rfl, rfl⟩ := H
                  have hcz46_0 : wr.cell? ⟨gb278, 0, none⟩ = some (.int .i64 0) := (blk_cell BK278.out 0).trans rfl
                  have hcz46_1 : wr.cell? ⟨gb278, 1, none⟩ = some (.int .i64 0) := (blk_cell BK278.out 1).trans rfl
                  have hcz46_2 : wr.cell? ⟨gb278, 2, none⟩ = some (.string (⟨#[]⟩ : ByteArray)) := (blk_cell BK278.out 2).trans rfl
                  have hcz46_3 : wr.cell? ⟨gb278, 3, none⟩ = some (.float .f64 0) := (blk_cell BK278.out 3).trans rfl
                  have hfz46_0 := blk_frozen BK278.out 0
                  have hfz46_1 := blk_frozen BK278.out 1
                  have hfz46_2 := blk_frozen BK278.out 2
                  have hfz46_3 := blk_frozen BK278.out 3
                  go_wp2
                  refine bodyPost_ret (results_cell_row rfl _ _ gb278 24 #[.int .i64 5, .int .i64 0, .string (⟨#[]⟩ : ByteArray), .float .f64 ((x9_5 : Int).toNat)] (0, 0) _ rfl (by (with_reducible repeat (first | refine blk_drewN ?_ _ | refine blk_drew ?_ | refine blk_alloc ?_ _)); refine blk_put (cs := #[.int .i64 5, .int .i64 0, .string (⟨#[]⟩ : ByteArray), .float .f64 0]) ?_ 3 _ rfl; (with_reducible repeat (first | refine blk_drewN ?_ _ | refine blk_drew ?_ | refine blk_alloc ?_ _)); refine blk_put (cs := #[.int .i64 5, .int .i64 0, .string (⟨#[]⟩ : ByteArray), .float .f64 0]) ?_ 2 _ rfl; (with_reducible repeat (first | refine blk_drewN ?_ _ | refine blk_drew ?_ | refine blk_alloc ?_ _)); refine blk_put (cs := #[.int .i64 5, .int .i64 0, .string (⟨#[]⟩ : ByteArray), .float .f64 0]) ?_ 1 _ rfl; (with_reducible repeat (first | refine blk_drewN ?_ _ | refine blk_drew ?_ | refine blk_alloc ?_ _)); refine blk_put (cs := #[.int .i64 0, .int .i64 0, .string (⟨#[]⟩ : ByteArray), .float .f64 0]) ?_ 0 _ rfl; (with_reducible repeat (first | refine blk_drewN ?_ _ | refine blk_drew ?_ | refine blk_alloc ?_ _)); exact BK278.out) Tryd.underlying24 rfl (by kernel_rfl)) rfl ?_
                  exact ⟨by first | rfl | (simp [errW_none, errW_some] <;> rfl) | (simp [*, errW_none, errW_some] <;> rfl), by repeat (first | (with_reducible first | exact HB.out | apply below_alloc | apply pw_below_drewN | apply below_drew1 | refine below_set ?_ GE278.out) | exact HB.out)⟩
                ·replace c41 := Bool.eq_false_iff.mpr c41
                 subst c41
                 have H1 : (some (5, 0, (⟨#[]⟩ : ByteArray), (x9_5 : Int).toNat)) = some (r1, r2, r3, r4) := by rw [if_neg (show ¬ (false = true) by decide)] at H; exact H
                 clear H
                 have H := H1
                 clear H1
                 simp only [Option.some.injEq, Prod.mk.injEq] at H
                 obtain ⟨rfl, rfl, rfl, rfl⟩ := H
                 have hcz47_0 : wr.cell? ⟨gb278, 0, none⟩ = some (.int .i64 0) := (blk_cell BK278.out 0).trans rfl
                 have hcz47_1 : wr.cell? ⟨gb278, 1, none⟩ = some (.int .i64 0) := (blk_cell BK278.out 1).trans rfl
                 have hcz47_2 : wr.cell? ⟨gb278, 2, none⟩ = some (.string (⟨#[]⟩ : ByteArray)) := (blk_cell BK278.out 2).trans rfl
                 have hcz47_3 : wr.cell? ⟨gb278, 3, none⟩ = some (.float .f64 0) := (blk_cell BK278.out 3).trans rfl
                 have hfz47_0 := blk_frozen BK278.out 0
                 have hfz47_1 := blk_frozen BK278.out 1
                 have hfz47_2 := blk_frozen BK278.out 2
                 have hfz47_3 := blk_frozen BK278.out 3
                 go_wp2
                 refine bodyPost_ret (results_cell_row rfl _ _ gb278 24 #[.int .i64 5, .int .i64 0, .string (⟨#[]⟩ : ByteArray), .float .f64 ((x9_5 : Int).toNat)] (0, 0) _ rfl (by (with_reducible repeat (first | refine blk_drewN ?_ _ | refine blk_drew ?_ | refine blk_alloc ?_ _)); refine blk_put (cs := #[.int .i64 5, .int .i64 0, .string (⟨#[]⟩ : ByteArray), .float .f64 0]) ?_ 3 _ rfl; (with_reducible repeat (first | refine blk_drewN ?_ _ | refine blk_drew ?_ | refine blk_alloc ?_ _)); refine blk_put (cs := #[.int .i64 5, .int .i64 0, .string (⟨#[]⟩ : ByteArray), .float .f64 0]) ?_ 2 _ rfl; (with_reducible repeat (first | refine blk_drewN ?_ _ | refine blk_drew ?_ | refine blk_alloc ?_ _)); refine blk_put (cs := #[.int .i64 5, .int .i64 0, .string (⟨#[]⟩ : ByteArray), .float .f64 0]) ?_ 1 _ rfl; (with_reducible repeat (first | refine blk_drewN ?_ _ | refine blk_drew ?_ | refine blk_alloc ?_ _)); refine blk_put (cs := #[.int .i64 0, .int .i64 0, .string (⟨#[]⟩ : ByteArray), .float .f64 0]) ?_ 0 _ rfl; (with_reducible repeat (first | refine blk_drewN ?_ _ | refine blk_drew ?_ | refine blk_alloc ?_ _)); exact BK278.out) Tryd.underlying24 rfl (by kernel_rfl)) rfl ?_
                 exact ⟨by first | rfl | (simp [errW_none, errW_some] <;> rfl) | (simp [*, errW_none, errW_some] <;> rfl), by repeat (first | (with_reducible first | exact HB.out | apply below_alloc | apply pw_below_drewN | apply below_drew1 | refine below_set ?_ GE278.out) | exact HB.out)⟩
             ·rw [if_neg c38] at H
              exact absurd H (by simp)
            ·replace c37 := Bool.eq_false_iff.mpr c37
             subst c37
             have H1 : (if (a0.size : Int) > 0 then (if 0 < (a0.size : Int) then (rialtoref4_read.j5 kj32 a0 (a0.size : Int) 0 ((bt a0 0) == 45)) else (none)) else (rialtoref4_read.j5 kj32 a0 (a0.size : Int) 0 false)) = some (r1, r2, r3, r4) := by rw [if_neg (show ¬ (false = true) by decide)] at H; exact H
             clear H
             have H := H1
             clear H1
             have HC48 := Aside0.mk H
             clear H
             go_upto_region 21 with (fail)
             go_cut [12] (fun v12 wc => ∃ (kq : Nat) (x12_47 : Bool), v12 = .bool x12_47 ∧ Aside0 (rialtoref4_read.j5 kq a0 (a0.size : Int) 0 x12_47 = some (r1, r2, r3, r4)) ∧ Aside0 (kq ≤ kj32) ∧ Aside0 (wc.heap[gb278]? = some (.cells #[.int .i64 0, .int .i64 0, .string (⟨#[]⟩ : ByteArray), .float .f64 0] 24 (0, 0))) ∧ Aside0 (Below w.heap.size w wc))
             case first =>
              have H := HC48.out
              clear HC48
              by_cases c49 : (a0.size : Int) > 0
              ·rw [if_pos c49] at H
               have c49b0 : decide (0 < (a0.size : Int)) = true := decide_eq_true c49
               have c49b1 : decide (0 < a0.size) = true := decide_eq_true (by omega)
               clear c49
               (first | rw [c49b0] | (simp only [i64_w, i32_w]; rw [c49b0]) | skip)
               by_cases c50 : 0 < (a0.size : Int)
               ·rw [if_pos c50] at H
                have c50b0 : decide (0 < (a0.size : Int)) = true := decide_eq_true c50
                have c50b1 : decide (0 < a0.size) = true := decide_eq_true (by omega)
                clear c50
                have H' := Aside0.mk H
                clear H
                have p51 : 0 ≤ (0 : Int) := (by omega)
                have q51 : 0 < a0.size := (by have : (0 : Int) < (a0.size : Int) := of_decide_eq_true (by first | (with_reducible assumption) | assumption); omega)
                have hx51 : ∀ h : 0 < a0.size, ((a0[0]'h).toNat : Int) = bt a0 0 := bt_at a0 0
                clear p51
                have qi51 : (0 < (a0.size : Int)) = True := eq_true (of_decide_eq_true (by first | (with_reducible assumption) | assumption))
                replace q51 := eq_true q51
                go_wp2
                go_meet
                case rel => exact ⟨_, (((bt a0 0) == 45)), (by first | rfl | (simp; done) | (simp [*]; done)), H', ⟨by have := HJ1.out; have := HJ14.out; have := HJ22.out; have := HJ32.out; first | omega | exact Nat.le_refl _⟩, ⟨by (with_reducible repeat (first | refine blk_drewN ?_ _ | refine blk_drew ?_ | refine blk_alloc ?_ _)); exact BK278.out⟩, ⟨by repeat (first | (with_reducible first | exact HB.out | apply below_alloc | apply pw_below_drewN | apply below_drew1 | refine below_set ?_ GE278.out) | exact HB.out)⟩⟩
               ·rw [if_neg c50] at H
                exact absurd H (by simp)
              ·rw [if_neg c49] at H
               have c49b0 : decide (0 < (a0.size : Int)) = false := decide_eq_false c49
               have c49b1 : decide (0 < a0.size) = false := decide_eq_false (by omega)
               clear c49
               (first | rw [c49b0] | (simp only [i64_w, i32_w]; rw [c49b0]) | skip)
               have H' := Aside0.mk H
               clear H
               go_wp2
               go_meet
               case rel => exact ⟨_, (false), (by first | rfl | (simp; done) | (simp [*]; done)), H', ⟨by have := HJ1.out; have := HJ14.out; have := HJ22.out; have := HJ32.out; first | omega | exact Nat.le_refl _⟩, ⟨by (with_reducible repeat (first | refine blk_drewN ?_ _ | refine blk_drew ?_ | refine blk_alloc ?_ _)); exact BK278.out⟩, ⟨by repeat (first | (with_reducible first | exact HB.out | apply below_alloc | apply pw_below_drewN | apply below_drew1 | refine below_set ?_ GE278.out) | exact HB.out)⟩⟩
             case rest =>
              clear HC48
              try clear c1;try clear p1;try clear q1;try clear hx1;try clear qi1;try clear c2;try clear p2;try clear q2;try clear hx2;try clear qi2;try clear c3;try clear p3;try clear q3;try clear hx3;try clear hcv3;try clear qi3;try clear c4;try clear c4b0;try clear c4b1;try clear c5;try clear p5;try clear q5;try clear hx5;try clear qi5;try clear c6;try clear c6b0;try clear c6b1;try clear p6;try clear c8;try clear c12;try clear c16;try clear c16b0;try clear c16b1;try clear c17;try clear c17b0;try clear c17b1;try clear p18;try clear q18;try clear hx18;try clear qi18;try clear c19;try clear c24;try clear c24b0;try clear c24b1;try clear c25;try clear c25b0;try clear c25b1;try clear p26;try clear q26;try clear hx26;try clear qi26;try clear c27;try clear c28;try clear c28b0;try clear c28b1;try clear p28;try clear q28;try clear hx28;try clear hcv31;try clear c34;try clear c34b0;try clear c34b1;try clear c35;try clear c35b0;try clear c35b1;try clear p36;try clear q36;try clear hx36;try clear qi36;try clear c37;try clear c38;try clear c38b0;try clear c38b1;try clear c41;try clear c42;try clear c42b0;try clear c43;try clear c43b0;try clear c44;try clear c44b0;try clear c49;try clear c49b0;try clear c49b1;try clear c50;try clear c50b0;try clear c50b1;try clear p51;try clear q51;try clear hx51;try clear qi51;try clear hcz10_0;try clear hcz10_1;try clear hcz10_2;try clear hcz10_3;try clear hcz13_0;try clear hcz13_1;try clear hcz13_2;try clear hcz13_3;try clear hcz14_0;try clear hcz14_1;try clear hcz14_2;try clear hcz14_3;try clear hcz22_0;try clear hcz22_1;try clear hcz22_2;try clear hcz22_3;try clear hcz32_0;try clear hcz32_1;try clear hcz32_2;try clear hcz32_3;try clear hcz46_0;try clear hcz46_1;try clear hcz46_2;try clear hcz46_3;try clear hcz47_0;try clear hcz47_1;try clear hcz47_2;try clear hcz47_3;try clear hcz9_0;try clear hcz9_1;try clear hcz9_2;try clear hcz9_3;try clear hfz10_0;try clear hfz10_1;try clear hfz10_2;try clear hfz10_3;try clear hfz13_0;try clear hfz13_1;try clear hfz13_2;try clear hfz13_3;try clear hfz14_0;try clear hfz14_1;try clear hfz14_2;try clear hfz14_3;try clear hfz22_0;try clear hfz22_1;try clear hfz22_2;try clear hfz22_3;try clear hfz32_0;try clear hfz32_1;try clear hfz32_2;try clear hfz32_3;try clear hfz46_0;try clear hfz46_1;try clear hfz46_2;try clear hfz46_3;try clear hfz47_0;try clear hfz47_1;try clear hfz47_2;try clear hfz47_3;try clear hfz9_0;try clear hfz9_1;try clear hfz9_2;try clear hfz9_3;try clear hx289_0;try clear p1;try clear p18;try clear p2;try clear p26;try clear p289;try clear p3;try clear p36;try clear p51;try clear q1;try clear q18;try clear q2;try clear q26;try clear q289;try clear q3;try clear q36;try clear q51
              obtain ⟨kq, x12_47, rfl, HA, HJ47, BK278, HB⟩ := hcut
              cases kq with
              | zero => exact absurd HA.out (by simp [rialtoref4_read.j5])
              | succ kj47 =>
               have H := HA.out
               clear HA
               simp only [rialtoref4_read.j5] at H
               have H' := Aside0.mk H
               clear H
               go_wp2
               go_loopg [11, 13] kj47 (fun kq v11 v13 w' => ∃ (x11_6 : Int) (x13_6 : Int), v11 = .int .u64 x11_6 ∧ v13 = .int .i64 x13_6 ∧ Aside0 (rialtoref4_read.l1 kq a0 (a0.size : Int) x11_6 x12_47 x13_6 = some (r1, r2, r3, r4)) ∧ Aside0 (kq ≤ kj47) ∧ Aside0 (w'.heap[gb278]? = some (.cells #[.int .i64 0, .int .i64 0, .string (⟨#[]⟩ : ByteArray), .float .f64 0] 24 (0, 0))) ∧ Aside0 (Below w.heap.size w w'))
               case atStart => exact ⟨(0), (0), (by first | rfl | (simp; done) | (simp [*]; done)), (by first | rfl | (simp; done) | (simp [*]; done)), H', ⟨Nat.le_refl _⟩, ⟨by (with_reducible repeat (first | refine blk_drewN ?_ _ | refine blk_drew ?_ | refine blk_alloc ?_ _)); exact BK278.out⟩, ⟨by repeat (first | (with_reducible first | exact HB.out | apply below_alloc | apply pw_below_drewN | apply below_drew1 | refine below_set ?_ GE278.out) | exact HB.out)⟩⟩
               case round =>
                clear H'
                try clear c1;try clear p1;try clear q1;try clear hx1;try clear qi1;try clear c2;try clear p2;try clear q2;try clear hx2;try clear qi2;try clear c3;try clear p3;try clear q3;try clear hx3;try clear hcv3;try clear qi3;try clear c4;try clear c4b0;try clear c4b1;try clear c5;try clear p5;try clear q5;try clear hx5;try clear qi5;try clear c6;try clear c6b0;try clear c6b1;try clear p6;try clear c8;try clear c12;try clear c16;try clear c16b0;try clear c16b1;try clear c17;try clear c17b0;try clear c17b1;try clear p18;try clear q18;try clear hx18;try clear qi18;try clear c19;try clear c24;try clear c24b0;try clear c24b1;try clear c25;try clear c25b0;try clear c25b1;try clear p26;try clear q26;try clear hx26;try clear qi26;try clear c27;try clear c28;try clear c28b0;try clear c28b1;try clear p28;try clear q28;try clear hx28;try clear hcv31;try clear c34;try clear c34b0;try clear c34b1;try clear c35;try clear c35b0;try clear c35b1;try clear p36;try clear q36;try clear hx36;try clear qi36;try clear c37;try clear c38;try clear c38b0;try clear c38b1;try clear c41;try clear c42;try clear c42b0;try clear c43;try clear c43b0;try clear c44;try clear c44b0;try clear c49;try clear c49b0;try clear c49b1;try clear c50;try clear c50b0;try clear c50b1;try clear p51;try clear q51;try clear hx51;try clear qi51;try clear hcz10_0;try clear hcz10_1;try clear hcz10_2;try clear hcz10_3;try clear hcz13_0;try clear hcz13_1;try clear hcz13_2;try clear hcz13_3;try clear hcz14_0;try clear hcz14_1;try clear hcz14_2;try clear hcz14_3;try clear hcz22_0;try clear hcz22_1;try clear hcz22_2;try clear hcz22_3;try clear hcz32_0;try clear hcz32_1;try clear hcz32_2;try clear hcz32_3;try clear hcz46_0;try clear hcz46_1;try clear hcz46_2;try clear hcz46_3;try clear hcz47_0;try clear hcz47_1;try clear hcz47_2;try clear hcz47_3;try clear hcz9_0;try clear hcz9_1;try clear hcz9_2;try clear hcz9_3;try clear hfz10_0;try clear hfz10_1;try clear hfz10_2;try clear hfz10_3;try clear hfz13_0;try clear hfz13_1;try clear hfz13_2;try clear hfz13_3;try clear hfz14_0;try clear hfz14_1;try clear hfz14_2;try clear hfz14_3;try clear hfz22_0;try clear hfz22_1;try clear hfz22_2;try clear hfz22_3;try clear hfz32_0;try clear hfz32_1;try clear hfz32_2;try clear hfz32_3;try clear hfz46_0;try clear hfz46_1;try clear hfz46_2;try clear hfz46_3;try clear hfz47_0;try clear hfz47_1;try clear hfz47_2;try clear hfz47_3;try clear hfz9_0;try clear hfz9_1;try clear hfz9_2;try clear hfz9_3;try clear hx289_0;try clear p1;try clear p18;try clear p2;try clear p26;try clear p28;try clear p289;try clear p3;try clear p36;try clear p5;try clear p51;try clear p6;try clear q1;try clear q18;try clear q2;try clear q26;try clear q28;try clear q289;try clear q3;try clear q36;try clear q5;try clear q51
                obtain ⟨x11_6, x13_6, rfl, rfl, HA, HK6, BK278, HB⟩ := hrel
                cases gk with
                | zero => exact absurd HA.out (by simp [rialtoref4_read.l1])
                | succ k6 =>
                 have H := HA.out
                 clear HA
                 simp only [rialtoref4_read.l1] at H
                 by_cases c52 : x13_6 < (a0.size : Int)
                 ·rw [if_pos c52] at H
                  have c52b0 : decide (x13_6 < (a0.size : Int)) = true := decide_eq_true c52
                  clear c52
                  by_cases c53 : 0 ≤ x13_6
                  ·rw [if_pos c53] at H
                   have c53b0 : decide (0 ≤ x13_6) = true := decide_eq_true c53
                   clear c53
                   by_cases c54 : x13_6 < (a0.size : Int)
                   ·rw [if_pos c54] at H
                    have c54b0 : decide (x13_6 < (a0.size : Int)) = true := decide_eq_true c54
                    clear c54
                    by_cases c56 : (bt a0 x13_6) ≥ 48
                    ·rw [if_pos c56] at H
                     have c56b0 : decide (48 ≤ (bt a0 x13_6)) = true := decide_eq_true c56
                     clear c56
                     by_cases c58 : (bt a0 x13_6) ≤ 57
                     ·rw [if_pos c58] at H
                      have c58b0 : decide ((bt a0 x13_6) ≤ 57) = true := decide_eq_true c58
                      clear c58
                      have H' := Aside0.mk H
                      clear H
                      have p55 : 0 ≤ (x13_6 : Int) := of_decide_eq_true (by first | (with_reducible assumption) | assumption)
                      have q55 : x13_6 < (a0.size : Int) := of_decide_eq_true (by first | (with_reducible assumption) | assumption)
                      have hx55 := bt_at a0 x13_6
                      replace p55 := eq_true p55
                      replace q55 := eq_true q55
                      have p57 : 0 ≤ (x13_6 : Int) := of_decide_eq_true (by first | (with_reducible assumption) | assumption)
                      have q57 : x13_6 < (a0.size : Int) := of_decide_eq_true (by first | (with_reducible assumption) | assumption)
                      have hx57 := bt_at a0 x13_6
                      replace p57 := eq_true p57
                      replace q57 := eq_true q57
                      have p59 : 0 ≤ (x13_6 : Int) := of_decide_eq_true (by first | (with_reducible assumption) | assumption)
                      have q59 : x13_6 < (a0.size : Int) := of_decide_eq_true (by first | (with_reducible assumption) | assumption)
                      have hx59 := bt_at a0 x13_6
                      replace p59 := eq_true p59
                      replace q59 := eq_true q59
                      go_wp2
                      go_roundg k6
                      case measure => have := HJ1.out; have := HJ14.out; have := HJ22.out; have := HJ32.out; have := HJ47.out; have := HK6.out; omega
                      case rel => exact ⟨(IntKind.u64.wrap ((IntKind.u64.wrap (10 * x11_6)) + (((bt a0 x13_6) - 48) % 256))), (wrap64 (x13_6 + 1)), (by first | rfl | (simp; done) | (simp [*]; done)), (by first | rfl | (simp; done) | (simp [*]; done)), H', ⟨by have := HJ1.out; have := HJ14.out; have := HJ22.out; have := HJ32.out; have := HJ47.out; have := HK6.out; omega⟩, ⟨by (with_reducible repeat (first | refine blk_drewN ?_ _ | refine blk_drew ?_ | refine blk_alloc ?_ _)); exact BK278.out⟩, ⟨by repeat (first | (with_reducible first | exact HB.out | apply below_alloc | apply pw_below_drewN | apply below_drew1 | refine below_set ?_ GE278.out) | exact HB.out)⟩⟩
                     ·rw [if_neg c58] at H
                      have c58b0 : decide ((bt a0 x13_6) ≤ 57) = false := decide_eq_false c58
                      clear c58
                      have H' := Aside0.mk H
                      clear H
                      have p55 : 0 ≤ (x13_6 : Int) := of_decide_eq_true (by first | (with_reducible assumption) | assumption)
                      have q55 : x13_6 < (a0.size : Int) := of_decide_eq_true (by first | (with_reducible assumption) | assumption)
                      have hx55 := bt_at a0 x13_6
                      replace p55 := eq_true p55
                      replace q55 := eq_true q55
                      have p57 : 0 ≤ (x13_6 : Int) := of_decide_eq_true (by first | (with_reducible assumption) | assumption)
                      have q57 : x13_6 < (a0.size : Int) := of_decide_eq_true (by first | (with_reducible assumption) | assumption)
                      have hx57 := bt_at a0 x13_6
                      replace p57 := eq_true p57
                      replace q57 := eq_true q57
                      go_wp2
                      go_roundg k6
                      case measure => have := HJ1.out; have := HJ14.out; have := HJ22.out; have := HJ32.out; have := HJ47.out; have := HK6.out; omega
                      case rel => exact ⟨(x11_6), (wrap64 (x13_6 + 1)), (by first | rfl | (simp; done) | (simp [*]; done)), (by first | rfl | (simp; done) | (simp [*]; done)), H', ⟨by have := HJ1.out; have := HJ14.out; have := HJ22.out; have := HJ32.out; have := HJ47.out; have := HK6.out; omega⟩, ⟨by (with_reducible repeat (first | refine blk_drewN ?_ _ | refine blk_drew ?_ | refine blk_alloc ?_ _)); exact BK278.out⟩, ⟨by repeat (first | (with_reducible first | exact HB.out | apply below_alloc | apply pw_below_drewN | apply below_drew1 | refine below_set ?_ GE278.out) | exact HB.out)⟩⟩
                    ·rw [if_neg c56] at H
                     have c56b0 : decide (48 ≤ (bt a0 x13_6)) = false := decide_eq_false c56
                     clear c56
                     have H' := Aside0.mk H
                     clear H
                     have p55 : 0 ≤ (x13_6 : Int) := of_decide_eq_true (by first | (with_reducible assumption) | assumption)
                     have q55 : x13_6 < (a0.size : Int) := of_decide_eq_true (by first | (with_reducible assumption) | assumption)
                     have hx55 := bt_at a0 x13_6
                     replace p55 := eq_true p55
                     replace q55 := eq_true q55
                     go_wp2
                     go_roundg k6
                     case measure => have := HJ1.out; have := HJ14.out; have := HJ22.out; have := HJ32.out; have := HJ47.out; have := HK6.out; omega
                     case rel => exact ⟨(x11_6), (wrap64 (x13_6 + 1)), (by first | rfl | (simp; done) | (simp [*]; done)), (by first | rfl | (simp; done) | (simp [*]; done)), H', ⟨by have := HJ1.out; have := HJ14.out; have := HJ22.out; have := HJ32.out; have := HJ47.out; have := HK6.out; omega⟩, ⟨by (with_reducible repeat (first | refine blk_drewN ?_ _ | refine blk_drew ?_ | refine blk_alloc ?_ _)); exact BK278.out⟩, ⟨by repeat (first | (with_reducible first | exact HB.out | apply below_alloc | apply pw_below_drewN | apply below_drew1 | refine below_set ?_ GE278.out) | exact HB.out)⟩⟩
                   ·rw [if_neg c54] at H
                    exact absurd H (by simp)
                  ·rw [if_neg c53] at H
                   exact absurd H (by simp)
                 ·rw [if_neg c52] at H
                  have c52b0 : decide (x13_6 < (a0.size : Int)) = false := decide_eq_false c52
                  clear c52
                  by_cases c60 : x12_47 = true
                  ·subst c60
                   have H1 : (some (1, wrap64 (IntKind.u64.wrap (-x11_6)), (⟨#[]⟩ : ByteArray), 0)) = some (r1, r2, r3, r4) := by rw [if_pos rfl] at H; exact H
                   clear H
                   have H := H1
                   clear H1
                   simp only [Option.some.injEq, Prod.mk.injEq] at H
                   obtain ⟨rfl, rfl, rfl, rfl⟩ := H
                   have hcz61_0 : wr.cell? ⟨gb278, 0, none⟩ = some (.int .i64 0) := (blk_cell BK278.out 0).trans rfl
                   have hcz61_1 : wr.cell? ⟨gb278, 1, none⟩ = some (.int .i64 0) := (blk_cell BK278.out 1).trans rfl
                   have hcz61_2 : wr.cell? ⟨gb278, 2, none⟩ = some (.string (⟨#[]⟩ : ByteArray)) := (blk_cell BK278.out 2).trans rfl
                   have hcz61_3 : wr.cell? ⟨gb278, 3, none⟩ = some (.float .f64 0) := (blk_cell BK278.out 3).trans rfl
                   have hfz61_0 := blk_frozen BK278.out 0
                   have hfz61_1 := blk_frozen BK278.out 1
                   have hfz61_2 := blk_frozen BK278.out 2
                   have hfz61_3 := blk_frozen BK278.out 3
                   go_wp2
                   refine bodyPost_ret (results_cell_row rfl _ _ gb278 24 #[.int .i64 1, .int .i64 (wrap64 (IntKind.u64.wrap (-x11_6))), .string (⟨#[]⟩ : ByteArray), .float .f64 0] (0, 0) _ rfl (by (with_reducible repeat (first | refine blk_drewN ?_ _ | refine blk_drew ?_ | refine blk_alloc ?_ _)); refine blk_put (cs := #[.int .i64 1, .int .i64 (wrap64 (IntKind.u64.wrap (-x11_6))), .string (⟨#[]⟩ : ByteArray), .float .f64 0]) ?_ 3 _ rfl; (with_reducible repeat (first | refine blk_drewN ?_ _ | refine blk_drew ?_ | refine blk_alloc ?_ _)); refine blk_put (cs := #[.int .i64 1, .int .i64 (wrap64 (IntKind.u64.wrap (-x11_6))), .string (⟨#[]⟩ : ByteArray), .float .f64 0]) ?_ 2 _ rfl; (with_reducible repeat (first | refine blk_drewN ?_ _ | refine blk_drew ?_ | refine blk_alloc ?_ _)); refine blk_put (cs := #[.int .i64 1, .int .i64 0, .string (⟨#[]⟩ : ByteArray), .float .f64 0]) ?_ 1 _ rfl; (with_reducible repeat (first | refine blk_drewN ?_ _ | refine blk_drew ?_ | refine blk_alloc ?_ _)); refine blk_put (cs := #[.int .i64 0, .int .i64 0, .string (⟨#[]⟩ : ByteArray), .float .f64 0]) ?_ 0 _ rfl; (with_reducible repeat (first | refine blk_drewN ?_ _ | refine blk_drew ?_ | refine blk_alloc ?_ _)); exact BK278.out) Tryd.underlying24 rfl (by kernel_rfl)) rfl ?_
                   exact ⟨by first | rfl | (simp [errW_none, errW_some] <;> rfl) | (simp [*, errW_none, errW_some] <;> rfl), by repeat (first | (with_reducible first | exact HB.out | apply below_alloc | apply pw_below_drewN | apply below_drew1 | refine below_set ?_ GE278.out) | exact HB.out)⟩
                  ·replace c60 := Bool.eq_false_iff.mpr c60
                   subst c60
                   have H1 : (some (1, wrap64 (x11_6), (⟨#[]⟩ : ByteArray), 0)) = some (r1, r2, r3, r4) := by rw [if_neg (show ¬ (false = true) by decide)] at H; exact H
                   clear H
                   have H := H1
                   clear H1
                   simp only [Option.some.injEq, Prod.mk.injEq] at H
                   obtain ⟨rfl, rfl, rfl, rfl⟩ := H
                   have hcz62_0 : wr.cell? ⟨gb278, 0, none⟩ = some (.int .i64 0) := (blk_cell BK278.out 0).trans rfl
                   have hcz62_1 : wr.cell? ⟨gb278, 1, none⟩ = some (.int .i64 0) := (blk_cell BK278.out 1).trans rfl
                   have hcz62_2 : wr.cell? ⟨gb278, 2, none⟩ = some (.string (⟨#[]⟩ : ByteArray)) := (blk_cell BK278.out 2).trans rfl
                   have hcz62_3 : wr.cell? ⟨gb278, 3, none⟩ = some (.float .f64 0) := (blk_cell BK278.out 3).trans rfl
                   have hfz62_0 := blk_frozen BK278.out 0
                   have hfz62_1 := blk_frozen BK278.out 1
                   have hfz62_2 := blk_frozen BK278.out 2
                   have hfz62_3 := blk_frozen BK278.out 3
                   go_wp2
                   refine bodyPost_ret (results_cell_row rfl _ _ gb278 24 #[.int .i64 1, .int .i64 (wrap64 (x11_6)), .string (⟨#[]⟩ : ByteArray), .float .f64 0] (0, 0) _ rfl (by (with_reducible repeat (first | refine blk_drewN ?_ _ | refine blk_drew ?_ | refine blk_alloc ?_ _)); refine blk_put (cs := #[.int .i64 1, .int .i64 (wrap64 (x11_6)), .string (⟨#[]⟩ : ByteArray), .float .f64 0]) ?_ 3 _ rfl; (with_reducible repeat (first | refine blk_drewN ?_ _ | refine blk_drew ?_ | refine blk_alloc ?_ _)); refine blk_put (cs := #[.int .i64 1, .int .i64 (wrap64 (x11_6)), .string (⟨#[]⟩ : ByteArray), .float .f64 0]) ?_ 2 _ rfl; (with_reducible repeat (first | refine blk_drewN ?_ _ | refine blk_drew ?_ | refine blk_alloc ?_ _)); refine blk_put (cs := #[.int .i64 1, .int .i64 0, .string (⟨#[]⟩ : ByteArray), .float .f64 0]) ?_ 1 _ rfl; (with_reducible repeat (first | refine blk_drewN ?_ _ | refine blk_drew ?_ | refine blk_alloc ?_ _)); refine blk_put (cs := #[.int .i64 0, .int .i64 0, .string (⟨#[]⟩ : ByteArray), .float .f64 0]) ?_ 0 _ rfl; (with_reducible repeat (first | refine blk_drewN ?_ _ | refine blk_drew ?_ | refine blk_alloc ?_ _)); exact BK278.out) Tryd.underlying24 rfl (by kernel_rfl)) rfl ?_
                   exact ⟨by first | rfl | (simp [errW_none, errW_some] <;> rfl) | (simp [*, errW_none, errW_some] <;> rfl), by repeat (first | (with_reducible first | exact HB.out | apply below_alloc | apply pw_below_drewN | apply below_drew1 | refine below_set ?_ GE278.out) | exact HB.out)⟩
end Go.Proofs.YtpjfhdbkkomogaaDoor.Px
