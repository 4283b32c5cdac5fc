/- Texts of this claim, one behind the other. -/
import Derived.Test.YtpjfhdbkkomogaaDoorH1
import Derived.Test.YtpjfhdbkkomogaaDoorH3
import Derived.Ground.MpProg
import Derived.Shelf.Pu.ToError
import Derived.Test.YtpjfhdbkkomogaaDoorProg
namespace Go.Proofs.YtpjfhdbkkomogaaDoor.Px
open Go.RowKit Go.Proofs.YtpjfhdbkkomogaaDoor.Gvn Go.Proofs.YtpjfhdbkkomogaaDoorW.PrintWords Go.Proofs.YtpjfhdbkkomogaaDoorW.PrintLast Go.Proofs.YtpjfhdbkkomogaaDoorW.PrintMore
attribute [local go_sem] run_store_float min2_int min_two
set_option linter.unusedVariables false
set_option linter.unusedSimpArgs false
def rialtoref2_Compare.f (a0_0 : Int) (a0_1 : Int) (a0_2 : ByteArray) (a0_3 : Nat) (a1_0 : Int) (a1_1 : Int) (a1_2 : ByteArray) (a1_3 : Nat) : Option (Int) := if a0_0 = a1_0 then (if a0_1 = a1_1 then (if a0_2.toList = a1_2.toList then ((rialtoref1_Compare.f a0_3 a1_3).bind fun t311 => (some t311)) else ((rialtoref2_sign.f (Op.bytesLess a0_2.toList a1_2.toList)).bind fun t312 => (some t312))) else ((rialtoref2_sign.f (decide (a0_1 < a1_1))).bind fun t313 => (some t313))) else ((rialtoref2_sign.f (decide (a0_0 < a1_0))).bind fun t314 => (some t314))
set_option maxHeartbeats 8000000 in
set_option maxRecDepth 100000 in
theorem rialtoref2_Compare.calls (a0_0 : Int) (a0_1 : Int) (a0_2 : ByteArray) (a0_3 : Nat) (a1_0 : Int) (a1_1 : Int) (a1_2 : ByteArray) (a1_3 : Nat) (r : Int) (w : World) (h : rialtoref2_Compare.f a0_0 a0_1 a0_2 a0_3 a1_0 a1_1 a1_2 a1_3 = some r) :
  Calls Tryd.prog 36 #[.agg #[.int .i64 a0_0, .int .i64 a0_1, .string a0_2, .float .f64 a0_3], .agg #[.int .i64 a1_0, .int .i64 a1_1, .string a1_2, .float .f64 a1_3]] w fun e w' => e = .returned (.int .i64 r) ∧ Below w.heap.size w w' := by
 have hu24 := Tryd.underlying24
 have HB := Aside0.mk (Below.refl w.heap.size w)
 have H : (if a0_0 = a1_0 then (if a0_1 = a1_1 then (if a0_2.toList = a1_2.toList then ((rialtoref1_Compare.f a0_3 a1_3).bind fun t311 => (some t311)) else ((rialtoref2_sign.f (Op.bytesLess a0_2.toList a1_2.toList)).bind fun t312 => (some t312))) else ((rialtoref2_sign.f (decide (a0_1 < a1_1))).bind fun t313 => (some t313))) else ((rialtoref2_sign.f (decide (a0_0 < a1_0))).bind fun t314 => (some t314))) = some r := h
 clear h
 by_cases c3 : a0_0 = a1_0
 ·rw [if_pos c3] at H
  have c3b0 : (a0_0 == a1_0) = true := beq_iff_eq.mpr c3
  have c3b1 : (a0_0 != a1_0) = false := bne_eq_false_iff_eq.mpr c3
  clear c3
  by_cases c4 : a0_1 = a1_1
  ·rw [if_pos c4] at H
   have c4b0 : (a0_1 == a1_1) = true := beq_iff_eq.mpr c4
   have c4b1 : (a0_1 != a1_1) = false := bne_eq_false_iff_eq.mpr c4
   clear c4
   by_cases c5 : a0_2.toList = a1_2.toList
   ·rw [if_pos c5] at H
    have c5b0 : (a0_2.toList == a1_2.toList) = true := beq_iff_eq.mpr c5
    have c5b1 : (a0_2.toList != a1_2.toList) = false := bne_eq_false_iff_eq.mpr c5
    clear c5
    replace H := Option.bind_eq_some_iff.mp H
    obtain ⟨t311, A60, H⟩ := H
    replace H : (some t311) = some r := H
    have A6 := Aside0.mk A60
    clear A60
    obtain rfl := Option.some.inj H
    have k23 := run23
    have k22 := run22
    go_enter Tryd.func36, Tryd.ntmps36
    go_wp2_with (first | ((with_reducible refine gate_dst (N := 2) rfl ?_); refine box_event ?hg (N := 2) ?hd (cs := #[.int .i64 a0_0, .int .i64 a0_1, .string a0_2, .float .f64 a0_3]) (t := 24) ?hr ?_; (case hd => rfl); (case hg => rfl); (case hr => first | (go_simp; done) | (go_simp; rfl)); intro gb309 hg w7 hbox hb; have n0_ := Aside0.mk (below_step (by repeat (first | (with_reducible first | exact HB.out | apply below_alloc | apply pw_below_drewN | apply below_drew1) | exact HB.out)) hb); have n1_ := Aside0.mk (hbox); have n2_ := Aside0.mk ((by rw [hg]; exact (below_size (by repeat (first | (with_reducible first | exact HB.out | apply below_alloc | apply pw_below_drewN | apply below_drew1) | exact HB.out))) : w.heap.size ≤ gb309)); have n3_ := Aside0.mk ((by rw [hg]; exact (below_size (by repeat (first | (with_reducible first | exact HB.out | apply below_alloc | apply pw_below_drewN | apply below_drew1) | exact HB.out))) : w.heap.size ≤ gb309)); clear HB; have HB := n0_; have BK309 := n1_; have GW309 := n2_; have GE309 := n3_; clear n0_ n1_ n2_ n3_; clear hb hbox hg) | ((with_reducible refine gate_dst (N := 3) rfl ?_); refine box_event ?hg (N := 3) ?hd (cs := #[.int .i64 a1_0, .int .i64 a1_1, .string a1_2, .float .f64 a1_3]) (t := 24) ?hr ?_; (case hd => rfl); (case hg => rfl); (case hr => first | (go_simp; done) | (go_simp; rfl)); intro gb310 hg w8 hbox hb; have n0_ := Aside0.mk (blk_below (g := gb309) (o := .cells #[.int .i64 a0_0, .int .i64 a0_1, .string a0_2, .float .f64 a0_3] 24 (0, 0)) (by (with_reducible repeat (first | refine blk_drewN ?_ _ | refine blk_drew ?_ | refine blk_alloc ?_ _)); exact BK309.out) hb); have n1_ := Aside0.mk (below_step (by repeat (first | (with_reducible first | exact HB.out | apply below_alloc | apply pw_below_drewN | apply below_drew1 | refine below_set ?_ GE309.out) | exact HB.out)) hb); have n2_ := Aside0.mk (hbox); have n3_ := Aside0.mk ((by rw [hg]; exact (below_size (by repeat (first | (with_reducible first | exact HB.out | apply below_alloc | apply pw_below_drewN | apply below_drew1 | refine below_set ?_ GE309.out) | exact HB.out))) : w.heap.size ≤ gb310)); have n4_ := Aside0.mk ((by rw [hg]; exact (below_size (by repeat (first | (with_reducible first | exact HB.out | apply below_alloc | apply pw_below_drewN | apply below_drew1 | refine below_set ?_ GE309.out) | exact HB.out))) : w.heap.size ≤ gb310)); have n5_ := Aside0.mk ((by rw [hg]; exact Nat.ne_of_lt (blk_lt (g := gb309) (o := .cells #[.int .i64 a0_0, .int .i64 a0_1, .string a0_2, .float .f64 a0_3] 24 (0, 0)) (by (with_reducible repeat (first | refine blk_drewN ?_ _ | refine blk_drew ?_ | refine blk_alloc ?_ _)); exact BK309.out)) : gb309 ≠ gb310)); have n6_ := Aside0.mk ((by rw [hg]; exact Nat.ne_of_gt (blk_lt (g := gb309) (o := .cells #[.int .i64 a0_0, .int .i64 a0_1, .string a0_2, .float .f64 a0_3] 24 (0, 0)) (by (with_reducible repeat (first | refine blk_drewN ?_ _ | refine blk_drew ?_ | refine blk_alloc ?_ _)); exact BK309.out)) : gb310 ≠ gb309)); clear BK309; clear HB; have BK309 := n0_; have HB := n1_; have BK310 := n2_; have GW310 := n3_; have GE310 := n4_; have NB309_310 := n5_; have NB310_309 := n6_; clear n0_ n1_ n2_ n3_ n4_ n5_ n6_; clear hb hbox hg; have hnb9 := NB309_310.out; have hnc9 := NB310_309.out; have hcz10_0 : w8.cell? ⟨gb309, 0, none⟩ = some (.int .i64 a0_0) := (blk_cell BK309.out 0).trans rfl; have hcz10_1 : w8.cell? ⟨gb309, 1, none⟩ = some (.int .i64 a0_1) := (blk_cell BK309.out 1).trans rfl; have hcz10_2 : w8.cell? ⟨gb309, 2, none⟩ = some (.string a0_2) := (blk_cell BK309.out 2).trans rfl; have hcz10_3 : w8.cell? ⟨gb309, 3, none⟩ = some (.float .f64 a0_3) := (blk_cell BK309.out 3).trans rfl; have hfz10_0 := blk_frozen BK309.out 0; have hfz10_1 := blk_frozen BK309.out 1; have hfz10_2 := blk_frozen BK309.out 2; have hfz10_3 := blk_frozen BK309.out 3; have hcz11_0 : w8.cell? ⟨gb310, 0, none⟩ = some (.int .i64 a1_0) := (blk_cell BK310.out 0).trans rfl; have hcz11_1 : w8.cell? ⟨gb310, 1, none⟩ = some (.int .i64 a1_1) := (blk_cell BK310.out 1).trans rfl; have hcz11_2 : w8.cell? ⟨gb310, 2, none⟩ = some (.string a1_2) := (blk_cell BK310.out 2).trans rfl; have hcz11_3 : w8.cell? ⟨gb310, 3, none⟩ = some (.float .f64 a1_3) := (blk_cell BK310.out 3).trans rfl; have hfz11_0 := blk_frozen BK310.out 0; have hfz11_1 := blk_frozen BK310.out 1; have hfz11_2 := blk_frozen BK310.out 2; have hfz11_3 := blk_frozen BK310.out 3) | ((with_reducible refine gate_callee (f := 58) rfl ?_); refine goesL_ (some 45) rfl rfl Tryd.func58 (by kernel_rfl) rfl #[.float .f64 a0_3, .float .f64 a1_3] rfl (by (try simp only [List.map_toArray, List.map_cons, List.map_nil]); first | done | rfl | (simp only [List.length_drop, List.length_take]; rfl)) ?_; (with_reducible refine (rialtoref1_Compare.calls a0_3 a1_3 t311 _ A6.out).mono ?_); rintro e w' ⟨rfl, ⟨nd, rfl⟩⟩; refine ⟨_, rfl, ?_⟩))
    go_ret
    exact ⟨by first | rfl | (simp [errW_none, errW_some] <;> rfl) | (simp [*, errW_none, errW_some] <;> rfl), by repeat (first | (with_reducible first | exact HB.out | apply below_alloc | apply pw_below_drewN | apply below_drew1 | refine below_set ?_ GE309.out | refine below_set ?_ GE310.out) | exact HB.out)⟩
   ·rw [if_neg c5] at H
    have c5b0 : (a0_2.toList == a1_2.toList) = false := beq_eq_false_iff_ne.mpr c5
    have c5b1 : (a0_2.toList != a1_2.toList) = true := bne_iff_ne.mpr c5
    replace H := Option.bind_eq_some_iff.mp H
    obtain ⟨t312, A120, H⟩ := H
    replace H : (some t312) = some r := H
    have A12 := Aside0.mk A120
    clear A120
    obtain rfl := Option.some.inj H
    have k23 := run23
    have k22 := run22
    go_enter Tryd.func36, Tryd.ntmps36
    go_wp2_with (first | ((with_reducible refine gate_dst (N := 2) rfl ?_); refine box_event ?hg (N := 2) ?hd (cs := #[.int .i64 a0_0, .int .i64 a0_1, .string a0_2, .float .f64 a0_3]) (t := 24) ?hr ?_; (case hd => rfl); (case hg => rfl); (case hr => first | (go_simp; done) | (go_simp; rfl)); intro gb309 hg w13 hbox hb; have n0_ := Aside0.mk (below_step (by repeat (first | (with_reducible first | exact HB.out | apply below_alloc | apply pw_below_drewN | apply below_drew1) | exact HB.out)) hb); have n1_ := Aside0.mk (hbox); have n2_ := Aside0.mk ((by rw [hg]; exact (below_size (by repeat (first | (with_reducible first | exact HB.out | apply below_alloc | apply pw_below_drewN | apply below_drew1) | exact HB.out))) : w.heap.size ≤ gb309)); have n3_ := Aside0.mk ((by rw [hg]; exact (below_size (by repeat (first | (with_reducible first | exact HB.out | apply below_alloc | apply pw_below_drewN | apply below_drew1) | exact HB.out))) : w.heap.size ≤ gb309)); clear HB; have HB := n0_; have BK309 := n1_; have GW309 := n2_; have GE309 := n3_; clear n0_ n1_ n2_ n3_; clear hb hbox hg) | ((with_reducible refine gate_dst (N := 3) rfl ?_); refine box_event ?hg (N := 3) ?hd (cs := #[.int .i64 a1_0, .int .i64 a1_1, .string a1_2, .float .f64 a1_3]) (t := 24) ?hr ?_; (case hd => rfl); (case hg => rfl); (case hr => first | (go_simp; done) | (go_simp; rfl)); intro gb310 hg w14 hbox hb; have n0_ := Aside0.mk (blk_below (g := gb309) (o := .cells #[.int .i64 a0_0, .int .i64 a0_1, .string a0_2, .float .f64 a0_3] 24 (0, 0)) (by (with_reducible repeat (first | refine blk_drewN ?_ _ | refine blk_drew ?_ | refine blk_alloc ?_ _)); exact BK309.out) hb); have n1_ := Aside0.mk (below_step (by repeat (first | (with_reducible first | exact HB.out | apply below_alloc | apply pw_below_drewN | apply below_drew1 | refine below_set ?_ GE309.out) | exact HB.out)) hb); have n2_ := Aside0.mk (hbox); have n3_ := Aside0.mk ((by rw [hg]; exact (below_size (by repeat (first | (with_reducible first | exact HB.out | apply below_alloc | apply pw_below_drewN | apply below_drew1 | refine below_set ?_ GE309.out) | exact HB.out))) : w.heap.size ≤ gb310)); have n4_ := Aside0.mk ((by rw [hg]; exact (below_size (by repeat (first | (with_reducible first | exact HB.out | apply below_alloc | apply pw_below_drewN | apply below_drew1 | refine below_set ?_ GE309.out) | exact HB.out))) : w.heap.size ≤ gb310)); have n5_ := Aside0.mk ((by rw [hg]; exact Nat.ne_of_lt (blk_lt (g := gb309) (o := .cells #[.int .i64 a0_0, .int .i64 a0_1, .string a0_2, .float .f64 a0_3] 24 (0, 0)) (by (with_reducible repeat (first | refine blk_drewN ?_ _ | refine blk_drew ?_ | refine blk_alloc ?_ _)); exact BK309.out)) : gb309 ≠ gb310)); have n6_ := Aside0.mk ((by rw [hg]; exact Nat.ne_of_gt (blk_lt (g := gb309) (o := .cells #[.int .i64 a0_0, .int .i64 a0_1, .string a0_2, .float .f64 a0_3] 24 (0, 0)) (by (with_reducible repeat (first | refine blk_drewN ?_ _ | refine blk_drew ?_ | refine blk_alloc ?_ _)); exact BK309.out)) : gb310 ≠ gb309)); clear BK309; clear HB; have BK309 := n0_; have HB := n1_; have BK310 := n2_; have GW310 := n3_; have GE310 := n4_; have NB309_310 := n5_; have NB310_309 := n6_; clear n0_ n1_ n2_ n3_ n4_ n5_ n6_; clear hb hbox hg; have hnb15 := NB309_310.out; have hnc15 := NB310_309.out; have hcz16_0 : w14.cell? ⟨gb309, 0, none⟩ = some (.int .i64 a0_0) := (blk_cell BK309.out 0).trans rfl; have hcz16_1 : w14.cell? ⟨gb309, 1, none⟩ = some (.int .i64 a0_1) := (blk_cell BK309.out 1).trans rfl; have hcz16_2 : w14.cell? ⟨gb309, 2, none⟩ = some (.string a0_2) := (blk_cell BK309.out 2).trans rfl; have hcz16_3 : w14.cell? ⟨gb309, 3, none⟩ = some (.float .f64 a0_3) := (blk_cell BK309.out 3).trans rfl; have hfz16_0 := blk_frozen BK309.out 0; have hfz16_1 := blk_frozen BK309.out 1; have hfz16_2 := blk_frozen BK309.out 2; have hfz16_3 := blk_frozen BK309.out 3; have hcz17_0 : w14.cell? ⟨gb310, 0, none⟩ = some (.int .i64 a1_0) := (blk_cell BK310.out 0).trans rfl; have hcz17_1 : w14.cell? ⟨gb310, 1, none⟩ = some (.int .i64 a1_1) := (blk_cell BK310.out 1).trans rfl; have hcz17_2 : w14.cell? ⟨gb310, 2, none⟩ = some (.string a1_2) := (blk_cell BK310.out 2).trans rfl; have hcz17_3 : w14.cell? ⟨gb310, 3, none⟩ = some (.float .f64 a1_3) := (blk_cell BK310.out 3).trans rfl; have hfz17_0 := blk_frozen BK310.out 0; have hfz17_1 := blk_frozen BK310.out 1; have hfz17_2 := blk_frozen BK310.out 2; have hfz17_3 := blk_frozen BK310.out 3) | ((with_reducible refine gate_callee (f := 57) rfl ?_); refine goesL_ (some 40) rfl rfl Tryd.func57 (by kernel_rfl) rfl #[.bool (Op.bytesLess a0_2.toList a1_2.toList)] rfl (by (try simp only [List.map_toArray, List.map_cons, List.map_nil]); first | done | rfl | (simp only [List.length_drop, List.length_take]; rfl)) ?_; (with_reducible refine (rialtoref2_sign.calls (Op.bytesLess a0_2.toList a1_2.toList) t312 _ A12.out).mono ?_); rintro e w' ⟨rfl, ⟨nd, rfl⟩⟩; refine ⟨_, rfl, ?_⟩))
    go_ret
    exact ⟨by first | rfl | (simp [errW_none, errW_some] <;> rfl) | (simp [*, errW_none, errW_some] <;> rfl), by repeat (first | (with_reducible first | exact HB.out | apply below_alloc | apply pw_below_drewN | apply below_drew1 | refine below_set ?_ GE309.out | refine below_set ?_ GE310.out) | exact HB.out)⟩
  ·rw [if_neg c4] at H
   have c4b0 : (a0_1 == a1_1) = false := beq_eq_false_iff_ne.mpr c4
   have c4b1 : (a0_1 != a1_1) = true := bne_iff_ne.mpr c4
   replace H := Option.bind_eq_some_iff.mp H
   obtain ⟨t313, A180, H⟩ := H
   replace H : (some t313) = some r := H
   have A18 := Aside0.mk A180
   clear A180
   obtain rfl := Option.some.inj H
   have k23 := run23
   have k22 := run22
   go_enter Tryd.func36, Tryd.ntmps36
   go_wp2_with (first | ((with_reducible refine gate_dst (N := 2) rfl ?_); refine box_event ?hg (N := 2) ?hd (cs := #[.int .i64 a0_0, .int .i64 a0_1, .string a0_2, .float .f64 a0_3]) (t := 24) ?hr ?_; (case hd => rfl); (case hg => rfl); (case hr => first | (go_simp; done) | (go_simp; rfl)); intro gb309 hg w19 hbox hb; have n0_ := Aside0.mk (below_step (by repeat (first | (with_reducible first | exact HB.out | apply below_alloc | apply pw_below_drewN | apply below_drew1) | exact HB.out)) hb); have n1_ := Aside0.mk (hbox); have n2_ := Aside0.mk ((by rw [hg]; exact (below_size (by repeat (first | (with_reducible first | exact HB.out | apply below_alloc | apply pw_below_drewN | apply below_drew1) | exact HB.out))) : w.heap.size ≤ gb309)); have n3_ := Aside0.mk ((by rw [hg]; exact (below_size (by repeat (first | (with_reducible first | exact HB.out | apply below_alloc | apply pw_below_drewN | apply below_drew1) | exact HB.out))) : w.heap.size ≤ gb309)); clear HB; have HB := n0_; have BK309 := n1_; have GW309 := n2_; have GE309 := n3_; clear n0_ n1_ n2_ n3_; clear hb hbox hg) | ((with_reducible refine gate_dst (N := 3) rfl ?_); refine box_event ?hg (N := 3) ?hd (cs := #[.int .i64 a1_0, .int .i64 a1_1, .string a1_2, .float .f64 a1_3]) (t := 24) ?hr ?_; (case hd => rfl); (case hg => rfl); (case hr => first | (go_simp; done) | (go_simp; rfl)); intro gb310 hg w20 hbox hb; have n0_ := Aside0.mk (blk_below (g := gb309) (o := .cells #[.int .i64 a0_0, .int .i64 a0_1, .string a0_2, .float .f64 a0_3] 24 (0, 0)) (by (with_reducible repeat (first | refine blk_drewN ?_ _ | refine blk_drew ?_ | refine blk_alloc ?_ _)); exact BK309.out) hb); have n1_ := Aside0.mk (below_step (by repeat (first | (with_reducible first | exact HB.out | apply below_alloc | apply pw_below_drewN | apply below_drew1 | refine below_set ?_ GE309.out) | exact HB.out)) hb); have n2_ := Aside0.mk (hbox); have n3_ := Aside0.mk ((by rw [hg]; exact (below_size (by repeat (first | (with_reducible first | exact HB.out | apply below_alloc | apply pw_below_drewN | apply below_drew1 | refine below_set ?_ GE309.out) | exact HB.out))) : w.heap.size ≤ gb310)); have n4_ := Aside0.mk ((by rw [hg]; exact (below_size (by repeat (first | (with_reducible first | exact HB.out | apply below_alloc | apply pw_below_drewN | apply below_drew1 | refine below_set ?_ GE309.out) | exact HB.out))) : w.heap.size ≤ gb310)); have n5_ := Aside0.mk ((by rw [hg]; exact Nat.ne_of_lt (blk_lt (g := gb309) (o := .cells #[.int .i64 a0_0, .int .i64 a0_1, .string a0_2, .float .f64 a0_3] 24 (0, 0)) (by (with_reducible repeat (first | refine blk_drewN ?_ _ | refine blk_drew ?_ | refine blk_alloc ?_ _)); exact BK309.out)) : gb309 ≠ gb310)); have n6_ := Aside0.mk ((by rw [hg]; exact Nat.ne_of_gt (blk_lt (g := gb309) (o := .cells #[.int .i64 a0_0, .int .i64 a0_1, .string a0_2, .float .f64 a0_3] 24 (0, 0)) (by (with_reducible repeat (first | refine blk_drewN ?_ _ | refine blk_drew ?_ | refine blk_alloc ?_ _)); exact BK309.out)) : gb310 ≠ gb309)); clear BK309; clear HB; have BK309 := n0_; have HB := n1_; have BK310 := n2_; have GW310 := n3_; have GE310 := n4_; have NB309_310 := n5_; have NB310_309 := n6_; clear n0_ n1_ n2_ n3_ n4_ n5_ n6_; clear hb hbox hg; have hnb21 := NB309_310.out; have hnc21 := NB310_309.out; have hcz22_0 : w20.cell? ⟨gb309, 0, none⟩ = some (.int .i64 a0_0) := (blk_cell BK309.out 0).trans rfl; have hcz22_1 : w20.cell? ⟨gb309, 1, none⟩ = some (.int .i64 a0_1) := (blk_cell BK309.out 1).trans rfl; have hcz22_2 : w20.cell? ⟨gb309, 2, none⟩ = some (.string a0_2) := (blk_cell BK309.out 2).trans rfl; have hcz22_3 : w20.cell? ⟨gb309, 3, none⟩ = some (.float .f64 a0_3) := (blk_cell BK309.out 3).trans rfl; have hfz22_0 := blk_frozen BK309.out 0; have hfz22_1 := blk_frozen BK309.out 1; have hfz22_2 := blk_frozen BK309.out 2; have hfz22_3 := blk_frozen BK309.out 3; have hcz23_0 : w20.cell? ⟨gb310, 0, none⟩ = some (.int .i64 a1_0) := (blk_cell BK310.out 0).trans rfl; have hcz23_1 : w20.cell? ⟨gb310, 1, none⟩ = some (.int .i64 a1_1) := (blk_cell BK310.out 1).trans rfl; have hcz23_2 : w20.cell? ⟨gb310, 2, none⟩ = some (.string a1_2) := (blk_cell BK310.out 2).trans rfl; have hcz23_3 : w20.cell? ⟨gb310, 3, none⟩ = some (.float .f64 a1_3) := (blk_cell BK310.out 3).trans rfl; have hfz23_0 := blk_frozen BK310.out 0; have hfz23_1 := blk_frozen BK310.out 1; have hfz23_2 := blk_frozen BK310.out 2; have hfz23_3 := blk_frozen BK310.out 3) | ((with_reducible refine gate_callee (f := 57) rfl ?_); refine goesL_ (some 28) rfl rfl Tryd.func57 (by kernel_rfl) rfl #[.bool (decide (a0_1 < a1_1))] rfl (by (try simp only [List.map_toArray, List.map_cons, List.map_nil]); first | done | rfl | (simp only [List.length_drop, List.length_take]; rfl)) ?_; (with_reducible refine (rialtoref2_sign.calls (decide (a0_1 < a1_1)) t313 _ A18.out).mono ?_); rintro e w' ⟨rfl, ⟨nd, rfl⟩⟩; refine ⟨_, rfl, ?_⟩))
   go_ret
   exact ⟨by first | rfl | (simp [errW_none, errW_some] <;> rfl) | (simp [*, errW_none, errW_some] <;> rfl), by repeat (first | (with_reducible first | exact HB.out | apply below_alloc | apply pw_below_drewN | apply below_drew1 | refine below_set ?_ GE309.out | refine below_set ?_ GE310.out) | exact HB.out)⟩
 ·rw [if_neg c3] at H
  have c3b0 : (a0_0 == a1_0) = false := beq_eq_false_iff_ne.mpr c3
  have c3b1 : (a0_0 != a1_0) = true := bne_iff_ne.mpr c3
  replace H := Option.bind_eq_some_iff.mp H
  obtain ⟨t314, A240, H⟩ := H
  replace H : (some t314) = some r := H
  have A24 := Aside0.mk A240
  clear A240
  obtain rfl := Option.some.inj H
  have k23 := run23
  have k22 := run22
  go_enter Tryd.func36, Tryd.ntmps36
  go_wp2_with (first | ((with_reducible refine gate_dst (N := 2) rfl ?_); refine box_event ?hg (N := 2) ?hd (cs := #[.int .i64 a0_0, .int .i64 a0_1, .string a0_2, .float .f64 a0_3]) (t := 24) ?hr ?_; (case hd => rfl); (case hg => rfl); (case hr => first | (go_simp; done) | (go_simp; rfl)); intro gb309 hg w25 hbox hb; have n0_ := Aside0.mk (below_step (by repeat (first | (with_reducible first | exact HB.out | apply below_alloc | apply pw_below_drewN | apply below_drew1) | exact HB.out)) hb); have n1_ := Aside0.mk (hbox); have n2_ := Aside0.mk ((by rw [hg]; exact (below_size (by repeat (first | (with_reducible first | exact HB.out | apply below_alloc | apply pw_below_drewN | apply below_drew1) | exact HB.out))) : w.heap.size ≤ gb309)); have n3_ := Aside0.mk ((by rw [hg]; exact (below_size (by repeat (first | (with_reducible first | exact HB.out | apply below_alloc | apply pw_below_drewN | apply below_drew1) | exact HB.out))) : w.heap.size ≤ gb309)); clear HB; have HB := n0_; have BK309 := n1_; have GW309 := n2_; have GE309 := n3_; clear n0_ n1_ n2_ n3_; clear hb hbox hg) | ((with_reducible refine gate_dst (N := 3) rfl ?_); refine box_event ?hg (N := 3) ?hd (cs := #[.int .i64 a1_0, .int .i64 a1_1, .string a1_2, .float .f64 a1_3]) (t := 24) ?hr ?_; (case hd => rfl); (case hg => rfl); (case hr => first | (go_simp; done) | (go_simp; rfl)); intro gb310 hg w26 hbox hb; have n0_ := Aside0.mk (blk_below (g := gb309) (o := .cells #[.int .i64 a0_0, .int .i64 a0_1, .string a0_2, .float .f64 a0_3] 24 (0, 0)) (by (with_reducible repeat (first | refine blk_drewN ?_ _ | refine blk_drew ?_ | refine blk_alloc ?_ _)); exact BK309.out) hb); have n1_ := Aside0.mk (below_step (by repeat (first | (with_reducible first | exact HB.out | apply below_alloc | apply pw_below_drewN | apply below_drew1 | refine below_set ?_ GE309.out) | exact HB.out)) hb); have n2_ := Aside0.mk (hbox); have n3_ := Aside0.mk ((by rw [hg]; exact (below_size (by repeat (first | (with_reducible first | exact HB.out | apply below_alloc | apply pw_below_drewN | apply below_drew1 | refine below_set ?_ GE309.out) | exact HB.out))) : w.heap.size ≤ gb310)); have n4_ := Aside0.mk ((by rw [hg]; exact (below_size (by repeat (first | (with_reducible first | exact HB.out | apply below_alloc | apply pw_below_drewN | apply below_drew1 | refine below_set ?_ GE309.out) | exact HB.out))) : w.heap.size ≤ gb310)); have n5_ := Aside0.mk ((by rw [hg]; exact Nat.ne_of_lt (blk_lt (g := gb309) (o := .cells #[.int .i64 a0_0, .int .i64 a0_1, .string a0_2, .float .f64 a0_3] 24 (0, 0)) (by (with_reducible repeat (first | refine blk_drewN ?_ _ | refine blk_drew ?_ | refine blk_alloc ?_ _)); exact BK309.out)) : gb309 ≠ gb310)); have n6_ := Aside0.mk ((by rw [hg]; exact Nat.ne_of_gt (blk_lt (g := gb309) (o := .cells #[.int .i64 a0_0, .int .i64 a0_1, .string a0_2, .float .f64 a0_3] 24 (0, 0)) (by (with_reducible repeat (first | refine blk_drewN ?_ _ | refine blk_drew ?_ | refine blk_alloc ?_ _)); exact BK309.out)) : gb310 ≠ gb309)); clear BK309; clear HB; have BK309 := n0_; have HB := n1_; have BK310 := n2_; have GW310 := n3_; have GE310 := n4_; have NB309_310 := n5_; have NB310_309 := n6_; clear n0_ n1_ n2_ n3_ n4_ n5_ n6_; clear hb hbox hg; have hnb27 := NB309_310.out; have hnc27 := NB310_309.out; have hcz28_0 : w26.cell? ⟨gb309, 0, none⟩ = some (.int .i64 a0_0) := (blk_cell BK309.out 0).trans rfl; have hcz28_1 : w26.cell? ⟨gb309, 1, none⟩ = some (.int .i64 a0_1) := (blk_cell BK309.out 1).trans rfl; have hcz28_2 : w26.cell? ⟨gb309, 2, none⟩ = some (.string a0_2) := (blk_cell BK309.out 2).trans rfl; have hcz28_3 : w26.cell? ⟨gb309, 3, none⟩ = some (.float .f64 a0_3) := (blk_cell BK309.out 3).trans rfl; have hfz28_0 := blk_frozen BK309.out 0; have hfz28_1 := blk_frozen BK309.out 1; have hfz28_2 := blk_frozen BK309.out 2; have hfz28_3 := blk_frozen BK309.out 3; have hcz29_0 : w26.cell? ⟨gb310, 0, none⟩ = some (.int .i64 a1_0) := (blk_cell BK310.out 0).trans rfl; have hcz29_1 : w26.cell? ⟨gb310, 1, none⟩ = some (.int .i64 a1_1) := (blk_cell BK310.out 1).trans rfl; have hcz29_2 : w26.cell? ⟨gb310, 2, none⟩ = some (.string a1_2) := (blk_cell BK310.out 2).trans rfl; have hcz29_3 : w26.cell? ⟨gb310, 3, none⟩ = some (.float .f64 a1_3) := (blk_cell BK310.out 3).trans rfl; have hfz29_0 := blk_frozen BK310.out 0; have hfz29_1 := blk_frozen BK310.out 1; have hfz29_2 := blk_frozen BK310.out 2; have hfz29_3 := blk_frozen BK310.out 3) | ((with_reducible refine gate_callee (f := 57) rfl ?_); refine goesL_ (some 16) rfl rfl Tryd.func57 (by kernel_rfl) rfl #[.bool (decide (a0_0 < a1_0))] rfl (by (try simp only [List.map_toArray, List.map_cons, List.map_nil]); first | done | rfl | (simp only [List.length_drop, List.length_take]; rfl)) ?_; (with_reducible refine (rialtoref2_sign.calls (decide (a0_0 < a1_0)) t314 _ A24.out).mono ?_); rintro e w' ⟨rfl, ⟨nd, rfl⟩⟩; refine ⟨_, rfl, ?_⟩))
  go_ret
  exact ⟨by first | rfl | (simp [errW_none, errW_some] <;> rfl) | (simp [*, errW_none, errW_some] <;> rfl), by repeat (first | (with_reducible first | exact HB.out | apply below_alloc | apply pw_below_drewN | apply below_drew1 | refine below_set ?_ GE309.out | refine below_set ?_ GE310.out) | exact HB.out)⟩
mutual
def rialtoref2_Rows.l0 : Nat → List (S24) → List (S24) → Int → Option (Int)
 | 0, _, _, _ => none
 | k + 1, x0, x1, x5 => if x5 < (x0.length : Int) then (rialtoref2_Rows.j1 k x0 x1 x5 (decide (x5 < (x1.length : Int)))) else (rialtoref2_Rows.j1 k x0 x1 x5 false)
def rialtoref2_Rows.j1 : Nat → List (S24) → List (S24) → Int → Bool → Option (Int)
 | 0, _, _, _, _ => none
 | k + 1, x0, x1, x5, x16 => if x16 = true then (if 0 ≤ x5 then (if x5 < (x0.length : Int) then (if x5 < (x1.length : Int) then ((rialtoref2_Compare.f ((rd_T24 x0 x5).f0) ((rd_T24 x0 x5).f1) ((rd_T24 x0 x5).f2) ((rd_T24 x0 x5).f3) ((rd_T24 x1 x5).f0) ((rd_T24 x1 x5).f1) ((rd_T24 x1 x5).f2) ((rd_T24 x1 x5).f3)).bind fun t320 => (if t320 = 0 then (rialtoref2_Rows.l0 k x0 x1 (wrap64 (x5 + 1))) else (some t320))) else (none)) else (none)) else (none)) else (if (x0.length : Int) = (x1.length : Int) then (some 0) else ((rialtoref2_sign.f (decide ((x0.length : Int) < (x1.length : Int)))).bind fun t321 => (some t321)))
end
def rialtoref2_Rows.f (k : Nat) (l0 : List (S24)) (l1 : List (S24)) : Option (Int) := rialtoref2_Rows.l0 k l0 l1 0
def rialtoref2_Rows.T4 : Bool × List (List Nat × List Nat) := (true, [([], []), ([], []), ([0, 1], [0, 1]), ([2], [2]), ([], []), ([], []), ([4, 5], [4, 5]), ([6], [6]), ([3, 7], [3, 7]), ([8, 8, 0, 1, 2, 3, 4, 5, 6, 7, 8], [8])])
def rialtoref2_Rows.B4 : List Nat := [0, 0, 3, 7, 0, 0, 48, 112, 255, 511]
theorem rialtoref2_Rows.tab4 : rtab .any (opsOf Tryd.f37 4) = rialtoref2_Rows.T4 := by kernel_rfl
theorem rialtoref2_Rows.bits4 : waitsOk rialtoref2_Rows.T4.2 rialtoref2_Rows.B4 = true := by kernel_rfl
set_option maxHeartbeats 8000000 in
set_option maxRecDepth 100000 in
theorem rialtoref2_Rows.calls (k : Nat) (A0 : Option Addr) (c0 : Nat) (l0 : List (S24)) (A1 : Option Addr) (c1 : Nat) (l1 : List (S24)) (r : Int) (w : World) (hr0 : Kd.C k24 w A0 l0.length l0) (hc0 : l0.length ≤ c0) (hr1 : Kd.C k24 w A1 l1.length l1) (hc1 : l1.length ≤ c1) (h : rialtoref2_Rows.f k l0 l1 = some r) :
  Calls Tryd.prog 37 #[.slice A0 l0.length c0, .slice A1 l1.length c1] w fun e w' => e = .returned (.int .i64 r) ∧ Below w.heap.size w w' := by
 have hu24 := Tryd.underlying24
 have HR0 := Aside0.mk hr0
 have HC0 := Aside0.mk hc0
 clear hr0 hc0
 have HR1 := Aside0.mk hr1
 have HC1 := Aside0.mk hc1
 clear hr1 hc1
 have HB := Aside0.mk (Below.refl w.heap.size w)
 have H : (rialtoref2_Rows.l0 k l0 l1 0) = some r := h
 clear h
 have H' := Aside0.mk H
 clear H
 have k23 := run23
 have k22 := run22
 go_enter Tryd.func37, Tryd.ntmps37
 go_wp2
 go_loopg [5] k (fun kq v5 w' => ∃ (x5_1 : Int), v5 = .int .i64 x5_1 ∧ Aside0 (rialtoref2_Rows.l0 kq l0 l1 x5_1 = some r) ∧ Aside0 (kq ≤ k) ∧ Aside0 (Below w.heap.size w w'))
 case atStart => exact ⟨(0), (by first | rfl | (simp; done) | (simp [*]; done)), H', ⟨Nat.le_refl _⟩, ⟨by repeat (first | (with_reducible first | exact HB.out | apply below_alloc | apply pw_below_drewN | apply below_drew1) | exact HB.out)⟩⟩
 case round =>
  clear H'
  try clear c1;try clear p2
  obtain ⟨x5_1, rfl, HA, HK1, HB⟩ := hrel
  cases gk with
  | zero => exact absurd HA.out (by simp [rialtoref2_Rows.l0])
  | succ k1 =>
   have H := HA.out
   clear HA
   simp only [rialtoref2_Rows.l0] at H
   have HC3 := Aside0.mk H
   clear H
   go_upto_region 2 with (fail)
   go_cut [16] (fun v16 wc => ∃ (kq : Nat) (x16_2 : Bool), v16 = .bool x16_2 ∧ Aside0 (rialtoref2_Rows.j1 kq l0 l1 x5_1 x16_2 = some r) ∧ Aside0 (kq ≤ k1) ∧ Aside0 (Below w.heap.size w wc))
   case first =>
    have H := HC3.out
    clear HC3
    by_cases c4 : x5_1 < (l0.length : Int)
    ·rw [if_pos c4] at H
     have c4b0 : decide (x5_1 < (l0.length : Int)) = true := decide_eq_true c4
     clear c4
     (first | rw [c4b0] | (simp only [i64_w, i32_w]; rw [c4b0]) | skip)
     have H' := Aside0.mk H
     clear H
     go_wp2
     go_meet
     case rel => exact ⟨_, (decide (x5_1 < (l1.length : Int))), (by first | rfl | (simp; done) | (simp [*]; done)), H', ⟨by have := HK1.out; first | omega | exact Nat.le_refl _⟩, ⟨by repeat (first | (with_reducible first | exact HB.out | apply below_alloc | apply pw_below_drewN | apply below_drew1) | exact HB.out)⟩⟩
    ·rw [if_neg c4] at H
     have c4b0 : decide (x5_1 < (l0.length : Int)) = false := decide_eq_false c4
     clear c4
     (first | rw [c4b0] | (simp only [i64_w, i32_w]; rw [c4b0]) | skip)
     have H' := Aside0.mk H
     clear H
     go_wp2
     go_meet
     case rel => exact ⟨_, (false), (by first | rfl | (simp; done) | (simp [*]; done)), H', ⟨by have := HK1.out; first | omega | exact Nat.le_refl _⟩, ⟨by repeat (first | (with_reducible first | exact HB.out | apply below_alloc | apply pw_below_drewN | apply below_drew1) | exact HB.out)⟩⟩
   case rest =>
    clear HC3
    try clear c1;try clear p2;try clear c3;try clear c4;try clear c4b0;try clear p2
    obtain ⟨kq, x16_2, rfl, HA, HJ2, HB⟩ := hcut
    cases kq with
    | zero => exact absurd HA.out (by simp [rialtoref2_Rows.j1])
    | succ kj2 =>
     have H := HA.out
     clear HA
     simp only [rialtoref2_Rows.j1] at H
     by_cases c5 : x16_2 = true
     ·subst c5
      have H1 : (if 0 ≤ x5_1 then (if x5_1 < (l0.length : Int) then (if x5_1 < (l1.length : Int) then ((rialtoref2_Compare.f ((rd_T24 l0 x5_1).f0) ((rd_T24 l0 x5_1).f1) ((rd_T24 l0 x5_1).f2) ((rd_T24 l0 x5_1).f3) ((rd_T24 l1 x5_1).f0) ((rd_T24 l1 x5_1).f1) ((rd_T24 l1 x5_1).f2) ((rd_T24 l1 x5_1).f3)).bind fun t320 => (if t320 = 0 then (rialtoref2_Rows.l0 kj2 l0 l1 (wrap64 (x5_1 + 1))) else (some t320))) else (none)) else (none)) else (none)) = some r := by rw [if_pos rfl] at H; exact H
      clear H
      have H := H1
      clear H1
      by_cases c6 : 0 ≤ x5_1
      ·rw [if_pos c6] at H
       have c6b0 : decide (0 ≤ x5_1) = true := decide_eq_true c6
       clear c6
       by_cases c7 : x5_1 < (l0.length : Int)
       ·rw [if_pos c7] at H
        have c7b0 : decide (x5_1 < (l0.length : Int)) = true := decide_eq_true c7
        clear c7
        by_cases c8 : x5_1 < (l1.length : Int)
        ·rw [if_pos c8] at H
         have c8b0 : decide (x5_1 < (l1.length : Int)) = true := decide_eq_true c8
         clear c8
         replace H := Option.bind_eq_some_iff.mp H
         obtain ⟨t320, A90, H⟩ := H
         replace H : (if t320 = 0 then (rialtoref2_Rows.l0 kj2 l0 l1 (wrap64 (x5_1 + 1))) else (some t320)) = some r := H
         have A9 := Aside0.mk A90
         clear A90
         by_cases c10 : t320 = 0
         ·rw [if_pos c10] at H
          have c10b0 : (t320 == 0) = true := beq_iff_eq.mpr c10
          have c10b1 : (t320 != 0) = false := bne_eq_false_iff_eq.mpr c10
          clear c10
          have H' := Aside0.mk H
          clear H
          try go_wp2
          have n0_ := Aside0.mk (below_drew1 HB.out)
          clear HB
          have HB := n0_
          clear n0_
          have p318 : 0 ≤ (x5_1 : Int) := of_decide_eq_true (by first | (with_reducible assumption) | assumption)
          have q318 : x5_1 < (l0.length : Int) := of_decide_eq_true (by first | (with_reducible assumption) | assumption)
          obtain ⟨ad318, e318, hx318_0, hx318_1, hx318_2, hx318_3⟩ := at_T24 HR0.out x5_1 p318 q318
          have hw318_3 := hx318_3
          have hw318_2 := hx318_2
          have hw318_1 := hx318_1
          have hw318_0 := hx318_0
          cases e318
          replace hx318_0 := (HB.out.cell (World.block_lt_of_cell? w _ hx318_0)).trans hx318_0
          replace hx318_1 := (HB.out.cell (World.block_lt_of_cell? w _ hx318_1)).trans hx318_1
          replace hx318_2 := (HB.out.cell (World.block_lt_of_cell? w _ hx318_2)).trans hx318_2
          replace hx318_3 := (HB.out.cell (World.block_lt_of_cell? w _ hx318_3)).trans hx318_3
          replace p318 := eq_true p318
          replace q318 := eq_true q318
          have p319 : 0 ≤ (x5_1 : Int) := of_decide_eq_true (by first | (with_reducible assumption) | assumption)
          have q319 : x5_1 < (l1.length : Int) := of_decide_eq_true (by first | (with_reducible assumption) | assumption)
          obtain ⟨ad319, e319, hx319_0, hx319_1, hx319_2, hx319_3⟩ := at_T24 HR1.out x5_1 p319 q319
          have hw319_3 := hx319_3
          have hw319_2 := hx319_2
          have hw319_1 := hx319_1
          have hw319_0 := hx319_0
          cases e319
          replace hx319_0 := (HB.out.cell (World.block_lt_of_cell? w _ hx319_0)).trans hx319_0
          replace hx319_1 := (HB.out.cell (World.block_lt_of_cell? w _ hx319_1)).trans hx319_1
          replace hx319_2 := (HB.out.cell (World.block_lt_of_cell? w _ hx319_2)).trans hx319_2
          replace hx319_3 := (HB.out.cell (World.block_lt_of_cell? w _ hx319_3)).trans hx319_3
          replace p319 := eq_true p319
          replace q319 := eq_true q319
          refine start_ (n := 10) (S := fun w' => w'.cell? (ad318.add ((x5_1).toNat * 4)) = some (.int .i64 ((rd_T24 l0 x5_1).f0)) ∧ w'.cell? ⟨(ad318.add ((x5_1).toNat * 4)).block, (ad318.add ((x5_1).toNat * 4)).off + 1, none⟩ = some (.int .i64 ((rd_T24 l0 x5_1).f1)) ∧ w'.cell? ⟨(ad318.add ((x5_1).toNat * 4)).block, (ad318.add ((x5_1).toNat * 4)).off + 2, none⟩ = some (.string ((rd_T24 l0 x5_1).f2)) ∧ w'.cell? ⟨(ad318.add ((x5_1).toNat * 4)).block, (ad318.add ((x5_1).toNat * 4)).off + 3, none⟩ = some (.float .f64 ((rd_T24 l0 x5_1).f3)) ∧ w'.cell? (ad319.add ((x5_1).toNat * 4)) = some (.int .i64 ((rd_T24 l1 x5_1).f0)) ∧ w'.cell? ⟨(ad319.add ((x5_1).toNat * 4)).block, (ad319.add ((x5_1).toNat * 4)).off + 1, none⟩ = some (.int .i64 ((rd_T24 l1 x5_1).f1)) ∧ w'.cell? ⟨(ad319.add ((x5_1).toNat * 4)).block, (ad319.add ((x5_1).toNat * 4)).off + 2, none⟩ = some (.string ((rd_T24 l1 x5_1).f2)) ∧ w'.cell? ⟨(ad319.add ((x5_1).toNat * 4)).block, (ad319.add ((x5_1).toNat * 4)).off + 3, none⟩ = some (.float .f64 ((rd_T24 l1 x5_1).f3))) (ds := []) #[false, false, false, false, false, false, false, false, false, false] (by kernel_rfl) rfl rfl ⟨((HB.out.cell (World.block_lt_of_cell? w _ hw318_0)).trans hw318_0), ((HB.out.cell (World.block_lt_of_cell? w _ hw318_1)).trans hw318_1), ((HB.out.cell (World.block_lt_of_cell? w _ hw318_2)).trans hw318_2), ((HB.out.cell (World.block_lt_of_cell? w _ hw318_3)).trans hw318_3), ((HB.out.cell (World.block_lt_of_cell? w _ hw319_0)).trans hw319_0), ((HB.out.cell (World.block_lt_of_cell? w _ hw319_1)).trans hw319_1), ((HB.out.cell (World.block_lt_of_cell? w _ hw319_2)).trans hw319_2), ((HB.out.cell (World.block_lt_of_cell? w _ hw319_3)).trans hw319_3)⟩ (fun hHeld => ?_); refine with_tabW rialtoref2_Rows.tab4 rialtoref2_Rows.bits4 (fun HT_ HW_ => ?_)
          generalize wc.drew = w11 at HB hx318_0 hx318_1 hx318_2 hx318_3 hx319_0 hx319_1 hx319_2 hx319_3 hHeld ⊢
          refine pure_ (i := 0) (N := some 19) (v := ?_) (a' := ?_) #[true, false, false, false, false, false, false, false, false, false] rfl rfl (any_of HT_.out (by kernel_rfl)) (fun _ _ _ h => h) (Or.inl ⟨by rfl, ?_⟩) ?_ ?_
          rotate_left
          ·intro w'
           go_simp
           with_reducible rfl
          rotate_left
          ·simp only [Act.put, List.setIfInBounds_toArray, List.set_cons_zero, List.set_cons_succ, i64_w, i32_w]
           rfl
          refine pure_ (i := 1) (N := some 20) (v := ?_) (a' := ?_) #[true, true, false, false, false, false, false, false, false, false] rfl rfl (any_of HT_.out (by kernel_rfl)) (fun _ _ _ h => h) (Or.inl ⟨by rfl, ?_⟩) ?_ ?_
          rotate_left
          ·intro w'
           go_simp
           with_reducible rfl
          rotate_left
          ·simp only [Act.put, List.setIfInBounds_toArray, List.set_cons_zero, List.set_cons_succ, i64_w, i32_w]
           rfl
          refine pure_ (i := 2) (N := some 21) (v := ?_) (a' := ?_) #[true, true, true, false, false, false, false, false, false, false] rfl rfl (any_of HT_.out (by kernel_rfl)) (fun _ _ _ h => h) (Or.inl ⟨by rfl, ?_⟩) ?_ ?_
          rotate_left
          ·intro w'
           go_simp
           with_reducible rfl
          rotate_left
          ·simp only [Act.put, List.setIfInBounds_toArray, List.set_cons_zero, List.set_cons_succ, i64_w, i32_w]
           rfl
          refine pure_ (i := 4) (N := some 23) (v := ?_) (a' := ?_) #[true, true, true, false, true, false, false, false, false, false] rfl rfl (any_of HT_.out (by kernel_rfl)) (fun _ _ _ h => h) (Or.inl ⟨by rfl, ?_⟩) ?_ ?_
          rotate_left
          ·intro w'
           go_simp
           with_reducible rfl
          rotate_left
          ·simp only [Act.put, List.setIfInBounds_toArray, List.set_cons_zero, List.set_cons_succ, i64_w, i32_w]
           rfl
          refine pure_ (i := 5) (N := some 24) (v := ?_) (a' := ?_) #[true, true, true, false, true, true, false, false, false, false] rfl rfl (any_of HT_.out (by kernel_rfl)) (fun _ _ _ h => h) (Or.inl ⟨by rfl, ?_⟩) ?_ ?_
          rotate_left
          ·intro w'
           go_simp
           with_reducible rfl
          rotate_left
          ·simp only [Act.put, List.setIfInBounds_toArray, List.set_cons_zero, List.set_cons_succ, i64_w, i32_w]
           rfl
          refine pure_ (i := 6) (N := some 25) (v := ?_) (a' := ?_) #[true, true, true, false, true, true, true, false, false, false] rfl rfl (any_of HT_.out (by kernel_rfl)) (fun _ _ _ h => h) (Or.inl ⟨by rfl, ?_⟩) ?_ ?_
          rotate_left
          ·intro w'
           go_simp
           with_reducible rfl
          rotate_left
          ·simp only [Act.put, List.setIfInBounds_toArray, List.set_cons_zero, List.set_cons_succ, i64_w, i32_w]
           rfl
          refine take_ (i := 3) (N := some 22) (v := ?_) (a' := ?_) #[true, true, true, true, true, true, true, false, false, false] rfl rfl (take_ofW HT_.out HW_.out (by kernel_rfl)) (fun _ _ _ h => h) (Or.inl ⟨by rfl, ?_⟩) hHeld ?_ ?_
          rotate_left
          ·rintro w' ⟨s0, s1, s2, s3, s4, s5, s6, s7⟩
           go_simp
           with_reducible rfl
          rotate_left
          ·simp only [Act.put, List.setIfInBounds_toArray, List.set_cons_zero, List.set_cons_succ, i64_w, i32_w]
           rfl
          refine take_ (i := 7) (N := some 26) (v := ?_) (a' := ?_) #[true, true, true, true, true, true, true, true, false, false] rfl rfl (take_ofW HT_.out HW_.out (by kernel_rfl)) (fun _ _ _ h => h) (Or.inl ⟨by rfl, ?_⟩) hHeld ?_ ?_
          rotate_left
          ·rintro w' ⟨s0, s1, s2, s3, s4, s5, s6, s7⟩
           go_simp
           with_reducible rfl
          rotate_left
          ·simp only [Act.put, List.setIfInBounds_toArray, List.set_cons_zero, List.set_cons_succ, i64_w, i32_w]
           rfl
          refine one_ (i := 8) (N := some 27) #[true, true, true, true, true, true, true, true, true, false] rfl rfl (one_of HT_.out (by kernel_rfl)) (by decide) (fun K hK => ?_)
          refine goes_ Tryd.func36 (by kernel_rfl) rfl #[.agg #[.int .i64 ((rd_T24 l0 x5_1).f0), .int .i64 ((rd_T24 l0 x5_1).f1), .string ((rd_T24 l0 x5_1).f2), .float .f64 ((rd_T24 l0 x5_1).f3)], .agg #[.int .i64 ((rd_T24 l1 x5_1).f0), .int .i64 ((rd_T24 l1 x5_1).f1), .string ((rd_T24 l1 x5_1).f2), .float .f64 ((rd_T24 l1 x5_1).f3)]] (by rfl) rfl rfl (by (try simp only [List.map_toArray, List.map_cons, List.map_nil]); first | done | rfl | (simp only [List.length_drop, List.length_take]; rfl)) ?_
          with_reducible refine (rialtoref2_Compare.calls ((rd_T24 l0 x5_1).f0) ((rd_T24 l0 x5_1).f1) ((rd_T24 l0 x5_1).f2) ((rd_T24 l0 x5_1).f3) ((rd_T24 l1 x5_1).f0) ((rd_T24 l1 x5_1).f1) ((rd_T24 l1 x5_1).f2) ((rd_T24 l1 x5_1).f3) t320 _ A9.out).mono ?_
          rintro e w12 ⟨rfl, hb⟩
          refine ⟨_, rfl, ?_⟩
          have n0_ := Aside0.mk (below_step (by repeat (first | (with_reducible first | exact HB.out | apply below_alloc | apply pw_below_drewN | apply below_drew1) | exact HB.out)) hb)
          clear HB
          have HB := n0_
          clear n0_
          (try clear hb)
          (try clear hb2)
          (try clear hk)
          (try clear hi)
          refine hK.out _ _ ⟨((HB.out.cell (World.block_lt_of_cell? w _ hw318_0)).trans hw318_0), ((HB.out.cell (World.block_lt_of_cell? w _ hw318_1)).trans hw318_1), ((HB.out.cell (World.block_lt_of_cell? w _ hw318_2)).trans hw318_2), ((HB.out.cell (World.block_lt_of_cell? w _ hw318_3)).trans hw318_3), ((HB.out.cell (World.block_lt_of_cell? w _ hw319_0)).trans hw319_0), ((HB.out.cell (World.block_lt_of_cell? w _ hw319_1)).trans hw319_1), ((HB.out.cell (World.block_lt_of_cell? w _ hw319_2)).trans hw319_2), ((HB.out.cell (World.block_lt_of_cell? w _ hw319_3)).trans hw319_3)⟩ (fun hHeld => ?_)
          clear hK K
          refine norm_ (a' := ?_) ?_ ?_
          rotate_left
          ·show Act.put _ (some 27) _ = _
           simp only [Act.put, List.setIfInBounds_toArray, List.set_cons_zero, List.set_cons_succ, i64_w, i32_w]
           rfl
          refine pure_ (i := 9) (N := some 6) (v := ?_) (a' := ?_) #[true, true, true, true, true, true, true, true, true, true] rfl rfl (any_of HT_.out (by kernel_rfl)) (fun _ _ _ h => h) (Or.inl ⟨by rfl, ?_⟩) ?_ ?_
          rotate_left
          ·intro w'
           go_simp
           with_reducible rfl
          rotate_left
          ·simp only [Act.put, List.setIfInBounds_toArray, List.set_cons_zero, List.set_cons_succ, i64_w, i32_w]
           rfl
          refine done_ (done_of HT_.out (by kernel_rfl)) ?_
          try go_wp2
          go_roundg kj2
          case measure => have := HK1.out; have := HJ2.out; omega
          case rel => exact ⟨(wrap64 (x5_1 + 1)), (by first | rfl | (simp; done) | (simp [*]; done)), H', ⟨by have := HK1.out; have := HJ2.out; omega⟩, ⟨by repeat (first | (with_reducible first | exact HB.out | apply below_alloc | apply pw_below_drewN | apply below_drew1) | exact HB.out)⟩⟩
         ·rw [if_neg c10] at H
          have c10b0 : (t320 == 0) = false := beq_eq_false_iff_ne.mpr c10
          have c10b1 : (t320 != 0) = true := bne_iff_ne.mpr c10
          obtain rfl := Option.some.inj H
          try go_wp2
          have n0_ := Aside0.mk (below_drew1 HB.out)
          clear HB
          have HB := n0_
          clear n0_
          have p318 : 0 ≤ (x5_1 : Int) := of_decide_eq_true (by first | (with_reducible assumption) | assumption)
          have q318 : x5_1 < (l0.length : Int) := of_decide_eq_true (by first | (with_reducible assumption) | assumption)
          obtain ⟨ad318, e318, hx318_0, hx318_1, hx318_2, hx318_3⟩ := at_T24 HR0.out x5_1 p318 q318
          have hw318_3 := hx318_3
          have hw318_2 := hx318_2
          have hw318_1 := hx318_1
          have hw318_0 := hx318_0
          cases e318
          replace hx318_0 := (HB.out.cell (World.block_lt_of_cell? w _ hx318_0)).trans hx318_0
          replace hx318_1 := (HB.out.cell (World.block_lt_of_cell? w _ hx318_1)).trans hx318_1
          replace hx318_2 := (HB.out.cell (World.block_lt_of_cell? w _ hx318_2)).trans hx318_2
          replace hx318_3 := (HB.out.cell (World.block_lt_of_cell? w _ hx318_3)).trans hx318_3
          replace p318 := eq_true p318
          replace q318 := eq_true q318
          have p319 : 0 ≤ (x5_1 : Int) := of_decide_eq_true (by first | (with_reducible assumption) | assumption)
          have q319 : x5_1 < (l1.length : Int) := of_decide_eq_true (by first | (with_reducible assumption) | assumption)
          obtain ⟨ad319, e319, hx319_0, hx319_1, hx319_2, hx319_3⟩ := at_T24 HR1.out x5_1 p319 q319
          have hw319_3 := hx319_3
          have hw319_2 := hx319_2
          have hw319_1 := hx319_1
          have hw319_0 := hx319_0
          cases e319
          replace hx319_0 := (HB.out.cell (World.block_lt_of_cell? w _ hx319_0)).trans hx319_0
          replace hx319_1 := (HB.out.cell (World.block_lt_of_cell? w _ hx319_1)).trans hx319_1
          replace hx319_2 := (HB.out.cell (World.block_lt_of_cell? w _ hx319_2)).trans hx319_2
          replace hx319_3 := (HB.out.cell (World.block_lt_of_cell? w _ hx319_3)).trans hx319_3
          replace p319 := eq_true p319
          replace q319 := eq_true q319
          refine start_ (n := 10) (S := fun w' => w'.cell? (ad318.add ((x5_1).toNat * 4)) = some (.int .i64 ((rd_T24 l0 x5_1).f0)) ∧ w'.cell? ⟨(ad318.add ((x5_1).toNat * 4)).block, (ad318.add ((x5_1).toNat * 4)).off + 1, none⟩ = some (.int .i64 ((rd_T24 l0 x5_1).f1)) ∧ w'.cell? ⟨(ad318.add ((x5_1).toNat * 4)).block, (ad318.add ((x5_1).toNat * 4)).off + 2, none⟩ = some (.string ((rd_T24 l0 x5_1).f2)) ∧ w'.cell? ⟨(ad318.add ((x5_1).toNat * 4)).block, (ad318.add ((x5_1).toNat * 4)).off + 3, none⟩ = some (.float .f64 ((rd_T24 l0 x5_1).f3)) ∧ w'.cell? (ad319.add ((x5_1).toNat * 4)) = some (.int .i64 ((rd_T24 l1 x5_1).f0)) ∧ w'.cell? ⟨(ad319.add ((x5_1).toNat * 4)).block, (ad319.add ((x5_1).toNat * 4)).off + 1, none⟩ = some (.int .i64 ((rd_T24 l1 x5_1).f1)) ∧ w'.cell? ⟨(ad319.add ((x5_1).toNat * 4)).block, (ad319.add ((x5_1).toNat * 4)).off + 2, none⟩ = some (.string ((rd_T24 l1 x5_1).f2)) ∧ w'.cell? ⟨(ad319.add ((x5_1).toNat * 4)).block, (ad319.add ((x5_1).toNat * 4)).off + 3, none⟩ = some (.float .f64 ((rd_T24 l1 x5_1).f3))) (ds := []) #[false, false, false, false, false, false, false, false, false, false] (by kernel_rfl) rfl rfl ⟨((HB.out.cell (World.block_lt_of_cell? w _ hw318_0)).trans hw318_0), ((HB.out.cell (World.block_lt_of_cell? w _ hw318_1)).trans hw318_1), ((HB.out.cell (World.block_lt_of_cell? w _ hw318_2)).trans hw318_2), ((HB.out.cell (World.block_lt_of_cell? w _ hw318_3)).trans hw318_3), ((HB.out.cell (World.block_lt_of_cell? w _ hw319_0)).trans hw319_0), ((HB.out.cell (World.block_lt_of_cell? w _ hw319_1)).trans hw319_1), ((HB.out.cell (World.block_lt_of_cell? w _ hw319_2)).trans hw319_2), ((HB.out.cell (World.block_lt_of_cell? w _ hw319_3)).trans hw319_3)⟩ (fun hHeld => ?_); refine with_tabW rialtoref2_Rows.tab4 rialtoref2_Rows.bits4 (fun HT_ HW_ => ?_)
          generalize wc.drew = w13 at HB hx318_0 hx318_1 hx318_2 hx318_3 hx319_0 hx319_1 hx319_2 hx319_3 hHeld ⊢
          refine pure_ (i := 0) (N := some 19) (v := ?_) (a' := ?_) #[true, false, false, false, false, false, false, false, false, false] rfl rfl (any_of HT_.out (by kernel_rfl)) (fun _ _ _ h => h) (Or.inl ⟨by rfl, ?_⟩) ?_ ?_
          rotate_left
          ·intro w'
           go_simp
           with_reducible rfl
          rotate_left
          ·simp only [Act.put, List.setIfInBounds_toArray, List.set_cons_zero, List.set_cons_succ, i64_w, i32_w]
           rfl
          refine pure_ (i := 1) (N := some 20) (v := ?_) (a' := ?_) #[true, true, false, false, false, false, false, false, false, false] rfl rfl (any_of HT_.out (by kernel_rfl)) (fun _ _ _ h => h) (Or.inl ⟨by rfl, ?_⟩) ?_ ?_
          rotate_left
          ·intro w'
           go_simp
           with_reducible rfl
          rotate_left
          ·simp only [Act.put, List.setIfInBounds_toArray, List.set_cons_zero, List.set_cons_succ, i64_w, i32_w]
           rfl
          refine pure_ (i := 2) (N := some 21) (v := ?_) (a' := ?_) #[true, true, true, false, false, false, false, false, false, false] rfl rfl (any_of HT_.out (by kernel_rfl)) (fun _ _ _ h => h) (Or.inl ⟨by rfl, ?_⟩) ?_ ?_
          rotate_left
          ·intro w'
           go_simp
           with_reducible rfl
          rotate_left
          ·simp only [Act.put, List.setIfInBounds_toArray, List.set_cons_zero, List.set_cons_succ, i64_w, i32_w]
           rfl
          refine pure_ (i := 4) (N := some 23) (v := ?_) (a' := ?_) #[true, true, true, false, true, false, false, false, false, false] rfl rfl (any_of HT_.out (by kernel_rfl)) (fun _ _ _ h => h) (Or.inl ⟨by rfl, ?_⟩) ?_ ?_
          rotate_left
          ·intro w'
           go_simp
           with_reducible rfl
          rotate_left
          ·simp only [Act.put, List.setIfInBounds_toArray, List.set_cons_zero, List.set_cons_succ, i64_w, i32_w]
           rfl
          refine pure_ (i := 5) (N := some 24) (v := ?_) (a' := ?_) #[true, true, true, false, true, true, false, false, false, false] rfl rfl (any_of HT_.out (by kernel_rfl)) (fun _ _ _ h => h) (Or.inl ⟨by rfl, ?_⟩) ?_ ?_
          rotate_left
          ·intro w'
           go_simp
           with_reducible rfl
          rotate_left
          ·simp only [Act.put, List.setIfInBounds_toArray, List.set_cons_zero, List.set_cons_succ, i64_w, i32_w]
           rfl
          refine pure_ (i := 6) (N := some 25) (v := ?_) (a' := ?_) #[true, true, true, false, true, true, true, false, false, false] rfl rfl (any_of HT_.out (by kernel_rfl)) (fun _ _ _ h => h) (Or.inl ⟨by rfl, ?_⟩) ?_ ?_
          rotate_left
          ·intro w'
           go_simp
           with_reducible rfl
          rotate_left
          ·simp only [Act.put, List.setIfInBounds_toArray, List.set_cons_zero, List.set_cons_succ, i64_w, i32_w]
           rfl
          refine take_ (i := 3) (N := some 22) (v := ?_) (a' := ?_) #[true, true, true, true, true, true, true, false, false, false] rfl rfl (take_ofW HT_.out HW_.out (by kernel_rfl)) (fun _ _ _ h => h) (Or.inl ⟨by rfl, ?_⟩) hHeld ?_ ?_
          rotate_left
          ·rintro w' ⟨s0, s1, s2, s3, s4, s5, s6, s7⟩
           go_simp
           with_reducible rfl
          rotate_left
          ·simp only [Act.put, List.setIfInBounds_toArray, List.set_cons_zero, List.set_cons_succ, i64_w, i32_w]
           rfl
          refine take_ (i := 7) (N := some 26) (v := ?_) (a' := ?_) #[true, true, true, true, true, true, true, true, false, false] rfl rfl (take_ofW HT_.out HW_.out (by kernel_rfl)) (fun _ _ _ h => h) (Or.inl ⟨by rfl, ?_⟩) hHeld ?_ ?_
          rotate_left
          ·rintro w' ⟨s0, s1, s2, s3, s4, s5, s6, s7⟩
           go_simp
           with_reducible rfl
          rotate_left
          ·simp only [Act.put, List.setIfInBounds_toArray, List.set_cons_zero, List.set_cons_succ, i64_w, i32_w]
           rfl
          refine one_ (i := 8) (N := some 27) #[true, true, true, true, true, true, true, true, true, false] rfl rfl (one_of HT_.out (by kernel_rfl)) (by decide) (fun K hK => ?_)
          refine goes_ Tryd.func36 (by kernel_rfl) rfl #[.agg #[.int .i64 ((rd_T24 l0 x5_1).f0), .int .i64 ((rd_T24 l0 x5_1).f1), .string ((rd_T24 l0 x5_1).f2), .float .f64 ((rd_T24 l0 x5_1).f3)], .agg #[.int .i64 ((rd_T24 l1 x5_1).f0), .int .i64 ((rd_T24 l1 x5_1).f1), .string ((rd_T24 l1 x5_1).f2), .float .f64 ((rd_T24 l1 x5_1).f3)]] (by rfl) rfl rfl (by (try simp only [List.map_toArray, List.map_cons, List.map_nil]); first | done | rfl | (simp only [List.length_drop, List.length_take]; rfl)) ?_
          with_reducible refine (rialtoref2_Compare.calls ((rd_T24 l0 x5_1).f0) ((rd_T24 l0 x5_1).f1) ((rd_T24 l0 x5_1).f2) ((rd_T24 l0 x5_1).f3) ((rd_T24 l1 x5_1).f0) ((rd_T24 l1 x5_1).f1) ((rd_T24 l1 x5_1).f2) ((rd_T24 l1 x5_1).f3) t320 _ A9.out).mono ?_
          rintro e w14 ⟨rfl, hb⟩
          refine ⟨_, rfl, ?_⟩
          have n0_ := Aside0.mk (below_step (by repeat (first | (with_reducible first | exact HB.out | apply below_alloc | apply pw_below_drewN | apply below_drew1) | exact HB.out)) hb)
          clear HB
          have HB := n0_
          clear n0_
          (try clear hb)
          (try clear hb2)
          (try clear hk)
          (try clear hi)
          refine hK.out _ _ ⟨((HB.out.cell (World.block_lt_of_cell? w _ hw318_0)).trans hw318_0), ((HB.out.cell (World.block_lt_of_cell? w _ hw318_1)).trans hw318_1), ((HB.out.cell (World.block_lt_of_cell? w _ hw318_2)).trans hw318_2), ((HB.out.cell (World.block_lt_of_cell? w _ hw318_3)).trans hw318_3), ((HB.out.cell (World.block_lt_of_cell? w _ hw319_0)).trans hw319_0), ((HB.out.cell (World.block_lt_of_cell? w _ hw319_1)).trans hw319_1), ((HB.out.cell (World.block_lt_of_cell? w _ hw319_2)).trans hw319_2), ((HB.out.cell (World.block_lt_of_cell? w _ hw319_3)).trans hw319_3)⟩ (fun hHeld => ?_)
          clear hK K
          refine norm_ (a' := ?_) ?_ ?_
          rotate_left
          ·show Act.put _ (some 27) _ = _
           simp only [Act.put, List.setIfInBounds_toArray, List.set_cons_zero, List.set_cons_succ, i64_w, i32_w]
           rfl
          refine pure_ (i := 9) (N := some 6) (v := ?_) (a' := ?_) #[true, true, true, true, true, true, true, true, true, true] rfl rfl (any_of HT_.out (by kernel_rfl)) (fun _ _ _ h => h) (Or.inl ⟨by rfl, ?_⟩) ?_ ?_
          rotate_left
          ·intro w'
           go_simp
           with_reducible rfl
          rotate_left
          ·simp only [Act.put, List.setIfInBounds_toArray, List.set_cons_zero, List.set_cons_succ, i64_w, i32_w]
           rfl
          refine done_ (done_of HT_.out (by kernel_rfl)) ?_
          try go_wp2
          go_ret
          exact ⟨by first | rfl | (simp [errW_none, errW_some] <;> rfl) | (simp [*, errW_none, errW_some] <;> rfl), by repeat (first | (with_reducible first | exact HB.out | apply below_alloc | apply pw_below_drewN | apply below_drew1) | exact HB.out)⟩
        ·rw [if_neg c8] at H
         exact absurd H (by simp)
       ·rw [if_neg c7] at H
        exact absurd H (by simp)
      ·rw [if_neg c6] at H
       exact absurd H (by simp)
     ·replace c5 := Bool.eq_false_iff.mpr c5
      subst c5
      have H1 : (if (l0.length : Int) = (l1.length : Int) then (some 0) else ((rialtoref2_sign.f (decide ((l0.length : Int) < (l1.length : Int)))).bind fun t321 => (some t321))) = some r := by rw [if_neg (show ¬ (false = true) by decide)] at H; exact H
      clear H
      have H := H1
      clear H1
      by_cases c15 : (l0.length : Int) = (l1.length : Int)
      ·rw [if_pos c15] at H
       have c15b0 : ((l0.length : Int) == (l1.length : Int)) = true := beq_iff_eq.mpr c15
       have c15b1 : ((l0.length : Int) != (l1.length : Int)) = false := bne_eq_false_iff_eq.mpr c15
       have c15b2 : (l0.length == l1.length) = true := by first | simpa using c15 | (simp at c15 ⊢; omega)
       clear c15
       obtain rfl := Option.some.inj H
       go_wp2
       go_ret
       exact ⟨by first | rfl | (simp [errW_none, errW_some] <;> rfl) | (simp [*, errW_none, errW_some] <;> rfl), by repeat (first | (with_reducible first | exact HB.out | apply below_alloc | apply pw_below_drewN | apply below_drew1) | exact HB.out)⟩
      ·rw [if_neg c15] at H
       have c15b0 : ((l0.length : Int) == (l1.length : Int)) = false := beq_eq_false_iff_ne.mpr c15
       have c15b1 : ((l0.length : Int) != (l1.length : Int)) = true := bne_iff_ne.mpr c15
       have c15b2 : (l0.length == l1.length) = false := by first | simpa using c15 | (simp at c15 ⊢; omega)
       replace H := Option.bind_eq_some_iff.mp H
       obtain ⟨t321, A160, H⟩ := H
       replace H : (some t321) = some r := H
       have A16 := Aside0.mk A160
       clear A160
       obtain rfl := Option.some.inj H
       rw [show decide ((l0.length : Int) < (l1.length : Int)) = decide (l0.length < l1.length) by simp] at A16
       go_wp2_with (first | ((with_reducible refine gate_callee (f := 57) rfl ?_); refine goesL_ (some 41) rfl rfl Tryd.func57 (by kernel_rfl) rfl #[.bool (decide (l0.length < l1.length))] rfl (by (try simp only [List.map_toArray, List.map_cons, List.map_nil]); first | done | rfl | (simp only [List.length_drop, List.length_take]; rfl)) ?_; (with_reducible refine (rialtoref2_sign.calls (decide (l0.length < l1.length)) t321 _ A16.out).mono ?_); rintro e w' ⟨rfl, ⟨nd, rfl⟩⟩; refine ⟨_, rfl, ?_⟩))
       go_ret
       exact ⟨by first | rfl | (simp [errW_none, errW_some] <;> rfl) | (simp [*, errW_none, errW_some] <;> rfl), by repeat (first | (with_reducible first | exact HB.out | apply below_alloc | apply pw_below_drewN | apply below_drew1) | exact HB.out)⟩
def rialtohelp_Vals.f (k : Nat) (l0 : List (S24)) (l1 : List (S24)) : Option (Bool) := if (l0.length : Int) = (l1.length : Int) then ((rialtoref2_Rows.f k l0 l1).bind fun t322 => (some (t322 == 0))) else (some false)
set_option maxHeartbeats 8000000 in
set_option maxRecDepth 100000 in
theorem rialtohelp_Vals.calls (k : Nat) (A0 : Option Addr) (c0 : Nat) (l0 : List (S24)) (A1 : Option Addr) (c1 : Nat) (l1 : List (S24)) (r : Bool) (w : World) (hr0 : Kd.C k24 w A0 l0.length l0) (hc0 : l0.length ≤ c0) (hr1 : Kd.C k24 w A1 l1.length l1) (hc1 : l1.length ≤ c1) (h : rialtohelp_Vals.f k l0 l1 = some r) :
  Calls Tryd.prog 19 #[.slice A0 l0.length c0, .slice A1 l1.length c1] w fun e w' => e = .returned (.bool r) ∧ Below w.heap.size w w' := by
 have HR0 := Aside0.mk hr0
 have HC0 := Aside0.mk hc0
 clear hr0 hc0
 have HR1 := Aside0.mk hr1
 have HC1 := Aside0.mk hc1
 clear hr1 hc1
 have HB := Aside0.mk (Below.refl w.heap.size w)
 have H : (if (l0.length : Int) = (l1.length : Int) then ((rialtoref2_Rows.f k l0 l1).bind fun t322 => (some (t322 == 0))) else (some false)) = some r := h
 clear h
 by_cases c3 : (l0.length : Int) = (l1.length : Int)
 ·rw [if_pos c3] at H
  have c3b0 : ((l0.length : Int) == (l1.length : Int)) = true := beq_iff_eq.mpr c3
  have c3b1 : ((l0.length : Int) != (l1.length : Int)) = false := bne_eq_false_iff_eq.mpr c3
  have c3b2 : (l0.length == l1.length) = true := by first | simpa using c3 | (simp at c3 ⊢; omega)
  clear c3
  replace H := Option.bind_eq_some_iff.mp H
  obtain ⟨t322, A40, H⟩ := H
  replace H : (some (t322 == 0)) = some r := H
  have A4 := Aside0.mk A40
  clear A40
  obtain rfl := Option.some.inj H
  have k23 := run23
  have k22 := run22
  go_enter Tryd.func19, Tryd.ntmps19
  go_wp2_with (first | (go_at_call 37; (with_reducible refine (rialtoref2_Rows.calls k _ _ l0 _ _ l1 t322 _ ?side1 ?side2 ?side3 ?side4 A4.out).mono ?_); (case side1 => repeat (first | exact HR0.out | (with_reducible refine Kd.C_alloc ?_ _) | (with_reducible refine Kd.C_drewN ?_ _) | (with_reducible refine Kd.C_drew ?_))); (case side2 => exact HC0.out); (case side3 => repeat (first | exact HR1.out | (with_reducible refine Kd.C_alloc ?_ _) | (with_reducible refine Kd.C_drewN ?_ _) | (with_reducible refine Kd.C_drew ?_))); (case side4 => exact HC1.out); rintro e w5 ⟨rfl, hb⟩; have n0_ := Aside0.mk (below_step (by repeat (first | (with_reducible first | exact HB.out | apply below_alloc | apply pw_below_drewN | apply below_drew1) | exact HB.out)) hb); clear HB; have HB := n0_; clear n0_; (try clear hb); (try clear hb2); (try clear hk); (try clear hi)))
  go_ret
  exact ⟨by first | rfl | (simp [errW_none, errW_some] <;> rfl) | (simp [*, errW_none, errW_some] <;> rfl), by repeat (first | (with_reducible first | exact HB.out | apply below_alloc | apply pw_below_drewN | apply below_drew1) | exact HB.out)⟩
 ·rw [if_neg c3] at H
  have c3b0 : ((l0.length : Int) == (l1.length : Int)) = false := beq_eq_false_iff_ne.mpr c3
  have c3b1 : ((l0.length : Int) != (l1.length : Int)) = true := bne_iff_ne.mpr c3
  have c3b2 : (l0.length == l1.length) = false := by first | simpa using c3 | (simp at c3 ⊢; omega)
  obtain rfl := Option.some.inj H
  have k23 := run23
  have k22 := run22
  go_enter Tryd.func19, Tryd.ntmps19
  go_wp2
  go_ret
  exact ⟨by first | rfl | (simp [errW_none, errW_some] <;> rfl) | (simp [*, errW_none, errW_some] <;> rfl), by repeat (first | (with_reducible first | exact HB.out | apply below_alloc | apply pw_below_drewN | apply below_drew1) | exact HB.out)⟩
def rialtohelp_Few.l0 : Nat → List (S24) → Int → Int → Option (Bool)
 | 0, _, _, _ => none
 | k + 1, x0, x1, x5 => if x5 < (x0.length : Int) then (if 0 ≤ x5 then (if (((rd_T24 x0 x5).f2).size : Int) > 200 then (some false) else (rialtohelp_Few.l0 k x0 x1 (wrap64 (x5 + 1)))) else (none)) else (some (decide ((x0.length : Int) ≤ x1)))
def rialtohelp_Few.f (k : Nat) (l0 : List (S24)) (a1 : Int) : Option (Bool) := rialtohelp_Few.l0 k l0 a1 0
set_option maxHeartbeats 8000000 in
set_option maxRecDepth 100000 in
theorem rialtohelp_Few.calls (k : Nat) (A0 : Option Addr) (c0 : Nat) (l0 : List (S24)) (a1 : Int) (r : Bool) (w : World) (hr0 : Kd.C k24 w A0 l0.length l0) (hc0 : l0.length ≤ c0) (h : rialtohelp_Few.f k l0 a1 = some r) :
  Calls Tryd.prog 9 #[.slice A0 l0.length c0, .int .i64 a1] w fun e w' => e = .returned (.bool r) ∧ Drawn0 w w' := by
 have HR0 := Aside0.mk hr0
 have HC0 := Aside0.mk hc0
 clear hr0 hc0
 have H : (rialtohelp_Few.l0 k l0 a1 0) = some r := h
 clear h
 have H' := Aside0.mk H
 clear H
 have k23 := run23
 have k22 := run22
 go_enter Tryd.func9, Tryd.ntmps9
 go_wp2
 go_loopg [5] k (fun kq v5 w' => ∃ (x5_1 : Int), v5 = .int .i64 x5_1 ∧ Aside0 (rialtohelp_Few.l0 kq l0 a1 x5_1 = some r) ∧ Aside0 (kq ≤ k) ∧ Drawn0 w w')
 case atStart => exact ⟨(0), (by first | rfl | (simp; done) | (simp [*]; done)), H', ⟨Nat.le_refl _⟩, by repeat (first | exact Drawn0.refl _ | apply Drawn0.step)⟩
 case round =>
  clear H'
  try clear p2
  obtain ⟨x5_1, rfl, HA, HK1, ⟨m1, rfl⟩⟩ := hrel
  cases gk with
  | zero => exact absurd HA.out (by simp [rialtohelp_Few.l0])
  | succ k1 =>
   have H := HA.out
   clear HA
   simp only [rialtohelp_Few.l0] at H
   by_cases c3 : x5_1 < (l0.length : Int)
   ·rw [if_pos c3] at H
    have c3b0 : decide (x5_1 < (l0.length : Int)) = true := decide_eq_true c3
    clear c3
    by_cases c4 : 0 ≤ x5_1
    ·rw [if_pos c4] at H
     have c4b0 : decide (0 ≤ x5_1) = true := decide_eq_true c4
     clear c4
     by_cases c5 : (((rd_T24 l0 x5_1).f2).size : Int) > 200
     ·rw [if_pos c5] at H
      have c5b0 : decide (200 < (((rd_T24 l0 x5_1).f2).size : Int)) = true := decide_eq_true c5
      have c5b1 : decide (200 < ((rd_T24 l0 x5_1).f2).size) = true := decide_eq_true (by omega)
      clear c5
      obtain rfl := Option.some.inj H
      have p188 : 0 ≤ (x5_1 : Int) := of_decide_eq_true (by first | (with_reducible assumption) | assumption)
      have q188 : x5_1 < (l0.length : Int) := of_decide_eq_true (by first | (with_reducible assumption) | assumption)
      obtain ⟨ad188, e188, hx188_0, hx188_1, hx188_2, hx188_3⟩ := at_T24 HR0.out x5_1 p188 q188
      cases e188
      replace p188 := eq_true p188
      replace q188 := eq_true q188
      go_wp2
      go_ret
      exact ⟨by first | rfl | (simp; done) | (simp [*]; done), by repeat (first | exact Drawn0.refl _ | apply Drawn0.step)⟩
     ·rw [if_neg c5] at H
      have c5b0 : decide (200 < (((rd_T24 l0 x5_1).f2).size : Int)) = false := decide_eq_false c5
      have c5b1 : decide (200 < ((rd_T24 l0 x5_1).f2).size) = false := decide_eq_false (by omega)
      clear c5
      have H' := Aside0.mk H
      clear H
      have p188 : 0 ≤ (x5_1 : Int) := of_decide_eq_true (by first | (with_reducible assumption) | assumption)
      have q188 : x5_1 < (l0.length : Int) := of_decide_eq_true (by first | (with_reducible assumption) | assumption)
      obtain ⟨ad188, e188, hx188_0, hx188_1, hx188_2, hx188_3⟩ := at_T24 HR0.out x5_1 p188 q188
      cases e188
      replace p188 := eq_true p188
      replace q188 := eq_true q188
      go_wp2
      go_roundg k1
      case measure => have := HK1.out; omega
      case rel => exact ⟨(wrap64 (x5_1 + 1)), (by first | rfl | (simp; done) | (simp [*]; done)), H', ⟨by have := HK1.out; omega⟩, by repeat (first | exact Drawn0.refl _ | apply Drawn0.step)⟩
    ·rw [if_neg c4] at H
     exact absurd H (by simp)
   ·rw [if_neg c3] at H
    have c3b0 : decide (x5_1 < (l0.length : Int)) = false := decide_eq_false c3
    clear c3
    obtain rfl := Option.some.inj H
    go_wp2
    go_ret
    exact ⟨by first | rfl | (simp; done) | (simp [*]; done), by repeat (first | exact Drawn0.refl _ | apply Drawn0.step)⟩
def rialtoref2_Same.f (a0_0 : Int) (a0_1 : Int) (a0_2 : ByteArray) (a0_3 : Nat) (a1_0 : Int) (a1_1 : Int) (a1_2 : ByteArray) (a1_3 : Nat) : Option (Bool) := (rialtoref2_Compare.f a0_0 a0_1 a0_2 a0_3 a1_0 a1_1 a1_2 a1_3).bind fun t317 => (some (t317 == 0))
set_option maxHeartbeats 8000000 in
set_option maxRecDepth 100000 in
theorem rialtoref2_Same.calls (a0_0 : Int) (a0_1 : Int) (a0_2 : ByteArray) (a0_3 : Nat) (a1_0 : Int) (a1_1 : Int) (a1_2 : ByteArray) (a1_3 : Nat) (r : Bool) (w : World) (h : rialtoref2_Same.f a0_0 a0_1 a0_2 a0_3 a1_0 a1_1 a1_2 a1_3 = some r) :
  Calls Tryd.prog 18 #[.agg #[.int .i64 a0_0, .int .i64 a0_1, .string a0_2, .float .f64 a0_3], .agg #[.int .i64 a1_0, .int .i64 a1_1, .string a1_2, .float .f64 a1_3]] w fun e w' => e = .returned (.bool r) ∧ Below w.heap.size w w' := by
 have hu24 := Tryd.underlying24
 have HB := Aside0.mk (Below.refl w.heap.size w)
 have H : ((rialtoref2_Compare.f a0_0 a0_1 a0_2 a0_3 a1_0 a1_1 a1_2 a1_3).bind fun t317 => (some (t317 == 0))) = some r := h
 clear h
 replace H := Option.bind_eq_some_iff.mp H
 obtain ⟨t317, A30, H⟩ := H
 replace H : (some (t317 == 0)) = some r := H
 have A3 := Aside0.mk A30
 clear A30
 obtain rfl := Option.some.inj H
 have k23 := run23
 have k22 := run22
 go_enter Tryd.func18, Tryd.ntmps18
 go_wp2_with (first | ((with_reducible refine gate_dst (N := 2) rfl ?_); refine box_event ?hg (N := 2) ?hd (cs := #[.int .i64 a0_0, .int .i64 a0_1, .string a0_2, .float .f64 a0_3]) (t := 24) ?hr ?_; (case hd => rfl); (case hg => rfl); (case hr => first | (go_simp; done) | (go_simp; rfl)); intro gb315 hg w4 hbox hb; have n0_ := Aside0.mk (below_step (by repeat (first | (with_reducible first | exact HB.out | apply below_alloc | apply pw_below_drewN | apply below_drew1) | exact HB.out)) hb); have n1_ := Aside0.mk (hbox); have n2_ := Aside0.mk ((by rw [hg]; exact (below_size (by repeat (first | (with_reducible first | exact HB.out | apply below_alloc | apply pw_below_drewN | apply below_drew1) | exact HB.out))) : w.heap.size ≤ gb315)); have n3_ := Aside0.mk ((by rw [hg]; exact (below_size (by repeat (first | (with_reducible first | exact HB.out | apply below_alloc | apply pw_below_drewN | apply below_drew1) | exact HB.out))) : w.heap.size ≤ gb315)); clear HB; have HB := n0_; have BK315 := n1_; have GW315 := n2_; have GE315 := n3_; clear n0_ n1_ n2_ n3_; clear hb hbox hg) | ((with_reducible refine gate_dst (N := 3) rfl ?_); refine box_event ?hg (N := 3) ?hd (cs := #[.int .i64 a1_0, .int .i64 a1_1, .string a1_2, .float .f64 a1_3]) (t := 24) ?hr ?_; (case hd => rfl); (case hg => rfl); (case hr => first | (go_simp; done) | (go_simp; rfl)); intro gb316 hg w5 hbox hb; have n0_ := Aside0.mk (blk_below (g := gb315) (o := .cells #[.int .i64 a0_0, .int .i64 a0_1, .string a0_2, .float .f64 a0_3] 24 (0, 0)) (by (with_reducible repeat (first | refine blk_drewN ?_ _ | refine blk_drew ?_ | refine blk_alloc ?_ _)); exact BK315.out) hb); have n1_ := Aside0.mk (below_step (by repeat (first | (with_reducible first | exact HB.out | apply below_alloc | apply pw_below_drewN | apply below_drew1 | refine below_set ?_ GE315.out) | exact HB.out)) hb); have n2_ := Aside0.mk (hbox); have n3_ := Aside0.mk ((by rw [hg]; exact (below_size (by repeat (first | (with_reducible first | exact HB.out | apply below_alloc | apply pw_below_drewN | apply below_drew1 | refine below_set ?_ GE315.out) | exact HB.out))) : w.heap.size ≤ gb316)); have n4_ := Aside0.mk ((by rw [hg]; exact (below_size (by repeat (first | (with_reducible first | exact HB.out | apply below_alloc | apply pw_below_drewN | apply below_drew1 | refine below_set ?_ GE315.out) | exact HB.out))) : w.heap.size ≤ gb316)); have n5_ := Aside0.mk ((by rw [hg]; exact Nat.ne_of_lt (blk_lt (g := gb315) (o := .cells #[.int .i64 a0_0, .int .i64 a0_1, .string a0_2, .float .f64 a0_3] 24 (0, 0)) (by (with_reducible repeat (first | refine blk_drewN ?_ _ | refine blk_drew ?_ | refine blk_alloc ?_ _)); exact BK315.out)) : gb315 ≠ gb316)); have n6_ := Aside0.mk ((by rw [hg]; exact Nat.ne_of_gt (blk_lt (g := gb315) (o := .cells #[.int .i64 a0_0, .int .i64 a0_1, .string a0_2, .float .f64 a0_3] 24 (0, 0)) (by (with_reducible repeat (first | refine blk_drewN ?_ _ | refine blk_drew ?_ | refine blk_alloc ?_ _)); exact BK315.out)) : gb316 ≠ gb315)); clear BK315; clear HB; have BK315 := n0_; have HB := n1_; have BK316 := n2_; have GW316 := n3_; have GE316 := n4_; have NB315_316 := n5_; have NB316_315 := n6_; clear n0_ n1_ n2_ n3_ n4_ n5_ n6_; clear hb hbox hg; have hnb6 := NB315_316.out; have hnc6 := NB316_315.out; have hcz7_0 : w5.cell? ⟨gb315, 0, none⟩ = some (.int .i64 a0_0) := (blk_cell BK315.out 0).trans rfl; have hcz7_1 : w5.cell? ⟨gb315, 1, none⟩ = some (.int .i64 a0_1) := (blk_cell BK315.out 1).trans rfl; have hcz7_2 : w5.cell? ⟨gb315, 2, none⟩ = some (.string a0_2) := (blk_cell BK315.out 2).trans rfl; have hcz7_3 : w5.cell? ⟨gb315, 3, none⟩ = some (.float .f64 a0_3) := (blk_cell BK315.out 3).trans rfl; have hfz7_0 := blk_frozen BK315.out 0; have hfz7_1 := blk_frozen BK315.out 1; have hfz7_2 := blk_frozen BK315.out 2; have hfz7_3 := blk_frozen BK315.out 3; have hcz8_0 : w5.cell? ⟨gb316, 0, none⟩ = some (.int .i64 a1_0) := (blk_cell BK316.out 0).trans rfl; have hcz8_1 : w5.cell? ⟨gb316, 1, none⟩ = some (.int .i64 a1_1) := (blk_cell BK316.out 1).trans rfl; have hcz8_2 : w5.cell? ⟨gb316, 2, none⟩ = some (.string a1_2) := (blk_cell BK316.out 2).trans rfl; have hcz8_3 : w5.cell? ⟨gb316, 3, none⟩ = some (.float .f64 a1_3) := (blk_cell BK316.out 3).trans rfl; have hfz8_0 := blk_frozen BK316.out 0; have hfz8_1 := blk_frozen BK316.out 1; have hfz8_2 := blk_frozen BK316.out 2; have hfz8_3 := blk_frozen BK316.out 3) | ((with_reducible refine gate_callee (f := 36) rfl ?_); refine goesL_ (some 7) rfl rfl Tryd.func36 (by kernel_rfl) rfl #[.agg #[.int .i64 a0_0, .int .i64 a0_1, .string a0_2, .float .f64 a0_3], .agg #[.int .i64 a1_0, .int .i64 a1_1, .string a1_2, .float .f64 a1_3]] rfl (by (try simp only [List.map_toArray, List.map_cons, List.map_nil]); first | done | rfl | (simp only [List.length_drop, List.length_take]; rfl)) ?_; (with_reducible refine (rialtoref2_Compare.calls a0_0 a0_1 a0_2 a0_3 a1_0 a1_1 a1_2 a1_3 t317 _ A3.out).mono ?_); rintro e w9 ⟨rfl, hb⟩; refine ⟨_, rfl, ?_⟩; have n0_ := Aside0.mk (blk_below (g := gb315) (o := .cells #[.int .i64 a0_0, .int .i64 a0_1, .string a0_2, .float .f64 a0_3] 24 (0, 0)) (by (with_reducible repeat (first | refine blk_drewN ?_ _ | refine blk_drew ?_ | refine blk_alloc ?_ _)); exact BK315.out) hb); have n1_ := Aside0.mk (blk_below (g := gb316) (o := .cells #[.int .i64 a1_0, .int .i64 a1_1, .string a1_2, .float .f64 a1_3] 24 (0, 0)) (by (with_reducible repeat (first | refine blk_drewN ?_ _ | refine blk_drew ?_ | refine blk_alloc ?_ _)); exact BK316.out) hb); have n2_ := Aside0.mk (below_step (by repeat (first | (with_reducible first | exact HB.out | apply below_alloc | apply pw_below_drewN | apply below_drew1 | refine below_set ?_ GE315.out | refine below_set ?_ GE316.out) | exact HB.out)) hb); clear BK315; clear BK316; clear HB; have BK315 := n0_; have BK316 := n1_; have HB := n2_; clear n0_ n1_ n2_; (try clear hb); (try clear hb2); (try clear hk); (try clear hi)))
 go_ret
 exact ⟨by first | rfl | (simp [errW_none, errW_some] <;> rfl) | (simp [*, errW_none, errW_some] <;> rfl), by repeat (first | (with_reducible first | exact HB.out | apply below_alloc | apply pw_below_drewN | apply below_drew1 | refine below_set ?_ GE315.out | refine below_set ?_ GE316.out) | exact HB.out)⟩
end Go.Proofs.YtpjfhdbkkomogaaDoor.Px
namespace Go.Proofs.YtpjfhdbkkomogaaDoor.Mb
open Go.RowKit Go.Proofs.YtpjfhdbkkomogaaDoorW.PrintWords Go.Proofs.YtpjfhdbkkomogaaDoor.Px Go.Proofs.YtpjfhdbkkomogaaDoor.Gvn
theorem refzero (f : Nat) : rialtoref2_zero.f f = some (decide (f = 0)) := by
  unfold rialtoref2_zero.f rialtoref1_Same.f
  rw [Option.bind_some]
  congr 1
  rw [Bool.eq_iff_iff, beq_iff_eq, decide_eq_true_eq]
  omega
theorem order_is (f : Nat) (hf : f < 18446744073709551616) : ∃ x : Int, bits_Order.f f = some x ∧ (x == 9223372036854775808) = decide (f = 0) := by
  refine ⟨_, by unfold bits_Order.f; rw [if_pos hf], ?_⟩
  rw [Bool.eq_iff_iff, beq_iff_eq, decide_eq_true_eq]
  split <;> omega
theorem ref_is (k i : Int) (s : ByteArray) (f : Nat) (hf : f < 18446744073709551616) : rialtoref2_Is.f 1 k i s f = value_Is.f 1 k i s f := by
  obtain ⟨x, hx, hxb⟩ := order_is f hf
  unfold rialtoref2_Is.f value_Is.f
  rw [hx, Option.bind_some, hxb, refzero, Option.bind_some]
  have key : ∀ q : Bool, rialtoref2_Is.j0 1 k q k i s f = value_Is.j0 1 (decide (f = 0)) k q k i s f := fun q => by
    rw [rialtoref2_Is.j0, value_Is.j0, refzero, Option.bind_some]
    by_cases hz : (s.size : Int) ≤ 60
    · simp only [if_pos hz]
    · simp only [if_neg hz]
      cases q
      · rfl
      · simp
  rw [key, key]
theorem cmp_self (k i : Int) (s : ByteArray) (f : Nat) (hf : f < 18446744073709551616) : rialtoref2_Compare.f k i s f k i s f = some 0 := by
  have : ∃ x : Int, rialtoref1_Order.f f = some x := ⟨_, by unfold rialtoref1_Order.f; rw [if_pos hf]⟩
  obtain ⟨x, hx⟩ := this
  unfold rialtoref2_Compare.f rialtoref1_Compare.f
  rw [if_pos rfl, if_pos rfl, if_pos rfl, hx, Option.bind_some, Option.bind_some, if_neg (by omega), if_neg (by omega)]
  rfl
theorem same_self (k i : Int) (s : ByteArray) (f : Nat) (hf : f < 18446744073709551616) : rialtoref2_Same.f k i s f k i s f = some true := by
  unfold rialtoref2_Same.f
  rw [cmp_self k i s f hf]
  rfl
theorem rows_self (l : List S24) (hl : ∀ v ∈ l, v.f3 < 18446744073709551616) (hb : l.length ≤ 1000000) (d : Nat) : ∀ (n i : Nat), i + d = l.length → 2 * d + 2 ≤ n → rialtoref2_Rows.l0 n l l (i : Int) = some 0 := by
  induction d with
  | zero =>
    intro n i hi hn
    obtain ⟨n, rfl⟩ : ∃ m, n = m + 2 := ⟨n - 2, by omega⟩
    rw [rialtoref2_Rows.l0, if_neg (by omega), rialtoref2_Rows.j1, if_neg (by decide), if_pos rfl]
  | succ d ih =>
    intro n i hi hn
    obtain ⟨n, rfl⟩ : ∃ m, n = m + 2 := ⟨n - 2, by omega⟩
    have hlt : (i : Int) < (l.length : Int) := by omega
    have hm : rd_T24 l (i : Int) ∈ l := by
      unfold rd_T24
      have h : (i : Int).toNat < l.length := by omega
      rw [List.getD_eq_getElem?_getD, List.getElem?_eq_getElem h]
      exact List.getElem_mem _
    have hw : wrap64 ((i : Int) + 1) = ((i + 1 : Nat) : Int) := by unfold wrap64; omega
    rw [rialtoref2_Rows.l0, if_pos hlt, rialtoref2_Rows.j1, decide_eq_true hlt, if_pos rfl, if_pos (by omega), if_pos hlt, if_pos hlt, cmp_self _ _ _ _ (hl _ hm), Option.bind_some, if_pos rfl, hw]
    exact ih n (i + 1) (by omega) (by omega)
theorem vals_self (l : List S24) (hl : ∀ v ∈ l, v.f3 < 18446744073709551616) (hb : l.length ≤ 1000000) (n : Nat) (hn : 2 * l.length + 2 ≤ n) : rialtohelp_Vals.f n l l = some true := by
  unfold rialtohelp_Vals.f rialtoref2_Rows.f
  have := rows_self l hl hb l.length n 0 (by omega) hn
  rw [if_pos rfl, show ((0 : Nat) : Int) = 0 from rfl] at *
  rw [this]
  rfl
def fewB (l : List S24) (m : Int) : Bool := l.all (fun v => decide (v.f2.size ≤ 200)) && decide ((l.length : Int) ≤ m)
theorem few_loop (l : List S24) (m : Int) (hb : l.length ≤ 9223372036854775807) (d : Nat) : ∀ (n i : Nat), i + d = l.length → d + 1 ≤ n →
    rialtohelp_Few.l0 n l m (i : Int) = some ((l.drop i).all (fun v => decide (v.f2.size ≤ 200)) && decide ((l.length : Int) ≤ m)) := by
  induction d with
  | zero =>
    intro n i hi hn
    obtain ⟨n, rfl⟩ : ∃ m, n = m + 1 := ⟨n - 1, by omega⟩
    rw [rialtohelp_Few.l0, if_neg (by omega), List.drop_eq_nil_of_le (by omega)]
    rfl
  | succ d ih =>
    intro n i hi hn
    obtain ⟨n, rfl⟩ : ∃ m, n = m + 1 := ⟨n - 1, by omega⟩
    have h : i < l.length := by omega
    have hr : rd_T24 l (i : Int) = l[i] := by
      unfold rd_T24
      rw [List.getD_eq_getElem?_getD, show (i : Int).toNat = i by omega, List.getElem?_eq_getElem h]
      rfl
    have hw : wrap64 ((i : Int) + 1) = ((i + 1 : Nat) : Int) := by unfold wrap64; omega
    rw [rialtohelp_Few.l0, if_pos (by omega), if_pos (by omega), hr, hw, ih n (i + 1) (by omega) (by omega), List.drop_eq_getElem_cons h, List.all_cons]
    by_cases hz : l[i].f2.size ≤ 200
    · rw [if_neg (by omega), decide_eq_true hz, Bool.true_and]
    · rw [if_pos (by omega), decide_eq_false hz, Bool.false_and, Bool.false_and]
theorem few_is (l : List S24) (m : Int) (hb : l.length ≤ 9223372036854775807) (n : Nat) (hn : l.length + 1 ≤ n) : rialtohelp_Few.f n l m = some (fewB l m) := by
  unfold rialtohelp_Few.f
  exact few_loop l m hb l.length n 0 (by omega) hn
theorem row_of_cells (w : World) (ad : Addr) (l : List S24) (hb : l.length ≤ 9223372036854775807)
    (h : ∀ j v, l[j]? = some v → ∀ (i : Nat) u, ([.int .i64 v.f0, .int .i64 v.f1, .string v.f2, .float .f64 v.f3] : List Value)[i]? = some u → w.cell? (ad.add (j * 4 + i)) = some u) :
    Kd.C k24 w (some ad) l.length l :=
  ⟨rfl, hb, fun _ => ⟨ad, rfl, fun j v hj => ⟨_, rfl, k24_mk w v, h j v hj⟩⟩⟩
theorem row_nil (w : World) (A : Option Addr) : Kd.C k24 w A 0 [] := ⟨rfl, by decide, fun h => absurd h (by decide)⟩
def tailT (ts : List (List UInt8)) : List UInt8 := ts.flatMap (fun t => 44 :: 32 :: t) ++ [41]
def rowT : List (List UInt8) → List UInt8
  | [] => [40, 41]
  | t :: ts => 40 :: (t ++ tailT ts)
theorem tailT_cons (t : List UInt8) (ts : List (List UInt8)) : tailT (t :: ts) = 44 :: 32 :: (t ++ tailT ts) := by simp [tailT]
theorem behind_tail (ts : List (List UInt8)) (h : (tailT ts).length ≤ 10000) : Behind (tailT ts) := by
  refine ⟨h, .inr ?_⟩
  cases ts with
  | nil => exact ⟨41, [], rfl, .inr rfl⟩
  | cons t ts => exact ⟨44, _, tailT_cons t ts, .inl rfl⟩
theorem Vt.short {k i : Int} {s : ByteArray} {f : Nat} {t : List UInt8} (h : Vt k i s f t) : t.length ≤ 300 := by
  cases h with
  | int n h0 h1 => have := itoa_short i h0 h1; omega
  | yes => decide
  | no => decide
  | str s h =>
    have := flat_length s.data.toList
    rw [size_data] at this
    simp only [quoteL, List.length_append, List.length_cons, List.length_nil]
    omega
  | bytes s h =>
    rw [List.length_cons, hexL_length, size_data]
    omega
  | float f h => rw [List.length_cons, tells_length]; omega
theorem tail_short : ∀ ts : List (List UInt8), (∀ t ∈ ts, t.length ≤ 300) → (tailT ts).length ≤ 302 * ts.length + 1
  | [], _ => by decide
  | t :: ts, h => by
    have h1 := tail_short ts fun u hu => h u (List.mem_cons_of_mem _ hu)
    have h2 := h t (List.mem_cons_self ..)
    rw [tailT_cons, List.length_cons, List.length_cons, List.length_append, List.length_cons]
    omega
end Go.Proofs.YtpjfhdbkkomogaaDoor.Mb
namespace Go.Proofs
open Go.Shelf
def Tryd.te17_ren : Go.Shelf.Ren := ⟨fun | 17 => 71 | 21 => 85 | 22 => 86 | 23 => 87 | 24 => 88 | 25 => 92 | 27 => 94 | 26 => 93 | 28 => 96 | 29 => 40 | 30 => 60 | 31 => 61 | 32 => 62 | 33 => 63 | 35 => 76 | 34 => 75 | 36 => 77 | 37 => 78 | 38 => 79 | 39 => 89 | 40 => 90 | n => n, fun | 9 => 9 | 3 => 3 | 24 => 78 | 34 => 120 | 4 => 4 | 39 => 121 | 44 => 126 | 37 => 57 | 0 => 0 | 47 => 108 | 50 => 132 | 48 => 130 | 2 => 2 | 52 => 98 | 22 => 47 | 5 => 5 | 55 => 101 | 59 => 112 | 60 => 103 | 20 => 20 | 61 => 113 | 36 => 69 | 65 => 128 | 66 => 129 | 67 => 82 | n => n, fun | 0 => 3 | 1 => 4 | 2 => 1 | 3 => 5 | 4 => 6 | n => n⟩
theorem Tryd.te17 : Go.Proofs.LaysPu.n17 Tryd.prog Tryd.te17_ren := {
  mixed := by kernel_rfl
  f17 := Tryd.func71.trans (congrArg some (by kernel_rfl))
  f21 := Tryd.func85.trans (congrArg some (by kernel_rfl))
  f22 := Tryd.func86.trans (congrArg some (by kernel_rfl))
  f23 := Tryd.func87.trans (congrArg some (by kernel_rfl))
  f24 := Tryd.func88.trans (congrArg some (by kernel_rfl))
  f25 := Tryd.func92.trans (congrArg some (by kernel_rfl))
  f26 := Tryd.func93.trans (congrArg some (by kernel_rfl))
  f27 := Tryd.func94.trans (congrArg some (by kernel_rfl))
  f28 := Tryd.func96.trans (congrArg some (by kernel_rfl))
  f29 := Tryd.func40.trans (congrArg some (by kernel_rfl))
  f30 := Tryd.func60.trans (congrArg some (by kernel_rfl))
  f31 := Tryd.func61.trans (congrArg some (by kernel_rfl))
  f32 := Tryd.func62.trans (congrArg some (by kernel_rfl))
  f33 := Tryd.func63.trans (congrArg some (by kernel_rfl))
  f34 := Tryd.func75.trans (congrArg some (by kernel_rfl))
  f35 := Tryd.func76.trans (congrArg some (by kernel_rfl))
  f36 := Tryd.func77.trans (congrArg some (by kernel_rfl))
  f37 := Tryd.func78.trans (congrArg some (by kernel_rfl))
  f38 := Tryd.func79.trans (congrArg some (by kernel_rfl))
  f39 := Tryd.func89.trans (congrArg some (by kernel_rfl))
  f40 := Tryd.func90.trans (congrArg some (by kernel_rfl))
  t0 := Tryd.underlying0
  a0 := Tryd.isAgg0
  z0 := Tryd.sizeOf0
  v0 := Tryd.zeroValue0
  i0 := by kernel_rfl
  t2 := Tryd.underlying2
  a2 := Tryd.isAgg2
  z2 := Tryd.sizeOf2
  v2 := Tryd.zeroValue2
  i2 := by kernel_rfl
  t3 := Tryd.underlying3
  a3 := Tryd.isAgg3
  z3 := Tryd.sizeOf3
  v3 := Tryd.zeroValue3
  i3 := by kernel_rfl
  t4 := Tryd.underlying4
  a4 := Tryd.isAgg4
  z4 := Tryd.sizeOf4
  v4 := Tryd.zeroValue4
  i4 := by kernel_rfl
  t5 := Tryd.underlying5
  a5 := Tryd.isAgg5
  z5 := Tryd.sizeOf5
  v5 := Tryd.zeroValue5
  i5 := by kernel_rfl
  t9 := Tryd.underlying9
  a9 := Tryd.isAgg9
  z9 := Tryd.sizeOf9
  v9 := Tryd.zeroValue9
  i9 := by kernel_rfl
  t20 := Tryd.underlying20
  a20 := Tryd.isAgg20
  z20 := Tryd.sizeOf20
  v20 := Tryd.zeroValue20
  i20 := by kernel_rfl
  t22 := Tryd.underlying47
  a22 := Tryd.isAgg47
  z22 := Tryd.sizeOf47
  v22 := Tryd.zeroValue47
  i22 := by kernel_rfl
  t24 := Tryd.underlying78
  a24 := Tryd.isAgg78
  z24 := Tryd.sizeOf78
  v24 := Tryd.zeroValue78
  i24 := by kernel_rfl
  t34 := Tryd.underlying120
  a34 := Tryd.isAgg120
  z34 := Tryd.sizeOf120
  v34 := Tryd.zeroValue120
  i34 := by kernel_rfl
  c34 := by kernel_rfl
  t36 := Tryd.underlying69
  a36 := Tryd.isAgg69
  z36 := Tryd.sizeOf69
  v36 := Tryd.zeroValue69
  i36 := by kernel_rfl
  t37 := Tryd.underlying57
  a37 := Tryd.isAgg57
  z37 := Tryd.sizeOf57
  v37 := Tryd.zeroValue57
  i37 := by kernel_rfl
  t39 := Tryd.underlying121
  a39 := Tryd.isAgg121
  z39 := Tryd.sizeOf121
  v39 := Tryd.zeroValue121
  i39 := by kernel_rfl
  t44 := Tryd.underlying126
  a44 := Tryd.isAgg126
  z44 := Tryd.sizeOf126
  v44 := Tryd.zeroValue126
  i44 := by kernel_rfl
  t47 := Tryd.underlying108
  a47 := Tryd.isAgg108
  z47 := Tryd.sizeOf108
  v47 := Tryd.zeroValue108
  i47 := by kernel_rfl
  t48 := Tryd.underlying130
  a48 := Tryd.isAgg130
  z48 := Tryd.sizeOf130
  v48 := Tryd.zeroValue130
  i48 := by kernel_rfl
  t50 := Tryd.underlying132
  a50 := Tryd.isAgg132
  z50 := Tryd.sizeOf132
  v50 := Tryd.zeroValue132
  i50 := by kernel_rfl
  t52 := Tryd.underlying98
  a52 := Tryd.isAgg98
  z52 := Tryd.sizeOf98
  v52 := Tryd.zeroValue98
  i52 := by kernel_rfl
  t55 := Tryd.underlying101
  a55 := Tryd.isAgg101
  z55 := Tryd.sizeOf101
  v55 := Tryd.zeroValue101
  i55 := by kernel_rfl
  t59 := Tryd.underlying112
  a59 := Tryd.isAgg112
  z59 := Tryd.sizeOf112
  v59 := Tryd.zeroValue112
  i59 := by kernel_rfl
  t60 := Tryd.underlying103
  a60 := Tryd.isAgg103
  z60 := Tryd.sizeOf103
  v60 := Tryd.zeroValue103
  i60 := by kernel_rfl
  t61 := Tryd.underlying113
  a61 := Tryd.isAgg113
  z61 := Tryd.sizeOf113
  t65 := Tryd.underlying128
  a65 := Tryd.isAgg128
  z65 := Tryd.sizeOf128
  v65 := Tryd.zeroValue128
  i65 := by kernel_rfl
  t66 := Tryd.underlying129
  a66 := Tryd.isAgg129
  z66 := Tryd.sizeOf129
  v66 := Tryd.zeroValue129
  i66 := by kernel_rfl
  t67 := Tryd.underlying82
  a67 := Tryd.isAgg82
  z67 := Tryd.sizeOf82
  v67 := Tryd.zeroValue82
  i67 := by kernel_rfl
  g0 := by kernel_rfl
  m0 := by kernel_rfl
  g1 := by kernel_rfl
  m1 := by kernel_rfl
  g2 := by kernel_rfl
  m2 := by kernel_rfl
  g3 := by kernel_rfl
  m3 := by kernel_rfl
  g4 := by kernel_rfl
  m4 := by kernel_rfl }
end Go.Proofs
namespace Go.Proofs.YtpjfhdbkkomogaaDoor.Mb
open Go.RowKit Go.Proofs.YtpjfhdbkkomogaaDoorW.PrintWords Go.Proofs.YtpjfhdbkkomogaaDoorW.PrintLast Go.Proofs.YtpjfhdbkkomogaaDoorW.PrintMore Go.Proofs.YtpjfhdbkkomogaaDoor.Px Go.Proofs.YtpjfhdbkkomogaaDoor.Gvn
attribute [local go_sem] run_store_float
def low (c : UInt8) : Nat := (c ||| 32).toNat
theorem low_bits : ∀ n : Fin 256, bits .or .u8 (n.val : Int) 32 = ((n.val.toUInt8 ||| 32).toNat : Int) := by decide +kernel
theorem low_lt (c : UInt8) : low c < 256 := (c ||| 32).toNat_lt
theorem lower_low (c : UInt8) (w : World) : Calls Tryd.prog 83 #[.int .u8 (c.toNat : Int)] w fun e w' => e = .returned (.int .u8 (low c : Int)) ∧ w' = w := by
  have e := low_bits ⟨c.toNat, c.toNat_lt⟩
  have ec : c.toNat.toUInt8 = c := by simp
  simp only [ec] at e
  have e' : bits .or .u8 (c.toNat : Int) 32 = (low c : Int) := e
  obtain ⟨x, hx⟩ : ∃ x : Int, x = (c.toNat : Int) := ⟨_, rfl⟩
  have h0 : 0 ≤ x := by omega
  have h1 : x < 256 := by have := c.toNat_lt; omega
  rw [← hx] at e' ⊢
  generalize (low c : Int) = z at e' ⊢
  clear hx e ec
  have he := Lib.hid e'
  clear e'
  generalize hy : bits .or .u8 x 32 = y at he
  go_enter Tryd.func83, Tryd.ntmps83
  go_wp2
  go_ret
  have e := he.out
  subst e
  exact ⟨rfl, rfl⟩
theorem low_95 (w : World) : Calls Tryd.prog 83 #[.int .u8 95] w fun e w' => e = .returned (.int .u8 127) ∧ w' = w := lower_low 95 w
theorem low_is95 {c : UInt8} (h : c.toNat = 95) : c = 95 := UInt8.toNat_inj.1 h
def hxv (c : UInt8) : Option Nat := if 48 ≤ c.toNat ∧ c.toNat ≤ 57 then some (c.toNat - 48) else if 97 ≤ low c ∧ low c ≤ 102 then some (low c - 87) else none
def hxs : Nat → List UInt8 → Option Nat
  | a, [] => some a
  | a, c :: r => (hxv c).bind fun d => hxs (a * 16 + d) r
theorem hxv_lt {c : UInt8} {d : Nat} (h : hxv c = some d) : d < 16 := by
  unfold hxv at h
  split at h
  · cases h; omega
  · split at h
    · cases h; omega
    · cases h
def hxR (l : List UInt8) : Value := match hxs 0 l with
  | some n => .tuple #[.int .u64 (n : Int), .nilIface]
  | none => .tuple #[.int .u64 0, .iface 120 (.int .i64 2)]
set_option maxHeartbeats 8000000 in
set_option maxRecDepth 100000 in
theorem parse16g_in (l : List UInt8) (h1 : 1 ≤ l.length) (h2 : l.length ≤ 16) (w : World) :
    Calls Tryd.prog 70 #[.string (B l), .int .i64 16, .int .i64 64] w fun e w' => e = .returned (hxR l) ∧ Below w.heap.size w w' := by
  obtain ⟨t, ht⟩ : ∃ t, t = B l := ⟨_, rfl⟩
  have hsz : t.size = l.length := by rw [ht, size_B]
  have hemp : t.toList.isEmpty = false := by
    rw [ht, toList_B]
    cases l with
    | nil => simp at h1
    | cons c r => rfl
  have hcv := Lib.run_convert_string_bytes (P := Tryd.prog) w 9 57 5 t (u := .string) Tryd.underlying9 Tryd.underlying57 Tryd.underlying5
  have hB : ∀ j, j < t.size → (Lib.bytesWorld w 5 t).cell? ⟨w.heap.size, j, none⟩ = some (.int .u8 (l.getD j 0).toNat) := fun j hj => by
    have := Lib.bytesWorld_cell w 5 t j hj
    rw [ht, data_B, ← ht] at this
    exact this
  have hW := Lib.bytesWorld_below w 5 t
  rw [← ht]
  obtain ⟨W1, hW1⟩ : ∃ W1, W1 = Lib.bytesWorld w 5 t := ⟨_, rfl⟩
  rw [← hW1] at hcv hB hW
  clear hW1 ht
  have hmv : IntKind.u64.wrap (IntKind.u64.wrap 18446744073709551616 - 1) = 18446744073709551615 := by
    rw [IntKind.wrap_u64, IntKind.wrap_u64]
    decide
  have HZ := Lib.hid hsz
  have hs1 : 1 ≤ t.size := by omega
  have hs2 : t.size ≤ 16 := by omega
  clear hsz
  generalize hr : hxR l = r
  have HR : Hid (hxR l = r) := hr
  obtain ⟨R, hR⟩ : ∃ R, R = hxs 0 l := ⟨_, rfl⟩
  have HRR : Hid ((∀ n, R = some n → r = .tuple #[.int .u64 (n : Int), .nilIface]) ∧ (R = none → r = .tuple #[.int .u64 0, .iface 120 (.int .i64 2)])) := by
    subst hr
    unfold hxR
    rw [← hR]
    exact ⟨fun n hn => by rw [hn], fun hn => by rw [hn]⟩
  clear hr HR
  go_enter Tryd.func70, Tryd.ntmps70
  have HWB := Lib.hid hW
  clear hW
  go_wp2_with fail
  go_loop [12, 13, 101] (fun vu vn vi => ∃ (k : Nat) (a : Int), vu = .bool false ∧ vn = .int .u64 a ∧ vi = .int .i64 k ∧ k ≤ t.size ∧ Hid (0 ≤ a ∧ a.toNat < 16 ^ k) ∧ Hid (hxs a.toNat (l.drop k) = R))
    (fun _ _ vi => t.size - (intOf vi).toNat)
  case atStart => exact ⟨0, 0, rfl, rfl, rfl, by omega, (by decide : (0 : Int) ≤ 0 ∧ (0 : Int).toNat < 16 ^ 0), hR.symm⟩
  case round =>
    obtain ⟨k, a, rfl, rfl, rfl, hk, hp, hh⟩ := hrel
    have ha := hh.out
    obtain ⟨a0, hpo⟩ := hp.out
    clear hh hp
    by_cases hkn : k < t.size
    · have hc := hB k hkn
      have hkl : k < l.length := by have := HZ.out; omega
      have hget : l.getD k 0 = l[k] := by simp [List.getD, List.getElem?_eq_getElem hkl]
      have a2 : a.toNat < 16 ^ 15 := Nat.lt_of_lt_of_le hpo (Nat.pow_le_pow_right (by decide : 0 < 16) (by omega : k ≤ 15))
      have a1 : a < 1152921504606846976 := by omega
      clear a2
      rw [hget] at hc
      rw [List.drop_eq_getElem_cons hkl, hxs] at ha
      have hp2 : ∀ d : Int, 0 ≤ d → d < 16 → Hid (0 ≤ a * 16 + d ∧ (a * 16 + d).toNat < 16 ^ (k + 1)) := fun d h0 hd => Lib.hid ⟨by omega, by rw [Nat.pow_succ]; omega⟩
      generalize l[k] = c at hc ha
      have hc256 : c.toNat < 256 := c.toNat_lt
      have hy256 := low_lt c
      have LW := fun (w : World) => lower_low c w
      clear hB hget h2 hkl h1 hpo
      by_cases hdig : 48 ≤ c.toNat ∧ c.toNat ≤ 57
      · have hv : hxv c = some (c.toNat - 48) := by unfold hxv; rw [if_pos hdig]
        rw [hv, Option.bind_some] at ha
        obtain ⟨d0, d1⟩ := hdig
        have HP := hp2 ((c.toNat : Int) - 48) (by omega) (by omega)
        rw [show a.toNat * 16 + (c.toNat - 48) = (a * 16 + ((c.toNat : Int) - 48)).toNat by omega] at ha
        have HA := Lib.hid ha
        clear ha hv LW hp2
        go_wp2
        refine ⟨⟨k + 1, a * 16 + ((c.toNat : Int) - 48), rfl, (by first | rfl | (congr 1; omega)), (by first | rfl | (congr 1; omega)), by omega, HP, HA⟩, by simp [intOf]; omega⟩
      · by_cases hlet : 97 ≤ low c ∧ low c ≤ 102
        · have hv : hxv c = some (low c - 87) := by unfold hxv; rw [if_neg hdig, if_pos hlet]
          rw [hv, Option.bind_some] at ha
          obtain ⟨l0, l1⟩ := hlet
          have HP := hp2 ((low c : Int) - 97 + 10) (by omega) (by omega)
          rw [show a.toNat * 16 + (low c - 87) = (a * 16 + ((low c : Int) - 97 + 10)).toNat by omega] at ha
          have HA := Lib.hid ha
          have e95 : ((c.toNat : Int) == 95) = false := beq_eq_false_iff_ne.mpr fun h => by
            have := low_is95 (c := c) (by omega)
            subst this
            revert l1
            decide
          generalize low c = y at *
          clear ha hv hp2
          have hd2 : c.toNat < 48 ∨ 57 < c.toNat := by omega
          clear hdig
          rcases hd2 with hd2 | hd2
          all_goals
            go_wp2_with (go_at_call 83; refine (LW _).mono ?_; rintro e w' ⟨rfl, rfl⟩)
            refine ⟨⟨k + 1, a * 16 + ((y : Int) - 97 + 10), rfl, (by first | rfl | (congr 1; omega)), (by first | rfl | (congr 1; omega)), by omega, HP, HA⟩, by simp [intOf]; omega⟩
        · have hv : hxv c = none := by unfold hxv; rw [if_neg hdig, if_neg hlet]
          rw [hv, Option.bind_none] at ha
          have hrr := HRR.out.2 ha.symm
          subst hrr
          by_cases h95 : c.toNat = 95
          · have := low_is95 h95
            subst this
            clear ha hv hp2 HRR hR LW h95 hdig hlet hc256 hy256
            go_wp2_with (go_at_call 83; refine (low_95 _).mono ?_; rintro e w' ⟨rfl, rfl⟩)
            go_ret2
            exact ⟨rfl, HWB.out⟩
          · have e95 : ((c.toNat : Int) == 95) = false := beq_eq_false_iff_ne.mpr (by omega)
            generalize low c = y at *
            clear ha hv hp2 HRR hR h95
            have hd2 : c.toNat < 48 ∨ 57 < c.toNat := by omega
            have hl2 : y < 97 ∨ (103 ≤ y ∧ y ≤ 122) ∨ 122 < y := by omega
            clear hdig hlet
            rcases hd2 with hd2 | hd2 <;> rcases hl2 with hl2 | ⟨hl2, hl3⟩ | hl2
            all_goals
              go_wp2_with (go_at_call 83; refine (LW _).mono ?_; rintro e w' ⟨rfl, rfl⟩)
              go_ret2
              exact ⟨rfl, HWB.out⟩
    · have hkk : k = t.size := by omega
      subst hkk
      have hz := HZ.out
      rw [List.drop_eq_nil_of_le (by omega), hxs] at ha
      have hrr := HRR.out.1 a.toNat ha.symm
      rw [show ((a.toNat : Nat) : Int) = a by omega] at hrr
      subst hrr
      clear hB ha HRR hR
      go_wp2
      go_ret2
      exact ⟨rfl, HWB.out⟩
end Go.Proofs.YtpjfhdbkkomogaaDoor.Mb
namespace Go.Proofs.YtpjfhdbkkomogaaDoor.Mb
open Go.RowKit Go.Proofs.YtpjfhdbkkomogaaDoorW.PrintWords Go.Proofs.YtpjfhdbkkomogaaDoorW.PrintLast Go.Proofs.YtpjfhdbkkomogaaDoorW.PrintMore Go.Proofs.YtpjfhdbkkomogaaDoor.Px Go.Proofs.YtpjfhdbkkomogaaDoor.Gvn
open Go.Lib (parseIntB)
attribute [local go_sem] run_store_float
set_option maxHeartbeats 1000000 in
set_option maxRecDepth 100000 in
theorem front_plain (l : List UInt8) (hl : l.length ≤ 1000000) (h1 : strings_HasPrefix.f (B l) (B [34]) = some false) (h2 : strings_HasPrefix.f (B l) (B [116, 114, 117, 101]) = some false) (h3 : strings_HasPrefix.f (B l) (B [102, 97, 108, 115, 101]) = some false)
    (h4 : strings_HasPrefix.f (B l) (B [120]) = some false) (h5 : strings_HasPrefix.f (B l) (B [102]) = some false) (v : Int) (b : Bool) (hr : ResI (l.take (lead l)) v b) (w : World) (hw : Errs w) :
    Calls Tryd.prog 33 #[.string (B l)] w fun e w' => e = .returned (.tuple #[Av 1 v ⟨#[]⟩ 0, .string (B (l.drop (lead l))), .bool b]) ∧ Below w.heap.size w w' := by
  have H1 : Hid (strings_HasPrefix.f (B l) (⟨#[34]⟩ : ByteArray) = some false) := h1
  have H2 : Hid (strings_HasPrefix.f (B l) (⟨#[116, 114, 117, 101]⟩ : ByteArray) = some false) := h2
  have H3 : Hid (strings_HasPrefix.f (B l) (⟨#[102, 97, 108, 115, 101]⟩ : ByteArray) = some false) := h3
  have H4 : Hid (strings_HasPrefix.f (B l) (⟨#[120]⟩ : ByteArray) = some false) := h4
  have H5 : Hid (strings_HasPrefix.f (B l) (⟨#[102]⟩ : ByteArray) = some false) := h5
  have PI := fun (w : World) (hw : Errs w) => parseint_any (l.take (lead l)) (by rw [List.length_take]; omega) v b hr w hw
  obtain ⟨m, hm⟩ : ∃ m, m = lead l := ⟨_, rfl⟩
  have hml : m ≤ (B l).size := by rw [hm, size_B]; exact lead_le l
  have hsz : (B l).size ≤ 1000000 := hl
  have HN : Hid (∀ i (h : i < (B l).size), i < m → isNum (B l)[i] = true) := fun i h hi => lead_in l i (by rw [← hm]; exact hi) h
  have HE : Hid (∀ h : m < (B l).size, isNum (B l)[m] = false) := fun h => by subst hm; exact lead_end l h
  have HC : Hid ((B l).extract 0 m = B (l.take (lead l))) := by rw [hm, extract_B]; rfl
  have HD : Hid ((B l).extract m (B l).size = B (l.drop (lead l))) := by rw [hm, tail_B]; rfl
  generalize B (l.drop (lead l)) = rest at HD ⊢
  generalize B (l.take (lead l)) = num at HC PI
  generalize B l = s at *
  have hT1 : Errs (w.alloc zeroCells) := hw.mono (below_zero w)
  have HG : ∀ n, Below (w.alloc zeroCells).heap.size (w.alloc zeroCells) ((w.alloc zeroCells).drewN n) := pw_below_drewN (Below.refl _ _)
  clear h1 h2 h3 h4 h5 hr hl hm hw
  go_enter Tryd.func33, Tryd.ntmps33
  go_wp2_with fail
  go_at_call 44
  refine (strings_HasPrefix.calls _ _ _ _ H1.out).mono ?_
  rintro e w1 ⟨rfl, ⟨n1, rfl⟩⟩
  go_wp2_with fail
  go_at_call 44
  refine (strings_HasPrefix.calls _ _ _ _ H2.out).mono ?_
  rintro e w2 ⟨rfl, ⟨n2, rfl⟩⟩
  go_wp2_with fail
  go_at_call 44
  refine (strings_HasPrefix.calls _ _ _ _ H3.out).mono ?_
  rintro e w3 ⟨rfl, ⟨n3, rfl⟩⟩
  go_wp2_with fail
  go_at_call 44
  refine (strings_HasPrefix.calls _ _ _ _ H4.out).mono ?_
  rintro e w4 ⟨rfl, ⟨n4, rfl⟩⟩
  go_wp2_with fail
  go_at_call 44
  refine (strings_HasPrefix.calls _ _ _ _ H5.out).mono ?_
  rintro e w5 ⟨rfl, ⟨n5, rfl⟩⟩
  clear H1 H2 H3 H4 H5
  go_wp2_with fail
  go_loop [12] (fun i => ∃ k : Nat, k ≤ m ∧ i = .int .i64 k) (fun i => m - (intOf i).toNat)
  case atStart => exact ⟨0, Nat.zero_le _, rfl⟩
  case round =>
    obtain ⟨k, hk, rfl⟩ := hrel
    by_cases hlt : k < s.size
    · by_cases hkm : k < m
      · have hn := (isNum_iff _).1 (HN.out k hlt hkm)
        by_cases h45 : (s[k].toNat : Int) = 45
        · clear hn
          go_wp2
          go_round
          case rel => exact ⟨k + 1, by omega, by go_num⟩
          case measure => simp [intOf]; omega
        · have e1 : ((s[k].toNat : Int) == 45) = false := beq_eq_false_iff_ne.mpr h45
          have e2 : (48 ≤ (s[k].toNat : Int)) = True := eq_true (by omega)
          have e3 : ((s[k].toNat : Int) ≤ 57) = True := eq_true (by omega)
          clear hn h45
          go_wp2
          go_round
          case rel => exact ⟨k + 1, by omega, by go_num⟩
          case measure => simp [intOf]; omega
      · obtain rfl : k = m := by omega
        have hn : ¬ (s[k].toNat = 45 ∨ (48 ≤ s[k].toNat ∧ s[k].toNat ≤ 57)) := fun h => by
          have h' := (isNum_iff _).2 h
          rw [HE.out hlt] at h'
          cases h'
        have e1 : ((s[k].toNat : Int) == 45) = false := beq_eq_false_iff_ne.mpr (by omega)
        by_cases h48 : 48 ≤ (s[k].toNat : Int)
        · have e2 : (48 ≤ (s[k].toNat : Int)) = True := eq_true h48
          have e3 : ((s[k].toNat : Int) ≤ 57) = False := eq_false (by omega)
          clear hn h48 hkm
          go_wp2_with fail
          rw [HC.out]
          go_at_call 53
          refine (PI _ (hT1.mono (HG _))).mono ?_
          rintro e w6 ⟨⟨ev, rfl, he⟩, hb6⟩
          go_wp2_with fail
          obtain ⟨hc6, hf6⟩ := bcell hb6
          have hz6 := hb6.size
          simp at hz6
          have hz6a : w.heap.size < w6.heap.size := by omega
          clear hz6
          have g0 := hc6 w.heap.size 0 (by simp)
          have g1 := hc6 w.heap.size 1 (by simp)
          have g2 := hc6 w.heap.size 2 (by simp)
          have g3 := hc6 w.heap.size 3 (by simp)
          have f0 := hf6 w.heap.size 0 (by simp)
          have f1 := hf6 w.heap.size 1 (by simp)
          have f2 := hf6 w.heap.size 2 (by simp)
          have f3 := hf6 w.heap.size 3 (by simp)
          simp [go_sem] at g0 g1 g2 g3 f0 f1 f2 f3
          clear hc6 hf6
          rcases he with ⟨rfl, rfl⟩ | ⟨rfl, te, pe, rfl⟩
          all_goals
            go_region
            go_wp2
            refine bodyPost_ret (v := .tuple #[Av 1 v ⟨#[]⟩ 0, .string rest, .bool _]) ?_ rfl ⟨rfl, ?_⟩
            · rw [← HD.out]
              simp [results, Tryd.results33, go_sem, g0, g1, g2, g3]
            · have hB6 : Below w.heap.size w w6 := ((below_zero w).trans (pw_below_drewN (Below.refl _ _) _)).trans (hb6.mono (by simp))
              repeat (first | exact hB6 | apply below_drew1 | refine below_set ?_ (Nat.le_refl _))
        · have e2 : (48 ≤ (s[k].toNat : Int)) = False := eq_false h48
          clear hn h48 hkm
          go_wp2_with fail
          rw [HC.out]
          go_at_call 53
          refine (PI _ (hT1.mono (HG _))).mono ?_
          rintro e w6 ⟨⟨ev, rfl, he⟩, hb6⟩
          go_wp2_with fail
          obtain ⟨hc6, hf6⟩ := bcell hb6
          have hz6 := hb6.size
          simp at hz6
          have hz6a : w.heap.size < w6.heap.size := by omega
          clear hz6
          have g0 := hc6 w.heap.size 0 (by simp)
          have g1 := hc6 w.heap.size 1 (by simp)
          have g2 := hc6 w.heap.size 2 (by simp)
          have g3 := hc6 w.heap.size 3 (by simp)
          have f0 := hf6 w.heap.size 0 (by simp)
          have f1 := hf6 w.heap.size 1 (by simp)
          have f2 := hf6 w.heap.size 2 (by simp)
          have f3 := hf6 w.heap.size 3 (by simp)
          simp [go_sem] at g0 g1 g2 g3 f0 f1 f2 f3
          clear hc6 hf6
          rcases he with ⟨rfl, rfl⟩ | ⟨rfl, te, pe, rfl⟩
          all_goals
            go_region
            go_wp2
            refine bodyPost_ret (v := .tuple #[Av 1 v ⟨#[]⟩ 0, .string rest, .bool _]) ?_ rfl ⟨rfl, ?_⟩
            · rw [← HD.out]
              simp [results, Tryd.results33, go_sem, g0, g1, g2, g3]
            · have hB6 : Below w.heap.size w w6 := ((below_zero w).trans (pw_below_drewN (Below.refl _ _) _)).trans (hb6.mono (by simp))
              repeat (first | exact hB6 | apply below_drew1 | refine below_set ?_ (Nat.le_refl _))
    · obtain rfl : k = m := by omega
      go_wp2_with fail
      rw [HC.out]
      go_at_call 53
      refine (PI _ (hT1.mono (HG _))).mono ?_
      rintro e w6 ⟨⟨ev, rfl, he⟩, hb6⟩
      go_wp2_with fail
      obtain ⟨hc6, hf6⟩ := bcell hb6
      have hz6 := hb6.size
      simp at hz6
      have hz6a : w.heap.size < w6.heap.size := by omega
      clear hz6
      have g0 := hc6 w.heap.size 0 (by simp)
      have g1 := hc6 w.heap.size 1 (by simp)
      have g2 := hc6 w.heap.size 2 (by simp)
      have g3 := hc6 w.heap.size 3 (by simp)
      have f0 := hf6 w.heap.size 0 (by simp)
      have f1 := hf6 w.heap.size 1 (by simp)
      have f2 := hf6 w.heap.size 2 (by simp)
      have f3 := hf6 w.heap.size 3 (by simp)
      simp [go_sem] at g0 g1 g2 g3 f0 f1 f2 f3
      clear hc6 hf6
      rcases he with ⟨rfl, rfl⟩ | ⟨rfl, te, pe, rfl⟩
      all_goals
        go_region
        go_wp2
        refine bodyPost_ret (v := .tuple #[Av 1 v ⟨#[]⟩ 0, .string rest, .bool _]) ?_ rfl ⟨rfl, ?_⟩
        · rw [← HD.out]
          simp [results, Tryd.results33, go_sem, g0, g1, g2, g3]
        · have hB6 : Below w.heap.size w w6 := ((below_zero w).trans (pw_below_drewN (Below.refl _ _) _)).trans (hb6.mono (by simp))
          repeat (first | exact hB6 | apply below_drew1 | refine below_set ?_ (Nat.le_refl _))
set_option maxHeartbeats 1000000 in
set_option maxRecDepth 100000 in
theorem front_short_f (l : List UInt8) (hl : l.length ≤ 1000000) (h1 : strings_HasPrefix.f (B l) (B [34]) = some false) (h2 : strings_HasPrefix.f (B l) (B [116, 114, 117, 101]) = some false) (h3 : strings_HasPrefix.f (B l) (B [102, 97, 108, 115, 101]) = some false)
    (h4 : strings_HasPrefix.f (B l) (B [120]) = some false) (h5 : strings_HasPrefix.f (B l) (B [102]) = some true) (hq : l.length ≤ 16) (v : Int) (b : Bool) (hr : ResI (l.take (lead l)) v b) (w : World) (hw : Errs w) :
    Calls Tryd.prog 33 #[.string (B l)] w fun e w' => e = .returned (.tuple #[Av 1 v ⟨#[]⟩ 0, .string (B (l.drop (lead l))), .bool b]) ∧ Below w.heap.size w w' := by
  have H1 : Hid (strings_HasPrefix.f (B l) (⟨#[34]⟩ : ByteArray) = some false) := h1
  have H2 : Hid (strings_HasPrefix.f (B l) (⟨#[116, 114, 117, 101]⟩ : ByteArray) = some false) := h2
  have H3 : Hid (strings_HasPrefix.f (B l) (⟨#[102, 97, 108, 115, 101]⟩ : ByteArray) = some false) := h3
  have H4 : Hid (strings_HasPrefix.f (B l) (⟨#[120]⟩ : ByteArray) = some false) := h4
  have H5 : Hid (strings_HasPrefix.f (B l) (⟨#[102]⟩ : ByteArray) = some true) := h5
  have PI := fun (w : World) (hw : Errs w) => parseint_any (l.take (lead l)) (by rw [List.length_take]; omega) v b hr w hw
  obtain ⟨m, hm⟩ : ∃ m, m = lead l := ⟨_, rfl⟩
  have hml : m ≤ (B l).size := by rw [hm, size_B]; exact lead_le l
  have hsz : (B l).size ≤ 16 := hq
  have HN : Hid (∀ i (h : i < (B l).size), i < m → isNum (B l)[i] = true) := fun i h hi => lead_in l i (by rw [← hm]; exact hi) h
  have HE : Hid (∀ h : m < (B l).size, isNum (B l)[m] = false) := fun h => by subst hm; exact lead_end l h
  have HC : Hid ((B l).extract 0 m = B (l.take (lead l))) := by rw [hm, extract_B]; rfl
  have HD : Hid ((B l).extract m (B l).size = B (l.drop (lead l))) := by rw [hm, tail_B]; rfl
  generalize B (l.drop (lead l)) = rest at HD ⊢
  generalize B (l.take (lead l)) = num at HC PI
  generalize B l = s at *
  have hT1 : Errs (w.alloc zeroCells) := hw.mono (below_zero w)
  have HG : ∀ n, Below (w.alloc zeroCells).heap.size (w.alloc zeroCells) ((w.alloc zeroCells).drewN n) := pw_below_drewN (Below.refl _ _)
  clear hq h1 h2 h3 h4 h5 hr hl hm hw
  go_enter Tryd.func33, Tryd.ntmps33
  go_wp2_with fail
  go_at_call 44
  refine (strings_HasPrefix.calls _ _ _ _ H1.out).mono ?_
  rintro e w1 ⟨rfl, ⟨n1, rfl⟩⟩
  go_wp2_with fail
  go_at_call 44
  refine (strings_HasPrefix.calls _ _ _ _ H2.out).mono ?_
  rintro e w2 ⟨rfl, ⟨n2, rfl⟩⟩
  go_wp2_with fail
  go_at_call 44
  refine (strings_HasPrefix.calls _ _ _ _ H3.out).mono ?_
  rintro e w3 ⟨rfl, ⟨n3, rfl⟩⟩
  go_wp2_with fail
  go_at_call 44
  refine (strings_HasPrefix.calls _ _ _ _ H4.out).mono ?_
  rintro e w4 ⟨rfl, ⟨n4, rfl⟩⟩
  go_wp2_with fail
  go_at_call 44
  refine (strings_HasPrefix.calls _ _ _ _ H5.out).mono ?_
  rintro e w5 ⟨rfl, ⟨n5, rfl⟩⟩
  clear H1 H2 H3 H4 H5
  go_wp2_with fail
  go_loop [12] (fun i => ∃ k : Nat, k ≤ m ∧ i = .int .i64 k) (fun i => m - (intOf i).toNat)
  case atStart => exact ⟨0, Nat.zero_le _, rfl⟩
  case round =>
    obtain ⟨k, hk, rfl⟩ := hrel
    by_cases hlt : k < s.size
    · by_cases hkm : k < m
      · have hn := (isNum_iff _).1 (HN.out k hlt hkm)
        by_cases h45 : (s[k].toNat : Int) = 45
        · clear hn
          go_wp2
          go_round
          case rel => exact ⟨k + 1, by omega, by go_num⟩
          case measure => simp [intOf]; omega
        · have e1 : ((s[k].toNat : Int) == 45) = false := beq_eq_false_iff_ne.mpr h45
          have e2 : (48 ≤ (s[k].toNat : Int)) = True := eq_true (by omega)
          have e3 : ((s[k].toNat : Int) ≤ 57) = True := eq_true (by omega)
          clear hn h45
          go_wp2
          go_round
          case rel => exact ⟨k + 1, by omega, by go_num⟩
          case measure => simp [intOf]; omega
      · obtain rfl : k = m := by omega
        have hn : ¬ (s[k].toNat = 45 ∨ (48 ≤ s[k].toNat ∧ s[k].toNat ≤ 57)) := fun h => by
          have h' := (isNum_iff _).2 h
          rw [HE.out hlt] at h'
          cases h'
        have e1 : ((s[k].toNat : Int) == 45) = false := beq_eq_false_iff_ne.mpr (by omega)
        by_cases h48 : 48 ≤ (s[k].toNat : Int)
        · have e2 : (48 ≤ (s[k].toNat : Int)) = True := eq_true h48
          have e3 : ((s[k].toNat : Int) ≤ 57) = False := eq_false (by omega)
          clear hn h48 hkm
          go_wp2_with fail
          rw [HC.out]
          go_at_call 53
          refine (PI _ (hT1.mono (HG _))).mono ?_
          rintro e w6 ⟨⟨ev, rfl, he⟩, hb6⟩
          go_wp2_with fail
          obtain ⟨hc6, hf6⟩ := bcell hb6
          have hz6 := hb6.size
          simp at hz6
          have hz6a : w.heap.size < w6.heap.size := by omega
          clear hz6
          have g0 := hc6 w.heap.size 0 (by simp)
          have g1 := hc6 w.heap.size 1 (by simp)
          have g2 := hc6 w.heap.size 2 (by simp)
          have g3 := hc6 w.heap.size 3 (by simp)
          have f0 := hf6 w.heap.size 0 (by simp)
          have f1 := hf6 w.heap.size 1 (by simp)
          have f2 := hf6 w.heap.size 2 (by simp)
          have f3 := hf6 w.heap.size 3 (by simp)
          simp [go_sem] at g0 g1 g2 g3 f0 f1 f2 f3
          clear hc6 hf6
          rcases he with ⟨rfl, rfl⟩ | ⟨rfl, te, pe, rfl⟩
          all_goals
            go_region
            go_wp2
            refine bodyPost_ret (v := .tuple #[Av 1 v ⟨#[]⟩ 0, .string rest, .bool _]) ?_ rfl ⟨rfl, ?_⟩
            · rw [← HD.out]
              simp [results, Tryd.results33, go_sem, g0, g1, g2, g3]
            · have hB6 : Below w.heap.size w w6 := ((below_zero w).trans (pw_below_drewN (Below.refl _ _) _)).trans (hb6.mono (by simp))
              repeat (first | exact hB6 | apply below_drew1 | refine below_set ?_ (Nat.le_refl _))
        · have e2 : (48 ≤ (s[k].toNat : Int)) = False := eq_false h48
          clear hn h48 hkm
          go_wp2_with fail
          rw [HC.out]
          go_at_call 53
          refine (PI _ (hT1.mono (HG _))).mono ?_
          rintro e w6 ⟨⟨ev, rfl, he⟩, hb6⟩
          go_wp2_with fail
          obtain ⟨hc6, hf6⟩ := bcell hb6
          have hz6 := hb6.size
          simp at hz6
          have hz6a : w.heap.size < w6.heap.size := by omega
          clear hz6
          have g0 := hc6 w.heap.size 0 (by simp)
          have g1 := hc6 w.heap.size 1 (by simp)
          have g2 := hc6 w.heap.size 2 (by simp)
          have g3 := hc6 w.heap.size 3 (by simp)
          have f0 := hf6 w.heap.size 0 (by simp)
          have f1 := hf6 w.heap.size 1 (by simp)
          have f2 := hf6 w.heap.size 2 (by simp)
          have f3 := hf6 w.heap.size 3 (by simp)
          simp [go_sem] at g0 g1 g2 g3 f0 f1 f2 f3
          clear hc6 hf6
          rcases he with ⟨rfl, rfl⟩ | ⟨rfl, te, pe, rfl⟩
          all_goals
            go_region
            go_wp2
            refine bodyPost_ret (v := .tuple #[Av 1 v ⟨#[]⟩ 0, .string rest, .bool _]) ?_ rfl ⟨rfl, ?_⟩
            · rw [← HD.out]
              simp [results, Tryd.results33, go_sem, g0, g1, g2, g3]
            · have hB6 : Below w.heap.size w w6 := ((below_zero w).trans (pw_below_drewN (Below.refl _ _) _)).trans (hb6.mono (by simp))
              repeat (first | exact hB6 | apply below_drew1 | refine below_set ?_ (Nat.le_refl _))
    · obtain rfl : k = m := by omega
      go_wp2_with fail
      rw [HC.out]
      go_at_call 53
      refine (PI _ (hT1.mono (HG _))).mono ?_
      rintro e w6 ⟨⟨ev, rfl, he⟩, hb6⟩
      go_wp2_with fail
      obtain ⟨hc6, hf6⟩ := bcell hb6
      have hz6 := hb6.size
      simp at hz6
      have hz6a : w.heap.size < w6.heap.size := by omega
      clear hz6
      have g0 := hc6 w.heap.size 0 (by simp)
      have g1 := hc6 w.heap.size 1 (by simp)
      have g2 := hc6 w.heap.size 2 (by simp)
      have g3 := hc6 w.heap.size 3 (by simp)
      have f0 := hf6 w.heap.size 0 (by simp)
      have f1 := hf6 w.heap.size 1 (by simp)
      have f2 := hf6 w.heap.size 2 (by simp)
      have f3 := hf6 w.heap.size 3 (by simp)
      simp [go_sem] at g0 g1 g2 g3 f0 f1 f2 f3
      clear hc6 hf6
      rcases he with ⟨rfl, rfl⟩ | ⟨rfl, te, pe, rfl⟩
      all_goals
        go_region
        go_wp2
        refine bodyPost_ret (v := .tuple #[Av 1 v ⟨#[]⟩ 0, .string rest, .bool _]) ?_ rfl ⟨rfl, ?_⟩
        · rw [← HD.out]
          simp [results, Tryd.results33, go_sem, g0, g1, g2, g3]
        · have hB6 : Below w.heap.size w w6 := ((below_zero w).trans (pw_below_drewN (Below.refl _ _) _)).trans (hb6.mono (by simp))
          repeat (first | exact hB6 | apply below_drew1 | refine below_set ?_ (Nat.le_refl _))
end Go.Proofs.YtpjfhdbkkomogaaDoor.Mb
namespace Go.Proofs.YtpjfhdbkkomogaaDoor.Mb
open Go.RowKit Go.Proofs.YtpjfhdbkkomogaaDoorW.PrintWords Go.Proofs.YtpjfhdbkkomogaaDoorW.PrintLast Go.Proofs.YtpjfhdbkkomogaaDoorW.PrintMore Go.Proofs.YtpjfhdbkkomogaaDoor.Px Go.Proofs.YtpjfhdbkkomogaaDoor.Gvn
attribute [local go_sem] run_store_float
theorem toError_any (fn s : ByteArray) (h : s.size ≤ 1000) (w : World) (hw : Errs w) :
    Calls Tryd.prog 71 #[.string fn, .string s, .int .i64 16, .int .i64 64, .iface 120 (.int .i64 2)] w fun e w' => (∃ te pe, e = .returned (.iface te pe)) ∧ Below w.heap.size w w' := by
  obtain ⟨te, pe, h1⟩ := hw.syn
  exact (AnyPu.strconv_toError_syntax Tryd.te17 fn s 16 64 (.iface te pe) w (by omega) h1 (.inr ⟨te, pe, rfl⟩)).mono fun e w' ⟨N, he, _, _, hb⟩ => ⟨⟨_, _, he⟩, hb⟩
def Res16 (l : List UInt8) (v : Int) (b : Bool) : Prop := (∃ n : Nat, hxs 0 l = some n ∧ v = n ∧ b = true) ∨ (hxs 0 l = none ∧ v = 0 ∧ b = false)
theorem parse16g (l : List UInt8) (h1 : 1 ≤ l.length) (h2 : l.length ≤ 16) (v : Int) (b : Bool) (hr : Res16 l v b) (w : World) (hw : Errs w) :
    Calls Tryd.prog 52 #[.string (B l), .int .i64 16, .int .i64 64] w fun e w' => (∃ ev, e = .returned (.tuple #[.int .u64 v, ev]) ∧ IsErr b ev) ∧ Below w.heap.size w w' := by
  have PI := fun (w : World) => parse16g_in l h1 h2 w
  have hz : (B l).size ≤ 1000 := by rw [size_B]; omega
  have TE := fun (w : World) (hw : Errs w) => toError_any ⟨#[80, 97, 114, 115, 101, 85, 105, 110, 116]⟩ (B l) hz w hw
  rcases hr with ⟨n, hn, rfl, rfl⟩ | ⟨hn, rfl, rfl⟩
  · have e : hxR l = .tuple #[.int .u64 (n : Int), .nilIface] := by unfold hxR; rw [hn]
    rw [e] at PI
    generalize B l = t at *
    clear h1 h2 hn e TE
    go_enter Tryd.func52, Tryd.ntmps52
    go_wp2_with fail
    go_at_call 70
    refine (PI _).mono ?_
    rintro e w1 ⟨rfl, hb1⟩
    go_wp2
    go_ret2
    exact ⟨⟨_, rfl, .inl ⟨rfl, rfl⟩⟩, hb1⟩
  · have e : hxR l = .tuple #[.int .u64 0, .iface 120 (.int .i64 2)] := by unfold hxR; rw [hn]
    rw [e] at PI
    generalize B l = t at *
    clear h1 h2 hn e
    go_enter Tryd.func52, Tryd.ntmps52
    go_wp2_with fail
    go_at_call 70
    refine (PI _).mono ?_
    rintro e w1 ⟨rfl, hb1⟩
    go_wp2_with fail
    go_at_call 71
    refine (TE _ (hw.mono hb1)).mono ?_
    rintro e w2 ⟨⟨te, pe, rfl⟩, hb2⟩
    go_wp2
    go_ret2
    exact ⟨⟨_, rfl, .inr ⟨rfl, te, pe, rfl⟩⟩, hb1.trans (hb2.mono hb1.size)⟩
theorem take_app (l m p : List UInt8) (h : p.length ≤ l.length + 1) : (102 :: (l ++ m)).take p.length = (102 :: l).take p.length := by
  rw [← List.cons_append, List.take_append_of_le_length (by rw [List.length_cons]; exact h)]
set_option maxHeartbeats 4000000 in
set_option maxRecDepth 100000 in
theorem front_floatg (l m : List UInt8) (h : l.length = 16) (hm : m.length ≤ 10000) (hnf : ¬ [97, 108, 115, 101] <+: l) (n : Nat) (b : Bool) (hr : Res16 l n b) (w : World) (hw : Errs w) :
    Calls Tryd.prog 33 #[.string (B (102 :: (l ++ m)))] w fun e w' => e = .returned (.tuple #[Av 5 0 ⟨#[]⟩ n, .string (B m), .bool b]) ∧ Below w.heap.size w w' := by
  have H1 : Hid (strings_HasPrefix.f (B (102 :: (l ++ m))) (⟨#[34]⟩ : ByteArray) = some false) := (hasPrefix_is (102 :: (l ++ m)) [34]).trans (by simp)
  have H2 : Hid (strings_HasPrefix.f (B (102 :: (l ++ m))) (⟨#[116, 114, 117, 101]⟩ : ByteArray) = some false) := (hasPrefix_is (102 :: (l ++ m)) [116, 114, 117, 101]).trans (by simp)
  have H3 : Hid (strings_HasPrefix.f (B (102 :: (l ++ m))) (⟨#[102, 97, 108, 115, 101]⟩ : ByteArray) = some false) := (hasPrefix_is (102 :: (l ++ m)) [102, 97, 108, 115, 101]).trans (by
    congr 1
    rw [beq_eq_false_iff_ne, take_app l m [102, 97, 108, 115, 101] (by simp; omega)]
    intro he
    simp only [List.length_cons, List.length_nil, List.take_succ_cons, List.cons.injEq, true_and] at he
    exact hnf ⟨l.drop 4, by rw [← he]; exact List.take_append_drop 4 l⟩)
  have H4 : Hid (strings_HasPrefix.f (B (102 :: (l ++ m))) (⟨#[120]⟩ : ByteArray) = some false) := (hasPrefix_is (102 :: (l ++ m)) [120]).trans (by simp)
  have H5 : Hid (strings_HasPrefix.f (B (102 :: (l ++ m))) (⟨#[102]⟩ : ByteArray) = some true) := (hasPrefix_is (102 :: (l ++ m)) [102]).trans (by simp)
  have PI := fun (w : World) (hw : Errs w) => parse16g l (by omega) (by omega) n b hr w hw
  have hs0 : (B (102 :: (l ++ m))).size = 17 + m.length := by rw [size_B, List.length_cons, List.length_append]; omega
  have HC : Hid ((B (102 :: (l ++ m))).extract 1 17 = B l) := Lib.hid (by
    rw [extract_B, List.drop_succ_cons, List.drop_zero, show 17 - 1 = 16 from rfl, ← h, List.take_left])
  have HD : Hid ((B (102 :: (l ++ m))).extract 17 (B (102 :: (l ++ m))).size = B m) := Lib.hid (by
    rw [tail_B, List.drop_succ_cons, ← h, List.drop_left])
  have hs1 : 17 ≤ (B (102 :: (l ++ m))).size := by omega
  have hs2 : (B (102 :: (l ++ m))).size ≤ 100000 := by omega
  have hsI : (17 : Int) ≤ ((B (102 :: (l ++ m))).size : Int) := by omega
  clear hs0
  generalize B m = rest at HD ⊢
  generalize B (102 :: (l ++ m)) = s at *
  generalize B l = num at HC PI
  have hT1 : Errs (w.alloc zeroCells) := hw.mono (below_zero w)
  have HG : ∀ n, Below (w.alloc zeroCells).heap.size (w.alloc zeroCells) ((w.alloc zeroCells).drewN n) := pw_below_drewN (Below.refl _ _)
  have k22 := run22
  clear h hm hr hnf hw
  go_enter Tryd.func33, Tryd.ntmps33
  go_wp2_with fail
  go_at_call 44
  refine (strings_HasPrefix.calls _ _ _ _ H1.out).mono ?_
  rintro e w1 ⟨rfl, ⟨n1, rfl⟩⟩
  go_wp2_with fail
  go_at_call 44
  refine (strings_HasPrefix.calls _ _ _ _ H2.out).mono ?_
  rintro e w2 ⟨rfl, ⟨n2, rfl⟩⟩
  go_wp2_with fail
  go_at_call 44
  refine (strings_HasPrefix.calls _ _ _ _ H3.out).mono ?_
  rintro e w3 ⟨rfl, ⟨n3, rfl⟩⟩
  go_wp2_with fail
  go_at_call 44
  refine (strings_HasPrefix.calls _ _ _ _ H4.out).mono ?_
  rintro e w4 ⟨rfl, ⟨n4, rfl⟩⟩
  go_wp2_with fail
  go_at_call 44
  refine (strings_HasPrefix.calls _ _ _ _ H5.out).mono ?_
  rintro e w5 ⟨rfl, ⟨n5, rfl⟩⟩
  clear H1 H2 H3 H4 H5
  go_wp2_with fail
  rw [HC.out]
  go_at_call 52
  refine (PI _ (hT1.mono (HG _))).mono ?_
  rintro e w6 ⟨⟨ev, rfl, he⟩, hb6⟩
  go_wp2_with fail
  obtain ⟨hc6, hf6⟩ := bcell hb6
  have hz6 := hb6.size
  simp at hz6
  have hz6a : w.heap.size < w6.heap.size := by omega
  clear hz6
  have g0 := hc6 w.heap.size 0 (by simp)
  have g1 := hc6 w.heap.size 1 (by simp)
  have g2 := hc6 w.heap.size 2 (by simp)
  have g3 := hc6 w.heap.size 3 (by simp)
  have f0 := hf6 w.heap.size 0 (by simp)
  have f1 := hf6 w.heap.size 1 (by simp)
  have f2 := hf6 w.heap.size 2 (by simp)
  have f3 := hf6 w.heap.size 3 (by simp)
  simp [go_sem] at g0 g1 g2 g3 f0 f1 f2 f3
  clear hc6 hf6
  rcases he with ⟨rfl, rfl⟩ | ⟨rfl, te, pe, rfl⟩
  all_goals
    go_region
    go_wp2
    refine bodyPost_ret (v := .tuple #[Av 5 0 ⟨#[]⟩ n, .string rest, .bool _]) ?_ rfl ⟨rfl, ?_⟩
    · rw [← HD.out]
      simp [results, Tryd.results33, go_sem, g0, g1, g2, g3]
    · have hB6 : Below w.heap.size w w6 := ((below_zero w).trans (pw_below_drewN (Below.refl _ _) _)).trans (hb6.mono (by simp))
      repeat (first | exact hB6 | apply below_drew1 | refine below_set ?_ (Nat.le_refl _))
end Go.Proofs.YtpjfhdbkkomogaaDoor.Mb
