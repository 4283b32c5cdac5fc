/- Texts of this claim, one behind the other. -/
import Derived.Test.YtpjfhdbkkomogaaDoorH1
import Derived.Test.YtpjfhdbkkomogaaDoorH3
import Derived.Test.YtpjfhdbkkomogaaDoorH7
import Derived.Test.YtpjfhdbkkomogaaDoorH9
import Derived.Test.YtpjfhdbkkomogaaDoorH8
import Derived.Test.YtpjfhdbkkomogaaDoorH5
namespace Go.Proofs.YtpjfhdbkkomogaaDoor.Px
open Go.RowKit Go.Proofs.YtpjfhdbkkomogaaDoor.Gvn Go.Proofs.YtpjfhdbkkomogaaDoorW.PrintWords Go.Proofs.YtpjfhdbkkomogaaDoorW.PrintLast Go.Proofs.YtpjfhdbkkomogaaDoorW.PrintMore
attribute [local go_sem] run_store_float min2_int min_two
set_option linter.unusedVariables false
set_option linter.unusedSimpArgs false
def rialtoref4_Parse.f (k : Nat) (a0 : ByteArray) : Option (Int × Int × ByteArray × Nat × Int) := (rialtoref4_read.f k a0).bind fun bt291 => ((rialtoref2_Is.f k bt291.1 bt291.2.1 bt291.2.2.1 bt291.2.2.2).bind fun t296 => (if t296 = true then ((rialtoref4_Print.f k bt291.1 bt291.2.1 bt291.2.2.1 bt291.2.2.2).bind fun t297 => (if t297.toList = a0.toList then (some (bt291.1, bt291.2.1, bt291.2.2.1, bt291.2.2.2, 0)) else (some (0, 0, (⟨#[]⟩ : ByteArray), 0, 30)))) else (some (0, 0, (⟨#[]⟩ : ByteArray), 0, 30))))
theorem rialtoref4_Parse.mono : ∀ a0 k, LeO (rialtoref4_Parse.f k a0) (rialtoref4_Parse.f (k + 1) a0) := by
 intro a0 k
 unfold rialtoref4_Parse.f
 repeat' first
   | (with_reducible exact rialtoref2_Is.mono _ _ _ _ _)
   | (with_reducible exact rialtoref4_Print.mono _ _ _ _ _)
   | (with_reducible exact rialtoref4_read.mono _ _)
   | (with_reducible exact LeO.refl _)
   | (with_reducible exact LeO.none _)
   | (with_reducible refine LeO.ite ?_ ?_)
   | (with_reducible refine LeO.bind ?_ (fun _ => ?_))
   | exact rialtoref2_Is.mono _ _ _ _ _
   | exact rialtoref4_Print.mono _ _ _ _ _
   | exact rialtoref4_read.mono _ _
   | exact LeO.none _
   | refine LeO.ite ?_ ?_
   | refine LeO.bind ?_ (fun _ => ?_)
set_option maxHeartbeats 8000000 in
set_option maxRecDepth 100000 in
theorem rialtoref4_Parse.calls (k : Nat) (a0 : ByteArray) (r1 : Int) (r2 : Int) (r3 : ByteArray) (r4 : Nat) (r5 : Int) (w : World) (h : rialtoref4_Parse.f k a0 = some (r1, r2, r3, r4, r5)) :
  Calls Tryd.prog 15 #[.string a0] w fun e w' => e = .returned (.tuple #[.agg #[.int .i64 r1, .int .i64 r2, .string r3, .float .f64 r4], .int .i64 r5]) ∧ Below w.heap.size w w' := by
 have hu24 := Tryd.underlying24
 have HB := Aside0.mk (Below.refl w.heap.size w)
 have H : ((rialtoref4_read.f k a0).bind fun bt291 => ((rialtoref2_Is.f k bt291.1 bt291.2.1 bt291.2.2.1 bt291.2.2.2).bind fun t296 => (if t296 = true then ((rialtoref4_Print.f k bt291.1 bt291.2.1 bt291.2.2.1 bt291.2.2.2).bind fun t297 => (if t297.toList = a0.toList then (some (bt291.1, bt291.2.1, bt291.2.2.1, bt291.2.2.2, 0)) else (some (0, 0, (⟨#[]⟩ : ByteArray), 0, 30)))) else (some (0, 0, (⟨#[]⟩ : ByteArray), 0, 30))))) = some (r1, r2, r3, r4, r5) := h
 clear h
 replace H := Option.bind_eq_some_iff.mp H
 obtain ⟨⟨t291, t292, t293, t294⟩, A20, H⟩ := H
 replace H : ((rialtoref2_Is.f k t291 t292 t293 t294).bind fun t296 => (if t296 = true then ((rialtoref4_Print.f k t291 t292 t293 t294).bind fun t297 => (if t297.toList = a0.toList then (some (t291, t292, t293, t294, 0)) else (some (0, 0, (⟨#[]⟩ : ByteArray), 0, 30)))) else (some (0, 0, (⟨#[]⟩ : ByteArray), 0, 30)))) = some (r1, r2, r3, r4, r5) := H
 have A2 := Aside0.mk A20
 clear A20
 replace H := Option.bind_eq_some_iff.mp H
 obtain ⟨t296, A30, H⟩ := H
 replace H : (if t296 = true then ((rialtoref4_Print.f k t291 t292 t293 t294).bind fun t297 => (if t297.toList = a0.toList then (some (t291, t292, t293, t294, 0)) else (some (0, 0, (⟨#[]⟩ : ByteArray), 0, 30)))) else (some (0, 0, (⟨#[]⟩ : ByteArray), 0, 30))) = some (r1, r2, r3, r4, r5) := H
 have A3 := Aside0.mk A30
 clear A30
 by_cases c4 : t296 = true
 ·subst c4
  have H1 : ((rialtoref4_Print.f k t291 t292 t293 t294).bind fun t297 => (if t297.toList = a0.toList then (some (t291, t292, t293, t294, 0)) else (some (0, 0, (⟨#[]⟩ : ByteArray), 0, 30)))) = some (r1, r2, r3, r4, r5) := by rw [if_pos rfl] at H; exact H
  clear H
  have H := H1
  clear H1
  replace H := Option.bind_eq_some_iff.mp H
  obtain ⟨t297, A50, H⟩ := H
  replace H : (if t297.toList = a0.toList then (some (t291, t292, t293, t294, 0)) else (some (0, 0, (⟨#[]⟩ : ByteArray), 0, 30))) = some (r1, r2, r3, r4, r5) := H
  have A5 := Aside0.mk A50
  clear A50
  by_cases c6 : t297.toList = a0.toList
  ·rw [if_pos c6] at H
   have c6b0 : (t297.toList == a0.toList) = true := beq_iff_eq.mpr c6
   have c6b1 : (t297.toList != a0.toList) = false := bne_eq_false_iff_eq.mpr c6
   clear c6
   simp only [Option.some.injEq, Prod.mk.injEq] at H
   obtain ⟨rfl, rfl, rfl, rfl, rfl⟩ := H
   have k23 := run23
   have k22 := run22
   go_enter Tryd.func15, Tryd.ntmps15
   go_wp2_with (first | ((with_reducible refine gate_dst (N := 2) rfl ?_); refine box_event ?hg (N := 2) ?hd (cs := #[.int .i64 0, .int .i64 0, .string (⟨#[]⟩ : ByteArray), .float .f64 0]) (t := 24) ?hr ?_; (case hd => rfl); (case hg => rfl); (case hr => first | (go_simp; done) | (go_simp; rfl)); intro gb290 hg w7 hbox hb; have n0_ := Aside0.mk (below_step (by repeat (first | (with_reducible first | exact HB.out | apply below_alloc | apply pw_below_drewN | apply below_drew1) | exact HB.out)) hb); have n1_ := Aside0.mk (hbox); have n2_ := Aside0.mk ((by rw [hg]; exact (below_size (by repeat (first | (with_reducible first | exact HB.out | apply below_alloc | apply pw_below_drewN | apply below_drew1) | exact HB.out))) : w.heap.size ≤ gb290)); have n3_ := Aside0.mk ((by rw [hg]; exact (below_size (by repeat (first | (with_reducible first | exact HB.out | apply below_alloc | apply pw_below_drewN | apply below_drew1) | exact HB.out))) : w.heap.size ≤ gb290)); clear HB; have HB := n0_; have BK290 := n1_; have GW290 := n2_; have GE290 := n3_; clear n0_ n1_ n2_ n3_; clear hb hbox hg) | ((with_reducible refine gate_callee (f := 34) rfl ?_); refine goesL_ (some 6) rfl rfl Tryd.func34 (by kernel_rfl) rfl #[.string a0] rfl (by (try simp only [List.map_toArray, List.map_cons, List.map_nil]); first | done | rfl | (simp only [List.length_drop, List.length_take]; rfl)) ?_; (with_reducible refine (rialtoref4_read.calls k a0 t291 t292 t293 t294 _ A2.out).mono ?_); rintro e w8 ⟨rfl, hb⟩; refine ⟨_, rfl, ?_⟩; have n0_ := Aside0.mk (blk_below (g := gb290) (o := .cells #[.int .i64 0, .int .i64 0, .string (⟨#[]⟩ : ByteArray), .float .f64 0] 24 (0, 0)) (by (with_reducible repeat (first | refine blk_drewN ?_ _ | refine blk_drew ?_ | refine blk_alloc ?_ _)); exact BK290.out) hb); have n1_ := Aside0.mk (below_step (by repeat (first | (with_reducible first | exact HB.out | apply below_alloc | apply pw_below_drewN | apply below_drew1 | refine below_set ?_ GE290.out) | exact HB.out)) hb); clear BK290; clear HB; have BK290 := n0_; have HB := n1_; clear n0_ n1_; (try clear hb); (try clear hb2); (try clear hk); (try clear hi)) | ((with_reducible refine gate_dst (N := 4) rfl ?_); refine box_event ?hg (N := 4) ?hd (cs := #[.int .i64 0, .int .i64 0, .string (⟨#[]⟩ : ByteArray), .float .f64 0]) (t := 24) ?hr ?_; (case hd => rfl); (case hg => rfl); (case hr => first | (go_simp; done) | (go_simp; rfl)); intro gb295 hg w9 hbox hb; have n0_ := Aside0.mk (blk_below (g := gb290) (o := .cells #[.int .i64 0, .int .i64 0, .string (⟨#[]⟩ : ByteArray), .float .f64 0] 24 (0, 0)) (by (with_reducible repeat (first | refine blk_drewN ?_ _ | refine blk_drew ?_ | refine blk_alloc ?_ _)); exact BK290.out) hb); have n1_ := Aside0.mk (below_step (by repeat (first | (with_reducible first | exact HB.out | apply below_alloc | apply pw_below_drewN | apply below_drew1 | refine below_set ?_ GE290.out) | exact HB.out)) hb); have n2_ := Aside0.mk (hbox); have n3_ := Aside0.mk ((by rw [hg]; exact (below_size (by repeat (first | (with_reducible first | exact HB.out | apply below_alloc | apply pw_below_drewN | apply below_drew1 | refine below_set ?_ GE290.out) | exact HB.out))) : w.heap.size ≤ gb295)); have n4_ := Aside0.mk ((by rw [hg]; exact (below_size (by repeat (first | (with_reducible first | exact HB.out | apply below_alloc | apply pw_below_drewN | apply below_drew1 | refine below_set ?_ GE290.out) | exact HB.out))) : w.heap.size ≤ gb295)); have n5_ := Aside0.mk ((by rw [hg]; exact Nat.ne_of_lt (blk_lt (g := gb290) (o := .cells #[.int .i64 0, .int .i64 0, .string (⟨#[]⟩ : ByteArray), .float .f64 0] 24 (0, 0)) (by (with_reducible repeat (first | refine blk_drewN ?_ _ | refine blk_drew ?_ | refine blk_alloc ?_ _)); exact BK290.out)) : gb290 ≠ gb295)); have n6_ := Aside0.mk ((by rw [hg]; exact Nat.ne_of_gt (blk_lt (g := gb290) (o := .cells #[.int .i64 0, .int .i64 0, .string (⟨#[]⟩ : ByteArray), .float .f64 0] 24 (0, 0)) (by (with_reducible repeat (first | refine blk_drewN ?_ _ | refine blk_drew ?_ | refine blk_alloc ?_ _)); exact BK290.out)) : gb295 ≠ gb290)); clear BK290; clear HB; have BK290 := n0_; have HB := n1_; have BK295 := n2_; have GW295 := n3_; have GE295 := n4_; have NB290_295 := n5_; have NB295_290 := n6_; clear n0_ n1_ n2_ n3_ n4_ n5_ n6_; clear hb hbox hg; have hnb10 := NB295_290.out; have hnc10 := NB290_295.out; have hcz11_0 : w9.cell? ⟨gb295, 0, none⟩ = some (.int .i64 0) := (blk_cell BK295.out 0).trans rfl; have hcz11_1 : w9.cell? ⟨gb295, 1, none⟩ = some (.int .i64 0) := (blk_cell BK295.out 1).trans rfl; have hcz11_2 : w9.cell? ⟨gb295, 2, none⟩ = some (.string (⟨#[]⟩ : ByteArray)) := (blk_cell BK295.out 2).trans rfl; have hcz11_3 : w9.cell? ⟨gb295, 3, none⟩ = some (.float .f64 0) := (blk_cell BK295.out 3).trans rfl; have hfz11_0 := blk_frozen BK295.out 0; have hfz11_1 := blk_frozen BK295.out 1; have hfz11_2 := blk_frozen BK295.out 2; have hfz11_3 := blk_frozen BK295.out 3) | ((with_reducible refine gate_callee (f := 20) rfl ?_); refine goesL_ (some 8) rfl rfl Tryd.func20 (by kernel_rfl) rfl #[.agg #[.int .i64 t291, .int .i64 t292, .string t293, .float .f64 t294]] rfl (by (try simp only [List.map_toArray, List.map_cons, List.map_nil]); first | done | rfl | (simp only [List.length_drop, List.length_take]; rfl)) ?_; (with_reducible refine (rialtoref2_Is.calls k t291 t292 t293 t294 true _ A3.out).mono ?_); rintro e w12 ⟨rfl, hb⟩; refine ⟨_, rfl, ?_⟩; have n0_ := Aside0.mk (blk_below (g := gb290) (o := .cells #[.int .i64 0, .int .i64 0, .string (⟨#[]⟩ : ByteArray), .float .f64 0] 24 (0, 0)) (by (with_reducible repeat (first | refine blk_drewN ?_ _ | refine blk_drew ?_ | refine blk_alloc ?_ _)); refine blk_far ?_ NB290_295.out _; (with_reducible repeat (first | refine blk_drewN ?_ _ | refine blk_drew ?_ | refine blk_alloc ?_ _)); refine blk_far ?_ NB290_295.out _; (with_reducible repeat (first | refine blk_drewN ?_ _ | refine blk_drew ?_ | refine blk_alloc ?_ _)); refine blk_far ?_ NB290_295.out _; (with_reducible repeat (first | refine blk_drewN ?_ _ | refine blk_drew ?_ | refine blk_alloc ?_ _)); refine blk_far ?_ NB290_295.out _; (with_reducible repeat (first | refine blk_drewN ?_ _ | refine blk_drew ?_ | refine blk_alloc ?_ _)); exact BK290.out) hb); have n1_ := Aside0.mk (blk_below (g := gb295) (o := .cells #[.int .i64 t291, .int .i64 t292, .string t293, .float .f64 t294] 24 (0, 0)) (by (with_reducible repeat (first | refine blk_drewN ?_ _ | refine blk_drew ?_ | refine blk_alloc ?_ _)); refine blk_put (cs := #[.int .i64 t291, .int .i64 t292, .string t293, .float .f64 0]) ?_ 3 _ rfl; (with_reducible repeat (first | refine blk_drewN ?_ _ | refine blk_drew ?_ | refine blk_alloc ?_ _)); refine blk_put (cs := #[.int .i64 t291, .int .i64 t292, .string (⟨#[]⟩ : ByteArray), .float .f64 0]) ?_ 2 _ rfl; (with_reducible repeat (first | refine blk_drewN ?_ _ | refine blk_drew ?_ | refine blk_alloc ?_ _)); refine blk_put (cs := #[.int .i64 t291, .int .i64 0, .string (⟨#[]⟩ : ByteArray), .float .f64 0]) ?_ 1 _ rfl; (with_reducible repeat (first | refine blk_drewN ?_ _ | refine blk_drew ?_ | refine blk_alloc ?_ _)); refine blk_put (cs := #[.int .i64 0, .int .i64 0, .string (⟨#[]⟩ : ByteArray), .float .f64 0]) ?_ 0 _ rfl; (with_reducible repeat (first | refine blk_drewN ?_ _ | refine blk_drew ?_ | refine blk_alloc ?_ _)); exact BK295.out) hb); have n2_ := Aside0.mk (below_step (by repeat (first | (with_reducible first | exact HB.out | apply below_alloc | apply pw_below_drewN | apply below_drew1 | refine below_set ?_ GE290.out | refine below_set ?_ GE295.out) | exact HB.out)) hb); clear BK290; clear BK295; clear HB; have BK290 := n0_; have BK295 := n1_; have HB := n2_; clear n0_ n1_ n2_; (try clear hb); (try clear hb2); (try clear hk); (try clear hi); have hcz13_0 : w12.cell? ⟨gb295, 0, none⟩ = some (.int .i64 t291) := (blk_cell BK295.out 0).trans rfl; have hcz13_1 : w12.cell? ⟨gb295, 1, none⟩ = some (.int .i64 t292) := (blk_cell BK295.out 1).trans rfl; have hcz13_2 : w12.cell? ⟨gb295, 2, none⟩ = some (.string t293) := (blk_cell BK295.out 2).trans rfl; have hcz13_3 : w12.cell? ⟨gb295, 3, none⟩ = some (.float .f64 t294) := (blk_cell BK295.out 3).trans rfl; have hfz13_0 := blk_frozen BK295.out 0; have hfz13_1 := blk_frozen BK295.out 1; have hfz13_2 := blk_frozen BK295.out 2; have hfz13_3 := blk_frozen BK295.out 3) | (go_at_call 11; (with_reducible refine (rialtoref4_Print.calls k t291 t292 t293 t294 t297 _ A5.out).mono ?_); rintro e w14 ⟨rfl, hb⟩; have n0_ := Aside0.mk (blk_below (g := gb290) (o := .cells #[.int .i64 0, .int .i64 0, .string (⟨#[]⟩ : ByteArray), .float .f64 0] 24 (0, 0)) (by (with_reducible repeat (first | refine blk_drewN ?_ _ | refine blk_drew ?_ | refine blk_alloc ?_ _)); exact BK290.out) hb); have n1_ := Aside0.mk (blk_below (g := gb295) (o := .cells #[.int .i64 t291, .int .i64 t292, .string t293, .float .f64 t294] 24 (0, 0)) (by (with_reducible repeat (first | refine blk_drewN ?_ _ | refine blk_drew ?_ | refine blk_alloc ?_ _)); exact BK295.out) hb); have n2_ := Aside0.mk (below_step (by repeat (first | (with_reducible first | exact HB.out | apply below_alloc | apply pw_below_drewN | apply below_drew1 | refine below_set ?_ GE290.out | refine below_set ?_ GE295.out) | exact HB.out)) hb); clear BK290; clear BK295; clear HB; have BK290 := n0_; have BK295 := n1_; have HB := n2_; clear n0_ n1_ n2_; (try clear hb); (try clear hb2); (try clear hk); (try clear hi); have hcz15_0 : w14.cell? ⟨gb295, 0, none⟩ = some (.int .i64 t291) := (blk_cell BK295.out 0).trans rfl; have hcz15_1 : w14.cell? ⟨gb295, 1, none⟩ = some (.int .i64 t292) := (blk_cell BK295.out 1).trans rfl; have hcz15_2 : w14.cell? ⟨gb295, 2, none⟩ = some (.string t293) := (blk_cell BK295.out 2).trans rfl; have hcz15_3 : w14.cell? ⟨gb295, 3, none⟩ = some (.float .f64 t294) := (blk_cell BK295.out 3).trans rfl; have hfz15_0 := blk_frozen BK295.out 0; have hfz15_1 := blk_frozen BK295.out 1; have hfz15_2 := blk_frozen BK295.out 2; have hfz15_3 := blk_frozen BK295.out 3; have hcz16_0 : w14.cell? ⟨gb290, 0, none⟩ = some (.int .i64 0) := (blk_cell BK290.out 0).trans rfl; have hcz16_1 : w14.cell? ⟨gb290, 1, none⟩ = some (.int .i64 0) := (blk_cell BK290.out 1).trans rfl; have hcz16_2 : w14.cell? ⟨gb290, 2, none⟩ = some (.string (⟨#[]⟩ : ByteArray)) := (blk_cell BK290.out 2).trans rfl; have hcz16_3 : w14.cell? ⟨gb290, 3, none⟩ = some (.float .f64 0) := (blk_cell BK290.out 3).trans rfl; have hfz16_0 := blk_frozen BK290.out 0; have hfz16_1 := blk_frozen BK290.out 1; have hfz16_2 := blk_frozen BK290.out 2; have hfz16_3 := blk_frozen BK290.out 3))
   refine bodyPost_ret (results_ct rfl _ _ gb290 24 #[.int .i64 t291, .int .i64 t292, .string t293, .float .f64 t294] (0, 0) _ rfl (by (with_reducible repeat (first | refine blk_drewN ?_ _ | refine blk_drew ?_ | refine blk_alloc ?_ _)); refine blk_put (cs := #[.int .i64 t291, .int .i64 t292, .string t293, .float .f64 0]) ?_ 3 _ rfl; (with_reducible repeat (first | refine blk_drewN ?_ _ | refine blk_drew ?_ | refine blk_alloc ?_ _)); refine blk_put (cs := #[.int .i64 t291, .int .i64 t292, .string (⟨#[]⟩ : ByteArray), .float .f64 0]) ?_ 2 _ rfl; (with_reducible repeat (first | refine blk_drewN ?_ _ | refine blk_drew ?_ | refine blk_alloc ?_ _)); refine blk_put (cs := #[.int .i64 t291, .int .i64 0, .string (⟨#[]⟩ : ByteArray), .float .f64 0]) ?_ 1 _ rfl; (with_reducible repeat (first | refine blk_drewN ?_ _ | refine blk_drew ?_ | refine blk_alloc ?_ _)); refine blk_put (cs := #[.int .i64 0, .int .i64 0, .string (⟨#[]⟩ : ByteArray), .float .f64 0]) ?_ 0 _ rfl; (with_reducible repeat (first | refine blk_drewN ?_ _ | refine blk_drew ?_ | refine blk_alloc ?_ _)); exact BK290.out) Tryd.underlying24 rfl (by kernel_rfl)) rfl ?_
   exact ⟨by first | rfl | (simp [errW_none, errW_some] <;> rfl) | (simp [*, errW_none, errW_some] <;> rfl), by repeat (first | (with_reducible first | exact HB.out | apply below_alloc | apply pw_below_drewN | apply below_drew1 | refine below_set ?_ GE290.out | refine below_set ?_ GE295.out) | exact HB.out)⟩
  ·rw [if_neg c6] at H
   have c6b0 : (t297.toList == a0.toList) = false := beq_eq_false_iff_ne.mpr c6
   have c6b1 : (t297.toList != a0.toList) = true := bne_iff_ne.mpr c6
   simp only [Option.some.injEq, Prod.mk.injEq] at H
   obtain ⟨rfl, rfl, rfl, rfl, rfl⟩ := H
   have k23 := run23
   have k22 := run22
   go_enter Tryd.func15, Tryd.ntmps15
   go_wp2_with (first | ((with_reducible refine gate_dst (N := 2) rfl ?_); refine box_event ?hg (N := 2) ?hd (cs := #[.int .i64 0, .int .i64 0, .string (⟨#[]⟩ : ByteArray), .float .f64 0]) (t := 24) ?hr ?_; (case hd => rfl); (case hg => rfl); (case hr => first | (go_simp; done) | (go_simp; rfl)); intro gb290 hg w17 hbox hb; have n0_ := Aside0.mk (below_step (by repeat (first | (with_reducible first | exact HB.out | apply below_alloc | apply pw_below_drewN | apply below_drew1) | exact HB.out)) hb); have n1_ := Aside0.mk (hbox); have n2_ := Aside0.mk ((by rw [hg]; exact (below_size (by repeat (first | (with_reducible first | exact HB.out | apply below_alloc | apply pw_below_drewN | apply below_drew1) | exact HB.out))) : w.heap.size ≤ gb290)); have n3_ := Aside0.mk ((by rw [hg]; exact (below_size (by repeat (first | (with_reducible first | exact HB.out | apply below_alloc | apply pw_below_drewN | apply below_drew1) | exact HB.out))) : w.heap.size ≤ gb290)); clear HB; have HB := n0_; have BK290 := n1_; have GW290 := n2_; have GE290 := n3_; clear n0_ n1_ n2_ n3_; clear hb hbox hg) | ((with_reducible refine gate_callee (f := 34) rfl ?_); refine goesL_ (some 6) rfl rfl Tryd.func34 (by kernel_rfl) rfl #[.string a0] rfl (by (try simp only [List.map_toArray, List.map_cons, List.map_nil]); first | done | rfl | (simp only [List.length_drop, List.length_take]; rfl)) ?_; (with_reducible refine (rialtoref4_read.calls k a0 t291 t292 t293 t294 _ A2.out).mono ?_); rintro e w18 ⟨rfl, hb⟩; refine ⟨_, rfl, ?_⟩; have n0_ := Aside0.mk (blk_below (g := gb290) (o := .cells #[.int .i64 0, .int .i64 0, .string (⟨#[]⟩ : ByteArray), .float .f64 0] 24 (0, 0)) (by (with_reducible repeat (first | refine blk_drewN ?_ _ | refine blk_drew ?_ | refine blk_alloc ?_ _)); exact BK290.out) hb); have n1_ := Aside0.mk (below_step (by repeat (first | (with_reducible first | exact HB.out | apply below_alloc | apply pw_below_drewN | apply below_drew1 | refine below_set ?_ GE290.out) | exact HB.out)) hb); clear BK290; clear HB; have BK290 := n0_; have HB := n1_; clear n0_ n1_; (try clear hb); (try clear hb2); (try clear hk); (try clear hi)) | ((with_reducible refine gate_dst (N := 4) rfl ?_); refine box_event ?hg (N := 4) ?hd (cs := #[.int .i64 0, .int .i64 0, .string (⟨#[]⟩ : ByteArray), .float .f64 0]) (t := 24) ?hr ?_; (case hd => rfl); (case hg => rfl); (case hr => first | (go_simp; done) | (go_simp; rfl)); intro gb295 hg w19 hbox hb; have n0_ := Aside0.mk (blk_below (g := gb290) (o := .cells #[.int .i64 0, .int .i64 0, .string (⟨#[]⟩ : ByteArray), .float .f64 0] 24 (0, 0)) (by (with_reducible repeat (first | refine blk_drewN ?_ _ | refine blk_drew ?_ | refine blk_alloc ?_ _)); exact BK290.out) hb); have n1_ := Aside0.mk (below_step (by repeat (first | (with_reducible first | exact HB.out | apply below_alloc | apply pw_below_drewN | apply below_drew1 | refine below_set ?_ GE290.out) | exact HB.out)) hb); have n2_ := Aside0.mk (hbox); have n3_ := Aside0.mk ((by rw [hg]; exact (below_size (by repeat (first | (with_reducible first | exact HB.out | apply below_alloc | apply pw_below_drewN | apply below_drew1 | refine below_set ?_ GE290.out) | exact HB.out))) : w.heap.size ≤ gb295)); have n4_ := Aside0.mk ((by rw [hg]; exact (below_size (by repeat (first | (with_reducible first | exact HB.out | apply below_alloc | apply pw_below_drewN | apply below_drew1 | refine below_set ?_ GE290.out) | exact HB.out))) : w.heap.size ≤ gb295)); have n5_ := Aside0.mk ((by rw [hg]; exact Nat.ne_of_lt (blk_lt (g := gb290) (o := .cells #[.int .i64 0, .int .i64 0, .string (⟨#[]⟩ : ByteArray), .float .f64 0] 24 (0, 0)) (by (with_reducible repeat (first | refine blk_drewN ?_ _ | refine blk_drew ?_ | refine blk_alloc ?_ _)); exact BK290.out)) : gb290 ≠ gb295)); have n6_ := Aside0.mk ((by rw [hg]; exact Nat.ne_of_gt (blk_lt (g := gb290) (o := .cells #[.int .i64 0, .int .i64 0, .string (⟨#[]⟩ : ByteArray), .float .f64 0] 24 (0, 0)) (by (with_reducible repeat (first | refine blk_drewN ?_ _ | refine blk_drew ?_ | refine blk_alloc ?_ _)); exact BK290.out)) : gb295 ≠ gb290)); clear BK290; clear HB; have BK290 := n0_; have HB := n1_; have BK295 := n2_; have GW295 := n3_; have GE295 := n4_; have NB290_295 := n5_; have NB295_290 := n6_; clear n0_ n1_ n2_ n3_ n4_ n5_ n6_; clear hb hbox hg; have hnb20 := NB295_290.out; have hnc20 := NB290_295.out; have hcz21_0 : w19.cell? ⟨gb295, 0, none⟩ = some (.int .i64 0) := (blk_cell BK295.out 0).trans rfl; have hcz21_1 : w19.cell? ⟨gb295, 1, none⟩ = some (.int .i64 0) := (blk_cell BK295.out 1).trans rfl; have hcz21_2 : w19.cell? ⟨gb295, 2, none⟩ = some (.string (⟨#[]⟩ : ByteArray)) := (blk_cell BK295.out 2).trans rfl; have hcz21_3 : w19.cell? ⟨gb295, 3, none⟩ = some (.float .f64 0) := (blk_cell BK295.out 3).trans rfl; have hfz21_0 := blk_frozen BK295.out 0; have hfz21_1 := blk_frozen BK295.out 1; have hfz21_2 := blk_frozen BK295.out 2; have hfz21_3 := blk_frozen BK295.out 3) | ((with_reducible refine gate_callee (f := 20) rfl ?_); refine goesL_ (some 8) rfl rfl Tryd.func20 (by kernel_rfl) rfl #[.agg #[.int .i64 t291, .int .i64 t292, .string t293, .float .f64 t294]] rfl (by (try simp only [List.map_toArray, List.map_cons, List.map_nil]); first | done | rfl | (simp only [List.length_drop, List.length_take]; rfl)) ?_; (with_reducible refine (rialtoref2_Is.calls k t291 t292 t293 t294 true _ A3.out).mono ?_); rintro e w22 ⟨rfl, hb⟩; refine ⟨_, rfl, ?_⟩; have n0_ := Aside0.mk (blk_below (g := gb290) (o := .cells #[.int .i64 0, .int .i64 0, .string (⟨#[]⟩ : ByteArray), .float .f64 0] 24 (0, 0)) (by (with_reducible repeat (first | refine blk_drewN ?_ _ | refine blk_drew ?_ | refine blk_alloc ?_ _)); refine blk_far ?_ NB290_295.out _; (with_reducible repeat (first | refine blk_drewN ?_ _ | refine blk_drew ?_ | refine blk_alloc ?_ _)); refine blk_far ?_ NB290_295.out _; (with_reducible repeat (first | refine blk_drewN ?_ _ | refine blk_drew ?_ | refine blk_alloc ?_ _)); refine blk_far ?_ NB290_295.out _; (with_reducible repeat (first | refine blk_drewN ?_ _ | refine blk_drew ?_ | refine blk_alloc ?_ _)); refine blk_far ?_ NB290_295.out _; (with_reducible repeat (first | refine blk_drewN ?_ _ | refine blk_drew ?_ | refine blk_alloc ?_ _)); exact BK290.out) hb); have n1_ := Aside0.mk (blk_below (g := gb295) (o := .cells #[.int .i64 t291, .int .i64 t292, .string t293, .float .f64 t294] 24 (0, 0)) (by (with_reducible repeat (first | refine blk_drewN ?_ _ | refine blk_drew ?_ | refine blk_alloc ?_ _)); refine blk_put (cs := #[.int .i64 t291, .int .i64 t292, .string t293, .float .f64 0]) ?_ 3 _ rfl; (with_reducible repeat (first | refine blk_drewN ?_ _ | refine blk_drew ?_ | refine blk_alloc ?_ _)); refine blk_put (cs := #[.int .i64 t291, .int .i64 t292, .string (⟨#[]⟩ : ByteArray), .float .f64 0]) ?_ 2 _ rfl; (with_reducible repeat (first | refine blk_drewN ?_ _ | refine blk_drew ?_ | refine blk_alloc ?_ _)); refine blk_put (cs := #[.int .i64 t291, .int .i64 0, .string (⟨#[]⟩ : ByteArray), .float .f64 0]) ?_ 1 _ rfl; (with_reducible repeat (first | refine blk_drewN ?_ _ | refine blk_drew ?_ | refine blk_alloc ?_ _)); refine blk_put (cs := #[.int .i64 0, .int .i64 0, .string (⟨#[]⟩ : ByteArray), .float .f64 0]) ?_ 0 _ rfl; (with_reducible repeat (first | refine blk_drewN ?_ _ | refine blk_drew ?_ | refine blk_alloc ?_ _)); exact BK295.out) hb); have n2_ := Aside0.mk (below_step (by repeat (first | (with_reducible first | exact HB.out | apply below_alloc | apply pw_below_drewN | apply below_drew1 | refine below_set ?_ GE290.out | refine below_set ?_ GE295.out) | exact HB.out)) hb); clear BK290; clear BK295; clear HB; have BK290 := n0_; have BK295 := n1_; have HB := n2_; clear n0_ n1_ n2_; (try clear hb); (try clear hb2); (try clear hk); (try clear hi); have hcz23_0 : w22.cell? ⟨gb295, 0, none⟩ = some (.int .i64 t291) := (blk_cell BK295.out 0).trans rfl; have hcz23_1 : w22.cell? ⟨gb295, 1, none⟩ = some (.int .i64 t292) := (blk_cell BK295.out 1).trans rfl; have hcz23_2 : w22.cell? ⟨gb295, 2, none⟩ = some (.string t293) := (blk_cell BK295.out 2).trans rfl; have hcz23_3 : w22.cell? ⟨gb295, 3, none⟩ = some (.float .f64 t294) := (blk_cell BK295.out 3).trans rfl; have hfz23_0 := blk_frozen BK295.out 0; have hfz23_1 := blk_frozen BK295.out 1; have hfz23_2 := blk_frozen BK295.out 2; have hfz23_3 := blk_frozen BK295.out 3) | (go_at_call 11; (with_reducible refine (rialtoref4_Print.calls k t291 t292 t293 t294 t297 _ A5.out).mono ?_); rintro e w24 ⟨rfl, hb⟩; have n0_ := Aside0.mk (blk_below (g := gb290) (o := .cells #[.int .i64 0, .int .i64 0, .string (⟨#[]⟩ : ByteArray), .float .f64 0] 24 (0, 0)) (by (with_reducible repeat (first | refine blk_drewN ?_ _ | refine blk_drew ?_ | refine blk_alloc ?_ _)); exact BK290.out) hb); have n1_ := Aside0.mk (blk_below (g := gb295) (o := .cells #[.int .i64 t291, .int .i64 t292, .string t293, .float .f64 t294] 24 (0, 0)) (by (with_reducible repeat (first | refine blk_drewN ?_ _ | refine blk_drew ?_ | refine blk_alloc ?_ _)); exact BK295.out) hb); have n2_ := Aside0.mk (below_step (by repeat (first | (with_reducible first | exact HB.out | apply below_alloc | apply pw_below_drewN | apply below_drew1 | refine below_set ?_ GE290.out | refine below_set ?_ GE295.out) | exact HB.out)) hb); clear BK290; clear BK295; clear HB; have BK290 := n0_; have BK295 := n1_; have HB := n2_; clear n0_ n1_ n2_; (try clear hb); (try clear hb2); (try clear hk); (try clear hi); have hcz25_0 : w24.cell? ⟨gb290, 0, none⟩ = some (.int .i64 0) := (blk_cell BK290.out 0).trans rfl; have hcz25_1 : w24.cell? ⟨gb290, 1, none⟩ = some (.int .i64 0) := (blk_cell BK290.out 1).trans rfl; have hcz25_2 : w24.cell? ⟨gb290, 2, none⟩ = some (.string (⟨#[]⟩ : ByteArray)) := (blk_cell BK290.out 2).trans rfl; have hcz25_3 : w24.cell? ⟨gb290, 3, none⟩ = some (.float .f64 0) := (blk_cell BK290.out 3).trans rfl; have hfz25_0 := blk_frozen BK290.out 0; have hfz25_1 := blk_frozen BK290.out 1; have hfz25_2 := blk_frozen BK290.out 2; have hfz25_3 := blk_frozen BK290.out 3))
   refine bodyPost_ret (results_ct rfl _ _ gb290 24 #[.int .i64 0, .int .i64 0, .string (⟨#[]⟩ : ByteArray), .float .f64 0] (0, 0) _ rfl (by (with_reducible repeat (first | refine blk_drewN ?_ _ | refine blk_drew ?_ | refine blk_alloc ?_ _)); refine blk_put (cs := #[.int .i64 0, .int .i64 0, .string (⟨#[]⟩ : ByteArray), .float .f64 0]) ?_ 3 _ rfl; (with_reducible repeat (first | refine blk_drewN ?_ _ | refine blk_drew ?_ | refine blk_alloc ?_ _)); refine blk_put (cs := #[.int .i64 0, .int .i64 0, .string (⟨#[]⟩ : ByteArray), .float .f64 0]) ?_ 2 _ rfl; (with_reducible repeat (first | refine blk_drewN ?_ _ | refine blk_drew ?_ | refine blk_alloc ?_ _)); refine blk_put (cs := #[.int .i64 0, .int .i64 0, .string (⟨#[]⟩ : ByteArray), .float .f64 0]) ?_ 1 _ rfl; (with_reducible repeat (first | refine blk_drewN ?_ _ | refine blk_drew ?_ | refine blk_alloc ?_ _)); refine blk_put (cs := #[.int .i64 0, .int .i64 0, .string (⟨#[]⟩ : ByteArray), .float .f64 0]) ?_ 0 _ rfl; (with_reducible repeat (first | refine blk_drewN ?_ _ | refine blk_drew ?_ | refine blk_alloc ?_ _)); exact BK290.out) Tryd.underlying24 rfl (by kernel_rfl)) rfl ?_
   exact ⟨by first | rfl | (simp [errW_none, errW_some] <;> rfl) | (simp [*, errW_none, errW_some] <;> rfl), by repeat (first | (with_reducible first | exact HB.out | apply below_alloc | apply pw_below_drewN | apply below_drew1 | refine below_set ?_ GE290.out | refine below_set ?_ GE295.out) | exact HB.out)⟩
 ·replace c4 := Bool.eq_false_iff.mpr c4
  subst c4
  have H1 : (some (0, 0, (⟨#[]⟩ : ByteArray), 0, 30)) = some (r1, r2, r3, r4, r5) := by rw [if_neg (show ¬ (false = true) by decide)] at H; exact H
  clear H
  have H := H1
  clear H1
  simp only [Option.some.injEq, Prod.mk.injEq] at H
  obtain ⟨rfl, rfl, rfl, rfl, rfl⟩ := H
  have k23 := run23
  have k22 := run22
  go_enter Tryd.func15, Tryd.ntmps15
  go_wp2_with (first | ((with_reducible refine gate_dst (N := 2) rfl ?_); refine box_event ?hg (N := 2) ?hd (cs := #[.int .i64 0, .int .i64 0, .string (⟨#[]⟩ : ByteArray), .float .f64 0]) (t := 24) ?hr ?_; (case hd => rfl); (case hg => rfl); (case hr => first | (go_simp; done) | (go_simp; rfl)); intro gb290 hg w26 hbox hb; have n0_ := Aside0.mk (below_step (by repeat (first | (with_reducible first | exact HB.out | apply below_alloc | apply pw_below_drewN | apply below_drew1) | exact HB.out)) hb); have n1_ := Aside0.mk (hbox); have n2_ := Aside0.mk ((by rw [hg]; exact (below_size (by repeat (first | (with_reducible first | exact HB.out | apply below_alloc | apply pw_below_drewN | apply below_drew1) | exact HB.out))) : w.heap.size ≤ gb290)); have n3_ := Aside0.mk ((by rw [hg]; exact (below_size (by repeat (first | (with_reducible first | exact HB.out | apply below_alloc | apply pw_below_drewN | apply below_drew1) | exact HB.out))) : w.heap.size ≤ gb290)); clear HB; have HB := n0_; have BK290 := n1_; have GW290 := n2_; have GE290 := n3_; clear n0_ n1_ n2_ n3_; clear hb hbox hg) | ((with_reducible refine gate_callee (f := 34) rfl ?_); refine goesL_ (some 6) rfl rfl Tryd.func34 (by kernel_rfl) rfl #[.string a0] rfl (by (try simp only [List.map_toArray, List.map_cons, List.map_nil]); first | done | rfl | (simp only [List.length_drop, List.length_take]; rfl)) ?_; (with_reducible refine (rialtoref4_read.calls k a0 t291 t292 t293 t294 _ A2.out).mono ?_); rintro e w27 ⟨rfl, hb⟩; refine ⟨_, rfl, ?_⟩; have n0_ := Aside0.mk (blk_below (g := gb290) (o := .cells #[.int .i64 0, .int .i64 0, .string (⟨#[]⟩ : ByteArray), .float .f64 0] 24 (0, 0)) (by (with_reducible repeat (first | refine blk_drewN ?_ _ | refine blk_drew ?_ | refine blk_alloc ?_ _)); exact BK290.out) hb); have n1_ := Aside0.mk (below_step (by repeat (first | (with_reducible first | exact HB.out | apply below_alloc | apply pw_below_drewN | apply below_drew1 | refine below_set ?_ GE290.out) | exact HB.out)) hb); clear BK290; clear HB; have BK290 := n0_; have HB := n1_; clear n0_ n1_; (try clear hb); (try clear hb2); (try clear hk); (try clear hi)) | ((with_reducible refine gate_dst (N := 4) rfl ?_); refine box_event ?hg (N := 4) ?hd (cs := #[.int .i64 0, .int .i64 0, .string (⟨#[]⟩ : ByteArray), .float .f64 0]) (t := 24) ?hr ?_; (case hd => rfl); (case hg => rfl); (case hr => first | (go_simp; done) | (go_simp; rfl)); intro gb295 hg w28 hbox hb; have n0_ := Aside0.mk (blk_below (g := gb290) (o := .cells #[.int .i64 0, .int .i64 0, .string (⟨#[]⟩ : ByteArray), .float .f64 0] 24 (0, 0)) (by (with_reducible repeat (first | refine blk_drewN ?_ _ | refine blk_drew ?_ | refine blk_alloc ?_ _)); exact BK290.out) hb); have n1_ := Aside0.mk (below_step (by repeat (first | (with_reducible first | exact HB.out | apply below_alloc | apply pw_below_drewN | apply below_drew1 | refine below_set ?_ GE290.out) | exact HB.out)) hb); have n2_ := Aside0.mk (hbox); have n3_ := Aside0.mk ((by rw [hg]; exact (below_size (by repeat (first | (with_reducible first | exact HB.out | apply below_alloc | apply pw_below_drewN | apply below_drew1 | refine below_set ?_ GE290.out) | exact HB.out))) : w.heap.size ≤ gb295)); have n4_ := Aside0.mk ((by rw [hg]; exact (below_size (by repeat (first | (with_reducible first | exact HB.out | apply below_alloc | apply pw_below_drewN | apply below_drew1 | refine below_set ?_ GE290.out) | exact HB.out))) : w.heap.size ≤ gb295)); have n5_ := Aside0.mk ((by rw [hg]; exact Nat.ne_of_lt (blk_lt (g := gb290) (o := .cells #[.int .i64 0, .int .i64 0, .string (⟨#[]⟩ : ByteArray), .float .f64 0] 24 (0, 0)) (by (with_reducible repeat (first | refine blk_drewN ?_ _ | refine blk_drew ?_ | refine blk_alloc ?_ _)); exact BK290.out)) : gb290 ≠ gb295)); have n6_ := Aside0.mk ((by rw [hg]; exact Nat.ne_of_gt (blk_lt (g := gb290) (o := .cells #[.int .i64 0, .int .i64 0, .string (⟨#[]⟩ : ByteArray), .float .f64 0] 24 (0, 0)) (by (with_reducible repeat (first | refine blk_drewN ?_ _ | refine blk_drew ?_ | refine blk_alloc ?_ _)); exact BK290.out)) : gb295 ≠ gb290)); clear BK290; clear HB; have BK290 := n0_; have HB := n1_; have BK295 := n2_; have GW295 := n3_; have GE295 := n4_; have NB290_295 := n5_; have NB295_290 := n6_; clear n0_ n1_ n2_ n3_ n4_ n5_ n6_; clear hb hbox hg; have hnb29 := NB295_290.out; have hnc29 := NB290_295.out; have hcz30_0 : w28.cell? ⟨gb295, 0, none⟩ = some (.int .i64 0) := (blk_cell BK295.out 0).trans rfl; have hcz30_1 : w28.cell? ⟨gb295, 1, none⟩ = some (.int .i64 0) := (blk_cell BK295.out 1).trans rfl; have hcz30_2 : w28.cell? ⟨gb295, 2, none⟩ = some (.string (⟨#[]⟩ : ByteArray)) := (blk_cell BK295.out 2).trans rfl; have hcz30_3 : w28.cell? ⟨gb295, 3, none⟩ = some (.float .f64 0) := (blk_cell BK295.out 3).trans rfl; have hfz30_0 := blk_frozen BK295.out 0; have hfz30_1 := blk_frozen BK295.out 1; have hfz30_2 := blk_frozen BK295.out 2; have hfz30_3 := blk_frozen BK295.out 3) | ((with_reducible refine gate_callee (f := 20) rfl ?_); refine goesL_ (some 8) rfl rfl Tryd.func20 (by kernel_rfl) rfl #[.agg #[.int .i64 t291, .int .i64 t292, .string t293, .float .f64 t294]] rfl (by (try simp only [List.map_toArray, List.map_cons, List.map_nil]); first | done | rfl | (simp only [List.length_drop, List.length_take]; rfl)) ?_; (with_reducible refine (rialtoref2_Is.calls k t291 t292 t293 t294 false _ A3.out).mono ?_); rintro e w31 ⟨rfl, hb⟩; refine ⟨_, rfl, ?_⟩; have n0_ := Aside0.mk (blk_below (g := gb290) (o := .cells #[.int .i64 0, .int .i64 0, .string (⟨#[]⟩ : ByteArray), .float .f64 0] 24 (0, 0)) (by (with_reducible repeat (first | refine blk_drewN ?_ _ | refine blk_drew ?_ | refine blk_alloc ?_ _)); refine blk_far ?_ NB290_295.out _; (with_reducible repeat (first | refine blk_drewN ?_ _ | refine blk_drew ?_ | refine blk_alloc ?_ _)); refine blk_far ?_ NB290_295.out _; (with_reducible repeat (first | refine blk_drewN ?_ _ | refine blk_drew ?_ | refine blk_alloc ?_ _)); refine blk_far ?_ NB290_295.out _; (with_reducible repeat (first | refine blk_drewN ?_ _ | refine blk_drew ?_ | refine blk_alloc ?_ _)); refine blk_far ?_ NB290_295.out _; (with_reducible repeat (first | refine blk_drewN ?_ _ | refine blk_drew ?_ | refine blk_alloc ?_ _)); exact BK290.out) hb); have n1_ := Aside0.mk (blk_below (g := gb295) (o := .cells #[.int .i64 t291, .int .i64 t292, .string t293, .float .f64 t294] 24 (0, 0)) (by (with_reducible repeat (first | refine blk_drewN ?_ _ | refine blk_drew ?_ | refine blk_alloc ?_ _)); refine blk_put (cs := #[.int .i64 t291, .int .i64 t292, .string t293, .float .f64 0]) ?_ 3 _ rfl; (with_reducible repeat (first | refine blk_drewN ?_ _ | refine blk_drew ?_ | refine blk_alloc ?_ _)); refine blk_put (cs := #[.int .i64 t291, .int .i64 t292, .string (⟨#[]⟩ : ByteArray), .float .f64 0]) ?_ 2 _ rfl; (with_reducible repeat (first | refine blk_drewN ?_ _ | refine blk_drew ?_ | refine blk_alloc ?_ _)); refine blk_put (cs := #[.int .i64 t291, .int .i64 0, .string (⟨#[]⟩ : ByteArray), .float .f64 0]) ?_ 1 _ rfl; (with_reducible repeat (first | refine blk_drewN ?_ _ | refine blk_drew ?_ | refine blk_alloc ?_ _)); refine blk_put (cs := #[.int .i64 0, .int .i64 0, .string (⟨#[]⟩ : ByteArray), .float .f64 0]) ?_ 0 _ rfl; (with_reducible repeat (first | refine blk_drewN ?_ _ | refine blk_drew ?_ | refine blk_alloc ?_ _)); exact BK295.out) hb); have n2_ := Aside0.mk (below_step (by repeat (first | (with_reducible first | exact HB.out | apply below_alloc | apply pw_below_drewN | apply below_drew1 | refine below_set ?_ GE290.out | refine below_set ?_ GE295.out) | exact HB.out)) hb); clear BK290; clear BK295; clear HB; have BK290 := n0_; have BK295 := n1_; have HB := n2_; clear n0_ n1_ n2_; (try clear hb); (try clear hb2); (try clear hk); (try clear hi); have hcz32_0 : w31.cell? ⟨gb290, 0, none⟩ = some (.int .i64 0) := (blk_cell BK290.out 0).trans rfl; have hcz32_1 : w31.cell? ⟨gb290, 1, none⟩ = some (.int .i64 0) := (blk_cell BK290.out 1).trans rfl; have hcz32_2 : w31.cell? ⟨gb290, 2, none⟩ = some (.string (⟨#[]⟩ : ByteArray)) := (blk_cell BK290.out 2).trans rfl; have hcz32_3 : w31.cell? ⟨gb290, 3, none⟩ = some (.float .f64 0) := (blk_cell BK290.out 3).trans rfl; have hfz32_0 := blk_frozen BK290.out 0; have hfz32_1 := blk_frozen BK290.out 1; have hfz32_2 := blk_frozen BK290.out 2; have hfz32_3 := blk_frozen BK290.out 3))
  refine bodyPost_ret (results_ct rfl _ _ gb290 24 #[.int .i64 0, .int .i64 0, .string (⟨#[]⟩ : ByteArray), .float .f64 0] (0, 0) _ rfl (by (with_reducible repeat (first | refine blk_drewN ?_ _ | refine blk_drew ?_ | refine blk_alloc ?_ _)); refine blk_put (cs := #[.int .i64 0, .int .i64 0, .string (⟨#[]⟩ : ByteArray), .float .f64 0]) ?_ 3 _ rfl; (with_reducible repeat (first | refine blk_drewN ?_ _ | refine blk_drew ?_ | refine blk_alloc ?_ _)); refine blk_put (cs := #[.int .i64 0, .int .i64 0, .string (⟨#[]⟩ : ByteArray), .float .f64 0]) ?_ 2 _ rfl; (with_reducible repeat (first | refine blk_drewN ?_ _ | refine blk_drew ?_ | refine blk_alloc ?_ _)); refine blk_put (cs := #[.int .i64 0, .int .i64 0, .string (⟨#[]⟩ : ByteArray), .float .f64 0]) ?_ 1 _ rfl; (with_reducible repeat (first | refine blk_drewN ?_ _ | refine blk_drew ?_ | refine blk_alloc ?_ _)); refine blk_put (cs := #[.int .i64 0, .int .i64 0, .string (⟨#[]⟩ : ByteArray), .float .f64 0]) ?_ 0 _ rfl; (with_reducible repeat (first | refine blk_drewN ?_ _ | refine blk_drew ?_ | refine blk_alloc ?_ _)); exact BK290.out) Tryd.underlying24 rfl (by kernel_rfl)) rfl ?_
  exact ⟨by first | rfl | (simp [errW_none, errW_some] <;> rfl) | (simp [*, errW_none, errW_some] <;> rfl), by repeat (first | (with_reducible first | exact HB.out | apply below_alloc | apply pw_below_drewN | apply below_drew1 | refine below_set ?_ GE290.out | refine below_set ?_ GE295.out) | exact HB.out)⟩
end Go.Proofs.YtpjfhdbkkomogaaDoor.Px
namespace Go.Proofs.YtpjfhdbkkomogaaDoor.Mb
open Go.RowKit Go.Proofs.YtpjfhdbkkomogaaDoorW.PrintWords Go.Proofs.YtpjfhdbkkomogaaDoorW.PrintLast Go.Proofs.YtpjfhdbkkomogaaDoorW.PrintMore Go.Proofs.YtpjfhdbkkomogaaDoor.Px Go.Proofs.YtpjfhdbkkomogaaDoor.Gvn
open Go.Lib (itoa decDigits)
def In4 (r : Int × Int × ByteArray × Nat) : Prop := In ⟨r.1, r.2.1, r.2.2.1, r.2.2.2⟩
theorem u64_range (n : Int) : 0 ≤ IntKind.u64.wrap n ∧ IntKind.u64.wrap n < 18446744073709551616 := by rw [IntKind.wrap_u64]; omega
theorem wrap64_range (n : Int) : -9223372036854775808 ≤ wrap64 n ∧ wrap64 n ≤ 9223372036854775807 := by unfold wrap64; omega
theorem in_wrap (n : Int) : In4 (1, wrap64 n, ⟨#[]⟩, 0) := ⟨(wrap64_range n).1, (wrap64_range n).2, (by decide : (0 : Nat) < 18446744073709551616)⟩
def dstep (u a : Int) : Int := if a ≥ 48 then (if a ≤ 57 then IntKind.u64.wrap ((IntKind.u64.wrap (10 * u)) + ((a - 48) % 256)) else u) else u
theorem l1_step (k : Nat) (x : ByteArray) (u : Int) (neg : Bool) (i sz : Nat) (hsz : x.size = sz) (hi : i < sz) (hb : sz ≤ 100000) :
    rialtoref4_read.l1 (k + 1) x (sz : Int) u neg (i : Int) = rialtoref4_read.l1 k x (sz : Int) (dstep u (bt x (i : Int))) neg ((i + 1 : Nat) : Int) := by
  have w1 : Hid (wrap64 ((i : Int) + 1) = ((i + 1 : Nat) : Int)) := Lib.hid (wrap_nat i 1 (by omega))
  rw [rialtoref4_read.l1, if_pos (by omega), if_pos (by omega), hsz, if_pos (by omega), w1.out]
  unfold dstep
  split
  · split <;> rfl
  · rfl
theorem l1_end (k : Nat) (x : ByteArray) (u : Int) (neg : Bool) (sz : Nat) : rialtoref4_read.l1 (k + 1) x (sz : Int) u neg (sz : Int) = if neg = true then some (1, wrap64 (IntKind.u64.wrap (-u)), ⟨#[]⟩, 0) else some (1, wrap64 u, ⟨#[]⟩, 0) := by
  rw [rialtoref4_read.l1, if_neg (by omega)]
theorem l1_total (x : ByteArray) (neg : Bool) (sz : Nat) (hsz : x.size = sz) (hb : sz ≤ 100000) : ∀ (d i : Nat) (u : Int), i + d = sz → ∃ k r, rialtoref4_read.l1 k x (sz : Int) u neg (i : Int) = some r ∧ In4 r := by
  intro d
  induction d with
  | zero =>
    intro i u hi
    obtain rfl : i = sz := by omega
    cases neg with
    | true => exact ⟨1, _, by rw [l1_end, if_pos rfl], in_wrap _⟩
    | false => exact ⟨1, _, by rw [l1_end, if_neg (by decide)], in_wrap _⟩
  | succ d ih =>
    intro i u hi
    obtain ⟨k, r, hk, hr⟩ := ih (i + 1) (dstep u (bt x (i : Int))) (by omega)
    exact ⟨k + 1, r, by rw [l1_step k x u neg i sz hsz (by omega) hb, hk], hr⟩
def dval (l : List UInt8) : Nat := l.foldl (fun a c => a * 10 + (c.toNat - 48)) 0
theorem dval_snoc (l : List UInt8) (c : UInt8) : dval (l ++ [c]) = dval l * 10 + (c.toNat - 48) := by unfold dval; rw [List.foldl_append]; rfl
theorem dval_dec (u : Nat) : dval (decDigits u) = u := by
  induction u using Nat.strongRecOn with
  | _ u ih =>
    by_cases h : u < 10
    · rw [dec_small u h]
      have : (UInt8.ofNat (48 + u)).toNat = 48 + u := by rw [UInt8.toNat_ofNat']; omega
      unfold dval
      rw [List.foldl_cons, List.foldl_nil, this]
      omega
    · rw [dec_big u h, dval_snoc, ih _ (by omega)]
      have : (UInt8.ofNat (48 + u % 10)).toNat = 48 + u % 10 := by rw [UInt8.toNat_ofNat']; omega
      rw [this]
      omega
theorem dstep_dig (n : Nat) (c : UInt8) (h : 48 ≤ c.toNat ∧ c.toNat ≤ 57) (hn : n * 10 + (c.toNat - 48) < 18446744073709551616) : dstep (n : Int) (c.toNat : Int) = ((n * 10 + (c.toNat - 48) : Nat) : Int) := by
  unfold dstep
  rw [if_pos (by omega), if_pos (by omega), IntKind.wrap_u64, IntKind.wrap_u64]
  omega
theorem l1_digits (pre : List UInt8) (neg : Bool) (sz : Nat) (hb : sz ≤ 1000) (d : Nat) : ∀ (done post : List UInt8), post.length = d → pre.length + done.length + post.length = sz → (∀ c ∈ post, 48 ≤ c.toNat ∧ c.toNat ≤ 57) → dval (done ++ post) < 18446744073709551616 →
    ∀ k, d < k → rialtoref4_read.l1 k (B (pre ++ (done ++ post))) (sz : Int) (dval done : Int) neg ((pre.length + done.length : Nat) : Int) = if neg = true then some (1, wrap64 (IntKind.u64.wrap (-(dval (done ++ post) : Int))), ⟨#[]⟩, 0) else some (1, wrap64 (dval (done ++ post) : Int), ⟨#[]⟩, 0) := by
  induction d with
  | zero =>
    intro done post hd hs hp hv k hk
    obtain ⟨k, rfl⟩ : ∃ m, k = m + 1 := ⟨k - 1, by omega⟩
    obtain rfl : post = [] := List.length_eq_zero_iff.1 hd
    rw [List.append_nil] at *
    rw [List.length_nil, Nat.add_zero] at hs
    rw [hs]
    exact l1_end k _ _ neg sz
  | succ d ih =>
    intro done post hd hs hp hv k hk
    obtain ⟨k, rfl⟩ : ∃ m, k = m + 1 := ⟨k - 1, by omega⟩
    cases post with
    | nil => simp at hd
    | cons c post =>
      have hc := hp c (List.mem_cons_self ..)
      have hz : (B (pre ++ (done ++ c :: post))).size = sz := by
        rw [size_B, List.length_append, List.length_append, ← hs, Nat.add_assoc]
      have hbt : bt (B (pre ++ (done ++ c :: post))) ((pre.length + done.length : Nat) : Int) = (c.toNat : Int) := bt_at2 (pre ++ done) post c _ _ (by rw [List.append_assoc]) (by rw [List.length_append])
      have e1 : done ++ [c] ++ post = done ++ c :: post := by rw [List.append_assoc]; rfl
      have hle : dval (done ++ [c]) ≤ dval (done ++ c :: post) := by
        rw [← e1]
        unfold dval
        rw [List.foldl_append (l := done ++ [c]), ]
        generalize (done ++ [c]).foldl (fun a c => a * 10 + (c.toNat - 48)) 0 = a
        clear hz hbt hs hv ih hd hp e1
        induction post generalizing a with
        | nil => exact Nat.le_refl _
        | cons e post ih =>
          refine Nat.le_trans ?_ (ih _)
          show a ≤ a * 10 + (e.toNat - 48)
          omega
      have hst := dstep_dig (dval done) c hc (by rw [← dval_snoc]; omega)
      rw [l1_step k _ _ neg _ sz hz (by rw [List.length_cons] at hs; omega) (by omega), hbt, hst, ← dval_snoc]
      have h := ih (done ++ [c]) post (by simpa using hd) (by rw [List.length_append, List.length_singleton]; rw [List.length_cons] at hs; omega) (fun e he => hp e (List.mem_cons_of_mem _ he)) (by rw [e1]; exact hv) k (by omega)
      rw [e1, show ((pre.length + (done ++ [c]).length : Nat) : Int) = ((pre.length + done.length + 1 : Nat) : Int) by rw [List.length_append, List.length_singleton, Nat.add_assoc]] at h
      exact h
theorem or_256 (a b : Nat) (ha : a * 256 + b < 18446744073709551616) (hb : b < 256) : Go.bits .or .u64 (IntKind.u64.wrap ((a : Int) * 256)) (IntKind.u64.wrap (b : Int)) = ((a * 256 + b : Nat) : Int) := by
  have ha1 : a * 256 < 18446744073709551616 := Nat.lt_of_le_of_lt (Nat.le_add_right _ _) ha
  have hb1 : b < 18446744073709551616 := Nat.lt_trans hb (by decide)
  have hb' : b < 2 ^ 8 := hb
  have e8 : 2 ^ 8 * a = a * 256 := Nat.mul_comm _ _
  have h1 : IntKind.u64.wrap ((a : Int) * 256) = ((a * 256 : Nat) : Int) := by rw [IntKind.wrap_u64]; omega
  have h2 : IntKind.u64.wrap (b : Int) = (b : Int) := by rw [IntKind.wrap_u64]; omega
  have e : (BitVec.ofInt 64 ((a * 256 : Nat) : Int) ||| BitVec.ofInt 64 (b : Int)).toNat = a * 256 + b := by
    rw [BitVec.toNat_or, bv_nat (a * 256) ha1, bv_nat b hb1]
    have := Nat.two_pow_add_eq_or_of_lt hb' a
    rw [e8] at this
    exact this.symm
  rw [h1, h2]
  show IntKind.u64.wrap ((BitVec.ofInt 64 ((a * 256 : Nat) : Int) ||| BitVec.ofInt 64 (b : Int)).toNat : Int) = _
  rw [e, u64_nat _ ha]
theorem or_range (a b : Int) : 0 ≤ Go.bits .or .u64 a b ∧ Go.bits .or .u64 a b < 18446744073709551616 := u64_range _
theorem l0_total (b : List Int) (hb : 8 ≤ b.length) : ∀ (d i : Nat) (u : Int), i + d = 8 → (0 ≤ u ∧ u < 18446744073709551616) → ∃ k r, rialtoref4_read.l0 k b true u (i : Int) = some r ∧ In4 r := by
  intro d
  induction d with
  | zero =>
    intro i u hi hu
    refine ⟨1, (5, 0, ⟨#[]⟩, u.toNat), ?_, ⟨(by decide : (-9223372036854775808 : Int) ≤ 0), (by decide : (0 : Int) ≤ 9223372036854775807), (by omega : u.toNat < 18446744073709551616)⟩⟩
    rw [rialtoref4_read.l0, if_pos rfl, if_neg (by omega)]
  | succ d ih =>
    intro i u hi hu
    obtain ⟨k, r, hk, hr⟩ := ih (i + 1) (Go.bits .or .u64 (IntKind.u64.wrap (u * 256)) (IntKind.u64.wrap (rd b (i : Int)))) (by omega) (or_range _ _)
    refine ⟨k + 1, r, ?_, hr⟩
    have w1 : Hid (wrap64 ((i : Int) + 1) = ((i + 1 : Nat) : Int)) := Lib.hid (wrap_nat i 1 (by omega))
    rw [rialtoref4_read.l0, if_pos rfl, if_pos (by omega), if_pos (by omega), if_pos (by omega), w1.out, hk]
theorem l0_step (k : Nat) (b : List Int) (u n : Nat) (i : Nat) (hb : b.length = 8) (hi : i < 8) (hn : rd b (i : Int) = (n : Int)) (h : n < 256) (hu : u * 256 + n < 18446744073709551616) :
    rialtoref4_read.l0 (k + 1) b true (u : Int) (i : Int) = rialtoref4_read.l0 k b true ((u * 256 + n : Nat) : Int) ((i + 1 : Nat) : Int) := by
  have w1 : Hid (wrap64 ((i : Int) + 1) = ((i + 1 : Nat) : Int)) := Lib.hid (wrap_nat i 1 (by omega))
  rw [rialtoref4_read.l0, if_pos rfl, if_pos (by omega), if_pos (by omega), if_pos (by omega), hn, or_256 u n hu h, w1.out]
def eight (f : Nat) : List UInt8 := [UInt8.ofNat (f / 2 ^ 56 % 256), UInt8.ofNat (f / 2 ^ 48 % 256), UInt8.ofNat (f / 2 ^ 40 % 256), UInt8.ofNat (f / 2 ^ 32 % 256), UInt8.ofNat (f / 2 ^ 24 % 256), UInt8.ofNat (f / 2 ^ 16 % 256), UInt8.ofNat (f / 2 ^ 8 % 256), UInt8.ofNat (f / 2 ^ 0 % 256)]
theorem byte_is (f m : Nat) : ((UInt8.ofNat (f / m % 256)).toNat : Int) = ((f / m % 256 : Nat) : Int) := by rw [UInt8.toNat_ofNat']; omega
theorem l0_is (k f : Nat) (hf : f < 18446744073709551616) : rialtoref4_read.l0 (k + 9) (N (eight f)) true 0 0 = some (5, 0, ⟨#[]⟩, f) := by
  have hl : (N (eight f)).length = 8 := rfl
  have s0 := l0_step (k + 8) (N (eight f)) 0 (f / 2 ^ 56 % 256) 0 hl (by decide) (byte_is f _) (by omega) (by omega)
  have s1 := l0_step (k + 7) (N (eight f)) (0 * 256 + f / 2 ^ 56 % 256) (f / 2 ^ 48 % 256) 1 hl (by decide) (byte_is f _) (by omega) (by omega)
  have s2 := l0_step (k + 6) (N (eight f)) ((0 * 256 + f / 2 ^ 56 % 256) * 256 + f / 2 ^ 48 % 256) (f / 2 ^ 40 % 256) 2 hl (by decide) (byte_is f _) (by omega) (by omega)
  have s3 := l0_step (k + 5) (N (eight f)) (((0 * 256 + f / 2 ^ 56 % 256) * 256 + f / 2 ^ 48 % 256) * 256 + f / 2 ^ 40 % 256) (f / 2 ^ 32 % 256) 3 hl (by decide) (byte_is f _) (by omega) (by omega)
  have s4 := l0_step (k + 4) (N (eight f)) ((((0 * 256 + f / 2 ^ 56 % 256) * 256 + f / 2 ^ 48 % 256) * 256 + f / 2 ^ 40 % 256) * 256 + f / 2 ^ 32 % 256) (f / 2 ^ 24 % 256) 4 hl (by decide) (byte_is f _) (by omega) (by omega)
  have s5 := l0_step (k + 3) (N (eight f)) (((((0 * 256 + f / 2 ^ 56 % 256) * 256 + f / 2 ^ 48 % 256) * 256 + f / 2 ^ 40 % 256) * 256 + f / 2 ^ 32 % 256) * 256 + f / 2 ^ 24 % 256) (f / 2 ^ 16 % 256) 5 hl (by decide) (byte_is f _) (by omega) (by omega)
  have s6 := l0_step (k + 2) (N (eight f)) ((((((0 * 256 + f / 2 ^ 56 % 256) * 256 + f / 2 ^ 48 % 256) * 256 + f / 2 ^ 40 % 256) * 256 + f / 2 ^ 32 % 256) * 256 + f / 2 ^ 24 % 256) * 256 + f / 2 ^ 16 % 256) (f / 2 ^ 8 % 256) 6 hl (by decide) (byte_is f _) (by omega) (by omega)
  have s7 := l0_step (k + 1) (N (eight f)) (((((((0 * 256 + f / 2 ^ 56 % 256) * 256 + f / 2 ^ 48 % 256) * 256 + f / 2 ^ 40 % 256) * 256 + f / 2 ^ 32 % 256) * 256 + f / 2 ^ 24 % 256) * 256 + f / 2 ^ 16 % 256) * 256 + f / 2 ^ 8 % 256) (f / 2 ^ 0 % 256) 7 hl (by decide) (byte_is f _) (by omega) (by omega)
  have e : (((((((0 * 256 + f / 2 ^ 56 % 256) * 256 + f / 2 ^ 48 % 256) * 256 + f / 2 ^ 40 % 256) * 256 + f / 2 ^ 32 % 256) * 256 + f / 2 ^ 24 % 256) * 256 + f / 2 ^ 16 % 256) * 256 + f / 2 ^ 8 % 256) * 256 + f / 2 ^ 0 % 256 = f := by omega
  refine s0.trans (s1.trans (s2.trans (s3.trans (s4.trans (s5.trans (s6.trans (s7.trans ?_)))))))
  rw [e, rialtoref4_read.l0, if_pos rfl, if_neg (by decide)]
  rfl
theorem eight_hex (f : Nat) : hexL (eight f) = tells 16 f := by
  unfold hexL eight
  simp only [List.flatMap_cons, List.flatMap_nil, two_bits]
  rw [show (16 : Nat) = 14 + 2 from rfl, tells_two, tells_two, tells_two, tells_two, tells_two, tells_two, tells_two, tells_two]
  simp only [Nat.div_div_eq_div_mul, tells, List.nil_append, List.cons_append]
  simp
end Go.Proofs.YtpjfhdbkkomogaaDoor.Mb
namespace Go.Proofs.YtpjfhdbkkomogaaDoor.Px
noncomputable section
open Go.RowKit Go.Proofs.YtpjfhdbkkomogaaDoor.Gvn Go.Proofs.YtpjfhdbkkomogaaDoorW.PrintWords Go.Proofs.YtpjfhdbkkomogaaDoorW.PrintLast Go.Proofs.YtpjfhdbkkomogaaDoorW.PrintMore
attribute [local go_sem] run_store_float min2_int min_two
set_option linter.unusedVariables false
set_option linter.unusedSimpArgs false
def text_Parse.f (a0 : ByteArray) : Option (Int × Int × ByteArray × Nat × Int) := Mb.parseF a0
theorem text_Parse.calls (a0 : ByteArray) (r1 : Int) (r2 : Int) (r3 : ByteArray) (r4 : Nat) (r5 : Int) (w : World) (hT : Mb.Errs w) (h : text_Parse.f a0 = some (r1, r2, r3, r4, r5)) :
  Calls Tryd.prog 14 #[.string a0] w fun e w' => e = .returned (.tuple #[.agg #[.int .i64 r1, .int .i64 r2, .string r3, .float .f64 r4], .int .i64 r5]) ∧ Below w.heap.size w w' := Mb.parseF_calls a0 r1 r2 r3 r4 r5 w hT h
end
end Go.Proofs.YtpjfhdbkkomogaaDoor.Px
namespace Go.Proofs.YtpjfhdbkkomogaaDoor.Mb
open Go.RowKit Go.Proofs.YtpjfhdbkkomogaaDoorW.PrintWords Go.Proofs.YtpjfhdbkkomogaaDoorW.PrintLast Go.Proofs.YtpjfhdbkkomogaaDoorW.PrintMore Go.Proofs.YtpjfhdbkkomogaaDoor.Px Go.Proofs.YtpjfhdbkkomogaaDoor.Gvn
open Go.Lib (itoa decDigits)
section
variable (x : ByteArray) (sz : Nat) (hsz : x.size = sz) (hb : sz ≤ 1000)
include hsz hb
theorem j5_total (neg : Bool) : ∃ k r, rialtoref4_read.j5 k x (sz : Int) 0 neg = some r ∧ In4 r := by
  obtain ⟨k, r, hk, hr⟩ := l1_total x neg sz hsz (by omega) sz 0 0 (by omega)
  exact ⟨k + 1, r, by rw [rialtoref4_read.j5]; exact hk, hr⟩
theorem j3_total (b : Bool) (h17 : b = true → sz = 17) : ∃ k r, rialtoref4_read.j3 k x (sz : Int) b = some r ∧ In4 r := by
  cases b with
  | true =>
    have h := h17 rfl
    have hz : (x.extract 1 x.size).size = 16 := by rw [size_tail]; omega
    obtain ⟨k, r, hk, hr⟩ := bytes_total (x.extract 1 x.size) (by omega) 16 0 [] (by omega) (by omega) (by simp)
    have hk' : rialtoref4_bytes.f k (x.extract 1 x.size) = some r := hk
    cases hq : r.2 with
    | true =>
      have h8 : 8 ≤ r.1.length := by
        have := hr hq
        rw [hz, List.length_nil] at this
        omega
      obtain ⟨j, q, hj, hq2⟩ := l0_total r.1 h8 8 0 0 (by omega) (by decide)
      refine ⟨k + j + 1, q, ?_, hq2⟩
      have hb' : rialtoref4_bytes.f (k + j) (x.extract 1 x.size) = some r := grow_le (g := fun k => rialtoref4_bytes.f k (x.extract 1 x.size)) (fun k => rialtoref4_bytes.mono _ k) j hk'
      have hj' : rialtoref4_read.l0 (j + k) r.1 true 0 0 = some q := grow_le (g := fun k => rialtoref4_read.l0 k r.1 true 0 0) (fun k => (rialtoref4_read.mono_l k).2.2.2.2.1 _ _ _ _) k hj
      rw [Nat.add_comm] at hj'
      rw [rialtoref4_read.j3, if_pos rfl, if_pos (by omega), hb', Option.bind_some, hq, hj']
    | false =>
      refine ⟨k + 1 + 1, (5, 0, ⟨#[]⟩, 0), ?_, ⟨(by decide : (-9223372036854775808 : Int) ≤ 0), (by decide : (0 : Int) ≤ 9223372036854775807), (by decide : (0 : Nat) < 18446744073709551616)⟩⟩
      have hb' : rialtoref4_bytes.f (k + 1) (x.extract 1 x.size) = some r := rialtoref4_bytes.mono _ _ _ hk'
      rw [rialtoref4_read.j3, if_pos rfl, if_pos (by omega), hb', Option.bind_some, hq, rialtoref4_read.l0, if_neg (by decide)]
      rfl
  | false =>
    by_cases h0 : (sz : Int) > 0
    · obtain ⟨k, r, hk, hr⟩ := j5_total x sz hsz hb (bt x 0 == 45)
      exact ⟨k + 1, r, by rw [rialtoref4_read.j3, if_neg (by decide), if_pos h0, if_pos (by omega), hk], hr⟩
    · obtain ⟨k, r, hk, hr⟩ := j5_total x sz hsz hb false
      exact ⟨k + 1, r, by rw [rialtoref4_read.j3, if_neg (by decide), if_neg h0, hk], hr⟩
theorem j2_total (b : Bool) (h1 : b = true → 0 < sz) : ∃ k r, rialtoref4_read.j2 k x (sz : Int) b = some r ∧ In4 r := by
  cases b with
  | true =>
    have h := h1 rfl
    obtain ⟨k, r, hk, -⟩ := bytes_total (x.extract 1 x.size) (by rw [size_tail]; omega) sz 0 [] (by rw [size_tail]; omega) (by omega) (by simp; omega)
    have hk' : rialtoref4_bytes.f k (x.extract 1 x.size) = some r := hk
    exact ⟨k + 1, (4, 0, strOfNums r.1, 0), by rw [rialtoref4_read.j2, if_pos rfl, if_pos (by omega), hk', Option.bind_some], in_nil 4 _⟩
  | false =>
    by_cases h17 : (sz : Int) = 17
    · obtain ⟨k, r, hk, hr⟩ := j3_total x sz hsz hb (bt x 0 == 102) (fun _ => by omega)
      exact ⟨k + 1, r, by rw [rialtoref4_read.j2, if_neg (by decide), if_pos h17, if_pos (by omega), hk], hr⟩
    · obtain ⟨k, r, hk, hr⟩ := j3_total x sz hsz hb false (fun h => by cases h)
      exact ⟨k + 1, r, by rw [rialtoref4_read.j2, if_neg (by decide), if_neg h17, hk], hr⟩
theorem j1_total (b : Bool) : ∃ k r, rialtoref4_read.j1 k x (sz : Int) b = some r ∧ In4 r := by
  cases b with
  | true =>
    obtain ⟨k, r, hk⟩ := runq_total x (by omega) sz 1 [] (by omega) (by omega) (by simp; omega)
    have hk' : rialtoref4_unquoted.f k x = some r := hk
    exact ⟨k + 1, (3, 0, r, 0), by rw [rialtoref4_read.j1, if_pos rfl, hk', Option.bind_some], in_nil 3 _⟩
  | false =>
    by_cases h0 : (sz : Int) > 0
    · obtain ⟨k, r, hk, hr⟩ := j2_total x sz hsz hb (bt x 0 == 120) (fun _ => by omega)
      exact ⟨k + 1, r, by rw [rialtoref4_read.j1, if_neg (by decide), if_pos h0, if_pos (by omega), hk], hr⟩
    · obtain ⟨k, r, hk, hr⟩ := j2_total x sz hsz hb false (fun h => by cases h)
      exact ⟨k + 1, r, by rw [rialtoref4_read.j1, if_neg (by decide), if_neg h0, hk], hr⟩
theorem j0_total (b : Bool) : ∃ k r, rialtoref4_read.j0 k x (sz : Int) b = some r ∧ In4 r := by
  cases b with
  | true =>
    by_cases ht : x.toList = ([116, 114, 117, 101] : List UInt8)
    · exact ⟨1, (2, 1, ⟨#[]⟩, 0), by rw [rialtoref4_read.j0, if_pos rfl, if_pos ht], in_one 2 _⟩
    · exact ⟨1, (2, 0, ⟨#[]⟩, 0), by rw [rialtoref4_read.j0, if_pos rfl, if_neg ht], in_nil 2 _⟩
  | false =>
    by_cases h0 : (sz : Int) > 0
    · obtain ⟨k, r, hk, hr⟩ := j1_total x sz hsz hb (bt x 0 == 34)
      exact ⟨k + 1, r, by rw [rialtoref4_read.j0, if_neg (by decide), if_pos h0, if_pos (by omega), hk], hr⟩
    · obtain ⟨k, r, hk, hr⟩ := j1_total x sz hsz hb false
      exact ⟨k + 1, r, by rw [rialtoref4_read.j0, if_neg (by decide), if_neg h0, hk], hr⟩
end
theorem refread_total (x : ByteArray) (hb : x.size ≤ 1000) : ∃ k r, rialtoref4_read.f k x = some r ∧ In4 r := by
  by_cases ht : x.toList = ([116, 114, 117, 101] : List UInt8)
  · obtain ⟨k, r, hk, hr⟩ := j0_total x x.size rfl hb true
    exact ⟨k, r, by unfold rialtoref4_read.f; rw [if_pos ht, hk], hr⟩
  · obtain ⟨k, r, hk, hr⟩ := j0_total x x.size rfl hb (x.toList == ([102, 97, 108, 115, 101] : List UInt8))
    exact ⟨k, r, by unfold rialtoref4_read.f; rw [if_neg ht, hk], hr⟩
theorem chain0 (k : Nat) (c : UInt8) (r : List UInt8) (h1 : c ≠ 116) (h2 : ¬ [97, 108, 115, 101] = r ∨ c ≠ 102) : rialtoref4_read.f (k + 1) (B (c :: r)) = rialtoref4_read.j1 k (B (c :: r)) ((B (c :: r)).size : Int) ((c.toNat : Int) == 34) := by
  have e1 : ¬ (B (c :: r)).toList = ([116, 114, 117, 101] : List UInt8) := by rw [toList_B]; intro h; cases h; exact h1 rfl
  have e2 : ((B (c :: r)).toList == ([102, 97, 108, 115, 101] : List UInt8)) = false := by
    rw [toList_B, beq_eq_false_iff_ne]
    intro h
    cases h
    rcases h2 with h | h
    · exact h rfl
    · exact h rfl
  have hz : ((B (c :: r)).size : Int) > 0 := by rw [size_B, List.length_cons]; omega
  unfold rialtoref4_read.f
  rw [if_neg e1, e2, rialtoref4_read.j0, if_neg (by decide), if_pos hz, if_pos (by omega), bt_cons]
theorem chain1 (k : Nat) (c : UInt8) (r : List UInt8) : rialtoref4_read.j1 (k + 1) (B (c :: r)) ((B (c :: r)).size : Int) false = rialtoref4_read.j2 k (B (c :: r)) ((B (c :: r)).size : Int) ((c.toNat : Int) == 120) := by
  have hz : ((B (c :: r)).size : Int) > 0 := by rw [size_B, List.length_cons]; omega
  rw [rialtoref4_read.j1, if_neg (by decide), if_pos hz, if_pos (by omega), bt_cons]
theorem chain2 (k : Nat) (c : UInt8) (r : List UInt8) (h : c ≠ 102) : rialtoref4_read.j2 (k + 1) (B (c :: r)) ((B (c :: r)).size : Int) false = rialtoref4_read.j3 k (B (c :: r)) ((B (c :: r)).size : Int) false := by
  have hz : ((B (c :: r)).size : Int) > 0 := by rw [size_B, List.length_cons]; omega
  have hc : ((c.toNat : Int) == 102) = false := beq_eq_false_iff_ne.2 fun e => h (UInt8.toNat_inj.1 (by rw [show (102 : UInt8).toNat = 102 by decide]; omega))
  rw [rialtoref4_read.j2, if_neg (by decide)]
  split
  · rw [bt_cons, hc]
  · rfl
theorem chain3 (k : Nat) (c : UInt8) (r : List UInt8) : rialtoref4_read.j3 (k + 2) (B (c :: r)) ((B (c :: r)).size : Int) false = rialtoref4_read.l1 k (B (c :: r)) ((B (c :: r)).size : Int) 0 ((c.toNat : Int) == 45) 0 := by
  have hz : ((B (c :: r)).size : Int) > 0 := by rw [size_B, List.length_cons]; omega
  rw [rialtoref4_read.j3, if_neg (by decide), if_pos hz, if_pos (by omega), bt_cons, rialtoref4_read.j5]
theorem byte_no {c : UInt8} {n : Nat} (h : c.toNat ≠ n) : ((c.toNat : Int) == (n : Int)) = false := beq_eq_false_iff_ne.2 (by omega)
theorem refread_num (n : Int) (h0 : -9223372036854775808 ≤ n) (h1 : n ≤ 9223372036854775807) : ∃ k, rialtoref4_read.f k (B (itoa n)) = some (1, n, ⟨#[]⟩, 0) := by
  have hsh := itoa_short n h0 h1
  by_cases hneg : n < 0
  · have hi : itoa n = 45 :: decDigits n.natAbs := by unfold itoa; rw [if_pos hneg]
    rw [hi] at hsh ⊢
    rw [List.length_cons] at hsh
    have hd := dec_digits n.natAbs
    have hv : dval (decDigits n.natAbs) = n.natAbs := dval_dec _
    generalize decDigits n.natAbs = l at *
    refine ⟨l.length + 2 + 5, ?_⟩
    rw [show l.length + 2 + 5 = (l.length + 2 + 4) + 1 from rfl, chain0 _ 45 l (by decide) (.inr (by decide)), show ((((45 : UInt8).toNat : Int)) == 34) = false from rfl]
    rw [chain1, show ((((45 : UInt8).toNat : Int)) == 120) = false from rfl, chain2 _ 45 l (by decide), chain3, show ((((45 : UInt8).toNat : Int)) == 45) = true from rfl]
    have hz : (B (45 :: l)).size = l.length + 1 := by rw [size_B, List.length_cons]
    have hstep := l1_step (l.length + 1) (B (45 :: l)) 0 true 0 (l.length + 1) hz (by omega) (by omega)
    rw [hz]
    refine Eq.trans hstep ?_
    have hbt : bt (B (45 :: l)) ((0 : Nat) : Int) = 45 := bt_cons 45 l
    rw [hbt, show dstep 0 45 = 0 from rfl]
    have hl := l1_digits [45] true (l.length + 1) (by omega) l.length [] l rfl (by simp; omega) hd.1 (by rw [List.nil_append, hv]; omega) (l.length + 1) (by omega)
    rw [List.nil_append, hv, if_pos rfl] at hl
    refine Eq.trans hl ?_
    congr 3
    rw [IntKind.wrap_u64]
    unfold wrap64
    omega
  · have hi : itoa n = decDigits n.toNat := by unfold itoa; rw [if_neg hneg]
    rw [hi] at hsh ⊢
    have hd := dec_digits n.toNat
    obtain ⟨c, r, hcr, hc0, hc1⟩ := dec_cons n.toNat
    have hv : dval (decDigits n.toNat) = n.toNat := dval_dec _
    rw [hcr] at hsh hd hv ⊢
    refine ⟨(c :: r).length + 1 + 5, ?_⟩
    have n1 : ((c.toNat : Int) == 34) = false := byte_no (n := 34) (by omega)
    have n2 : ((c.toNat : Int) == 120) = false := byte_no (n := 120) (by omega)
    have n3 : ((c.toNat : Int) == 45) = false := byte_no (n := 45) (by omega)
    have m1 : c ≠ 116 := fun h => by subst h; revert hc1; decide
    have m2 : c ≠ 102 := fun h => by subst h; revert hc1; decide
    rw [show (c :: r).length + 1 + 5 = ((c :: r).length + 1 + 4) + 1 from rfl, chain0 _ c r m1 (.inr m2), n1, chain1, n2, chain2 _ c r m2, chain3, n3]
    have hl := l1_digits [] false (c :: r).length (by omega) (c :: r).length [] (c :: r) rfl (by simp) hd.1 (by rw [List.nil_append, hv]; omega) ((c :: r).length + 1) (by omega)
    rw [List.nil_append, List.nil_append, hv, if_neg (by decide)] at hl
    refine Eq.trans hl ?_
    congr 3
    unfold wrap64
    omega
theorem nums_str (l : List UInt8) : strOfNums (N l) = B l := str_N l
theorem refread_is {k i : Int} {s : ByteArray} {f : Nat} {t : List UInt8} (h : Vt k i s f t) : ∃ n, rialtoref4_read.f n (B t) = some (k, i, s, f) := by
  cases h with
  | int n h0 h1 => exact refread_num i h0 h1
  | yes =>
    refine ⟨1, ?_⟩
    unfold rialtoref4_read.f
    rw [if_pos (toList_B _), rialtoref4_read.j0, if_pos rfl, if_pos (toList_B _)]
  | no =>
    refine ⟨1, ?_⟩
    unfold rialtoref4_read.f
    have e : ¬ (B [102, 97, 108, 115, 101]).toList = ([116, 114, 117, 101] : List UInt8) := by rw [toList_B]; decide
    rw [if_neg e, toList_B, show (([102, 97, 108, 115, 101] : List UInt8) == [102, 97, 108, 115, 101]) = true from rfl, rialtoref4_read.j0, if_pos rfl, if_neg e]
  | str s h =>
    have hl : s.data.toList.length ≤ 60 := by rw [size_data]; exact h
    have hu := runq_is s.data.toList.length (2 * s.data.toList.length + 3) [] s.data.toList rfl (by omega) (by simp; omega)
    refine ⟨2 * s.data.toList.length + 3 + 2, ?_⟩
    have e : quoteL s.data.toList = 34 :: (s.data.toList.flatMap esc ++ [34]) := by simp [quoteL]
    rw [List.nil_append, B_data] at hu
    have hu' : rialtoref4_unquoted.f (2 * s.data.toList.length + 3) (B (quoteL s.data.toList)) = some s := hu
    rw [e] at hu' ⊢
    rw [show 2 * s.data.toList.length + 3 + 2 = (2 * s.data.toList.length + 3 + 1) + 1 from rfl, chain0 _ 34 _ (by decide) (.inr (by decide)), show ((((34 : UInt8).toNat : Int)) == 34) = true from rfl, rialtoref4_read.j1, if_pos rfl, hu', Option.bind_some]
  | bytes s h =>
    have hl : s.data.toList.length ≤ 60 := by rw [size_data]; exact h
    have hu := bytes_is s.data.toList.length (3 * s.data.toList.length + 4) [] s.data.toList rfl (by omega) (by simp; omega)
    rw [List.nil_append] at hu
    have hu' : rialtoref4_bytes.f (3 * s.data.toList.length + 4) (B (hexL s.data.toList)) = some (N s.data.toList, true) := hu
    refine ⟨3 * s.data.toList.length + 4 + 3, ?_⟩
    rw [show 3 * s.data.toList.length + 4 + 3 = (3 * s.data.toList.length + 4 + 2) + 1 from rfl, chain0 _ 120 _ (by decide) (.inr (by decide)), show ((((120 : UInt8).toNat : Int)) == 34) = false from rfl, chain1, show ((((120 : UInt8).toNat : Int)) == 120) = true from rfl, rialtoref4_read.j2, if_pos rfl, if_pos (by rw [size_B, List.length_cons]; omega), tail1, hu', Option.bind_some, nums_str, B_data]
  | float f h =>
    have hu := bytes_is 8 (28 + 9) [] (eight f) rfl (by decide) (by simp [eight])
    rw [List.nil_append, eight_hex] at hu
    have hu' : rialtoref4_bytes.f (28 + 9) (B (tells 16 f)) = some (N (eight f), true) := hu
    have hz : ((B (102 :: tells 16 f)).size : Int) = 17 := by rw [size_B, List.length_cons, tells_length]; rfl
    have hne : ¬ [97, 108, 115, 101] = tells 16 f := fun e => by have := congrArg List.length e; rw [tells_length] at this; simp at this
    refine ⟨28 + 9 + 4, ?_⟩
    rw [show 28 + 9 + 4 = (28 + 9 + 3) + 1 from rfl, chain0 _ 102 _ (by decide) (.inl hne), show ((((102 : UInt8).toNat : Int)) == 34) = false from rfl, show 28 + 9 + 3 = (28 + 9 + 2) + 1 from rfl, chain1, show ((((102 : UInt8).toNat : Int)) == 120) = false from rfl, show 28 + 9 + 2 = (28 + 9 + 1) + 1 from rfl, rialtoref4_read.j2, if_neg (by decide), if_pos hz, if_pos (by omega), bt_cons, show ((((102 : UInt8).toNat : Int)) == 102) = true from rfl, rialtoref4_read.j3, if_pos rfl, if_pos (by omega), tail1, hu', Option.bind_some]
    exact l0_is 28 f h
def Val (v : S24) (s : ByteArray) : Prop := Vt v.f0 v.f1 v.f2 v.f3 s.data.toList
def none5 : Int × Int × ByteArray × Nat × Int := (0, 0, ⟨#[]⟩, 0, 30)
def some5 (v : S24) : Int × Int × ByteArray × Nat × Int := (v.f0, v.f1, v.f2, v.f3, 0)
theorem vt_in {k i : Int} {s : ByteArray} {f : Nat} {t : List UInt8} (h : Vt k i s f t) : In ⟨k, i, s, f⟩ := h.is.2
theorem txt_of {v : S24} {s : ByteArray} (h : Val v s) : B (txt v) = s := by
  rw [txt_vt h, B_data]
theorem val_of {v : S24} (hv : In v) {s : ByteArray} (h : B (txt v) = s) (hs : s ≠ B [63]) : Val v s := by
  rcases txt_or hv with h1 | ⟨h1, -⟩
  · unfold Val
    rw [← h, data_B]
    exact h1
  · rw [h1] at h
    exact absurd h.symm hs
theorem text_parse (s : ByteArray) (hs : s.size ≤ 1000) : ∃ r, text_Parse.f s = some r ∧ ((∃ v, Val v s ∧ r = some5 v) ∨ ((∀ v, ¬ Val v s) ∧ r = none5)) := by
  have hval : ∀ v, Val v s → text_Parse.f s = some (some5 v) := fun v hv => by
    have := hv.parseF (by rw [size_data]; omega)
    rw [B_data] at this
    exact this
  have hno : text_Parse.f s = some none5 → ∃ r, text_Parse.f s = some r ∧ ((∃ v, Val v s ∧ r = some5 v) ∨ ((∀ v, ¬ Val v s) ∧ r = none5)) := fun h => by
    refine ⟨none5, h, .inr ⟨fun v hv => ?_, rfl⟩⟩
    have h5 : some5 v = none5 := Option.some.inj ((hval v hv).symm.trans h)
    have h6 : (0 : Int) = 30 := congrArg (fun r : Int × Int × ByteArray × Nat × Int => r.2.2.2.2) h5
    omega
  obtain ⟨y, hy, hy2⟩ := front_total s.data.toList (by rw [size_data]; omega)
  obtain ⟨k, i, b, f, r, ok⟩ := y
  have hf : frontF s = some (k, i, b, f, r, ok) := hy
  have hin : In ⟨k, i, b, f⟩ := hy2.1
  by_cases hc : ok = false ∨ r.toList.isEmpty = false
  · refine hno ?_
    show parseF s = _
    unfold parseF
    rw [hf]
    simp only
    rw [if_pos hc]
    rfl
  · have hp : printF k i b f = some (B (txt ⟨k, i, b, f⟩)) := txt_print hin
    by_cases he : B (txt ⟨k, i, b, f⟩) = s
    · by_cases hq : s = B [63]
      · refine hno ?_
        rw [hq]
        exact parseF_bad
      · have hv := val_of hin he hq
        exact ⟨_, hval _ hv, .inl ⟨_, hv, rfl⟩⟩
    · refine hno ?_
      show parseF s = _
      unfold parseF
      rw [hf]
      simp only
      rw [if_neg hc, hp]
      simp only
      rw [if_neg he]
      rfl
theorem ref_parse (s : ByteArray) (hs : s.size ≤ 1000) : ∃ k r, rialtoref4_Parse.f k s = some r ∧ ((∃ v, Val v s ∧ r = some5 v) ∨ ((∀ v, ¬ Val v s) ∧ r = none5)) := by
  obtain ⟨k, q, hk, hin⟩ := refread_total s hs
  obtain ⟨a, i, b, f⟩ := q
  have hin' : In ⟨a, i, b, f⟩ := hin
  obtain ⟨j, hj⟩ := ref_print hin'
  have hk' : rialtoref4_read.f (k + (j + 1)) s = some (a, i, b, f) := grow_le (g := fun k => rialtoref4_read.f k s) (fun k => rialtoref4_read.mono _ k) (j + 1) hk
  have hj' : rialtoref4_Print.f (j + (k + 1)) a i b f = some (B (txt ⟨a, i, b, f⟩)) := grow_le (g := fun k => rialtoref4_Print.f k a i b f) (fun k => rialtoref4_Print.mono _ _ _ _ k) (k + 1) hj
  rw [show j + (k + 1) = k + (j + 1) by omega] at hj'
  have uniq : ∀ v, Val v s → (⟨a, i, b, f⟩ : S24) = v := fun v hv => by
    obtain ⟨n, hn⟩ := refread_is hv
    rw [B_data] at hn
    have := grow_one (g := fun k => rialtoref4_read.f k s) (fun k => rialtoref4_read.mono _ k) hk hn
    cases this
    rfl
  rcases is_or a i b f hin'.1 hin'.2.1 hin'.2.2 with ⟨hi, t, ht⟩ | hi
  · by_cases he : (B (txt ⟨a, i, b, f⟩)).toList = s.toList
    · refine ⟨k + (j + 1), _, ?_, .inl ⟨⟨a, i, b, f⟩, ?_, rfl⟩⟩
      · unfold rialtoref4_Parse.f
        rw [hk', Option.bind_some, is_val hin'.2.2 hi _ (by omega), Option.bind_some, if_pos rfl, hj', Option.bind_some, if_pos he]
        rfl
      · unfold Val
        rw [toList_B, ByteArray.toList_eq] at he
        rw [← he, txt_vt ht]
        exact ht
    · refine ⟨k + (j + 1), none5, ?_, .inr ⟨fun v hv => ?_, rfl⟩⟩
      · unfold rialtoref4_Parse.f
        rw [hk', Option.bind_some, is_val hin'.2.2 hi _ (by omega), Option.bind_some, if_pos rfl, hj', Option.bind_some, if_neg he]
        rfl
      · obtain rfl := uniq v hv
        rw [txt_of hv] at he
        exact he rfl
  · refine ⟨k + (j + 1), none5, ?_, .inr ⟨fun v hv => ?_, rfl⟩⟩
    · unfold rialtoref4_Parse.f
      rw [hk', Option.bind_some, is_val hin'.2.2 hi _ (by omega), Option.bind_some, if_neg (by decide)]
      rfl
    · obtain rfl := uniq v hv
      have := hv.is.1
      rw [hi] at this
      cases this
theorem val_one {v u : S24} {s : ByteArray} (hs : s.size ≤ 1000) (h : Val v s) (h' : Val u s) : v = u := by
  have h1 := h.parseF (by rw [size_data]; omega)
  have h2 := h'.parseF (by rw [size_data]; omega)
  have := h1.symm.trans h2
  cases v
  cases u
  cases this
  rfl
end Go.Proofs.YtpjfhdbkkomogaaDoor.Mb
