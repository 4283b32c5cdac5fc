/- Texts of this claim, one behind the other. -/
import Derived.Test.YtpjfhdbkkomogaaDoorH1
import Derived.Test.YtpjfhdbkkomogaaDoorH3
import Derived.Test.YtpjfhdbkkomogaaDoorH2
import Derived.Test.YtpjfhdbkkomogaaDoorH6
namespace Go.Proofs.YtpjfhdbkkomogaaDoor.Px
open Go.RowKit Go.Proofs.YtpjfhdbkkomogaaDoor.Gvn Go.Proofs.YtpjfhdbkkomogaaDoorW.PrintWords Go.Proofs.YtpjfhdbkkomogaaDoorW.PrintLast Go.Proofs.YtpjfhdbkkomogaaDoorW.PrintMore
attribute [local go_sem] run_store_float min2_int min_two
set_option linter.unusedVariables false
set_option linter.unusedSimpArgs false
mutual
def rialtoref4_Print.l0 : Nat → List Int → Int → Int → Int → ByteArray → Nat → Option (ByteArray)
 | 0, _, _, _, _, _, _ => none
 | k + 1, x3, x4, x207000, x207001, x207002, x207003 => if x4 < (x207002.size : Int) then (if 0 ≤ x4 then (if (bt x207002 x4) = 34 then (rialtoref4_Print.j1 k x3 x4 (bt x207002 x4) true x207000 x207001 x207002 x207003) else (rialtoref4_Print.j1 k x3 x4 (bt x207002 x4) ((bt x207002 x4) == 92) x207000 x207001 x207002 x207003)) else (none)) else (if x3.length < 140737488355328 then (some (strOfNums (x3 ++ [34]))) else (none))
def rialtoref4_Print.j1 : Nat → List Int → Int → Int → Bool → Int → Int → ByteArray → Nat → Option (ByteArray)
 | 0, _, _, _, _, _, _, _, _ => none
 | k + 1, x3, x4, x5, x45, x207000, x207001, x207002, x207003 => if x45 = true then ((some (([92, x5] : List Int) : List Int)).bind fun y215 => (if x3.length + y215.length < 140737488355328 then (rialtoref4_Print.l0 k (x3 ++ y215) (wrap64 (x4 + 1)) x207000 x207001 x207002 x207003) else (none))) else (if x5 ≥ 32 then (if x5 ≤ 126 then (if x3.length < 140737488355328 then (rialtoref4_Print.l0 k (x3 ++ [x5]) (wrap64 (x4 + 1)) x207000 x207001 x207002 x207003) else (none)) else ((some (([92, 120] : List Int) : List Int)).bind fun y224 => (if x3.length + y224.length < 140737488355328 then ((rialtoref4_two.f (x3 ++ y224) x5).bind fun t230 => (rialtoref4_Print.l0 k t230 (wrap64 (x4 + 1)) x207000 x207001 x207002 x207003)) else (none)))) else ((some (([92, 120] : List Int) : List Int)).bind fun y233 => (if x3.length + y233.length < 140737488355328 then ((rialtoref4_two.f (x3 ++ y233) x5).bind fun t239 => (rialtoref4_Print.l0 k t239 (wrap64 (x4 + 1)) x207000 x207001 x207002 x207003)) else (none))))
def rialtoref4_Print.l1 : Nat → List Int → Int → Int → Int → ByteArray → Nat → Option (ByteArray)
 | 0, _, _, _, _, _, _ => none
 | k + 1, x6, x7, x207000, x207001, x207002, x207003 => if x7 < (x207002.size : Int) then (if 0 ≤ x7 then ((rialtoref4_two.f x6 (bt x207002 x7)).bind fun t245 => (rialtoref4_Print.l1 k t245 (wrap64 (x7 + 1)) x207000 x207001 x207002 x207003)) else (none)) else (some (strOfNums x6))
def rialtoref4_Print.l2 : Nat → Int → List Int → Int → Option (ByteArray)
 | 0, _, _, _ => none
 | k + 1, x8, x9, x10 => if x10 ≥ 0 then (if 0 ≤ x10 then ((rialtoref4_two.f x9 ((shr .u64 x8 x10) % 256)).bind fun t251 => (rialtoref4_Print.l2 k x8 t251 (wrap64 (x10 - 8)))) else (none)) else (some (strOfNums x9))
end
def rialtoref4_Print.f (k : Nat) (a0_0 : Int) (a0_1 : Int) (a0_2 : ByteArray) (a0_3 : Nat) : Option (ByteArray) := (rialtoref2_Is.f k a0_0 a0_1 a0_2 a0_3).bind fun t207 => (if t207 = true then (if a0_0 = 1 then ((rialtoref4_Digits.f k a0_1).bind fun t208 => (some t208)) else (if a0_0 = 2 then (if a0_1 = 1 then (some (⟨#[116, 114, 117, 101]⟩ : ByteArray)) else (some (⟨#[102, 97, 108, 115, 101]⟩ : ByteArray))) else (if a0_0 = 3 then (rialtoref4_Print.l0 k (([34] : List Int)) 0 a0_0 a0_1 a0_2 a0_3) else (if a0_0 = 4 then (rialtoref4_Print.l1 k (([120] : List Int)) 0 a0_0 a0_1 a0_2 a0_3) else (rialtoref4_Print.l2 k ((a0_3 : Nat) : Int) (([102] : List Int)) 56))))) else (some (⟨#[63]⟩ : ByteArray)))
theorem rialtoref4_Print.mono_l : ∀ k, (∀ y0 y1 y2 y3 y4 y5, LeO (rialtoref4_Print.l0 k y0 y1 y2 y3 y4 y5) (rialtoref4_Print.l0 (k + 1) y0 y1 y2 y3 y4 y5)) ∧ (∀ y0 y1 y2 y3 y4 y5 y6 y7, LeO (rialtoref4_Print.j1 k y0 y1 y2 y3 y4 y5 y6 y7) (rialtoref4_Print.j1 (k + 1) y0 y1 y2 y3 y4 y5 y6 y7)) ∧ (∀ y0 y1 y2 y3 y4 y5, LeO (rialtoref4_Print.l1 k y0 y1 y2 y3 y4 y5) (rialtoref4_Print.l1 (k + 1) y0 y1 y2 y3 y4 y5)) ∧ (∀ y0 y1 y2, LeO (rialtoref4_Print.l2 k y0 y1 y2) (rialtoref4_Print.l2 (k + 1) y0 y1 y2))
 | 0 => ⟨fun _ _ _ _ _ _ r h => by simp [rialtoref4_Print.l0] at h, fun _ _ _ _ _ _ _ _ r h => by simp [rialtoref4_Print.j1] at h, fun _ _ _ _ _ _ r h => by simp [rialtoref4_Print.l1] at h, fun _ _ _ r h => by simp [rialtoref4_Print.l2] at h⟩
 | k + 1 => by
  obtain ⟨ih0, ih1, ih2, ih3⟩ := rialtoref4_Print.mono_l k
  refine ⟨?_, ?_, ?_, ?_⟩
  ·intro y0 y1 y2 y3 y4 y5
   unfold rialtoref4_Print.l0
   repeat' first
   | (with_reducible exact ih0 _ _ _ _ _ _)
   | (with_reducible exact ih1 _ _ _ _ _ _ _ _)
   | (with_reducible exact ih2 _ _ _ _ _ _)
   | (with_reducible exact ih3 _ _ _)
   | (with_reducible exact rialtoref2_Is.mono _ _ _ _ _)
   | (with_reducible exact rialtoref4_Digits.mono _ _)
   | (with_reducible exact LeO.refl _)
   | (with_reducible exact LeO.none _)
   | (with_reducible refine LeO.ite ?_ ?_)
   | (with_reducible refine LeO.bind ?_ (fun _ => ?_))
   | exact ih0 _ _ _ _ _ _
   | exact ih1 _ _ _ _ _ _ _ _
   | exact ih2 _ _ _ _ _ _
   | exact ih3 _ _ _
   | exact rialtoref2_Is.mono _ _ _ _ _
   | exact rialtoref4_Digits.mono _ _
   | exact LeO.none _
   | refine LeO.ite ?_ ?_
   | refine LeO.bind ?_ (fun _ => ?_)
  ·intro y0 y1 y2 y3 y4 y5 y6 y7
   unfold rialtoref4_Print.j1
   repeat' first
   | (with_reducible exact ih0 _ _ _ _ _ _)
   | (with_reducible exact ih1 _ _ _ _ _ _ _ _)
   | (with_reducible exact ih2 _ _ _ _ _ _)
   | (with_reducible exact ih3 _ _ _)
   | (with_reducible exact rialtoref2_Is.mono _ _ _ _ _)
   | (with_reducible exact rialtoref4_Digits.mono _ _)
   | (with_reducible exact LeO.refl _)
   | (with_reducible exact LeO.none _)
   | (with_reducible refine LeO.ite ?_ ?_)
   | (with_reducible refine LeO.bind ?_ (fun _ => ?_))
   | exact ih0 _ _ _ _ _ _
   | exact ih1 _ _ _ _ _ _ _ _
   | exact ih2 _ _ _ _ _ _
   | exact ih3 _ _ _
   | exact rialtoref2_Is.mono _ _ _ _ _
   | exact rialtoref4_Digits.mono _ _
   | exact LeO.none _
   | refine LeO.ite ?_ ?_
   | refine LeO.bind ?_ (fun _ => ?_)
  ·intro y0 y1 y2 y3 y4 y5
   unfold rialtoref4_Print.l1
   repeat' first
   | (with_reducible exact ih0 _ _ _ _ _ _)
   | (with_reducible exact ih1 _ _ _ _ _ _ _ _)
   | (with_reducible exact ih2 _ _ _ _ _ _)
   | (with_reducible exact ih3 _ _ _)
   | (with_reducible exact rialtoref2_Is.mono _ _ _ _ _)
   | (with_reducible exact rialtoref4_Digits.mono _ _)
   | (with_reducible exact LeO.refl _)
   | (with_reducible exact LeO.none _)
   | (with_reducible refine LeO.ite ?_ ?_)
   | (with_reducible refine LeO.bind ?_ (fun _ => ?_))
   | exact ih0 _ _ _ _ _ _
   | exact ih1 _ _ _ _ _ _ _ _
   | exact ih2 _ _ _ _ _ _
   | exact ih3 _ _ _
   | exact rialtoref2_Is.mono _ _ _ _ _
   | exact rialtoref4_Digits.mono _ _
   | exact LeO.none _
   | refine LeO.ite ?_ ?_
   | refine LeO.bind ?_ (fun _ => ?_)
  ·intro y0 y1 y2
   unfold rialtoref4_Print.l2
   repeat' first
   | (with_reducible exact ih0 _ _ _ _ _ _)
   | (with_reducible exact ih1 _ _ _ _ _ _ _ _)
   | (with_reducible exact ih2 _ _ _ _ _ _)
   | (with_reducible exact ih3 _ _ _)
   | (with_reducible exact rialtoref2_Is.mono _ _ _ _ _)
   | (with_reducible exact rialtoref4_Digits.mono _ _)
   | (with_reducible exact LeO.refl _)
   | (with_reducible exact LeO.none _)
   | (with_reducible refine LeO.ite ?_ ?_)
   | (with_reducible refine LeO.bind ?_ (fun _ => ?_))
   | exact ih0 _ _ _ _ _ _
   | exact ih1 _ _ _ _ _ _ _ _
   | exact ih2 _ _ _ _ _ _
   | exact ih3 _ _ _
   | exact rialtoref2_Is.mono _ _ _ _ _
   | exact rialtoref4_Digits.mono _ _
   | exact LeO.none _
   | refine LeO.ite ?_ ?_
   | refine LeO.bind ?_ (fun _ => ?_)
theorem rialtoref4_Print.mono : ∀ a0 a1 a2 a3 k, LeO (rialtoref4_Print.f k a0 a1 a2 a3) (rialtoref4_Print.f (k + 1) a0 a1 a2 a3) := by
 intro a0 a1 a2 a3 k
 obtain ⟨ih0, ih1, ih2, ih3⟩ := rialtoref4_Print.mono_l k
 unfold rialtoref4_Print.f
 repeat' first
   | (with_reducible exact ih0 _ _ _ _ _ _)
   | (with_reducible exact ih1 _ _ _ _ _ _ _ _)
   | (with_reducible exact ih2 _ _ _ _ _ _)
   | (with_reducible exact ih3 _ _ _)
   | (with_reducible exact rialtoref2_Is.mono _ _ _ _ _)
   | (with_reducible exact rialtoref4_Digits.mono _ _)
   | (with_reducible exact LeO.refl _)
   | (with_reducible exact LeO.none _)
   | (with_reducible refine LeO.ite ?_ ?_)
   | (with_reducible refine LeO.bind ?_ (fun _ => ?_))
   | exact ih0 _ _ _ _ _ _
   | exact ih1 _ _ _ _ _ _ _ _
   | exact ih2 _ _ _ _ _ _
   | exact ih3 _ _ _
   | exact rialtoref2_Is.mono _ _ _ _ _
   | exact rialtoref4_Digits.mono _ _
   | exact LeO.none _
   | refine LeO.ite ?_ ?_
   | refine LeO.bind ?_ (fun _ => ?_)
set_option maxHeartbeats 8000000 in
set_option maxRecDepth 100000 in
theorem rialtoref4_Print.calls (k : Nat) (a0_0 : Int) (a0_1 : Int) (a0_2 : ByteArray) (a0_3 : Nat) (r : ByteArray) (w : World) (h : rialtoref4_Print.f k a0_0 a0_1 a0_2 a0_3 = some r) :
  Calls Tryd.prog 11 #[.agg #[.int .i64 a0_0, .int .i64 a0_1, .string a0_2, .float .f64 a0_3]] w fun e w' => e = .returned (.string r) ∧ Below w.heap.size w w' := by
 have hu24 := Tryd.underlying24
 have HB := Aside0.mk (Below.refl w.heap.size w)
 have H : ((rialtoref2_Is.f k a0_0 a0_1 a0_2 a0_3).bind fun t207 => (if t207 = true then (if a0_0 = 1 then ((rialtoref4_Digits.f k a0_1).bind fun t208 => (some t208)) else (if a0_0 = 2 then (if a0_1 = 1 then (some (⟨#[116, 114, 117, 101]⟩ : ByteArray)) else (some (⟨#[102, 97, 108, 115, 101]⟩ : ByteArray))) else (if a0_0 = 3 then (rialtoref4_Print.l0 k (([34] : List Int)) 0 a0_0 a0_1 a0_2 a0_3) else (if a0_0 = 4 then (rialtoref4_Print.l1 k (([120] : List Int)) 0 a0_0 a0_1 a0_2 a0_3) else (rialtoref4_Print.l2 k ((a0_3 : Nat) : Int) (([102] : List Int)) 56))))) else (some (⟨#[63]⟩ : ByteArray)))) = some r := h
 clear h
 replace H := Option.bind_eq_some_iff.mp H
 obtain ⟨t207, A20, H⟩ := H
 replace H : (if t207 = true then (if a0_0 = 1 then ((rialtoref4_Digits.f k a0_1).bind fun t208 => (some t208)) else (if a0_0 = 2 then (if a0_1 = 1 then (some (⟨#[116, 114, 117, 101]⟩ : ByteArray)) else (some (⟨#[102, 97, 108, 115, 101]⟩ : ByteArray))) else (if a0_0 = 3 then (rialtoref4_Print.l0 k (([34] : List Int)) 0 a0_0 a0_1 a0_2 a0_3) else (if a0_0 = 4 then (rialtoref4_Print.l1 k (([120] : List Int)) 0 a0_0 a0_1 a0_2 a0_3) else (rialtoref4_Print.l2 k ((a0_3 : Nat) : Int) (([102] : List Int)) 56))))) else (some (⟨#[63]⟩ : ByteArray))) = some r := H
 have A2 := Aside0.mk A20
 clear A20
 by_cases c3 : t207 = true
 ·subst c3
  have H1 : (if a0_0 = 1 then ((rialtoref4_Digits.f k a0_1).bind fun t208 => (some t208)) else (if a0_0 = 2 then (if a0_1 = 1 then (some (⟨#[116, 114, 117, 101]⟩ : ByteArray)) else (some (⟨#[102, 97, 108, 115, 101]⟩ : ByteArray))) else (if a0_0 = 3 then (rialtoref4_Print.l0 k (([34] : List Int)) 0 a0_0 a0_1 a0_2 a0_3) else (if a0_0 = 4 then (rialtoref4_Print.l1 k (([120] : List Int)) 0 a0_0 a0_1 a0_2 a0_3) else (rialtoref4_Print.l2 k ((a0_3 : Nat) : Int) (([102] : List Int)) 56))))) = some r := by rw [if_pos rfl] at H; exact H
  clear H
  have H := H1
  clear H1
  by_cases c4 : a0_0 = 1
  ·rw [if_pos c4] at H
   have c4b0 : (a0_0 == 1) = true := beq_iff_eq.mpr c4
   have c4b1 : (a0_0 != 1) = false := bne_eq_false_iff_eq.mpr c4
   clear c4
   replace H := Option.bind_eq_some_iff.mp H
   obtain ⟨t208, A50, H⟩ := H
   replace H : (some t208) = some r := H
   have A5 := Aside0.mk A50
   clear A50
   obtain rfl := Option.some.inj H
   have k23 := run23
   have k22 := run22
   go_enter Tryd.func11, Tryd.ntmps11
   go_wp2_with (first | ((with_reducible refine gate_dst (N := 1) rfl ?_); refine box_event ?hg (N := 1) ?hd (cs := #[.int .i64 a0_0, .int .i64 a0_1, .string a0_2, .float .f64 a0_3]) (t := 24) ?hr ?_; (case hd => rfl); (case hg => rfl); (case hr => first | (go_simp; done) | (go_simp; rfl)); intro gb206 hg w6 hbox hb; have n0_ := Aside0.mk (below_step (by repeat (first | (with_reducible first | exact HB.out | apply below_alloc | apply pw_below_drewN | apply below_drew1) | exact HB.out)) hb); have n1_ := Aside0.mk (hbox); have n2_ := Aside0.mk ((by rw [hg]; exact (below_size (by repeat (first | (with_reducible first | exact HB.out | apply below_alloc | apply pw_below_drewN | apply below_drew1) | exact HB.out))) : w.heap.size ≤ gb206)); have n3_ := Aside0.mk ((by rw [hg]; exact (below_size (by repeat (first | (with_reducible first | exact HB.out | apply below_alloc | apply pw_below_drewN | apply below_drew1) | exact HB.out))) : w.heap.size ≤ gb206)); clear HB; have HB := n0_; have BK206 := n1_; have GW206 := n2_; have GE206 := n3_; clear n0_ n1_ n2_ n3_; clear hb hbox hg; have hcz7_0 : w6.cell? ⟨gb206, 0, none⟩ = some (.int .i64 a0_0) := (blk_cell BK206.out 0).trans rfl; have hcz7_1 : w6.cell? ⟨gb206, 1, none⟩ = some (.int .i64 a0_1) := (blk_cell BK206.out 1).trans rfl; have hcz7_2 : w6.cell? ⟨gb206, 2, none⟩ = some (.string a0_2) := (blk_cell BK206.out 2).trans rfl; have hcz7_3 : w6.cell? ⟨gb206, 3, none⟩ = some (.float .f64 a0_3) := (blk_cell BK206.out 3).trans rfl; have hfz7_0 := blk_frozen BK206.out 0; have hfz7_1 := blk_frozen BK206.out 1; have hfz7_2 := blk_frozen BK206.out 2; have hfz7_3 := blk_frozen BK206.out 3) | ((with_reducible refine gate_callee (f := 20) rfl ?_); refine goesL_ (some 12) rfl rfl Tryd.func20 (by kernel_rfl) rfl #[.agg #[.int .i64 a0_0, .int .i64 a0_1, .string a0_2, .float .f64 a0_3]] rfl (by (try simp only [List.map_toArray, List.map_cons, List.map_nil]); first | done | rfl | (simp only [List.length_drop, List.length_take]; rfl)) ?_; (with_reducible refine (rialtoref2_Is.calls k a0_0 a0_1 a0_2 a0_3 true _ A2.out).mono ?_); rintro e w8 ⟨rfl, hb⟩; refine ⟨_, rfl, ?_⟩; have n0_ := Aside0.mk (blk_below (g := gb206) (o := .cells #[.int .i64 a0_0, .int .i64 a0_1, .string a0_2, .float .f64 a0_3] 24 (0, 0)) (by (with_reducible repeat (first | refine blk_drewN ?_ _ | refine blk_drew ?_ | refine blk_alloc ?_ _)); exact BK206.out) hb); have n1_ := Aside0.mk (below_step (by repeat (first | (with_reducible first | exact HB.out | apply below_alloc | apply pw_below_drewN | apply below_drew1 | refine below_set ?_ GE206.out) | exact HB.out)) hb); clear BK206; clear HB; have BK206 := n0_; have HB := n1_; clear n0_ n1_; (try clear hb); (try clear hb2); (try clear hk); (try clear hi); have hcz9_0 : w8.cell? ⟨gb206, 0, none⟩ = some (.int .i64 a0_0) := (blk_cell BK206.out 0).trans rfl; have hcz9_1 : w8.cell? ⟨gb206, 1, none⟩ = some (.int .i64 a0_1) := (blk_cell BK206.out 1).trans rfl; have hcz9_2 : w8.cell? ⟨gb206, 2, none⟩ = some (.string a0_2) := (blk_cell BK206.out 2).trans rfl; have hcz9_3 : w8.cell? ⟨gb206, 3, none⟩ = some (.float .f64 a0_3) := (blk_cell BK206.out 3).trans rfl; have hfz9_0 := blk_frozen BK206.out 0; have hfz9_1 := blk_frozen BK206.out 1; have hfz9_2 := blk_frozen BK206.out 2; have hfz9_3 := blk_frozen BK206.out 3) | ((with_reducible refine gate_callee (f := 21) rfl ?_); refine goesL_ (some 20) rfl rfl Tryd.func21 (by kernel_rfl) rfl #[.int .i64 a0_1] rfl (by (try simp only [List.map_toArray, List.map_cons, List.map_nil]); first | done | rfl | (simp only [List.length_drop, List.length_take]; rfl)) ?_; (with_reducible refine (rialtoref4_Digits.calls k a0_1 t208 _ A5.out).mono ?_); rintro e w10 ⟨rfl, hb⟩; refine ⟨_, rfl, ?_⟩; have n0_ := Aside0.mk (blk_below (g := gb206) (o := .cells #[.int .i64 a0_0, .int .i64 a0_1, .string a0_2, .float .f64 a0_3] 24 (0, 0)) (by (with_reducible repeat (first | refine blk_drewN ?_ _ | refine blk_drew ?_ | refine blk_alloc ?_ _)); exact BK206.out) hb); have n1_ := Aside0.mk (below_step (by repeat (first | (with_reducible first | exact HB.out | apply below_alloc | apply pw_below_drewN | apply below_drew1 | refine below_set ?_ GE206.out) | exact HB.out)) hb); clear BK206; clear HB; have BK206 := n0_; have HB := n1_; clear n0_ n1_; (try clear hb); (try clear hb2); (try clear hk); (try clear hi)))
   go_ret
   exact ⟨by first | rfl | (simp [errW_none, errW_some] <;> rfl) | (simp [*, errW_none, errW_some] <;> rfl), by repeat (first | (with_reducible first | exact HB.out | apply below_alloc | apply pw_below_drewN | apply below_drew1 | refine below_set ?_ GE206.out) | exact HB.out)⟩
  ·rw [if_neg c4] at H
   have c4b0 : (a0_0 == 1) = false := beq_eq_false_iff_ne.mpr c4
   have c4b1 : (a0_0 != 1) = true := bne_iff_ne.mpr c4
   by_cases c11 : a0_0 = 2
   ·rw [if_pos c11] at H
    have c11b0 : (a0_0 == 2) = true := beq_iff_eq.mpr c11
    have c11b1 : (a0_0 != 2) = false := bne_eq_false_iff_eq.mpr c11
    clear c11
    by_cases c12 : a0_1 = 1
    ·rw [if_pos c12] at H
     have c12b0 : (a0_1 == 1) = true := beq_iff_eq.mpr c12
     have c12b1 : (a0_1 != 1) = false := bne_eq_false_iff_eq.mpr c12
     clear c12
     obtain rfl := Option.some.inj H
     have k23 := run23
     have k22 := run22
     go_enter Tryd.func11, Tryd.ntmps11
     go_wp2_with (first | ((with_reducible refine gate_dst (N := 1) rfl ?_); refine box_event ?hg (N := 1) ?hd (cs := #[.int .i64 a0_0, .int .i64 a0_1, .string a0_2, .float .f64 a0_3]) (t := 24) ?hr ?_; (case hd => rfl); (case hg => rfl); (case hr => first | (go_simp; done) | (go_simp; rfl)); intro gb206 hg w13 hbox hb; have n0_ := Aside0.mk (below_step (by repeat (first | (with_reducible first | exact HB.out | apply below_alloc | apply pw_below_drewN | apply below_drew1) | exact HB.out)) hb); have n1_ := Aside0.mk (hbox); have n2_ := Aside0.mk ((by rw [hg]; exact (below_size (by repeat (first | (with_reducible first | exact HB.out | apply below_alloc | apply pw_below_drewN | apply below_drew1) | exact HB.out))) : w.heap.size ≤ gb206)); have n3_ := Aside0.mk ((by rw [hg]; exact (below_size (by repeat (first | (with_reducible first | exact HB.out | apply below_alloc | apply pw_below_drewN | apply below_drew1) | exact HB.out))) : w.heap.size ≤ gb206)); clear HB; have HB := n0_; have BK206 := n1_; have GW206 := n2_; have GE206 := n3_; clear n0_ n1_ n2_ n3_; clear hb hbox hg; have hcz14_0 : w13.cell? ⟨gb206, 0, none⟩ = some (.int .i64 a0_0) := (blk_cell BK206.out 0).trans rfl; have hcz14_1 : w13.cell? ⟨gb206, 1, none⟩ = some (.int .i64 a0_1) := (blk_cell BK206.out 1).trans rfl; have hcz14_2 : w13.cell? ⟨gb206, 2, none⟩ = some (.string a0_2) := (blk_cell BK206.out 2).trans rfl; have hcz14_3 : w13.cell? ⟨gb206, 3, none⟩ = some (.float .f64 a0_3) := (blk_cell BK206.out 3).trans rfl; have hfz14_0 := blk_frozen BK206.out 0; have hfz14_1 := blk_frozen BK206.out 1; have hfz14_2 := blk_frozen BK206.out 2; have hfz14_3 := blk_frozen BK206.out 3) | ((with_reducible refine gate_callee (f := 20) rfl ?_); refine goesL_ (some 12) rfl rfl Tryd.func20 (by kernel_rfl) rfl #[.agg #[.int .i64 a0_0, .int .i64 a0_1, .string a0_2, .float .f64 a0_3]] rfl (by (try simp only [List.map_toArray, List.map_cons, List.map_nil]); first | done | rfl | (simp only [List.length_drop, List.length_take]; rfl)) ?_; (with_reducible refine (rialtoref2_Is.calls k a0_0 a0_1 a0_2 a0_3 true _ A2.out).mono ?_); rintro e w15 ⟨rfl, hb⟩; refine ⟨_, rfl, ?_⟩; have n0_ := Aside0.mk (blk_below (g := gb206) (o := .cells #[.int .i64 a0_0, .int .i64 a0_1, .string a0_2, .float .f64 a0_3] 24 (0, 0)) (by (with_reducible repeat (first | refine blk_drewN ?_ _ | refine blk_drew ?_ | refine blk_alloc ?_ _)); exact BK206.out) hb); have n1_ := Aside0.mk (below_step (by repeat (first | (with_reducible first | exact HB.out | apply below_alloc | apply pw_below_drewN | apply below_drew1 | refine below_set ?_ GE206.out) | exact HB.out)) hb); clear BK206; clear HB; have BK206 := n0_; have HB := n1_; clear n0_ n1_; (try clear hb); (try clear hb2); (try clear hk); (try clear hi); have hcz16_0 : w15.cell? ⟨gb206, 0, none⟩ = some (.int .i64 a0_0) := (blk_cell BK206.out 0).trans rfl; have hcz16_1 : w15.cell? ⟨gb206, 1, none⟩ = some (.int .i64 a0_1) := (blk_cell BK206.out 1).trans rfl; have hcz16_2 : w15.cell? ⟨gb206, 2, none⟩ = some (.string a0_2) := (blk_cell BK206.out 2).trans rfl; have hcz16_3 : w15.cell? ⟨gb206, 3, none⟩ = some (.float .f64 a0_3) := (blk_cell BK206.out 3).trans rfl; have hfz16_0 := blk_frozen BK206.out 0; have hfz16_1 := blk_frozen BK206.out 1; have hfz16_2 := blk_frozen BK206.out 2; have hfz16_3 := blk_frozen BK206.out 3))
     go_ret
     exact ⟨by first | rfl | (simp [errW_none, errW_some] <;> rfl) | (simp [*, errW_none, errW_some] <;> rfl), by repeat (first | (with_reducible first | exact HB.out | apply below_alloc | apply pw_below_drewN | apply below_drew1 | refine below_set ?_ GE206.out) | exact HB.out)⟩
    ·rw [if_neg c12] at H
     have c12b0 : (a0_1 == 1) = false := beq_eq_false_iff_ne.mpr c12
     have c12b1 : (a0_1 != 1) = true := bne_iff_ne.mpr c12
     obtain rfl := Option.some.inj H
     have k23 := run23
     have k22 := run22
     go_enter Tryd.func11, Tryd.ntmps11
     go_wp2_with (first | ((with_reducible refine gate_dst (N := 1) rfl ?_); refine box_event ?hg (N := 1) ?hd (cs := #[.int .i64 a0_0, .int .i64 a0_1, .string a0_2, .float .f64 a0_3]) (t := 24) ?hr ?_; (case hd => rfl); (case hg => rfl); (case hr => first | (go_simp; done) | (go_simp; rfl)); intro gb206 hg w17 hbox hb; have n0_ := Aside0.mk (below_step (by repeat (first | (with_reducible first | exact HB.out | apply below_alloc | apply pw_below_drewN | apply below_drew1) | exact HB.out)) hb); have n1_ := Aside0.mk (hbox); have n2_ := Aside0.mk ((by rw [hg]; exact (below_size (by repeat (first | (with_reducible first | exact HB.out | apply below_alloc | apply pw_below_drewN | apply below_drew1) | exact HB.out))) : w.heap.size ≤ gb206)); have n3_ := Aside0.mk ((by rw [hg]; exact (below_size (by repeat (first | (with_reducible first | exact HB.out | apply below_alloc | apply pw_below_drewN | apply below_drew1) | exact HB.out))) : w.heap.size ≤ gb206)); clear HB; have HB := n0_; have BK206 := n1_; have GW206 := n2_; have GE206 := n3_; clear n0_ n1_ n2_ n3_; clear hb hbox hg; have hcz18_0 : w17.cell? ⟨gb206, 0, none⟩ = some (.int .i64 a0_0) := (blk_cell BK206.out 0).trans rfl; have hcz18_1 : w17.cell? ⟨gb206, 1, none⟩ = some (.int .i64 a0_1) := (blk_cell BK206.out 1).trans rfl; have hcz18_2 : w17.cell? ⟨gb206, 2, none⟩ = some (.string a0_2) := (blk_cell BK206.out 2).trans rfl; have hcz18_3 : w17.cell? ⟨gb206, 3, none⟩ = some (.float .f64 a0_3) := (blk_cell BK206.out 3).trans rfl; have hfz18_0 := blk_frozen BK206.out 0; have hfz18_1 := blk_frozen BK206.out 1; have hfz18_2 := blk_frozen BK206.out 2; have hfz18_3 := blk_frozen BK206.out 3) | ((with_reducible refine gate_callee (f := 20) rfl ?_); refine goesL_ (some 12) rfl rfl Tryd.func20 (by kernel_rfl) rfl #[.agg #[.int .i64 a0_0, .int .i64 a0_1, .string a0_2, .float .f64 a0_3]] rfl (by (try simp only [List.map_toArray, List.map_cons, List.map_nil]); first | done | rfl | (simp only [List.length_drop, List.length_take]; rfl)) ?_; (with_reducible refine (rialtoref2_Is.calls k a0_0 a0_1 a0_2 a0_3 true _ A2.out).mono ?_); rintro e w19 ⟨rfl, hb⟩; refine ⟨_, rfl, ?_⟩; have n0_ := Aside0.mk (blk_below (g := gb206) (o := .cells #[.int .i64 a0_0, .int .i64 a0_1, .string a0_2, .float .f64 a0_3] 24 (0, 0)) (by (with_reducible repeat (first | refine blk_drewN ?_ _ | refine blk_drew ?_ | refine blk_alloc ?_ _)); exact BK206.out) hb); have n1_ := Aside0.mk (below_step (by repeat (first | (with_reducible first | exact HB.out | apply below_alloc | apply pw_below_drewN | apply below_drew1 | refine below_set ?_ GE206.out) | exact HB.out)) hb); clear BK206; clear HB; have BK206 := n0_; have HB := n1_; clear n0_ n1_; (try clear hb); (try clear hb2); (try clear hk); (try clear hi); have hcz20_0 : w19.cell? ⟨gb206, 0, none⟩ = some (.int .i64 a0_0) := (blk_cell BK206.out 0).trans rfl; have hcz20_1 : w19.cell? ⟨gb206, 1, none⟩ = some (.int .i64 a0_1) := (blk_cell BK206.out 1).trans rfl; have hcz20_2 : w19.cell? ⟨gb206, 2, none⟩ = some (.string a0_2) := (blk_cell BK206.out 2).trans rfl; have hcz20_3 : w19.cell? ⟨gb206, 3, none⟩ = some (.float .f64 a0_3) := (blk_cell BK206.out 3).trans rfl; have hfz20_0 := blk_frozen BK206.out 0; have hfz20_1 := blk_frozen BK206.out 1; have hfz20_2 := blk_frozen BK206.out 2; have hfz20_3 := blk_frozen BK206.out 3))
     go_ret
     exact ⟨by first | rfl | (simp [errW_none, errW_some] <;> rfl) | (simp [*, errW_none, errW_some] <;> rfl), by repeat (first | (with_reducible first | exact HB.out | apply below_alloc | apply pw_below_drewN | apply below_drew1 | refine below_set ?_ GE206.out) | exact HB.out)⟩
   ·rw [if_neg c11] at H
    have c11b0 : (a0_0 == 2) = false := beq_eq_false_iff_ne.mpr c11
    have c11b1 : (a0_0 != 2) = true := bne_iff_ne.mpr c11
    by_cases c21 : a0_0 = 3
    ·rw [if_pos c21] at H
     have c21b0 : (a0_0 == 3) = true := beq_iff_eq.mpr c21
     have c21b1 : (a0_0 != 3) = false := bne_eq_false_iff_eq.mpr c21
     clear c21
     obtain ⟨y209, hy209⟩ : ∃ y_ : List Int, y_ = (([34] : List Int)) := ⟨_, rfl⟩
     replace H : (rialtoref4_Print.l0 k y209 0 a0_0 a0_1 a0_2 a0_3) = some r := by first | (rw [hy209]; with_reducible exact H) | (have H2_ := (Option.bind_some _ _).symm.trans H; rw [hy209]; with_reducible exact H2_) | (have H2_ := (Option.bind_some _ _).symm.trans H; with_reducible exact H2_) | with_reducible exact H | (rw [hy209]; exact H) | exact H
     have Ny209 := Aside0.mk hy209
     clear hy209
     have H' := Aside0.mk H
     clear H
     have k23 := run23
     have k22 := run22
     go_enter Tryd.func11, Tryd.ntmps11
     go_wp2_with (first | ((with_reducible refine gate_dst (N := 1) rfl ?_); refine box_event ?hg (N := 1) ?hd (cs := #[.int .i64 a0_0, .int .i64 a0_1, .string a0_2, .float .f64 a0_3]) (t := 24) ?hr ?_; (case hd => rfl); (case hg => rfl); (case hr => first | (go_simp; done) | (go_simp; rfl)); intro gb206 hg w22 hbox hb; have n0_ := Aside0.mk (below_step (by repeat (first | (with_reducible first | exact HB.out | apply below_alloc | apply pw_below_drewN | apply below_drew1) | exact HB.out)) hb); have n1_ := Aside0.mk (hbox); have n2_ := Aside0.mk ((by rw [hg]; exact (below_size (by repeat (first | (with_reducible first | exact HB.out | apply below_alloc | apply pw_below_drewN | apply below_drew1) | exact HB.out))) : w.heap.size ≤ gb206)); have n3_ := Aside0.mk ((by rw [hg]; exact (below_size (by repeat (first | (with_reducible first | exact HB.out | apply below_alloc | apply pw_below_drewN | apply below_drew1) | exact HB.out))) : w.heap.size ≤ gb206)); clear HB; have HB := n0_; have BK206 := n1_; have GW206 := n2_; have GE206 := n3_; clear n0_ n1_ n2_ n3_; clear hb hbox hg; have hcz23_0 : w22.cell? ⟨gb206, 0, none⟩ = some (.int .i64 a0_0) := (blk_cell BK206.out 0).trans rfl; have hcz23_1 : w22.cell? ⟨gb206, 1, none⟩ = some (.int .i64 a0_1) := (blk_cell BK206.out 1).trans rfl; have hcz23_2 : w22.cell? ⟨gb206, 2, none⟩ = some (.string a0_2) := (blk_cell BK206.out 2).trans rfl; have hcz23_3 : w22.cell? ⟨gb206, 3, none⟩ = some (.float .f64 a0_3) := (blk_cell BK206.out 3).trans rfl; have hfz23_0 := blk_frozen BK206.out 0; have hfz23_1 := blk_frozen BK206.out 1; have hfz23_2 := blk_frozen BK206.out 2; have hfz23_3 := blk_frozen BK206.out 3) | ((with_reducible refine gate_callee (f := 20) rfl ?_); refine goesL_ (some 12) rfl rfl Tryd.func20 (by kernel_rfl) rfl #[.agg #[.int .i64 a0_0, .int .i64 a0_1, .string a0_2, .float .f64 a0_3]] rfl (by (try simp only [List.map_toArray, List.map_cons, List.map_nil]); first | done | rfl | (simp only [List.length_drop, List.length_take]; rfl)) ?_; (with_reducible refine (rialtoref2_Is.calls k a0_0 a0_1 a0_2 a0_3 true _ A2.out).mono ?_); rintro e w24 ⟨rfl, hb⟩; refine ⟨_, rfl, ?_⟩; have n0_ := Aside0.mk (blk_below (g := gb206) (o := .cells #[.int .i64 a0_0, .int .i64 a0_1, .string a0_2, .float .f64 a0_3] 24 (0, 0)) (by (with_reducible repeat (first | refine blk_drewN ?_ _ | refine blk_drew ?_ | refine blk_alloc ?_ _)); exact BK206.out) hb); have n1_ := Aside0.mk (below_step (by repeat (first | (with_reducible first | exact HB.out | apply below_alloc | apply pw_below_drewN | apply below_drew1 | refine below_set ?_ GE206.out) | exact HB.out)) hb); clear BK206; clear HB; have BK206 := n0_; have HB := n1_; clear n0_ n1_; (try clear hb); (try clear hb2); (try clear hk); (try clear hi); have hcz25_0 : w24.cell? ⟨gb206, 0, none⟩ = some (.int .i64 a0_0) := (blk_cell BK206.out 0).trans rfl; have hcz25_1 : w24.cell? ⟨gb206, 1, none⟩ = some (.int .i64 a0_1) := (blk_cell BK206.out 1).trans rfl; have hcz25_2 : w24.cell? ⟨gb206, 2, none⟩ = some (.string a0_2) := (blk_cell BK206.out 2).trans rfl; have hcz25_3 : w24.cell? ⟨gb206, 3, none⟩ = some (.float .f64 a0_3) := (blk_cell BK206.out 3).trans rfl; have hfz25_0 := blk_frozen BK206.out 0; have hfz25_1 := blk_frozen BK206.out 1; have hfz25_2 := blk_frozen BK206.out 2; have hfz25_3 := blk_frozen BK206.out 3) | ((with_reducible refine gate_dst (N := 28) rfl ?_); refine Kd.R_lit (Kd.int .u8) _ 5 ?hg (N := 28) ?hd (xs := ([34] : List Int)) (inner := [.int .u8 34]) (ok := fun _ => True) (okp := fun _ => True) ?hr ?hp (fun _ hk => hk) trivial (Below.refl _ _) (Nat.le_refl _) (by simp) ?_; (case hd => rfl); (case hg => rfl); (case hr => first | (go_simp; done) | (go_simp; rfl)); (case hp => exact (Reps.one (show Kd.M (Kd.int .u8) _ _ _ 34 [.int .u8 34] from rfl) (Reps.none _ _))); intro v210 w26 ho27 hb hg_ hnew_; clear hg_ hnew_; (first | rw [← Ny209.out] at ho27 | (simp only [Int.reduceToNat] at ho27; rw [← Ny209.out] at ho27)); have n0_ := Aside0.mk (Kd.R_lower ho27 (below_size (by repeat (first | (with_reducible first | exact HB.out | apply below_alloc | apply pw_below_drewN | apply below_drew1 | refine below_set ?_ GE206.out) | exact HB.out)))); have n1_ := Aside0.mk (blk_below (g := gb206) (o := .cells #[.int .i64 a0_0, .int .i64 a0_1, .string a0_2, .float .f64 a0_3] 24 (0, 0)) (by (with_reducible repeat (first | refine blk_drewN ?_ _ | refine blk_drew ?_ | refine blk_alloc ?_ _)); exact BK206.out) hb); have n2_ := Aside0.mk (below_step (by repeat (first | (with_reducible first | exact HB.out | apply below_alloc | apply pw_below_drewN | apply below_drew1 | refine below_set ?_ GE206.out) | exact HB.out)) hb); clear BK206; clear HB; have HO211 := n0_; have BK206 := n1_; have HB := n2_; clear n0_ n1_ n2_; clear hb ho27))
     go_loopg [3, 4] k (fun kq v3 v4 w' => ∃ (x3_1 : List Int) (x4_1 : Int), v4 = .int .i64 x4_1 ∧ Aside0 (rialtoref4_Print.l0 kq x3_1 x4_1 a0_0 a0_1 a0_2 a0_3 = some r) ∧ Aside0 (kq ≤ k) ∧ Aside0 (Kd.R (Kd.int .u8) 5 w' w.heap.size (fun _ => True) v3 x3_1) ∧ Aside0 (w'.heap[gb206]? = some (.cells #[.int .i64 a0_0, .int .i64 a0_1, .string a0_2, .float .f64 a0_3] 24 (0, 0))) ∧ Aside0 (Below w.heap.size w w'))
     case atStart => exact ⟨(y209), (0), (by first | rfl | (simp; done) | (simp [*]; done)), H', ⟨Nat.le_refl _⟩, ⟨by (with_reducible repeat (first | apply Kd.R_alloc | apply Kd.R_drewN | apply Kd.R_drew)); exact HO211.out⟩, ⟨by (with_reducible repeat (first | refine blk_drewN ?_ _ | refine blk_drew ?_ | refine blk_alloc ?_ _)); exact BK206.out⟩, ⟨by repeat (first | (with_reducible first | exact HB.out | apply below_alloc | apply pw_below_drewN | apply below_drew1 | refine below_set ?_ GE206.out) | exact HB.out)⟩⟩
     case round =>
      clear H'
      try clear c1;try clear c2;try clear p2;try clear c3;try clear c4;try clear c4b0;try clear c4b1;try clear c11;try clear c11b0;try clear c11b1;try clear c12;try clear c12b0;try clear c12b1;try clear c20;try clear c21;try clear c21b0;try clear c21b1;try clear hcz14_0;try clear hcz14_1;try clear hcz14_2;try clear hcz14_3;try clear hcz16_0;try clear hcz16_1;try clear hcz16_2;try clear hcz16_3;try clear hcz18_0;try clear hcz18_1;try clear hcz18_2;try clear hcz18_3;try clear hcz20_0;try clear hcz20_1;try clear hcz20_2;try clear hcz20_3;try clear hcz23_0;try clear hcz23_1;try clear hcz23_2;try clear hcz23_3;try clear hcz25_0;try clear hcz25_1;try clear hcz25_2;try clear hcz25_3;try clear hcz7_0;try clear hcz7_1;try clear hcz7_2;try clear hcz7_3;try clear hcz9_0;try clear hcz9_1;try clear hcz9_2;try clear hcz9_3;try clear hfz14_0;try clear hfz14_1;try clear hfz14_2;try clear hfz14_3;try clear hfz16_0;try clear hfz16_1;try clear hfz16_2;try clear hfz16_3;try clear hfz18_0;try clear hfz18_1;try clear hfz18_2;try clear hfz18_3;try clear hfz20_0;try clear hfz20_1;try clear hfz20_2;try clear hfz20_3;try clear hfz23_0;try clear hfz23_1;try clear hfz23_2;try clear hfz23_3;try clear hfz25_0;try clear hfz25_1;try clear hfz25_2;try clear hfz25_3;try clear hfz7_0;try clear hfz7_1;try clear hfz7_2;try clear hfz7_3;try clear hfz9_0;try clear hfz9_1;try clear hfz9_2;try clear hfz9_3
      obtain ⟨x3_1, x4_1, rfl, HA, HK1, HO_3, BK206, HB⟩ := hrel
      cases gk with
      | zero => exact absurd HA.out (by simp [rialtoref4_Print.l0])
      | succ k1 =>
       have H := HA.out
       clear HA
       simp only [rialtoref4_Print.l0] at H
       by_cases c28 : x4_1 < (a0_2.size : Int)
       ·rw [if_pos c28] at H
        have c28b0 : decide (x4_1 < (a0_2.size : Int)) = true := decide_eq_true c28
        clear c28
        by_cases c29 : 0 ≤ x4_1
        ·rw [if_pos c29] at H
         have c29b0 : decide (0 ≤ x4_1) = true := decide_eq_true c29
         clear c29
         have HC31 := Aside0.mk H
         clear H
         have hcz32_0 : wr.cell? ⟨gb206, 0, none⟩ = some (.int .i64 a0_0) := (blk_cell BK206.out 0).trans rfl
         have hcz32_1 : wr.cell? ⟨gb206, 1, none⟩ = some (.int .i64 a0_1) := (blk_cell BK206.out 1).trans rfl
         have hcz32_2 : wr.cell? ⟨gb206, 2, none⟩ = some (.string a0_2) := (blk_cell BK206.out 2).trans rfl
         have hcz32_3 : wr.cell? ⟨gb206, 3, none⟩ = some (.float .f64 a0_3) := (blk_cell BK206.out 3).trans rfl
         have hfz32_0 := blk_frozen BK206.out 0
         have hfz32_1 := blk_frozen BK206.out 1
         have hfz32_2 := blk_frozen BK206.out 2
         have hfz32_3 := blk_frozen BK206.out 3
         have p30 : 0 ≤ (x4_1 : Int) := of_decide_eq_true (by first | (with_reducible assumption) | assumption)
         have q30 : x4_1 < (a0_2.size : Int) := of_decide_eq_true (by first | (with_reducible assumption) | assumption)
         have hx30 := bt_at a0_2 x4_1
         replace p30 := eq_true p30
         replace q30 := eq_true q30
         go_upto_region 17 with (fail)
         go_cut [45] (fun v45 wc => ∃ (kq : Nat) (x45_30 : Bool), v45 = .bool x45_30 ∧ Aside0 (rialtoref4_Print.j1 kq x3_1 x4_1 (bt a0_2 x4_1) x45_30 a0_0 a0_1 a0_2 a0_3 = some r) ∧ Aside0 (kq ≤ k1) ∧ Aside0 (Kd.R (Kd.int .u8) 5 wc w.heap.size (fun _ => True) u3 x3_1) ∧ Aside0 (wc.heap[gb206]? = some (.cells #[.int .i64 a0_0, .int .i64 a0_1, .string a0_2, .float .f64 a0_3] 24 (0, 0))) ∧ Aside0 (Below w.heap.size w wc))
         case first =>
          have H := HC31.out
          clear HC31
          by_cases c33 : (bt a0_2 x4_1) = 34
          ·rw [if_pos c33] at H
           have c33b0 : ((bt a0_2 x4_1) == 34) = true := beq_iff_eq.mpr c33
           have c33b1 : ((bt a0_2 x4_1) != 34) = false := bne_eq_false_iff_eq.mpr c33
           clear c33
           (first | rw [c33b0] | (simp only [i64_w, i32_w]; rw [c33b0]) | skip)
           have H' := Aside0.mk H
           clear H
           go_wp2
           go_meet
           case rel => exact ⟨_, (true), (by first | rfl | (simp; done) | (simp [*]; done)), H', ⟨by have := HK1.out; first | omega | exact Nat.le_refl _⟩, ⟨by (with_reducible repeat (first | apply Kd.R_alloc | apply Kd.R_drewN | apply Kd.R_drew)); exact HO_3.out⟩, ⟨by (with_reducible repeat (first | refine blk_drewN ?_ _ | refine blk_drew ?_ | refine blk_alloc ?_ _)); exact BK206.out⟩, ⟨by repeat (first | (with_reducible first | exact HB.out | apply below_alloc | apply pw_below_drewN | apply below_drew1 | refine below_set ?_ GE206.out) | exact HB.out)⟩⟩
          ·rw [if_neg c33] at H
           have c33b0 : ((bt a0_2 x4_1) == 34) = false := beq_eq_false_iff_ne.mpr c33
           have c33b1 : ((bt a0_2 x4_1) != 34) = true := bne_iff_ne.mpr c33
           (first | rw [c33b0] | (simp only [i64_w, i32_w]; rw [c33b0]) | skip)
           have H' := Aside0.mk H
           clear H
           go_wp2
           go_meet
           case rel => exact ⟨_, (((bt a0_2 x4_1) == 92)), (by first | rfl | (simp; done) | (simp [*]; done)), H', ⟨by have := HK1.out; first | omega | exact Nat.le_refl _⟩, ⟨by (with_reducible repeat (first | apply Kd.R_alloc | apply Kd.R_drewN | apply Kd.R_drew)); exact HO_3.out⟩, ⟨by (with_reducible repeat (first | refine blk_drewN ?_ _ | refine blk_drew ?_ | refine blk_alloc ?_ _)); exact BK206.out⟩, ⟨by repeat (first | (with_reducible first | exact HB.out | apply below_alloc | apply pw_below_drewN | apply below_drew1 | refine below_set ?_ GE206.out) | exact HB.out)⟩⟩
         case rest =>
          clear HC31
          try clear c1;try clear c2;try clear p2;try clear c3;try clear p3;try clear q3;try clear hx3;try clear c4;try clear c4b0;try clear c4b1;try clear c11;try clear c11b0;try clear c11b1;try clear c12;try clear c12b0;try clear c12b1;try clear c20;try clear c21;try clear c21b0;try clear c21b1;try clear c28;try clear c28b0;try clear c29;try clear c29b0;try clear p30;try clear q30;try clear hx30;try clear c33;try clear c33b0;try clear c33b1;try clear hcz14_0;try clear hcz14_1;try clear hcz14_2;try clear hcz14_3;try clear hcz16_0;try clear hcz16_1;try clear hcz16_2;try clear hcz16_3;try clear hcz18_0;try clear hcz18_1;try clear hcz18_2;try clear hcz18_3;try clear hcz20_0;try clear hcz20_1;try clear hcz20_2;try clear hcz20_3;try clear hcz23_0;try clear hcz23_1;try clear hcz23_2;try clear hcz23_3;try clear hcz25_0;try clear hcz25_1;try clear hcz25_2;try clear hcz25_3;try clear hcz32_0;try clear hcz32_1;try clear hcz32_2;try clear hcz32_3;try clear hcz7_0;try clear hcz7_1;try clear hcz7_2;try clear hcz7_3;try clear hcz9_0;try clear hcz9_1;try clear hcz9_2;try clear hcz9_3;try clear hfz14_0;try clear hfz14_1;try clear hfz14_2;try clear hfz14_3;try clear hfz16_0;try clear hfz16_1;try clear hfz16_2;try clear hfz16_3;try clear hfz18_0;try clear hfz18_1;try clear hfz18_2;try clear hfz18_3;try clear hfz20_0;try clear hfz20_1;try clear hfz20_2;try clear hfz20_3;try clear hfz23_0;try clear hfz23_1;try clear hfz23_2;try clear hfz23_3;try clear hfz25_0;try clear hfz25_1;try clear hfz25_2;try clear hfz25_3;try clear hfz32_0;try clear hfz32_1;try clear hfz32_2;try clear hfz32_3;try clear hfz7_0;try clear hfz7_1;try clear hfz7_2;try clear hfz7_3;try clear hfz9_0;try clear hfz9_1;try clear hfz9_2;try clear hfz9_3;try clear p2;try clear p30;try clear q30
          obtain ⟨kq, x45_30, rfl, HA, HJ30, HO_3, BK206, HB⟩ := hcut
          cases kq with
          | zero => exact absurd HA.out (by simp [rialtoref4_Print.j1])
          | succ kj30 =>
           have H := HA.out
           clear HA
           simp only [rialtoref4_Print.j1] at H
           by_cases c34 : x45_30 = true
           ·subst c34
            have H1 : ((some (([92, (bt a0_2 x4_1)] : List Int) : List Int)).bind fun y215 => (if x3_1.length + y215.length < 140737488355328 then (rialtoref4_Print.l0 kj30 (x3_1 ++ y215) (wrap64 (x4_1 + 1)) a0_0 a0_1 a0_2 a0_3) else (none))) = some r := by rw [if_pos rfl] at H; exact H
            clear H
            have H := H1
            clear H1
            obtain ⟨y215, hy215⟩ : ∃ y_ : List Int, y_ = (([92, (bt a0_2 x4_1)] : List Int)) := ⟨_, rfl⟩
            replace H : (if x3_1.length + y215.length < 140737488355328 then (rialtoref4_Print.l0 kj30 (x3_1 ++ y215) (wrap64 (x4_1 + 1)) a0_0 a0_1 a0_2 a0_3) else (none)) = some r := by first | (rw [hy215]; with_reducible exact H) | (have H2_ := (Option.bind_some _ _).symm.trans H; rw [hy215]; with_reducible exact H2_) | (have H2_ := (Option.bind_some _ _).symm.trans H; with_reducible exact H2_) | with_reducible exact H | (rw [hy215]; exact H) | exact H
            have Ny215 := Aside0.mk hy215
            clear hy215
            by_cases c35 : x3_1.length + y215.length < 140737488355328
            ·rw [if_pos c35] at H
             have LMc35 := Aside0.mk c35
             clear c35
             obtain ⟨y218, hy218⟩ : ∃ y_ : List Int, y_ = (x3_1 ++ y215) := ⟨_, rfl⟩
             replace H : (rialtoref4_Print.l0 kj30 y218 (wrap64 (x4_1 + 1)) a0_0 a0_1 a0_2 a0_3) = some r := by first | (rw [hy218]; with_reducible exact H) | (have H2_ := (Option.bind_some _ _).symm.trans H; rw [hy218]; with_reducible exact H2_) | (have H2_ := (Option.bind_some _ _).symm.trans H; with_reducible exact H2_) | with_reducible exact H | (rw [hy218]; exact H) | exact H
             have Ny218 := Aside0.mk hy218
             clear hy218
             have H' := Aside0.mk H
             clear H
             go_wp2_with (first | ((with_reducible refine gate_dst (N := 54) rfl ?_); refine Kd.R_lit (Kd.int .u8) _ 5 ?hg (N := 54) ?hd (xs := ([92, (bt a0_2 x4_1)] : List Int)) (inner := [.int .u8 92, .int .u8 (bt a0_2 x4_1)]) (ok := fun _ => True) (okp := fun _ => True) ?hr ?hp (fun _ hk => hk) trivial (Below.refl _ _) (Nat.le_refl _) (by simp) ?_; (case hd => rfl); (case hg => rfl); (case hr => first | (go_simp; done) | (go_simp; rfl)); (case hp => exact (Reps.one (show Kd.M (Kd.int .u8) _ _ _ 92 [.int .u8 92] from rfl) (Reps.one (show Kd.M (Kd.int .u8) _ _ _ (bt a0_2 x4_1) [.int .u8 (bt a0_2 x4_1)] from rfl) (Reps.none _ _)))); intro v216 w36 ho37 hb hg_ hnew_; clear hg_ hnew_; (first | rw [← Ny215.out] at ho37 | (simp only [Int.reduceToNat] at ho37; rw [← Ny215.out] at ho37)); have n0_ := Aside0.mk (Kd.R_elder' (by (with_reducible repeat (first | apply Kd.R_alloc | apply Kd.R_drewN | apply Kd.R_drew)); exact HO_3.out) (Kd.R_base ho37) hb); have n1_ := Aside0.mk (Kd.R_lower (Kd.R_new' ho37 (Kd.R_lt (by (with_reducible repeat (first | apply Kd.R_alloc | apply Kd.R_drewN | apply Kd.R_drew)); exact HO_3.out))) (below_size (by repeat (first | (with_reducible first | exact HB.out | apply below_alloc | apply pw_below_drewN | apply below_drew1 | refine below_set ?_ GE206.out) | exact HB.out)))); have n2_ := Aside0.mk (blk_below (g := gb206) (o := .cells #[.int .i64 a0_0, .int .i64 a0_1, .string a0_2, .float .f64 a0_3] 24 (0, 0)) (by (with_reducible repeat (first | refine blk_drewN ?_ _ | refine blk_drew ?_ | refine blk_alloc ?_ _)); exact BK206.out) hb); have n3_ := Aside0.mk (below_step (by repeat (first | (with_reducible first | exact HB.out | apply below_alloc | apply pw_below_drewN | apply below_drew1 | refine below_set ?_ GE206.out) | exact HB.out)) hb); clear HO_3; clear BK206; clear HB; have HO_3 := n0_; have HO217 := n1_; have BK206 := n2_; have HB := n3_; clear n0_ n1_ n2_ n3_; clear hb ho37; obtain ⟨Ao39, co39, eo39⟩ := Kd.R_slice HO217.out; subst eo39) | ((with_reducible refine gate_builtin (b := .append) (xs := #[.tmp 52, .tmp 54]) rfl ?_); at_builtin; refine Kd.R_append_rows (Kd.int .u8) (w0 := w) w.heap.size rfl (.tmp 52) (.tmp 54) 57 5 (.int .u8 0) 1 rfl Tryd.underlying57 info5 rfl (by decide) (by omega) u3 x3_1 y215 _ _ _ (fun k_ => some k_ ≠ (.slice Ao39 y215.length co39 : Value).ownBlock) (fun _ => False) rfl rfl ?aO ?aR (fun _ _ h => h) (fun _ h => h.elim) ?aF ?aB ?aS ?aL ?_; (case aR => repeat (first | exact (Kd.R_reads' HO217.out).2.2 | (with_reducible refine Kd.C_alloc ?_ _) | (with_reducible refine Kd.C_drewN ?_ _) | (with_reducible refine Kd.C_drew ?_))); (case aB => exact (by repeat (first | (with_reducible first | exact HB.out | apply below_alloc | apply pw_below_drewN | apply below_drew1 | refine below_set ?_ GE206.out) | exact HB.out))); (case aF => exact (fun k_ hk => Kd.fresh' (Kd.R_lt (by (with_reducible repeat (first | apply Kd.R_alloc | apply Kd.R_drewN | apply Kd.R_drew)); exact HO217.out)) k_ hk)); (case aO => exact (by (with_reducible repeat (first | apply Kd.R_alloc | apply Kd.R_drewN | apply Kd.R_drew)); exact Kd.R_mono HO_3.out (fun _ hk => hk.2))); (case aS => exact (below_size (by repeat (first | (with_reducible first | exact HB.out | apply below_alloc | apply pw_below_drewN | apply below_drew1 | refine below_set ?_ GE206.out) | exact HB.out)))); (case aL => have := LMc35.out; omega); intro v219 w38 ho hb hg hat; rw [← Ny218.out] at ho; have n0_ := Aside0.mk (blk_grown (g := gb206) (o := .cells #[.int .i64 a0_0, .int .i64 a0_1, .string a0_2, .float .f64 a0_3] 24 (0, 0)) (by (with_reducible repeat (first | refine blk_drewN ?_ _ | refine blk_drew ?_ | refine blk_alloc ?_ _)); exact BK206.out) hg (Kd.R_ne HO_3.out BK206.out (by decide))); have n1_ := Aside0.mk (Kd.R_after (ok := (fun _ => True)) (by (with_reducible repeat (first | apply Kd.R_alloc | apply Kd.R_drewN | apply Kd.R_drew)); exact HO217.out) hg hat); have n2_ := Aside0.mk (hb); have n3_ := Aside0.mk (ho); clear BK206; clear HO217; clear HB; clear HO_3; have BK206 := n0_; have HO217 := n1_; have HB := n2_; have HO220 := n3_; clear n0_ n1_ n2_ n3_; clear ho hb hg hat))
             go_roundg kj30
             case measure => have := HK1.out; have := HJ30.out; omega
             case rel => exact ⟨(y218), (wrap64 (x4_1 + 1)), (by first | rfl | (simp; done) | (simp [*]; done)), H', ⟨by have := HK1.out; have := HJ30.out; omega⟩, ⟨by (with_reducible repeat (first | apply Kd.R_alloc | apply Kd.R_drewN | apply Kd.R_drew)); exact Kd.R_mono HO220.out (fun _ hk => trivial)⟩, ⟨by (with_reducible repeat (first | refine blk_drewN ?_ _ | refine blk_drew ?_ | refine blk_alloc ?_ _)); exact BK206.out⟩, ⟨by repeat (first | (with_reducible first | exact HB.out | apply below_alloc | apply pw_below_drewN | apply below_drew1 | refine below_set ?_ GE206.out) | exact HB.out)⟩⟩
            ·rw [if_neg c35] at H
             exact absurd H (by simp)
           ·replace c34 := Bool.eq_false_iff.mpr c34
            subst c34
            have H1 : (if (bt a0_2 x4_1) ≥ 32 then (if (bt a0_2 x4_1) ≤ 126 then (if x3_1.length < 140737488355328 then (rialtoref4_Print.l0 kj30 (x3_1 ++ [(bt a0_2 x4_1)]) (wrap64 (x4_1 + 1)) a0_0 a0_1 a0_2 a0_3) else (none)) else ((some (([92, 120] : List Int) : List Int)).bind fun y224 => (if x3_1.length + y224.length < 140737488355328 then ((rialtoref4_two.f (x3_1 ++ y224) (bt a0_2 x4_1)).bind fun t230 => (rialtoref4_Print.l0 kj30 t230 (wrap64 (x4_1 + 1)) a0_0 a0_1 a0_2 a0_3)) else (none)))) else ((some (([92, 120] : List Int) : List Int)).bind fun y233 => (if x3_1.length + y233.length < 140737488355328 then ((rialtoref4_two.f (x3_1 ++ y233) (bt a0_2 x4_1)).bind fun t239 => (rialtoref4_Print.l0 kj30 t239 (wrap64 (x4_1 + 1)) a0_0 a0_1 a0_2 a0_3)) else (none)))) = some r := by rw [if_neg (show ¬ (false = true) by decide)] at H; exact H
            clear H
            have H := H1
            clear H1
            by_cases c40 : (bt a0_2 x4_1) ≥ 32
            ·rw [if_pos c40] at H
             have c40b0 : decide (32 ≤ (bt a0_2 x4_1)) = true := decide_eq_true c40
             clear c40
             by_cases c41 : (bt a0_2 x4_1) ≤ 126
             ·rw [if_pos c41] at H
              have c41b0 : decide ((bt a0_2 x4_1) ≤ 126) = true := decide_eq_true c41
              clear c41
              by_cases c42 : x3_1.length < 140737488355328
              ·rw [if_pos c42] at H
               have LMc42 := Aside0.mk c42
               clear c42
               obtain ⟨y221, hy221⟩ : ∃ y_ : List Int, y_ = (x3_1 ++ [(bt a0_2 x4_1)]) := ⟨_, rfl⟩
               replace H : (rialtoref4_Print.l0 kj30 y221 (wrap64 (x4_1 + 1)) a0_0 a0_1 a0_2 a0_3) = some r := by first | (rw [hy221]; with_reducible exact H) | (have H2_ := (Option.bind_some _ _).symm.trans H; rw [hy221]; with_reducible exact H2_) | (have H2_ := (Option.bind_some _ _).symm.trans H; with_reducible exact H2_) | with_reducible exact H | (rw [hy221]; exact H) | exact H
               have Ny221 := Aside0.mk hy221
               clear hy221
               have H' := Aside0.mk H
               clear H
               go_wp2_with (first | ((with_reducible refine gate_builtin (b := .append) (xs := #[.tmp 63, .tmp 65]) rfl ?_); at_builtin; refine Kd.R_append (Kd.int .u8) (w0 := w) w.heap.size rfl (.tmp 63) (.tmp 65) 57 5 (.int .u8 0) 1 rfl Tryd.underlying57 info5 rfl (by decide) (by omega) u3 x3_1 (bt a0_2 x4_1) [.int .u8 (bt a0_2 x4_1)] (fun _ => True) (fun _ => False) rfl rfl ?aP (fun _ hk => hk.elim) ?aF ?aO ?aB ?aS ?aL ?_; (case aP => exact rfl); (case aB => exact (by repeat (first | (with_reducible first | exact HB.out | apply below_alloc | apply pw_below_drewN | apply below_drew1 | refine below_set ?_ GE206.out) | exact HB.out))); (case aF => exact (fun _ _ => trivial)); (case aO => exact (by (with_reducible repeat (first | apply Kd.R_alloc | apply Kd.R_drewN | apply Kd.R_drew)); exact HO_3.out)); (case aS => exact (below_size (by repeat (first | (with_reducible first | exact HB.out | apply below_alloc | apply pw_below_drewN | apply below_drew1 | refine below_set ?_ GE206.out) | exact HB.out)))); (case aL => have := LMc42.out; omega); intro v222 w43 ho hb hg hat; rw [← Ny221.out] at ho; have n0_ := Aside0.mk (blk_grown (g := gb206) (o := .cells #[.int .i64 a0_0, .int .i64 a0_1, .string a0_2, .float .f64 a0_3] 24 (0, 0)) (by (with_reducible repeat (first | refine blk_drewN ?_ _ | refine blk_drew ?_ | refine blk_alloc ?_ _)); exact BK206.out) hg (Kd.R_ne HO_3.out BK206.out (by decide))); have n1_ := Aside0.mk (hb); have n2_ := Aside0.mk (ho); clear BK206; clear HB; clear HO_3; have BK206 := n0_; have HB := n1_; have HO223 := n2_; clear n0_ n1_ n2_; clear ho hb hg hat))
               go_roundg kj30
               case measure => have := HK1.out; have := HJ30.out; omega
               case rel => exact ⟨(y221), (wrap64 (x4_1 + 1)), (by first | rfl | (simp; done) | (simp [*]; done)), H', ⟨by have := HK1.out; have := HJ30.out; omega⟩, ⟨by (with_reducible repeat (first | apply Kd.R_alloc | apply Kd.R_drewN | apply Kd.R_drew)); exact HO223.out⟩, ⟨by (with_reducible repeat (first | refine blk_drewN ?_ _ | refine blk_drew ?_ | refine blk_alloc ?_ _)); exact BK206.out⟩, ⟨by repeat (first | (with_reducible first | exact HB.out | apply below_alloc | apply pw_below_drewN | apply below_drew1 | refine below_set ?_ GE206.out) | exact HB.out)⟩⟩
              ·rw [if_neg c42] at H
               exact absurd H (by simp)
             ·rw [if_neg c41] at H
              have c41b0 : decide ((bt a0_2 x4_1) ≤ 126) = false := decide_eq_false c41
              clear c41
              obtain ⟨y224, hy224⟩ : ∃ y_ : List Int, y_ = (([92, 120] : List Int)) := ⟨_, rfl⟩
              replace H : (if x3_1.length + y224.length < 140737488355328 then ((rialtoref4_two.f (x3_1 ++ y224) (bt a0_2 x4_1)).bind fun t230 => (rialtoref4_Print.l0 kj30 t230 (wrap64 (x4_1 + 1)) a0_0 a0_1 a0_2 a0_3)) else (none)) = some r := by first | (rw [hy224]; with_reducible exact H) | (have H2_ := (Option.bind_some _ _).symm.trans H; rw [hy224]; with_reducible exact H2_) | (have H2_ := (Option.bind_some _ _).symm.trans H; with_reducible exact H2_) | with_reducible exact H | (rw [hy224]; exact H) | exact H
              have Ny224 := Aside0.mk hy224
              clear hy224
              by_cases c44 : x3_1.length + y224.length < 140737488355328
              ·rw [if_pos c44] at H
               have LMc44 := Aside0.mk c44
               clear c44
               obtain ⟨y227, hy227⟩ : ∃ y_ : List Int, y_ = (x3_1 ++ y224) := ⟨_, rfl⟩
               replace H : ((rialtoref4_two.f y227 (bt a0_2 x4_1)).bind fun t230 => (rialtoref4_Print.l0 kj30 t230 (wrap64 (x4_1 + 1)) a0_0 a0_1 a0_2 a0_3)) = some r := by first | (rw [hy227]; with_reducible exact H) | (have H2_ := (Option.bind_some _ _).symm.trans H; rw [hy227]; with_reducible exact H2_) | (have H2_ := (Option.bind_some _ _).symm.trans H; with_reducible exact H2_) | with_reducible exact H | (rw [hy227]; exact H) | exact H
               have Ny227 := Aside0.mk hy227
               clear hy227
               replace H := Option.bind_eq_some_iff.mp H
               obtain ⟨t230, A450, H⟩ := H
               replace H : (rialtoref4_Print.l0 kj30 t230 (wrap64 (x4_1 + 1)) a0_0 a0_1 a0_2 a0_3) = some r := H
               have A45 := Aside0.mk A450
               clear A450
               have H' := Aside0.mk H
               clear H
               go_wp2_with (first | ((with_reducible refine gate_dst (N := 41) rfl ?_); refine Kd.R_lit (Kd.int .u8) _ 5 ?hg (N := 41) ?hd (xs := ([92, 120] : List Int)) (inner := [.int .u8 92, .int .u8 120]) (ok := fun _ => True) (okp := fun _ => True) ?hr ?hp (fun _ hk => hk) trivial (Below.refl _ _) (Nat.le_refl _) (by simp) ?_; (case hd => rfl); (case hg => rfl); (case hr => first | (go_simp; done) | (go_simp; rfl)); (case hp => exact (Reps.one (show Kd.M (Kd.int .u8) _ _ _ 92 [.int .u8 92] from rfl) (Reps.one (show Kd.M (Kd.int .u8) _ _ _ 120 [.int .u8 120] from rfl) (Reps.none _ _)))); intro v225 w46 ho47 hb hg_ hnew_; clear hg_ hnew_; (first | rw [← Ny224.out] at ho47 | (simp only [Int.reduceToNat] at ho47; rw [← Ny224.out] at ho47)); have n0_ := Aside0.mk (Kd.R_elder' (by (with_reducible repeat (first | apply Kd.R_alloc | apply Kd.R_drewN | apply Kd.R_drew)); exact HO_3.out) (Kd.R_base ho47) hb); have n1_ := Aside0.mk (Kd.R_lower (Kd.R_new' ho47 (Kd.R_lt (by (with_reducible repeat (first | apply Kd.R_alloc | apply Kd.R_drewN | apply Kd.R_drew)); exact HO_3.out))) (below_size (by repeat (first | (with_reducible first | exact HB.out | apply below_alloc | apply pw_below_drewN | apply below_drew1 | refine below_set ?_ GE206.out) | exact HB.out)))); have n2_ := Aside0.mk (blk_below (g := gb206) (o := .cells #[.int .i64 a0_0, .int .i64 a0_1, .string a0_2, .float .f64 a0_3] 24 (0, 0)) (by (with_reducible repeat (first | refine blk_drewN ?_ _ | refine blk_drew ?_ | refine blk_alloc ?_ _)); exact BK206.out) hb); have n3_ := Aside0.mk (below_step (by repeat (first | (with_reducible first | exact HB.out | apply below_alloc | apply pw_below_drewN | apply below_drew1 | refine below_set ?_ GE206.out) | exact HB.out)) hb); clear HO_3; clear BK206; clear HB; have HO_3 := n0_; have HO226 := n1_; have BK206 := n2_; have HB := n3_; clear n0_ n1_ n2_ n3_; clear hb ho47; obtain ⟨Ao49, co49, eo49⟩ := Kd.R_slice HO226.out; subst eo49) | ((with_reducible refine gate_builtin (b := .append) (xs := #[.tmp 40, .tmp 41]) rfl ?_); at_builtin; refine Kd.R_append_rows (Kd.int .u8) (w0 := w) w.heap.size rfl (.tmp 40) (.tmp 41) 57 5 (.int .u8 0) 1 rfl Tryd.underlying57 info5 rfl (by decide) (by omega) u3 x3_1 y224 _ _ _ (fun k_ => some k_ ≠ (.slice Ao49 y224.length co49 : Value).ownBlock) (fun _ => False) rfl rfl ?aO ?aR (fun _ _ h => h) (fun _ h => h.elim) ?aF ?aB ?aS ?aL ?_; (case aR => repeat (first | exact (Kd.R_reads' HO226.out).2.2 | (with_reducible refine Kd.C_alloc ?_ _) | (with_reducible refine Kd.C_drewN ?_ _) | (with_reducible refine Kd.C_drew ?_))); (case aB => exact (by repeat (first | (with_reducible first | exact HB.out | apply below_alloc | apply pw_below_drewN | apply below_drew1 | refine below_set ?_ GE206.out) | exact HB.out))); (case aF => exact (fun k_ hk => Kd.fresh' (Kd.R_lt (by (with_reducible repeat (first | apply Kd.R_alloc | apply Kd.R_drewN | apply Kd.R_drew)); exact HO226.out)) k_ hk)); (case aO => exact (by (with_reducible repeat (first | apply Kd.R_alloc | apply Kd.R_drewN | apply Kd.R_drew)); exact Kd.R_mono HO_3.out (fun _ hk => hk.2))); (case aS => exact (below_size (by repeat (first | (with_reducible first | exact HB.out | apply below_alloc | apply pw_below_drewN | apply below_drew1 | refine below_set ?_ GE206.out) | exact HB.out)))); (case aL => have := LMc44.out; omega); intro v228 w48 ho hb hg hat; rw [← Ny227.out] at ho; have n0_ := Aside0.mk (blk_grown (g := gb206) (o := .cells #[.int .i64 a0_0, .int .i64 a0_1, .string a0_2, .float .f64 a0_3] 24 (0, 0)) (by (with_reducible repeat (first | refine blk_drewN ?_ _ | refine blk_drew ?_ | refine blk_alloc ?_ _)); exact BK206.out) hg (Kd.R_ne HO_3.out BK206.out (by decide))); have n1_ := Aside0.mk (Kd.R_after (ok := (fun _ => True)) (by (with_reducible repeat (first | apply Kd.R_alloc | apply Kd.R_drewN | apply Kd.R_drew)); exact HO226.out) hg hat); have n2_ := Aside0.mk (hb); have n3_ := Aside0.mk (ho); clear BK206; clear HO226; clear HB; clear HO_3; have BK206 := n0_; have HO226 := n1_; have HB := n2_; have HO229 := n3_; clear n0_ n1_ n2_ n3_; clear ho hb hg hat; obtain ⟨Ao50, co50, eo50⟩ := Kd.R_slice HO229.out; subst eo50) | ((with_reducible refine gate_callee (f := 31) rfl ?_); refine goesL_ (some 44) rfl rfl Tryd.func31 (by kernel_rfl) rfl #[.slice Ao50 y227.length co50, .int .u8 (bt a0_2 x4_1)] rfl (by (try simp only [List.map_toArray, List.map_cons, List.map_nil]); first | done | rfl | (simp only [List.length_drop, List.length_take]; rfl)) ?_; (with_reducible refine (rialtoref4_two.calls (fun k_ => some k_ = (.slice Ao50 y227.length co50 : Value).ownBlock) (.slice Ao50 y227.length co50) y227 (bt a0_2 x4_1) t230 w _ ?side1 ?side2 A45.out).mono ?_); (case side1 => repeat (first | (with_reducible first | exact HB.out | apply below_alloc | apply pw_below_drewN | apply below_drew1 | refine below_set ?_ GE206.out) | exact HB.out)); (case side2 => exact Kd.R_tight rfl HO229.out); rintro e w51 ⟨v231, rfl, ho0, hb, hkp⟩; refine ⟨_, rfl, ?_⟩; have n0_ := Aside0.mk (blk_kept (by (with_reducible repeat (first | refine blk_drewN ?_ _ | refine blk_drew ?_ | refine blk_alloc ?_ _)); exact BK206.out) hkp (fun hs_ => (fun e_ => (Kd.R_ne HO229.out BK206.out (by decide)) e_) hs_)); have n1_ := Aside0.mk (Kd.R_mono (ok' := fun k_ => some k_ ≠ (v231 : Value).ownBlock) (Kd.R_keptB (HO226.out) hkp (fun k_ hk_ hs_ => (hk_.2) hs_)) (fun k_ hk_ => fun e_ => Or.elim (ho0.1 k_ e_.symm) (fun hs_ => hk_.2.1 hs_) (fun hn_ => Nat.not_le.2 hk_.2.2 hn_))); have n2_ := Aside0.mk (Kd.R_mono (ok' := fun k_ => some k_ ≠ (.slice Ao49 y224.length co49 : Value).ownBlock) ho0 (fun k_ hk_ => Or.elim hk_ (fun hs_ => fun e_ => (((HO226.out).1 k_ e_.symm).2) hs_) (fun hn_ => (Kd.fresh' (Kd.R_lt (by (with_reducible repeat (first | apply Kd.R_alloc | apply Kd.R_drewN | apply Kd.R_drew)); exact HO226.out)) k_ hn_)))); have n3_ := Aside0.mk (hb); clear BK206; clear HO226; clear HB; clear HO229; have BK206 := n0_; have HO226 := n1_; have HO232 := n2_; have HB := n3_; clear n0_ n1_ n2_ n3_; (try clear hb); (try clear hkp); (try clear ho0)))
               go_roundg kj30
               case measure => have := HK1.out; have := HJ30.out; omega
               case rel => exact ⟨(t230), (wrap64 (x4_1 + 1)), (by first | rfl | (simp; done) | (simp [*]; done)), H', ⟨by have := HK1.out; have := HJ30.out; omega⟩, ⟨by (with_reducible repeat (first | apply Kd.R_alloc | apply Kd.R_drewN | apply Kd.R_drew)); exact Kd.R_mono HO232.out (fun _ hk => trivial)⟩, ⟨by (with_reducible repeat (first | refine blk_drewN ?_ _ | refine blk_drew ?_ | refine blk_alloc ?_ _)); exact BK206.out⟩, ⟨by repeat (first | (with_reducible first | exact HB.out | apply below_alloc | apply pw_below_drewN | apply below_drew1 | refine below_set ?_ GE206.out) | exact HB.out)⟩⟩
              ·rw [if_neg c44] at H
               exact absurd H (by simp)
            ·rw [if_neg c40] at H
             have c40b0 : decide (32 ≤ (bt a0_2 x4_1)) = false := decide_eq_false c40
             clear c40
             obtain ⟨y233, hy233⟩ : ∃ y_ : List Int, y_ = (([92, 120] : List Int)) := ⟨_, rfl⟩
             replace H : (if x3_1.length + y233.length < 140737488355328 then ((rialtoref4_two.f (x3_1 ++ y233) (bt a0_2 x4_1)).bind fun t239 => (rialtoref4_Print.l0 kj30 t239 (wrap64 (x4_1 + 1)) a0_0 a0_1 a0_2 a0_3)) else (none)) = some r := by first | (rw [hy233]; with_reducible exact H) | (have H2_ := (Option.bind_some _ _).symm.trans H; rw [hy233]; with_reducible exact H2_) | (have H2_ := (Option.bind_some _ _).symm.trans H; with_reducible exact H2_) | with_reducible exact H | (rw [hy233]; exact H) | exact H
             have Ny233 := Aside0.mk hy233
             clear hy233
             by_cases c52 : x3_1.length + y233.length < 140737488355328
             ·rw [if_pos c52] at H
              have LMc52 := Aside0.mk c52
              clear c52
              obtain ⟨y236, hy236⟩ : ∃ y_ : List Int, y_ = (x3_1 ++ y233) := ⟨_, rfl⟩
              replace H : ((rialtoref4_two.f y236 (bt a0_2 x4_1)).bind fun t239 => (rialtoref4_Print.l0 kj30 t239 (wrap64 (x4_1 + 1)) a0_0 a0_1 a0_2 a0_3)) = some r := by first | (rw [hy236]; with_reducible exact H) | (have H2_ := (Option.bind_some _ _).symm.trans H; rw [hy236]; with_reducible exact H2_) | (have H2_ := (Option.bind_some _ _).symm.trans H; with_reducible exact H2_) | with_reducible exact H | (rw [hy236]; exact H) | exact H
              have Ny236 := Aside0.mk hy236
              clear hy236
              replace H := Option.bind_eq_some_iff.mp H
              obtain ⟨t239, A530, H⟩ := H
              replace H : (rialtoref4_Print.l0 kj30 t239 (wrap64 (x4_1 + 1)) a0_0 a0_1 a0_2 a0_3) = some r := H
              have A53 := Aside0.mk A530
              clear A530
              have H' := Aside0.mk H
              clear H
              go_wp2_with (first | ((with_reducible refine gate_dst (N := 41) rfl ?_); refine Kd.R_lit (Kd.int .u8) _ 5 ?hg (N := 41) ?hd (xs := ([92, 120] : List Int)) (inner := [.int .u8 92, .int .u8 120]) (ok := fun _ => True) (okp := fun _ => True) ?hr ?hp (fun _ hk => hk) trivial (Below.refl _ _) (Nat.le_refl _) (by simp) ?_; (case hd => rfl); (case hg => rfl); (case hr => first | (go_simp; done) | (go_simp; rfl)); (case hp => exact (Reps.one (show Kd.M (Kd.int .u8) _ _ _ 92 [.int .u8 92] from rfl) (Reps.one (show Kd.M (Kd.int .u8) _ _ _ 120 [.int .u8 120] from rfl) (Reps.none _ _)))); intro v234 w54 ho55 hb hg_ hnew_; clear hg_ hnew_; (first | rw [← Ny233.out] at ho55 | (simp only [Int.reduceToNat] at ho55; rw [← Ny233.out] at ho55)); have n0_ := Aside0.mk (Kd.R_elder' (by (with_reducible repeat (first | apply Kd.R_alloc | apply Kd.R_drewN | apply Kd.R_drew)); exact HO_3.out) (Kd.R_base ho55) hb); have n1_ := Aside0.mk (Kd.R_lower (Kd.R_new' ho55 (Kd.R_lt (by (with_reducible repeat (first | apply Kd.R_alloc | apply Kd.R_drewN | apply Kd.R_drew)); exact HO_3.out))) (below_size (by repeat (first | (with_reducible first | exact HB.out | apply below_alloc | apply pw_below_drewN | apply below_drew1 | refine below_set ?_ GE206.out) | exact HB.out)))); have n2_ := Aside0.mk (blk_below (g := gb206) (o := .cells #[.int .i64 a0_0, .int .i64 a0_1, .string a0_2, .float .f64 a0_3] 24 (0, 0)) (by (with_reducible repeat (first | refine blk_drewN ?_ _ | refine blk_drew ?_ | refine blk_alloc ?_ _)); exact BK206.out) hb); have n3_ := Aside0.mk (below_step (by repeat (first | (with_reducible first | exact HB.out | apply below_alloc | apply pw_below_drewN | apply below_drew1 | refine below_set ?_ GE206.out) | exact HB.out)) hb); clear HO_3; clear BK206; clear HB; have HO_3 := n0_; have HO235 := n1_; have BK206 := n2_; have HB := n3_; clear n0_ n1_ n2_ n3_; clear hb ho55; obtain ⟨Ao57, co57, eo57⟩ := Kd.R_slice HO235.out; subst eo57) | ((with_reducible refine gate_builtin (b := .append) (xs := #[.tmp 40, .tmp 41]) rfl ?_); at_builtin; refine Kd.R_append_rows (Kd.int .u8) (w0 := w) w.heap.size rfl (.tmp 40) (.tmp 41) 57 5 (.int .u8 0) 1 rfl Tryd.underlying57 info5 rfl (by decide) (by omega) u3 x3_1 y233 _ _ _ (fun k_ => some k_ ≠ (.slice Ao57 y233.length co57 : Value).ownBlock) (fun _ => False) rfl rfl ?aO ?aR (fun _ _ h => h) (fun _ h => h.elim) ?aF ?aB ?aS ?aL ?_; (case aR => repeat (first | exact (Kd.R_reads' HO235.out).2.2 | (with_reducible refine Kd.C_alloc ?_ _) | (with_reducible refine Kd.C_drewN ?_ _) | (with_reducible refine Kd.C_drew ?_))); (case aB => exact (by repeat (first | (with_reducible first | exact HB.out | apply below_alloc | apply pw_below_drewN | apply below_drew1 | refine below_set ?_ GE206.out) | exact HB.out))); (case aF => exact (fun k_ hk => Kd.fresh' (Kd.R_lt (by (with_reducible repeat (first | apply Kd.R_alloc | apply Kd.R_drewN | apply Kd.R_drew)); exact HO235.out)) k_ hk)); (case aO => exact (by (with_reducible repeat (first | apply Kd.R_alloc | apply Kd.R_drewN | apply Kd.R_drew)); exact Kd.R_mono HO_3.out (fun _ hk => hk.2))); (case aS => exact (below_size (by repeat (first | (with_reducible first | exact HB.out | apply below_alloc | apply pw_below_drewN | apply below_drew1 | refine below_set ?_ GE206.out) | exact HB.out)))); (case aL => have := LMc52.out; omega); intro v237 w56 ho hb hg hat; rw [← Ny236.out] at ho; have n0_ := Aside0.mk (blk_grown (g := gb206) (o := .cells #[.int .i64 a0_0, .int .i64 a0_1, .string a0_2, .float .f64 a0_3] 24 (0, 0)) (by (with_reducible repeat (first | refine blk_drewN ?_ _ | refine blk_drew ?_ | refine blk_alloc ?_ _)); exact BK206.out) hg (Kd.R_ne HO_3.out BK206.out (by decide))); have n1_ := Aside0.mk (Kd.R_after (ok := (fun _ => True)) (by (with_reducible repeat (first | apply Kd.R_alloc | apply Kd.R_drewN | apply Kd.R_drew)); exact HO235.out) hg hat); have n2_ := Aside0.mk (hb); have n3_ := Aside0.mk (ho); clear BK206; clear HO235; clear HB; clear HO_3; have BK206 := n0_; have HO235 := n1_; have HB := n2_; have HO238 := n3_; clear n0_ n1_ n2_ n3_; clear ho hb hg hat; obtain ⟨Ao58, co58, eo58⟩ := Kd.R_slice HO238.out; subst eo58) | ((with_reducible refine gate_callee (f := 31) rfl ?_); refine goesL_ (some 44) rfl rfl Tryd.func31 (by kernel_rfl) rfl #[.slice Ao58 y236.length co58, .int .u8 (bt a0_2 x4_1)] rfl (by (try simp only [List.map_toArray, List.map_cons, List.map_nil]); first | done | rfl | (simp only [List.length_drop, List.length_take]; rfl)) ?_; (with_reducible refine (rialtoref4_two.calls (fun k_ => some k_ = (.slice Ao58 y236.length co58 : Value).ownBlock) (.slice Ao58 y236.length co58) y236 (bt a0_2 x4_1) t239 w _ ?side1 ?side2 A53.out).mono ?_); (case side1 => repeat (first | (with_reducible first | exact HB.out | apply below_alloc | apply pw_below_drewN | apply below_drew1 | refine below_set ?_ GE206.out) | exact HB.out)); (case side2 => exact Kd.R_tight rfl HO238.out); rintro e w59 ⟨v240, rfl, ho0, hb, hkp⟩; refine ⟨_, rfl, ?_⟩; have n0_ := Aside0.mk (blk_kept (by (with_reducible repeat (first | refine blk_drewN ?_ _ | refine blk_drew ?_ | refine blk_alloc ?_ _)); exact BK206.out) hkp (fun hs_ => (fun e_ => (Kd.R_ne HO238.out BK206.out (by decide)) e_) hs_)); have n1_ := Aside0.mk (Kd.R_mono (ok' := fun k_ => some k_ ≠ (v240 : Value).ownBlock) (Kd.R_keptB (HO235.out) hkp (fun k_ hk_ hs_ => (hk_.2) hs_)) (fun k_ hk_ => fun e_ => Or.elim (ho0.1 k_ e_.symm) (fun hs_ => hk_.2.1 hs_) (fun hn_ => Nat.not_le.2 hk_.2.2 hn_))); have n2_ := Aside0.mk (Kd.R_mono (ok' := fun k_ => some k_ ≠ (.slice Ao57 y233.length co57 : Value).ownBlock) ho0 (fun k_ hk_ => Or.elim hk_ (fun hs_ => fun e_ => (((HO235.out).1 k_ e_.symm).2) hs_) (fun hn_ => (Kd.fresh' (Kd.R_lt (by (with_reducible repeat (first | apply Kd.R_alloc | apply Kd.R_drewN | apply Kd.R_drew)); exact HO235.out)) k_ hn_)))); have n3_ := Aside0.mk (hb); clear BK206; clear HO235; clear HB; clear HO238; have BK206 := n0_; have HO235 := n1_; have HO241 := n2_; have HB := n3_; clear n0_ n1_ n2_ n3_; (try clear hb); (try clear hkp); (try clear ho0)))
              go_roundg kj30
              case measure => have := HK1.out; have := HJ30.out; omega
              case rel => exact ⟨(t239), (wrap64 (x4_1 + 1)), (by first | rfl | (simp; done) | (simp [*]; done)), H', ⟨by have := HK1.out; have := HJ30.out; omega⟩, ⟨by (with_reducible repeat (first | apply Kd.R_alloc | apply Kd.R_drewN | apply Kd.R_drew)); exact Kd.R_mono HO241.out (fun _ hk => trivial)⟩, ⟨by (with_reducible repeat (first | refine blk_drewN ?_ _ | refine blk_drew ?_ | refine blk_alloc ?_ _)); exact BK206.out⟩, ⟨by repeat (first | (with_reducible first | exact HB.out | apply below_alloc | apply pw_below_drewN | apply below_drew1 | refine below_set ?_ GE206.out) | exact HB.out)⟩⟩
             ·rw [if_neg c52] at H
              exact absurd H (by simp)
        ·rw [if_neg c29] at H
         exact absurd H (by simp)
       ·rw [if_neg c28] at H
        have c28b0 : decide (x4_1 < (a0_2.size : Int)) = false := decide_eq_false c28
        clear c28
        by_cases c60 : x3_1.length < 140737488355328
        ·rw [if_pos c60] at H
         have LMc60 := Aside0.mk c60
         clear c60
         obtain ⟨y212, hy212⟩ : ∃ y_ : List Int, y_ = (x3_1 ++ [34]) := ⟨_, rfl⟩
         replace H : (some (strOfNums y212)) = some r := by first | (rw [hy212]; with_reducible exact H) | (have H2_ := (Option.bind_some _ _).symm.trans H; rw [hy212]; with_reducible exact H2_) | (have H2_ := (Option.bind_some _ _).symm.trans H; with_reducible exact H2_) | with_reducible exact H | (rw [hy212]; exact H) | exact H
         have Ny212 := Aside0.mk hy212
         clear hy212
         obtain rfl := Option.some.inj H
         have hcz61_0 : wr.cell? ⟨gb206, 0, none⟩ = some (.int .i64 a0_0) := (blk_cell BK206.out 0).trans rfl
         have hcz61_1 : wr.cell? ⟨gb206, 1, none⟩ = some (.int .i64 a0_1) := (blk_cell BK206.out 1).trans rfl
         have hcz61_2 : wr.cell? ⟨gb206, 2, none⟩ = some (.string a0_2) := (blk_cell BK206.out 2).trans rfl
         have hcz61_3 : wr.cell? ⟨gb206, 3, none⟩ = some (.float .f64 a0_3) := (blk_cell BK206.out 3).trans rfl
         have hfz61_0 := blk_frozen BK206.out 0
         have hfz61_1 := blk_frozen BK206.out 1
         have hfz61_2 := blk_frozen BK206.out 2
         have hfz61_3 := blk_frozen BK206.out 3
         go_wp2_with (first | ((with_reducible refine gate_builtin (b := .append) (xs := #[.tmp 67, .tmp 68]) rfl ?_); at_builtin; refine Kd.R_append (Kd.int .u8) (w0 := w) w.heap.size rfl (.tmp 67) (.tmp 68) 57 5 (.int .u8 0) 1 rfl Tryd.underlying57 info5 rfl (by decide) (by omega) u3 x3_1 34 [.int .u8 34] (fun _ => True) (fun _ => False) rfl rfl ?aP (fun _ hk => hk.elim) ?aF ?aO ?aB ?aS ?aL ?_; (case aP => exact rfl); (case aB => exact (by repeat (first | (with_reducible first | exact HB.out | apply below_alloc | apply pw_below_drewN | apply below_drew1 | refine below_set ?_ GE206.out) | exact HB.out))); (case aF => exact (fun _ _ => trivial)); (case aO => exact (by (with_reducible repeat (first | apply Kd.R_alloc | apply Kd.R_drewN | apply Kd.R_drew)); exact HO_3.out)); (case aS => exact (below_size (by repeat (first | (with_reducible first | exact HB.out | apply below_alloc | apply pw_below_drewN | apply below_drew1 | refine below_set ?_ GE206.out) | exact HB.out)))); (case aL => have := LMc60.out; omega); intro v213 w62 ho hb hg hat; rw [← Ny212.out] at ho; have n0_ := Aside0.mk (blk_grown (g := gb206) (o := .cells #[.int .i64 a0_0, .int .i64 a0_1, .string a0_2, .float .f64 a0_3] 24 (0, 0)) (by (with_reducible repeat (first | refine blk_drewN ?_ _ | refine blk_drew ?_ | refine blk_alloc ?_ _)); exact BK206.out) hg (Kd.R_ne HO_3.out BK206.out (by decide))); have n1_ := Aside0.mk (hb); have n2_ := Aside0.mk (ho); clear BK206; clear HB; clear HO_3; have BK206 := n0_; have HB := n1_; have HO214 := n2_; clear n0_ n1_ n2_; clear ho hb hg hat; have hcv63 := own_string (P := Tryd.prog) Tryd.underlying57 Tryd.underlying5 Tryd.underlying9 (Kd.own_of_R HO214.out)))
         go_ret
         exact ⟨by first | rfl | (simp [errW_none, errW_some] <;> rfl) | (simp [*, errW_none, errW_some] <;> rfl), by repeat (first | (with_reducible first | exact HB.out | apply below_alloc | apply pw_below_drewN | apply below_drew1 | refine below_set ?_ GE206.out) | exact HB.out)⟩
        ·rw [if_neg c60] at H
         exact absurd H (by simp)
    ·rw [if_neg c21] at H
     have c21b0 : (a0_0 == 3) = false := beq_eq_false_iff_ne.mpr c21
     have c21b1 : (a0_0 != 3) = true := bne_iff_ne.mpr c21
     by_cases c64 : a0_0 = 4
     ·rw [if_pos c64] at H
      have c64b0 : (a0_0 == 4) = true := beq_iff_eq.mpr c64
      have c64b1 : (a0_0 != 4) = false := bne_eq_false_iff_eq.mpr c64
      clear c64
      obtain ⟨y242, hy242⟩ : ∃ y_ : List Int, y_ = (([120] : List Int)) := ⟨_, rfl⟩
      replace H : (rialtoref4_Print.l1 k y242 0 a0_0 a0_1 a0_2 a0_3) = some r := by first | (rw [hy242]; with_reducible exact H) | (have H2_ := (Option.bind_some _ _).symm.trans H; rw [hy242]; with_reducible exact H2_) | (have H2_ := (Option.bind_some _ _).symm.trans H; with_reducible exact H2_) | with_reducible exact H | (rw [hy242]; exact H) | exact H
      have Ny242 := Aside0.mk hy242
      clear hy242
      have H' := Aside0.mk H
      clear H
      have k23 := run23
      have k22 := run22
      go_enter Tryd.func11, Tryd.ntmps11
      go_wp2_with (first | ((with_reducible refine gate_dst (N := 1) rfl ?_); refine box_event ?hg (N := 1) ?hd (cs := #[.int .i64 a0_0, .int .i64 a0_1, .string a0_2, .float .f64 a0_3]) (t := 24) ?hr ?_; (case hd => rfl); (case hg => rfl); (case hr => first | (go_simp; done) | (go_simp; rfl)); intro gb206 hg w65 hbox hb; have n0_ := Aside0.mk (below_step (by repeat (first | (with_reducible first | exact HB.out | apply below_alloc | apply pw_below_drewN | apply below_drew1) | exact HB.out)) hb); have n1_ := Aside0.mk (hbox); have n2_ := Aside0.mk ((by rw [hg]; exact (below_size (by repeat (first | (with_reducible first | exact HB.out | apply below_alloc | apply pw_below_drewN | apply below_drew1) | exact HB.out))) : w.heap.size ≤ gb206)); have n3_ := Aside0.mk ((by rw [hg]; exact (below_size (by repeat (first | (with_reducible first | exact HB.out | apply below_alloc | apply pw_below_drewN | apply below_drew1) | exact HB.out))) : w.heap.size ≤ gb206)); clear HB; have HB := n0_; have BK206 := n1_; have GW206 := n2_; have GE206 := n3_; clear n0_ n1_ n2_ n3_; clear hb hbox hg; have hcz66_0 : w65.cell? ⟨gb206, 0, none⟩ = some (.int .i64 a0_0) := (blk_cell BK206.out 0).trans rfl; have hcz66_1 : w65.cell? ⟨gb206, 1, none⟩ = some (.int .i64 a0_1) := (blk_cell BK206.out 1).trans rfl; have hcz66_2 : w65.cell? ⟨gb206, 2, none⟩ = some (.string a0_2) := (blk_cell BK206.out 2).trans rfl; have hcz66_3 : w65.cell? ⟨gb206, 3, none⟩ = some (.float .f64 a0_3) := (blk_cell BK206.out 3).trans rfl; have hfz66_0 := blk_frozen BK206.out 0; have hfz66_1 := blk_frozen BK206.out 1; have hfz66_2 := blk_frozen BK206.out 2; have hfz66_3 := blk_frozen BK206.out 3) | ((with_reducible refine gate_callee (f := 20) rfl ?_); refine goesL_ (some 12) rfl rfl Tryd.func20 (by kernel_rfl) rfl #[.agg #[.int .i64 a0_0, .int .i64 a0_1, .string a0_2, .float .f64 a0_3]] rfl (by (try simp only [List.map_toArray, List.map_cons, List.map_nil]); first | done | rfl | (simp only [List.length_drop, List.length_take]; rfl)) ?_; (with_reducible refine (rialtoref2_Is.calls k a0_0 a0_1 a0_2 a0_3 true _ A2.out).mono ?_); rintro e w67 ⟨rfl, hb⟩; refine ⟨_, rfl, ?_⟩; have n0_ := Aside0.mk (blk_below (g := gb206) (o := .cells #[.int .i64 a0_0, .int .i64 a0_1, .string a0_2, .float .f64 a0_3] 24 (0, 0)) (by (with_reducible repeat (first | refine blk_drewN ?_ _ | refine blk_drew ?_ | refine blk_alloc ?_ _)); exact BK206.out) hb); have n1_ := Aside0.mk (below_step (by repeat (first | (with_reducible first | exact HB.out | apply below_alloc | apply pw_below_drewN | apply below_drew1 | refine below_set ?_ GE206.out) | exact HB.out)) hb); clear BK206; clear HB; have BK206 := n0_; have HB := n1_; clear n0_ n1_; (try clear hb); (try clear hb2); (try clear hk); (try clear hi); have hcz68_0 : w67.cell? ⟨gb206, 0, none⟩ = some (.int .i64 a0_0) := (blk_cell BK206.out 0).trans rfl; have hcz68_1 : w67.cell? ⟨gb206, 1, none⟩ = some (.int .i64 a0_1) := (blk_cell BK206.out 1).trans rfl; have hcz68_2 : w67.cell? ⟨gb206, 2, none⟩ = some (.string a0_2) := (blk_cell BK206.out 2).trans rfl; have hcz68_3 : w67.cell? ⟨gb206, 3, none⟩ = some (.float .f64 a0_3) := (blk_cell BK206.out 3).trans rfl; have hfz68_0 := blk_frozen BK206.out 0; have hfz68_1 := blk_frozen BK206.out 1; have hfz68_2 := blk_frozen BK206.out 2; have hfz68_3 := blk_frozen BK206.out 3) | ((with_reducible refine gate_dst (N := 73) rfl ?_); refine Kd.R_lit (Kd.int .u8) _ 5 ?hg (N := 73) ?hd (xs := ([120] : List Int)) (inner := [.int .u8 120]) (ok := fun _ => True) (okp := fun _ => True) ?hr ?hp (fun _ hk => hk) trivial (Below.refl _ _) (Nat.le_refl _) (by simp) ?_; (case hd => rfl); (case hg => rfl); (case hr => first | (go_simp; done) | (go_simp; rfl)); (case hp => exact (Reps.one (show Kd.M (Kd.int .u8) _ _ _ 120 [.int .u8 120] from rfl) (Reps.none _ _))); intro v243 w69 ho70 hb hg_ hnew_; clear hg_ hnew_; (first | rw [← Ny242.out] at ho70 | (simp only [Int.reduceToNat] at ho70; rw [← Ny242.out] at ho70)); have n0_ := Aside0.mk (Kd.R_lower ho70 (below_size (by repeat (first | (with_reducible first | exact HB.out | apply below_alloc | apply pw_below_drewN | apply below_drew1 | refine below_set ?_ GE206.out) | exact HB.out)))); have n1_ := Aside0.mk (blk_below (g := gb206) (o := .cells #[.int .i64 a0_0, .int .i64 a0_1, .string a0_2, .float .f64 a0_3] 24 (0, 0)) (by (with_reducible repeat (first | refine blk_drewN ?_ _ | refine blk_drew ?_ | refine blk_alloc ?_ _)); exact BK206.out) hb); have n2_ := Aside0.mk (below_step (by repeat (first | (with_reducible first | exact HB.out | apply below_alloc | apply pw_below_drewN | apply below_drew1 | refine below_set ?_ GE206.out) | exact HB.out)) hb); clear BK206; clear HB; have HO244 := n0_; have BK206 := n1_; have HB := n2_; clear n0_ n1_ n2_; clear hb ho70))
      go_loopg [6, 7] k (fun kq v6 v7 w' => ∃ (x6_1 : List Int) (x7_1 : Int), v7 = .int .i64 x7_1 ∧ Aside0 (rialtoref4_Print.l1 kq x6_1 x7_1 a0_0 a0_1 a0_2 a0_3 = some r) ∧ Aside0 (kq ≤ k) ∧ Aside0 (Kd.R (Kd.int .u8) 5 w' w.heap.size (fun _ => True) v6 x6_1) ∧ Aside0 (w'.heap[gb206]? = some (.cells #[.int .i64 a0_0, .int .i64 a0_1, .string a0_2, .float .f64 a0_3] 24 (0, 0))) ∧ Aside0 (Below w.heap.size w w'))
      case atStart => exact ⟨(y242), (0), (by first | rfl | (simp; done) | (simp [*]; done)), H', ⟨Nat.le_refl _⟩, ⟨by (with_reducible repeat (first | apply Kd.R_alloc | apply Kd.R_drewN | apply Kd.R_drew)); exact HO244.out⟩, ⟨by (with_reducible repeat (first | refine blk_drewN ?_ _ | refine blk_drew ?_ | refine blk_alloc ?_ _)); exact BK206.out⟩, ⟨by repeat (first | (with_reducible first | exact HB.out | apply below_alloc | apply pw_below_drewN | apply below_drew1 | refine below_set ?_ GE206.out) | exact HB.out)⟩⟩
      case round =>
       clear H'
       try clear c1;try clear c2;try clear p2;try clear c3;try clear p3;try clear q3;try clear hx3;try clear c4;try clear c4b0;try clear c4b1;try clear c5;try clear c6;try clear p6;try clear hcv6;try clear c11;try clear c11b0;try clear c11b1;try clear c12;try clear c12b0;try clear c12b1;try clear c20;try clear c21;try clear c21b0;try clear c21b1;try clear c28;try clear c28b0;try clear c29;try clear c29b0;try clear p30;try clear q30;try clear hx30;try clear c31;try clear c33;try clear c33b0;try clear c33b1;try clear c34;try clear c35;try clear c40;try clear c40b0;try clear c41;try clear c41b0;try clear c42;try clear c44;try clear c52;try clear c60;try clear hcv63;try clear c64;try clear c64b0;try clear c64b1;try clear p64;try clear hcz14_0;try clear hcz14_1;try clear hcz14_2;try clear hcz14_3;try clear hcz16_0;try clear hcz16_1;try clear hcz16_2;try clear hcz16_3;try clear hcz18_0;try clear hcz18_1;try clear hcz18_2;try clear hcz18_3;try clear hcz20_0;try clear hcz20_1;try clear hcz20_2;try clear hcz20_3;try clear hcz23_0;try clear hcz23_1;try clear hcz23_2;try clear hcz23_3;try clear hcz25_0;try clear hcz25_1;try clear hcz25_2;try clear hcz25_3;try clear hcz32_0;try clear hcz32_1;try clear hcz32_2;try clear hcz32_3;try clear hcz61_0;try clear hcz61_1;try clear hcz61_2;try clear hcz61_3;try clear hcz66_0;try clear hcz66_1;try clear hcz66_2;try clear hcz66_3;try clear hcz68_0;try clear hcz68_1;try clear hcz68_2;try clear hcz68_3;try clear hcz7_0;try clear hcz7_1;try clear hcz7_2;try clear hcz7_3;try clear hcz9_0;try clear hcz9_1;try clear hcz9_2;try clear hcz9_3;try clear hfz14_0;try clear hfz14_1;try clear hfz14_2;try clear hfz14_3;try clear hfz16_0;try clear hfz16_1;try clear hfz16_2;try clear hfz16_3;try clear hfz18_0;try clear hfz18_1;try clear hfz18_2;try clear hfz18_3;try clear hfz20_0;try clear hfz20_1;try clear hfz20_2;try clear hfz20_3;try clear hfz23_0;try clear hfz23_1;try clear hfz23_2;try clear hfz23_3;try clear hfz25_0;try clear hfz25_1;try clear hfz25_2;try clear hfz25_3;try clear hfz32_0;try clear hfz32_1;try clear hfz32_2;try clear hfz32_3;try clear hfz61_0;try clear hfz61_1;try clear hfz61_2;try clear hfz61_3;try clear hfz66_0;try clear hfz66_1;try clear hfz66_2;try clear hfz66_3;try clear hfz68_0;try clear hfz68_1;try clear hfz68_2;try clear hfz68_3;try clear hfz7_0;try clear hfz7_1;try clear hfz7_2;try clear hfz7_3;try clear hfz9_0;try clear hfz9_1;try clear hfz9_2;try clear hfz9_3;try clear p2;try clear p3;try clear p30;try clear q3;try clear q30
       obtain ⟨x6_1, x7_1, rfl, HA, HK1, HO_6, BK206, HB⟩ := hrel
       cases gk with
       | zero => exact absurd HA.out (by simp [rialtoref4_Print.l1])
       | succ k1 =>
        have H := HA.out
        clear HA
        simp only [rialtoref4_Print.l1] at H
        by_cases c71 : x7_1 < (a0_2.size : Int)
        ·rw [if_pos c71] at H
         have c71b0 : decide (x7_1 < (a0_2.size : Int)) = true := decide_eq_true c71
         clear c71
         by_cases c72 : 0 ≤ x7_1
         ·rw [if_pos c72] at H
          have c72b0 : decide (0 ≤ x7_1) = true := decide_eq_true c72
          clear c72
          replace H := Option.bind_eq_some_iff.mp H
          obtain ⟨t245, A740, H⟩ := H
          replace H : (rialtoref4_Print.l1 k1 t245 (wrap64 (x7_1 + 1)) a0_0 a0_1 a0_2 a0_3) = some r := H
          have A74 := Aside0.mk A740
          clear A740
          have H' := Aside0.mk H
          clear H
          have hcz75_0 : wr.cell? ⟨gb206, 0, none⟩ = some (.int .i64 a0_0) := (blk_cell BK206.out 0).trans rfl
          have hcz75_1 : wr.cell? ⟨gb206, 1, none⟩ = some (.int .i64 a0_1) := (blk_cell BK206.out 1).trans rfl
          have hcz75_2 : wr.cell? ⟨gb206, 2, none⟩ = some (.string a0_2) := (blk_cell BK206.out 2).trans rfl
          have hcz75_3 : wr.cell? ⟨gb206, 3, none⟩ = some (.float .f64 a0_3) := (blk_cell BK206.out 3).trans rfl
          have hfz75_0 := blk_frozen BK206.out 0
          have hfz75_1 := blk_frozen BK206.out 1
          have hfz75_2 := blk_frozen BK206.out 2
          have hfz75_3 := blk_frozen BK206.out 3
          have p73 : 0 ≤ (x7_1 : Int) := of_decide_eq_true (by first | (with_reducible assumption) | assumption)
          have q73 : x7_1 < (a0_2.size : Int) := of_decide_eq_true (by first | (with_reducible assumption) | assumption)
          have hx73 := bt_at a0_2 x7_1
          replace p73 := eq_true p73
          replace q73 := eq_true q73
          obtain ⟨Ao76, co76, eo76⟩ := Kd.R_slice HO_6.out
          subst eo76
          go_wp2_with (first | ((with_reducible refine gate_callee (f := 31) rfl ?_); refine goesL_ (some 86) rfl rfl Tryd.func31 (by kernel_rfl) rfl #[.slice Ao76 x6_1.length co76, .int .u8 (bt a0_2 x7_1)] rfl (by (try simp only [List.map_toArray, List.map_cons, List.map_nil]); first | done | rfl | (simp only [List.length_drop, List.length_take]; rfl)) ?_; (with_reducible refine (rialtoref4_two.calls (fun k_ => some k_ = (.slice Ao76 x6_1.length co76 : Value).ownBlock) (.slice Ao76 x6_1.length co76) x6_1 (bt a0_2 x7_1) t245 w _ ?side1 ?side2 A74.out).mono ?_); (case side1 => repeat (first | (with_reducible first | exact HB.out | apply below_alloc | apply pw_below_drewN | apply below_drew1 | refine below_set ?_ GE206.out) | exact HB.out)); (case side2 => exact Kd.R_tight rfl HO_6.out); rintro e w77 ⟨v246, rfl, ho0, hb, hkp⟩; refine ⟨_, rfl, ?_⟩; have n0_ := Aside0.mk (blk_kept (by (with_reducible repeat (first | refine blk_drewN ?_ _ | refine blk_drew ?_ | refine blk_alloc ?_ _)); exact BK206.out) hkp (fun hs_ => (fun e_ => (Kd.R_ne HO_6.out BK206.out (by decide)) e_) hs_)); have n1_ := Aside0.mk (Kd.R_mono (ok' := fun k_ => True) ho0 (fun k_ hk_ => trivial)); have n2_ := Aside0.mk (hb); clear BK206; clear HB; clear HO_6; have BK206 := n0_; have HO247 := n1_; have HB := n2_; clear n0_ n1_ n2_; (try clear hb); (try clear hkp); (try clear ho0)))
          go_roundg k1
          case measure => have := HK1.out; omega
          case rel => exact ⟨(t245), (wrap64 (x7_1 + 1)), (by first | rfl | (simp; done) | (simp [*]; done)), H', ⟨by have := HK1.out; omega⟩, ⟨by (with_reducible repeat (first | apply Kd.R_alloc | apply Kd.R_drewN | apply Kd.R_drew)); exact HO247.out⟩, ⟨by (with_reducible repeat (first | refine blk_drewN ?_ _ | refine blk_drew ?_ | refine blk_alloc ?_ _)); exact BK206.out⟩, ⟨by repeat (first | (with_reducible first | exact HB.out | apply below_alloc | apply pw_below_drewN | apply below_drew1 | refine below_set ?_ GE206.out) | exact HB.out)⟩⟩
         ·rw [if_neg c72] at H
          exact absurd H (by simp)
        ·rw [if_neg c71] at H
         have c71b0 : decide (x7_1 < (a0_2.size : Int)) = false := decide_eq_false c71
         clear c71
         obtain rfl := Option.some.inj H
         have hcz78_0 : wr.cell? ⟨gb206, 0, none⟩ = some (.int .i64 a0_0) := (blk_cell BK206.out 0).trans rfl
         have hcz78_1 : wr.cell? ⟨gb206, 1, none⟩ = some (.int .i64 a0_1) := (blk_cell BK206.out 1).trans rfl
         have hcz78_2 : wr.cell? ⟨gb206, 2, none⟩ = some (.string a0_2) := (blk_cell BK206.out 2).trans rfl
         have hcz78_3 : wr.cell? ⟨gb206, 3, none⟩ = some (.float .f64 a0_3) := (blk_cell BK206.out 3).trans rfl
         have hfz78_0 := blk_frozen BK206.out 0
         have hfz78_1 := blk_frozen BK206.out 1
         have hfz78_2 := blk_frozen BK206.out 2
         have hfz78_3 := blk_frozen BK206.out 3
         have hcv79 := own_string (P := Tryd.prog) Tryd.underlying57 Tryd.underlying5 Tryd.underlying9 (Kd.own_of_R HO_6.out)
         go_wp2
         go_ret
         exact ⟨by first | rfl | (simp [errW_none, errW_some] <;> rfl) | (simp [*, errW_none, errW_some] <;> rfl), by repeat (first | (with_reducible first | exact HB.out | apply below_alloc | apply pw_below_drewN | apply below_drew1 | refine below_set ?_ GE206.out) | exact HB.out)⟩
     ·rw [if_neg c64] at H
      have c64b0 : (a0_0 == 4) = false := beq_eq_false_iff_ne.mpr c64
      have c64b1 : (a0_0 != 4) = true := bne_iff_ne.mpr c64
      obtain ⟨y248, hy248⟩ : ∃ y_ : List Int, y_ = (([102] : List Int)) := ⟨_, rfl⟩
      replace H : (rialtoref4_Print.l2 k ((a0_3 : Nat) : Int) y248 56) = some r := by first | (rw [hy248]; with_reducible exact H) | (have H2_ := (Option.bind_some _ _).symm.trans H; rw [hy248]; with_reducible exact H2_) | (have H2_ := (Option.bind_some _ _).symm.trans H; with_reducible exact H2_) | with_reducible exact H | (rw [hy248]; exact H) | exact H
      have Ny248 := Aside0.mk hy248
      clear hy248
      have H' := Aside0.mk H
      clear H
      have k23 := run23
      have k22 := run22
      go_enter Tryd.func11, Tryd.ntmps11
      go_wp2_with (first | ((with_reducible refine gate_dst (N := 1) rfl ?_); refine box_event ?hg (N := 1) ?hd (cs := #[.int .i64 a0_0, .int .i64 a0_1, .string a0_2, .float .f64 a0_3]) (t := 24) ?hr ?_; (case hd => rfl); (case hg => rfl); (case hr => first | (go_simp; done) | (go_simp; rfl)); intro gb206 hg w80 hbox hb; have n0_ := Aside0.mk (below_step (by repeat (first | (with_reducible first | exact HB.out | apply below_alloc | apply pw_below_drewN | apply below_drew1) | exact HB.out)) hb); have n1_ := Aside0.mk (hbox); have n2_ := Aside0.mk ((by rw [hg]; exact (below_size (by repeat (first | (with_reducible first | exact HB.out | apply below_alloc | apply pw_below_drewN | apply below_drew1) | exact HB.out))) : w.heap.size ≤ gb206)); have n3_ := Aside0.mk ((by rw [hg]; exact (below_size (by repeat (first | (with_reducible first | exact HB.out | apply below_alloc | apply pw_below_drewN | apply below_drew1) | exact HB.out))) : w.heap.size ≤ gb206)); clear HB; have HB := n0_; have BK206 := n1_; have GW206 := n2_; have GE206 := n3_; clear n0_ n1_ n2_ n3_; clear hb hbox hg; have hcz81_0 : w80.cell? ⟨gb206, 0, none⟩ = some (.int .i64 a0_0) := (blk_cell BK206.out 0).trans rfl; have hcz81_1 : w80.cell? ⟨gb206, 1, none⟩ = some (.int .i64 a0_1) := (blk_cell BK206.out 1).trans rfl; have hcz81_2 : w80.cell? ⟨gb206, 2, none⟩ = some (.string a0_2) := (blk_cell BK206.out 2).trans rfl; have hcz81_3 : w80.cell? ⟨gb206, 3, none⟩ = some (.float .f64 a0_3) := (blk_cell BK206.out 3).trans rfl; have hfz81_0 := blk_frozen BK206.out 0; have hfz81_1 := blk_frozen BK206.out 1; have hfz81_2 := blk_frozen BK206.out 2; have hfz81_3 := blk_frozen BK206.out 3) | ((with_reducible refine gate_callee (f := 20) rfl ?_); refine goesL_ (some 12) rfl rfl Tryd.func20 (by kernel_rfl) rfl #[.agg #[.int .i64 a0_0, .int .i64 a0_1, .string a0_2, .float .f64 a0_3]] rfl (by (try simp only [List.map_toArray, List.map_cons, List.map_nil]); first | done | rfl | (simp only [List.length_drop, List.length_take]; rfl)) ?_; (with_reducible refine (rialtoref2_Is.calls k a0_0 a0_1 a0_2 a0_3 true _ A2.out).mono ?_); rintro e w82 ⟨rfl, hb⟩; refine ⟨_, rfl, ?_⟩; have n0_ := Aside0.mk (blk_below (g := gb206) (o := .cells #[.int .i64 a0_0, .int .i64 a0_1, .string a0_2, .float .f64 a0_3] 24 (0, 0)) (by (with_reducible repeat (first | refine blk_drewN ?_ _ | refine blk_drew ?_ | refine blk_alloc ?_ _)); exact BK206.out) hb); have n1_ := Aside0.mk (below_step (by repeat (first | (with_reducible first | exact HB.out | apply below_alloc | apply pw_below_drewN | apply below_drew1 | refine below_set ?_ GE206.out) | exact HB.out)) hb); clear BK206; clear HB; have BK206 := n0_; have HB := n1_; clear n0_ n1_; (try clear hb); (try clear hb2); (try clear hk); (try clear hi); have hcz83_0 : w82.cell? ⟨gb206, 0, none⟩ = some (.int .i64 a0_0) := (blk_cell BK206.out 0).trans rfl; have hcz83_1 : w82.cell? ⟨gb206, 1, none⟩ = some (.int .i64 a0_1) := (blk_cell BK206.out 1).trans rfl; have hcz83_2 : w82.cell? ⟨gb206, 2, none⟩ = some (.string a0_2) := (blk_cell BK206.out 2).trans rfl; have hcz83_3 : w82.cell? ⟨gb206, 3, none⟩ = some (.float .f64 a0_3) := (blk_cell BK206.out 3).trans rfl; have hfz83_0 := blk_frozen BK206.out 0; have hfz83_1 := blk_frozen BK206.out 1; have hfz83_2 := blk_frozen BK206.out 2; have hfz83_3 := blk_frozen BK206.out 3) | ((with_reducible refine gate_dst (N := 92) rfl ?_); refine Kd.R_lit (Kd.int .u8) _ 5 ?hg (N := 92) ?hd (xs := ([102] : List Int)) (inner := [.int .u8 102]) (ok := fun _ => True) (okp := fun _ => True) ?hr ?hp (fun _ hk => hk) trivial (Below.refl _ _) (Nat.le_refl _) (by simp) ?_; (case hd => rfl); (case hg => rfl); (case hr => first | (go_simp; done) | (go_simp; rfl)); (case hp => exact (Reps.one (show Kd.M (Kd.int .u8) _ _ _ 102 [.int .u8 102] from rfl) (Reps.none _ _))); intro v249 w84 ho85 hb hg_ hnew_; clear hg_ hnew_; (first | rw [← Ny248.out] at ho85 | (simp only [Int.reduceToNat] at ho85; rw [← Ny248.out] at ho85)); have n0_ := Aside0.mk (Kd.R_lower ho85 (below_size (by repeat (first | (with_reducible first | exact HB.out | apply below_alloc | apply pw_below_drewN | apply below_drew1 | refine below_set ?_ GE206.out) | exact HB.out)))); have n1_ := Aside0.mk (blk_below (g := gb206) (o := .cells #[.int .i64 a0_0, .int .i64 a0_1, .string a0_2, .float .f64 a0_3] 24 (0, 0)) (by (with_reducible repeat (first | refine blk_drewN ?_ _ | refine blk_drew ?_ | refine blk_alloc ?_ _)); exact BK206.out) hb); have n2_ := Aside0.mk (below_step (by repeat (first | (with_reducible first | exact HB.out | apply below_alloc | apply pw_below_drewN | apply below_drew1 | refine below_set ?_ GE206.out) | exact HB.out)) hb); clear BK206; clear HB; have HO250 := n0_; have BK206 := n1_; have HB := n2_; clear n0_ n1_ n2_; clear hb ho85))
      go_loopg [9, 10] k (fun kq v9 v10 w' => ∃ (x9_1 : List Int) (x10_1 : Int), v10 = .int .i64 x10_1 ∧ Aside0 (rialtoref4_Print.l2 kq ((a0_3 : Nat) : Int) x9_1 x10_1 = some r) ∧ Aside0 (kq ≤ k) ∧ Aside0 (Kd.R (Kd.int .u8) 5 w' w.heap.size (fun _ => True) v9 x9_1) ∧ Aside0 (w'.heap[gb206]? = some (.cells #[.int .i64 a0_0, .int .i64 a0_1, .string a0_2, .float .f64 a0_3] 24 (0, 0))) ∧ Aside0 (Below w.heap.size w w'))
      case atStart => exact ⟨(y248), (56), (by first | rfl | (simp; done) | (simp [*]; done)), H', ⟨Nat.le_refl _⟩, ⟨by (with_reducible repeat (first | apply Kd.R_alloc | apply Kd.R_drewN | apply Kd.R_drew)); exact HO250.out⟩, ⟨by (with_reducible repeat (first | refine blk_drewN ?_ _ | refine blk_drew ?_ | refine blk_alloc ?_ _)); exact BK206.out⟩, ⟨by repeat (first | (with_reducible first | exact HB.out | apply below_alloc | apply pw_below_drewN | apply below_drew1 | refine below_set ?_ GE206.out) | exact HB.out)⟩⟩
      case round =>
       clear H'
       try clear c1;try clear c2;try clear p2;try clear c3;try clear p3;try clear q3;try clear hx3;try clear c4;try clear c4b0;try clear c4b1;try clear c5;try clear c6;try clear p6;try clear hcv6;try clear c7;try clear p7;try clear q7;try clear hx7;try clear hcv7;try clear c11;try clear c11b0;try clear c11b1;try clear c12;try clear c12b0;try clear c12b1;try clear c20;try clear c21;try clear c21b0;try clear c21b1;try clear c28;try clear c28b0;try clear c29;try clear c29b0;try clear p30;try clear q30;try clear hx30;try clear c31;try clear c33;try clear c33b0;try clear c33b1;try clear c34;try clear c35;try clear c40;try clear c40b0;try clear c41;try clear c41b0;try clear c42;try clear c44;try clear c52;try clear c60;try clear hcv63;try clear c64;try clear c64b0;try clear c64b1;try clear p64;try clear c71;try clear c71b0;try clear c72;try clear c72b0;try clear p73;try clear q73;try clear hx73;try clear hcv79;try clear hcz14_0;try clear hcz14_1;try clear hcz14_2;try clear hcz14_3;try clear hcz16_0;try clear hcz16_1;try clear hcz16_2;try clear hcz16_3;try clear hcz18_0;try clear hcz18_1;try clear hcz18_2;try clear hcz18_3;try clear hcz20_0;try clear hcz20_1;try clear hcz20_2;try clear hcz20_3;try clear hcz23_0;try clear hcz23_1;try clear hcz23_2;try clear hcz23_3;try clear hcz25_0;try clear hcz25_1;try clear hcz25_2;try clear hcz25_3;try clear hcz32_0;try clear hcz32_1;try clear hcz32_2;try clear hcz32_3;try clear hcz61_0;try clear hcz61_1;try clear hcz61_2;try clear hcz61_3;try clear hcz66_0;try clear hcz66_1;try clear hcz66_2;try clear hcz66_3;try clear hcz68_0;try clear hcz68_1;try clear hcz68_2;try clear hcz68_3;try clear hcz75_0;try clear hcz75_1;try clear hcz75_2;try clear hcz75_3;try clear hcz78_0;try clear hcz78_1;try clear hcz78_2;try clear hcz78_3;try clear hcz7_0;try clear hcz7_1;try clear hcz7_2;try clear hcz7_3;try clear hcz81_0;try clear hcz81_1;try clear hcz81_2;try clear hcz81_3;try clear hcz83_0;try clear hcz83_1;try clear hcz83_2;try clear hcz83_3;try clear hcz9_0;try clear hcz9_1;try clear hcz9_2;try clear hcz9_3;try clear hfz14_0;try clear hfz14_1;try clear hfz14_2;try clear hfz14_3;try clear hfz16_0;try clear hfz16_1;try clear hfz16_2;try clear hfz16_3;try clear hfz18_0;try clear hfz18_1;try clear hfz18_2;try clear hfz18_3;try clear hfz20_0;try clear hfz20_1;try clear hfz20_2;try clear hfz20_3;try clear hfz23_0;try clear hfz23_1;try clear hfz23_2;try clear hfz23_3;try clear hfz25_0;try clear hfz25_1;try clear hfz25_2;try clear hfz25_3;try clear hfz32_0;try clear hfz32_1;try clear hfz32_2;try clear hfz32_3;try clear hfz61_0;try clear hfz61_1;try clear hfz61_2;try clear hfz61_3;try clear hfz66_0;try clear hfz66_1;try clear hfz66_2;try clear hfz66_3;try clear hfz68_0;try clear hfz68_1;try clear hfz68_2;try clear hfz68_3;try clear hfz75_0;try clear hfz75_1;try clear hfz75_2;try clear hfz75_3;try clear hfz78_0;try clear hfz78_1;try clear hfz78_2;try clear hfz78_3;try clear hfz7_0;try clear hfz7_1;try clear hfz7_2;try clear hfz7_3;try clear hfz81_0;try clear hfz81_1;try clear hfz81_2;try clear hfz81_3;try clear hfz83_0;try clear hfz83_1;try clear hfz83_2;try clear hfz83_3;try clear hfz9_0;try clear hfz9_1;try clear hfz9_2;try clear hfz9_3;try clear p2;try clear p3;try clear p30;try clear p6;try clear p64;try clear p73;try clear q3;try clear q30;try clear q73
       obtain ⟨x9_1, x10_1, rfl, HA, HK1, HO_9, BK206, HB⟩ := hrel
       cases gk with
       | zero => exact absurd HA.out (by simp [rialtoref4_Print.l2])
       | succ k1 =>
        have H := HA.out
        clear HA
        simp only [rialtoref4_Print.l2] at H
        by_cases c86 : x10_1 ≥ 0
        ·rw [if_pos c86] at H
         have c86b0 : decide (0 ≤ x10_1) = true := decide_eq_true c86
         clear c86
         by_cases c87 : 0 ≤ x10_1
         ·rw [if_pos c87] at H
          have c87b0 := eq_true c87
          have c87b1 : decide (0 ≤ x10_1) = true := decide_eq_true c87
          clear c87
          obtain ⟨ji88, hji88⟩ : ∃ j_ : Int, (shr .u64 ((a0_3 : Nat) : Int) x10_1) = j_ := ⟨_, rfl⟩
          replace H : ((rialtoref4_two.f x9_1 ((ji88) % 256)).bind fun t251 => (rialtoref4_Print.l2 k1 ((a0_3 : Nat) : Int) t251 (wrap64 (x10_1 - 8)))) = some r := by first | (rw [hji88] at H; exact H) | (simp only [hji88] at H ⊢; exact H)
          have hji88_ : (((a0_3 : Nat) : Int) / 2 ^ min x10_1.toNat 64) = ji88 := hji88
          have hji88z : x10_1 ≤ 64 → (((a0_3 : Nat) : Int) / 2 ^ x10_1.toNat) = ji88 := shr_small hji88
          replace H := Option.bind_eq_some_iff.mp H
          obtain ⟨t251, A890, H⟩ := H
          replace H : (rialtoref4_Print.l2 k1 ((a0_3 : Nat) : Int) t251 (wrap64 (x10_1 - 8))) = some r := H
          have A89 := Aside0.mk A890
          clear A890
          have H' := Aside0.mk H
          clear H
          obtain ⟨Ao90, co90, eo90⟩ := Kd.R_slice HO_9.out
          subst eo90
          go_wp2_with (first | ((with_reducible refine gate_callee (f := 31) rfl ?_); refine goesL_ (some 102) rfl rfl Tryd.func31 (by kernel_rfl) rfl #[.slice Ao90 x9_1.length co90, .int .u8 ((ji88) % 256)] rfl (by (try simp only [List.map_toArray, List.map_cons, List.map_nil]); first | done | (simp only [hji88]; rfl) | rfl | (simp only [List.length_drop, List.length_take]; rfl)) ?_; (with_reducible refine (rialtoref4_two.calls (fun k_ => some k_ = (.slice Ao90 x9_1.length co90 : Value).ownBlock) (.slice Ao90 x9_1.length co90) x9_1 ((ji88) % 256) t251 w _ ?side1 ?side2 A89.out).mono ?_); (case side1 => repeat (first | (with_reducible first | exact HB.out | apply below_alloc | apply pw_below_drewN | apply below_drew1 | refine below_set ?_ GE206.out) | exact HB.out)); (case side2 => exact Kd.R_tight rfl HO_9.out); rintro e w91 ⟨v252, rfl, ho0, hb, hkp⟩; refine ⟨_, rfl, ?_⟩; have n0_ := Aside0.mk (blk_kept (by (with_reducible repeat (first | refine blk_drewN ?_ _ | refine blk_drew ?_ | refine blk_alloc ?_ _)); exact BK206.out) hkp (fun hs_ => (fun e_ => (Kd.R_ne HO_9.out BK206.out (by decide)) e_) hs_)); have n1_ := Aside0.mk (Kd.R_mono (ok' := fun k_ => True) ho0 (fun k_ hk_ => trivial)); have n2_ := Aside0.mk (hb); clear BK206; clear HB; clear HO_9; have BK206 := n0_; have HO253 := n1_; have HB := n2_; clear n0_ n1_ n2_; (try clear hb); (try clear hkp); (try clear ho0)))
          go_roundg k1
          case measure => have := HK1.out; omega
          case rel => exact ⟨(t251), (wrap64 (x10_1 - 8)), (by first | rfl | (simp; done) | (simp [*]; done)), H', ⟨by have := HK1.out; omega⟩, ⟨by (with_reducible repeat (first | apply Kd.R_alloc | apply Kd.R_drewN | apply Kd.R_drew)); exact HO253.out⟩, ⟨by (with_reducible repeat (first | refine blk_drewN ?_ _ | refine blk_drew ?_ | refine blk_alloc ?_ _)); exact BK206.out⟩, ⟨by repeat (first | (with_reducible first | exact HB.out | apply below_alloc | apply pw_below_drewN | apply below_drew1 | refine below_set ?_ GE206.out) | exact HB.out)⟩⟩
         ·rw [if_neg c87] at H
          exact absurd H (by simp)
        ·rw [if_neg c86] at H
         have c86b0 : decide (0 ≤ x10_1) = false := decide_eq_false c86
         clear c86
         obtain rfl := Option.some.inj H
         have hcv92 := own_string (P := Tryd.prog) Tryd.underlying57 Tryd.underlying5 Tryd.underlying9 (Kd.own_of_R HO_9.out)
         go_wp2
         go_ret
         exact ⟨by first | rfl | (simp [errW_none, errW_some] <;> rfl) | (simp [*, errW_none, errW_some] <;> rfl), by repeat (first | (with_reducible first | exact HB.out | apply below_alloc | apply pw_below_drewN | apply below_drew1 | refine below_set ?_ GE206.out) | exact HB.out)⟩
 ·replace c3 := Bool.eq_false_iff.mpr c3
  subst c3
  have H1 : (some (⟨#[63]⟩ : ByteArray)) = some r := by rw [if_neg (show ¬ (false = true) by decide)] at H; exact H
  clear H
  have H := H1
  clear H1
  obtain rfl := Option.some.inj H
  have k23 := run23
  have k22 := run22
  go_enter Tryd.func11, Tryd.ntmps11
  go_wp2_with (first | ((with_reducible refine gate_dst (N := 1) rfl ?_); refine box_event ?hg (N := 1) ?hd (cs := #[.int .i64 a0_0, .int .i64 a0_1, .string a0_2, .float .f64 a0_3]) (t := 24) ?hr ?_; (case hd => rfl); (case hg => rfl); (case hr => first | (go_simp; done) | (go_simp; rfl)); intro gb206 hg w93 hbox hb; have n0_ := Aside0.mk (below_step (by repeat (first | (with_reducible first | exact HB.out | apply below_alloc | apply pw_below_drewN | apply below_drew1) | exact HB.out)) hb); have n1_ := Aside0.mk (hbox); have n2_ := Aside0.mk ((by rw [hg]; exact (below_size (by repeat (first | (with_reducible first | exact HB.out | apply below_alloc | apply pw_below_drewN | apply below_drew1) | exact HB.out))) : w.heap.size ≤ gb206)); have n3_ := Aside0.mk ((by rw [hg]; exact (below_size (by repeat (first | (with_reducible first | exact HB.out | apply below_alloc | apply pw_below_drewN | apply below_drew1) | exact HB.out))) : w.heap.size ≤ gb206)); clear HB; have HB := n0_; have BK206 := n1_; have GW206 := n2_; have GE206 := n3_; clear n0_ n1_ n2_ n3_; clear hb hbox hg; have hcz94_0 : w93.cell? ⟨gb206, 0, none⟩ = some (.int .i64 a0_0) := (blk_cell BK206.out 0).trans rfl; have hcz94_1 : w93.cell? ⟨gb206, 1, none⟩ = some (.int .i64 a0_1) := (blk_cell BK206.out 1).trans rfl; have hcz94_2 : w93.cell? ⟨gb206, 2, none⟩ = some (.string a0_2) := (blk_cell BK206.out 2).trans rfl; have hcz94_3 : w93.cell? ⟨gb206, 3, none⟩ = some (.float .f64 a0_3) := (blk_cell BK206.out 3).trans rfl; have hfz94_0 := blk_frozen BK206.out 0; have hfz94_1 := blk_frozen BK206.out 1; have hfz94_2 := blk_frozen BK206.out 2; have hfz94_3 := blk_frozen BK206.out 3) | ((with_reducible refine gate_callee (f := 20) rfl ?_); refine goesL_ (some 12) rfl rfl Tryd.func20 (by kernel_rfl) rfl #[.agg #[.int .i64 a0_0, .int .i64 a0_1, .string a0_2, .float .f64 a0_3]] rfl (by (try simp only [List.map_toArray, List.map_cons, List.map_nil]); first | done | rfl | (simp only [List.length_drop, List.length_take]; rfl)) ?_; (with_reducible refine (rialtoref2_Is.calls k a0_0 a0_1 a0_2 a0_3 false _ A2.out).mono ?_); rintro e w95 ⟨rfl, hb⟩; refine ⟨_, rfl, ?_⟩; have n0_ := Aside0.mk (blk_below (g := gb206) (o := .cells #[.int .i64 a0_0, .int .i64 a0_1, .string a0_2, .float .f64 a0_3] 24 (0, 0)) (by (with_reducible repeat (first | refine blk_drewN ?_ _ | refine blk_drew ?_ | refine blk_alloc ?_ _)); exact BK206.out) hb); have n1_ := Aside0.mk (below_step (by repeat (first | (with_reducible first | exact HB.out | apply below_alloc | apply pw_below_drewN | apply below_drew1 | refine below_set ?_ GE206.out) | exact HB.out)) hb); clear BK206; clear HB; have BK206 := n0_; have HB := n1_; clear n0_ n1_; (try clear hb); (try clear hb2); (try clear hk); (try clear hi)))
  go_ret
  exact ⟨by first | rfl | (simp [errW_none, errW_some] <;> rfl) | (simp [*, errW_none, errW_some] <;> rfl), by repeat (first | (with_reducible first | exact HB.out | apply below_alloc | apply pw_below_drewN | apply below_drew1 | refine below_set ?_ GE206.out) | exact HB.out)⟩
def rialtoref4_Row.l0 : Nat → List (S24) → ByteArray → Int → Option (ByteArray)
 | 0, _, _, _ => none
 | k + 1, x0, x3, x4 => if x4 < (x0.length : Int) then (if x4 > 0 then (if x3.size + 2 ≤ 9223372036854775807 then (if 0 ≤ x4 then ((rialtoref4_Print.f k ((rd_T24 x0 x4).f0) ((rd_T24 x0 x4).f1) ((rd_T24 x0 x4).f2) ((rd_T24 x0 x4).f3)).bind fun t255 => (if (x3 ++ (⟨#[44, 32]⟩ : ByteArray)).size + t255.size ≤ 9223372036854775807 then (rialtoref4_Row.l0 k x0 ((x3 ++ (⟨#[44, 32]⟩ : ByteArray)) ++ t255) (wrap64 (x4 + 1))) else (none))) else (none)) else (none)) else (if 0 ≤ x4 then ((rialtoref4_Print.f k ((rd_T24 x0 x4).f0) ((rd_T24 x0 x4).f1) ((rd_T24 x0 x4).f2) ((rd_T24 x0 x4).f3)).bind fun t257 => (if x3.size + t257.size ≤ 9223372036854775807 then (rialtoref4_Row.l0 k x0 (x3 ++ t257) (wrap64 (x4 + 1))) else (none))) else (none))) else (if x3.size + 1 ≤ 9223372036854775807 then (some (x3 ++ (⟨#[41]⟩ : ByteArray))) else (none))
def rialtoref4_Row.f (k : Nat) (l0 : List (S24)) : Option (ByteArray) := rialtoref4_Row.l0 k l0 (⟨#[40]⟩ : ByteArray) 0
theorem rialtoref4_Row.mono_l : ∀ k, (∀ y0 y1 y2, LeO (rialtoref4_Row.l0 k y0 y1 y2) (rialtoref4_Row.l0 (k + 1) y0 y1 y2))
 | 0 => fun _ _ _ r h => by simp [rialtoref4_Row.l0] at h
 | k + 1 => by
  have ih0 := rialtoref4_Row.mono_l k
  ·intro y0 y1 y2
   unfold rialtoref4_Row.l0
   repeat' first
   | (with_reducible exact ih0 _ _ _)
   | (with_reducible exact rialtoref4_Print.mono _ _ _ _ _)
   | (with_reducible exact LeO.refl _)
   | (with_reducible exact LeO.none _)
   | (with_reducible refine LeO.ite ?_ ?_)
   | (with_reducible refine LeO.bind ?_ (fun _ => ?_))
   | exact ih0 _ _ _
   | exact rialtoref4_Print.mono _ _ _ _ _
   | exact LeO.none _
   | refine LeO.ite ?_ ?_
   | refine LeO.bind ?_ (fun _ => ?_)
theorem rialtoref4_Row.mono : ∀ a0 k, LeO (rialtoref4_Row.f k a0) (rialtoref4_Row.f (k + 1) a0) := by
 intro a0 k
 have ih0 := rialtoref4_Row.mono_l k
 unfold rialtoref4_Row.f
 repeat' first
   | (with_reducible exact ih0 _ _ _)
   | (with_reducible exact rialtoref4_Print.mono _ _ _ _ _)
   | (with_reducible exact LeO.refl _)
   | (with_reducible exact LeO.none _)
   | (with_reducible refine LeO.ite ?_ ?_)
   | (with_reducible refine LeO.bind ?_ (fun _ => ?_))
   | exact ih0 _ _ _
   | exact rialtoref4_Print.mono _ _ _ _ _
   | exact LeO.none _
   | refine LeO.ite ?_ ?_
   | refine LeO.bind ?_ (fun _ => ?_)
set_option maxHeartbeats 8000000 in
set_option maxRecDepth 100000 in
theorem rialtoref4_Row.calls (k : Nat) (A0 : Option Addr) (c0 : Nat) (l0 : List (S24)) (r : ByteArray) (w : World) (hr0 : Kd.C k24 w A0 l0.length l0) (hc0 : l0.length ≤ c0) (h : rialtoref4_Row.f k l0 = some r) :
  Calls Tryd.prog 13 #[.slice A0 l0.length c0] w fun e w' => e = .returned (.string r) ∧ Below w.heap.size w w' := by
 have hu24 := Tryd.underlying24
 have HR0 := Aside0.mk hr0
 have HC0 := Aside0.mk hc0
 clear hr0 hc0
 have HB := Aside0.mk (Below.refl w.heap.size w)
 have H : (rialtoref4_Row.l0 k l0 (⟨#[40]⟩ : ByteArray) 0) = some r := h
 clear h
 have H' := Aside0.mk H
 clear H
 have k23 := run23
 have k22 := run22
 go_enter Tryd.func13, Tryd.ntmps13
 go_wp2
 go_loopg [3, 4] k (fun kq v3 v4 w' => ∃ (x3_1 : ByteArray) (x4_1 : Int), v3 = .string x3_1 ∧ v4 = .int .i64 x4_1 ∧ Aside0 (rialtoref4_Row.l0 kq l0 x3_1 x4_1 = some r) ∧ Aside0 (kq ≤ k) ∧ Aside0 (Below w.heap.size w w'))
 case atStart => exact ⟨((⟨#[40]⟩ : ByteArray)), (0), (by first | rfl | (simp; done) | (simp [*]; done)), (by first | rfl | (simp; done) | (simp [*]; done)), H', ⟨Nat.le_refl _⟩, ⟨by repeat (first | (with_reducible first | exact HB.out | apply below_alloc | apply pw_below_drewN | apply below_drew1) | exact HB.out)⟩⟩
 case round =>
  clear H'
  try clear c1
  obtain ⟨x3_1, x4_1, rfl, rfl, HA, HK1, HB⟩ := hrel
  cases gk with
  | zero => exact absurd HA.out (by simp [rialtoref4_Row.l0])
  | succ k1 =>
   have H := HA.out
   clear HA
   simp only [rialtoref4_Row.l0] at H
   by_cases c2 : x4_1 < (l0.length : Int)
   ·rw [if_pos c2] at H
    have c2b0 : decide (x4_1 < (l0.length : Int)) = true := decide_eq_true c2
    clear c2
    by_cases c3 : x4_1 > 0
    ·rw [if_pos c3] at H
     have c3b0 : decide (0 < x4_1) = true := decide_eq_true c3
     clear c3
     by_cases c4 : x3_1.size + 2 ≤ 9223372036854775807
     ·rw [if_pos c4] at H
      have c4b0 := eq_true c4
      have c4b1 : decide (x3_1.size + 2 ≤ 9223372036854775807) = true := decide_eq_true c4
      try have c4b2 : (9223372036854775807 < x3_1.size + 2) = False := eq_false (Nat.not_lt.2 c4)
      try (have c4b3 := c4b2; simp only [ByteArray.size_append, ByteArray.size_extract] at c4b3)
      try have c4b4 : (9223372036854775807 < x3_1.size + 2) = False := eq_false (by have h_ := c4; (try simp only [ByteArray.size_append, ByteArray.size_extract] at h_); first | omega | (simp only [Nat.add_zero] at h_; omega))
      by_cases c5 : 0 ≤ x4_1
      ·rw [if_pos c5] at H
       have c5b0 : decide (0 ≤ x4_1) = true := decide_eq_true c5
       clear c5
       replace H := Option.bind_eq_some_iff.mp H
       obtain ⟨t255, A60, H⟩ := H
       replace H : (if (x3_1 ++ (⟨#[44, 32]⟩ : ByteArray)).size + t255.size ≤ 9223372036854775807 then (rialtoref4_Row.l0 k1 l0 ((x3_1 ++ (⟨#[44, 32]⟩ : ByteArray)) ++ t255) (wrap64 (x4_1 + 1))) else (none)) = some r := H
       have A6 := Aside0.mk A60
       clear A60
       by_cases c7 : (x3_1 ++ (⟨#[44, 32]⟩ : ByteArray)).size + t255.size ≤ 9223372036854775807
       ·rw [if_pos c7] at H
        have c7b0 := eq_true c7
        have c7b1 : decide ((x3_1 ++ (⟨#[44, 32]⟩ : ByteArray)).size + t255.size ≤ 9223372036854775807) = true := decide_eq_true c7
        try have c7b2 : (9223372036854775807 < (x3_1 ++ (⟨#[44, 32]⟩ : ByteArray)).size + t255.size) = False := eq_false (Nat.not_lt.2 c7)
        try (have c7b3 := c7b2; simp only [ByteArray.size_append, ByteArray.size_extract] at c7b3)
        try have c7b4 : (9223372036854775807 < (x3_1.size + 2) + t255.size) = False := eq_false (by have h_ := c7; (try simp only [ByteArray.size_append, ByteArray.size_extract] at h_); first | omega | (simp only [show (⟨#[44, 32]⟩ : ByteArray).size = 2 from rfl] at h_; omega))
        have H' := Aside0.mk H
        clear H
        have p254 : 0 ≤ (x4_1 : Int) := of_decide_eq_true (by first | (with_reducible assumption) | assumption)
        have q254 : x4_1 < (l0.length : Int) := of_decide_eq_true (by first | (with_reducible assumption) | assumption)
        obtain ⟨ad254, e254, hx254_0, hx254_1, hx254_2, hx254_3⟩ := at_T24 HR0.out x4_1 p254 q254
        cases e254
        replace hx254_0 := (HB.out.cell (World.block_lt_of_cell? w _ hx254_0)).trans hx254_0
        replace hx254_1 := (HB.out.cell (World.block_lt_of_cell? w _ hx254_1)).trans hx254_1
        replace hx254_2 := (HB.out.cell (World.block_lt_of_cell? w _ hx254_2)).trans hx254_2
        replace hx254_3 := (HB.out.cell (World.block_lt_of_cell? w _ hx254_3)).trans hx254_3
        replace p254 := eq_true p254
        replace q254 := eq_true q254
        go_wp2_with (first | ((with_reducible refine gate_callee (f := 11) rfl ?_); refine goesL_ (some 20) rfl rfl Tryd.func11 (by kernel_rfl) rfl #[.agg #[.int .i64 ((rd_T24 l0 x4_1).f0), .int .i64 ((rd_T24 l0 x4_1).f1), .string ((rd_T24 l0 x4_1).f2), .float .f64 ((rd_T24 l0 x4_1).f3)]] rfl (by (try simp only [List.map_toArray, List.map_cons, List.map_nil]); first | done | rfl | (simp only [List.length_drop, List.length_take]; rfl)) ?_; (with_reducible refine (rialtoref4_Print.calls k1 ((rd_T24 l0 x4_1).f0) ((rd_T24 l0 x4_1).f1) ((rd_T24 l0 x4_1).f2) ((rd_T24 l0 x4_1).f3) t255 _ A6.out).mono ?_); rintro e w8 ⟨rfl, hb⟩; refine ⟨_, rfl, ?_⟩; have n0_ := Aside0.mk (below_step (by repeat (first | (with_reducible first | exact HB.out | apply below_alloc | apply pw_below_drewN | apply below_drew1) | exact HB.out)) hb); clear HB; have HB := n0_; clear n0_; (try clear hb); (try clear hb2); (try clear hk); (try clear hi)))
        go_roundg k1
        case measure => have := HK1.out; omega
        case rel => exact ⟨((x3_1 ++ (⟨#[44, 32]⟩ : ByteArray)) ++ t255), (wrap64 (x4_1 + 1)), (by first | rfl | (simp; done) | (simp [*]; done)), (by first | rfl | (simp; done) | (simp [*]; done)), H', ⟨by have := HK1.out; omega⟩, ⟨by repeat (first | (with_reducible first | exact HB.out | apply below_alloc | apply pw_below_drewN | apply below_drew1) | exact HB.out)⟩⟩
       ·rw [if_neg c7] at H
        exact absurd H (by simp)
      ·rw [if_neg c5] at H
       exact absurd H (by simp)
     ·rw [if_neg c4] at H
      exact absurd H (by simp)
    ·rw [if_neg c3] at H
     have c3b0 : decide (0 < x4_1) = false := decide_eq_false c3
     clear c3
     by_cases c9 : 0 ≤ x4_1
     ·rw [if_pos c9] at H
      have c9b0 : decide (0 ≤ x4_1) = true := decide_eq_true c9
      clear c9
      replace H := Option.bind_eq_some_iff.mp H
      obtain ⟨t257, A100, H⟩ := H
      replace H : (if x3_1.size + t257.size ≤ 9223372036854775807 then (rialtoref4_Row.l0 k1 l0 (x3_1 ++ t257) (wrap64 (x4_1 + 1))) else (none)) = some r := H
      have A10 := Aside0.mk A100
      clear A100
      by_cases c11 : x3_1.size + t257.size ≤ 9223372036854775807
      ·rw [if_pos c11] at H
       have c11b0 := eq_true c11
       have c11b1 : decide (x3_1.size + t257.size ≤ 9223372036854775807) = true := decide_eq_true c11
       try have c11b2 : (9223372036854775807 < x3_1.size + t257.size) = False := eq_false (Nat.not_lt.2 c11)
       try (have c11b3 := c11b2; simp only [ByteArray.size_append, ByteArray.size_extract] at c11b3)
       try have c11b4 : (9223372036854775807 < x3_1.size + t257.size) = False := eq_false (by have h_ := c11; (try simp only [ByteArray.size_append, ByteArray.size_extract] at h_); first | omega | (simp only [Nat.add_zero] at h_; omega))
       have H' := Aside0.mk H
       clear H
       have p256 : 0 ≤ (x4_1 : Int) := of_decide_eq_true (by first | (with_reducible assumption) | assumption)
       have q256 : x4_1 < (l0.length : Int) := of_decide_eq_true (by first | (with_reducible assumption) | assumption)
       obtain ⟨ad256, e256, hx256_0, hx256_1, hx256_2, hx256_3⟩ := at_T24 HR0.out x4_1 p256 q256
       cases e256
       replace hx256_0 := (HB.out.cell (World.block_lt_of_cell? w _ hx256_0)).trans hx256_0
       replace hx256_1 := (HB.out.cell (World.block_lt_of_cell? w _ hx256_1)).trans hx256_1
       replace hx256_2 := (HB.out.cell (World.block_lt_of_cell? w _ hx256_2)).trans hx256_2
       replace hx256_3 := (HB.out.cell (World.block_lt_of_cell? w _ hx256_3)).trans hx256_3
       replace p256 := eq_true p256
       replace q256 := eq_true q256
       go_wp2_with (first | ((with_reducible refine gate_callee (f := 11) rfl ?_); refine goesL_ (some 20) rfl rfl Tryd.func11 (by kernel_rfl) rfl #[.agg #[.int .i64 ((rd_T24 l0 x4_1).f0), .int .i64 ((rd_T24 l0 x4_1).f1), .string ((rd_T24 l0 x4_1).f2), .float .f64 ((rd_T24 l0 x4_1).f3)]] rfl (by (try simp only [List.map_toArray, List.map_cons, List.map_nil]); first | done | rfl | (simp only [List.length_drop, List.length_take]; rfl)) ?_; (with_reducible refine (rialtoref4_Print.calls k1 ((rd_T24 l0 x4_1).f0) ((rd_T24 l0 x4_1).f1) ((rd_T24 l0 x4_1).f2) ((rd_T24 l0 x4_1).f3) t257 _ A10.out).mono ?_); rintro e w12 ⟨rfl, hb⟩; refine ⟨_, rfl, ?_⟩; have n0_ := Aside0.mk (below_step (by repeat (first | (with_reducible first | exact HB.out | apply below_alloc | apply pw_below_drewN | apply below_drew1) | exact HB.out)) hb); clear HB; have HB := n0_; clear n0_; (try clear hb); (try clear hb2); (try clear hk); (try clear hi)))
       go_roundg k1
       case measure => have := HK1.out; omega
       case rel => exact ⟨(x3_1 ++ t257), (wrap64 (x4_1 + 1)), (by first | rfl | (simp; done) | (simp [*]; done)), (by first | rfl | (simp; done) | (simp [*]; done)), H', ⟨by have := HK1.out; omega⟩, ⟨by repeat (first | (with_reducible first | exact HB.out | apply below_alloc | apply pw_below_drewN | apply below_drew1) | exact HB.out)⟩⟩
      ·rw [if_neg c11] at H
       exact absurd H (by simp)
     ·rw [if_neg c9] at H
      exact absurd H (by simp)
   ·rw [if_neg c2] at H
    have c2b0 : decide (x4_1 < (l0.length : Int)) = false := decide_eq_false c2
    clear c2
    by_cases c13 : x3_1.size + 1 ≤ 9223372036854775807
    ·rw [if_pos c13] at H
     have c13b0 := eq_true c13
     have c13b1 : decide (x3_1.size + 1 ≤ 9223372036854775807) = true := decide_eq_true c13
     try have c13b2 : (9223372036854775807 < x3_1.size + 1) = False := eq_false (Nat.not_lt.2 c13)
     try (have c13b3 := c13b2; simp only [ByteArray.size_append, ByteArray.size_extract] at c13b3)
     try have c13b4 : (9223372036854775807 < x3_1.size + 1) = False := eq_false (by have h_ := c13; (try simp only [ByteArray.size_append, ByteArray.size_extract] at h_); first | omega | (simp only [Nat.add_zero] at h_; omega))
     obtain rfl := Option.some.inj H
     go_wp2
     go_ret
     exact ⟨by first | rfl | (simp [errW_none, errW_some] <;> rfl) | (simp [*, errW_none, errW_some] <;> rfl), by repeat (first | (with_reducible first | exact HB.out | apply below_alloc | apply pw_below_drewN | apply below_drew1) | exact HB.out)⟩
    ·rw [if_neg c13] at H
     exact absurd H (by simp)
end Go.Proofs.YtpjfhdbkkomogaaDoor.Px
