/- The walk of TextFloats. -/
import Derived.Test.YtpjfhdbkkomogaaDoorWj
namespace Go.Proofs.YtpjfhdbkkomogaaDoor.Mb
open Go.RowKit Go.Proofs.YtpjfhdbkkomogaaDoorW.PrintWords Go.Proofs.YtpjfhdbkkomogaaDoorW.PrintLast Go.Proofs.YtpjfhdbkkomogaaDoorW.PrintMore Go.Proofs.YtpjfhdbkkomogaaDoor.Px Go.Proofs.YtpjfhdbkkomogaaDoor.Gvn
attribute [local go_sem] run_store_float

theorem parse_float (f : Nat) (hf : f < 18446744073709551616) (w : World) (hw : Tabs w) :
    Calls Tryd.prog 14 #[.string (B (102 :: tells 16 f))] w fun e w' => e = .returned (.tuple #[Av 5 0 ⟨#[]⟩ f, .int .i64 0]) ∧ Below w.heap.size w w' := by
  refine parse_ok (T := Tabs) Tabs.mono _ (B []) (toList_B []) 5 0 ⟨#[]⟩ f w hw (fun w _ => ?_) (fun w hw => print_float f hf w hw)
  have := front_float (tells 16 f) [] (tells_length 16 f) (by simp) (tells_hex 16 f) w
  rw [List.append_nil, hval_tells 16 f hf] at this
  exact this
theorem less_is : ∀ x y : List UInt8, Op.bytesLess x y = decide (x < y)
  | [], [] => by simp [Op.bytesLess]
  | _ :: _, [] => by simp [Op.bytesLess]
  | [], _ :: _ => by simp [Op.bytesLess]
  | c :: x, d :: y => by
    have := less_is x y
    rw [Op.bytesLess, this, Bool.eq_iff_iff]
    simp [List.cons_lt_cons_iff]
set_option maxHeartbeats 2000000 in
set_option maxRecDepth 100000 in
theorem floats_walk (a b : Nat) (ha : a < 18446744073709551616) (hb : b < 18446744073709551616) (w : World) (hw : Tabs w) :
    Calls Tryd.prog 6 #[.int .u64 a, .int .u64 b] w fun e w' => e = .returned (.bool true) ∧ Below w.heap.size w w' := by
  have KN := known_any w hw
  have PA := fun (w : World) (hw : Tabs w) => print_float a ha w hw
  have PB := fun (w : World) (hw : Tabs w) => print_float b hb w hw
  have QA := fun (w : World) (hw : Tabs w) => parse_float a ha w hw
  have hsa : (B (102 :: tells 16 a)).size = 17 := by rw [size_B, List.length_cons, tells_length]
  have heq : ((B (102 :: tells 16 a)).toList == (B (102 :: tells 16 b)).toList) = ((a : Int) == (b : Int)) := by
    rw [toList_B, toList_B, Bool.eq_iff_iff, beq_iff_eq, beq_iff_eq, List.cons.injEq, and_iff_right rfl, tells_inj 16 a b ha hb]
    omega
  have hlt : Op.bytesLess (B (102 :: tells 16 a)).toList (B (102 :: tells 16 b)).toList = decide ((a : Int) < (b : Int)) := by
    rw [toList_B, toList_B, less_is, decide_eq_decide, List.cons_lt_cons_iff]
    have := tells_lt 16 a b ha hb
    constructor
    · rintro (h | ⟨_, h⟩)
      · exact absurd h (by decide)
      · have := this.1 h
        omega
    · intro h
      exact .inr ⟨rfl, this.2 (by omega)⟩
  have hx0 : ∀ W, (Instr.index 9 (.string (B (102 :: tells 16 a))) (.int .i64 0)).run Tryd.prog W = .ok (.int .u8 102) W := fun W => by
    rw [run_index_string (P := Tryd.prog) (w := W) 9 _ .i64 0 Tryd.underlying9, dif_pos ⟨by omega, by rw [size_B]; simp⟩]
    rfl
  generalize hxa : B (102 :: tells 16 a) = x at *
  generalize hxb : B (102 :: tells 16 b) = y at *
  have HXA := Lib.hid hxa
  have HXB := Lib.hid hxb
  have k22 := run22
  have k23 := run23
  have HA := Lib.hid ha
  have HB := Lib.hid hb
  have HS := Lib.hid hsa
  have hs17 : 17 ≤ x.size := by omega
  have hs17' : x.size ≤ 17 := by omega
  clear hxa hxb ha hb hsa
  go_enter Tryd.func6, Tryd.ntmps6
  go_wp2_with fail
  go_at_call 8
  refine KN.mono ?_
  rintro e w1 ⟨rfl, hb1⟩
  have hT1 := hw.mono hb1
  go_wp2_with fail
  go_at_call 10
  refine (PA _ hT1).mono ?_
  rintro e w2 ⟨rfl, hb2⟩
  have hT2 := hT1.mono hb2
  go_wp2_with fail
  go_at_call 10
  refine (PB _ hT2).mono ?_
  rintro e w3 ⟨rfl, hb3⟩
  have hT3 := hT2.mono hb3
  go_wp2_with fail
  go_at_call 14
  refine (QA _ hT3).mono ?_
  rintro e w4 ⟨rfl, hb4⟩
  have hB2 := hb1.trans (hb2.mono hb1.size)
  have hB3 := hB2.trans (hb3.mono hB2.size)
  have hB4 := hB3.trans (hb4.mono hB3.size)
  clear hb1 hb2 hb3 hb4 hB2 hB3
  go_wp2
  go_ret
  exact ⟨rfl, hB4.trans (((Below.refl w4.heap.size w4).alloc (Nat.le_refl _) _).mono hB4.size)⟩
end Go.Proofs.YtpjfhdbkkomogaaDoor.Mb
