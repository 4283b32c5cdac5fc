/- Walks: a float told, and read. -/
import Derived.Test.YtpjfhdbkkomogaaDoorWf
namespace Go.Proofs.YtpjfhdbkkomogaaDoor.Mb
open Go.RowKit Go.Proofs.YtpjfhdbkkomogaaDoorW.PrintWords Go.Proofs.YtpjfhdbkkomogaaDoorW.PrintLast Go.Proofs.YtpjfhdbkkomogaaDoorW.PrintMore Go.Proofs.YtpjfhdbkkomogaaDoor.Px Go.Proofs.YtpjfhdbkkomogaaDoor.Gvn
attribute [local go_sem] run_store_float

theorem format_in (u : Nat) (hu : u < 18446744073709551616) (w : World) (hw : Tabs w) :
    Calls Tryd.prog 42 #[.int .u64 u, .int .i64 16] w fun e w' => e = .returned (.string (B (tell u))) ∧ Below w.heap.size w w' := by
  have FB := fun (w : World) (h : Tabs w) => bits_any u hu w h
  generalize B (tell u) = r at FB ⊢
  go_enter Tryd.func42, Tryd.ntmps42
  go_wp2_with fail
  go_at_call 63
  refine (FB _ hw).mono ?_
  rintro e w1 ⟨rfl, hb1⟩
  go_wp2
  go_ret
  exact ⟨rfl, hb1⟩
theorem format16 (u : Nat) (hu : u < 18446744073709551616) (w : World) (hw : Tabs w) :
    Calls Tryd.prog 29 #[.int .u64 u, .int .i64 16] w fun e w' => e = .returned (.string (B (tell u))) ∧ Below w.heap.size w w' := by
  have FB := fun (w : World) (h : Tabs w) => format_in u hu w h
  generalize B (tell u) = r at FB ⊢
  go_enter Tryd.func29, Tryd.ntmps29
  go_wp2_with fail
  go_at_call 42
  refine (FB _ hw).mono ?_
  rintro e w1 ⟨rfl, hb1⟩
  go_wp2
  go_ret
  exact ⟨rfl, hb1⟩
theorem is_float (f : Nat) (hf : f < 18446744073709551616) : value_Is.f 1 5 0 ⟨#[]⟩ f = some true := by
  have e : (⟨#[]⟩ : ByteArray).toList = [] := toList_B []
  unfold value_Is.f bits_Order.f
  rw [if_pos hf, Option.bind_some, if_neg (by decide), if_neg (by decide), if_neg (by decide), value_Is.j0, if_neg (by decide), if_pos rfl, if_pos rfl, e]
  rfl
theorem told16 (u : Nat) (hu : u < 18446744073709551616) : (tell u).length ≤ 16 ∧ 1 ≤ (tell u).length ∧ List.replicate (16 - (tell u).length) 48 ++ tell u = tells 16 u := by
  obtain ⟨h1, h2⟩ := tell_filled 15 u (by omega)
  refine ⟨h1, ?_, h2⟩
  by_cases h : u < 16
  · rw [tell_small u h]; simp
  · rw [tell_big u h]; simp
set_option maxHeartbeats 1000000 in
set_option maxRecDepth 100000 in
theorem print_float (f : Nat) (hf : f < 18446744073709551616) (w : World) (hw : Tabs w) :
    Calls Tryd.prog 10 #[Av 5 0 ⟨#[]⟩ f] w fun e w' => e = .returned (.string (B (102 :: tells 16 f))) ∧ Below w.heap.size w w' := by
  have HI := Lib.hid (is_float f hf)
  have FM := fun (w : World) (hw : Tabs w) => format16 f hf w hw
  obtain ⟨t1, t2, t3⟩ := told16 f hf
  obtain ⟨c, hc⟩ : ∃ c, c = 16 - (tell f).length := ⟨_, rfl⟩
  have RP := fun (w : World) => Ex.rep_calls c (by omega) w
  have HX : Hid ((⟨#[102]⟩ : ByteArray) ++ ⟨(List.replicate c 48).toArray⟩ ++ B (tell f) = B (102 :: tells 16 f)) := by
    show B [102] ++ B (List.replicate c 48) ++ B (tell f) = B (102 :: tells 16 f)
    rw [append_B, append_B, hc, List.append_assoc, t3]
    rfl
  have HC : Hid ((16 : Int) - ((B (tell f)).size : Int) = (c : Int)) := Lib.hid (by rw [size_B]; omega)
  have hz : (⟨(List.replicate c 48).toArray⟩ : ByteArray).size ≤ 16 := by
    show (B (List.replicate c 48)).size ≤ 16
    rw [size_B, List.length_replicate]; omega
  have hs : (B (tell f)).size ≤ 16 := by rw [size_B]; exact t1
  generalize B (102 :: tells 16 f) = x at HX ⊢
  generalize (⟨(List.replicate c 48).toArray⟩ : ByteArray) = z at RP HX hz
  generalize B (tell f) = s at FM HX HC hs
  have hT1 : Tabs (w.alloc (.cells #[Value.int IntKind.i64 5, Value.int IntKind.i64 0, Value.string ⟨#[]⟩, Value.float FloatKind.f64 f] 24)) := hw.mono ((Below.refl w.heap.size w).alloc (Nat.le_refl _) _)
  have k23 := run23
  clear hf hw t1 t2 t3 hc
  go_enter Tryd.func10, Tryd.ntmps10
  go_wp2_with fail
  go_at_call 24
  refine (value_Is.calls _ _ _ _ _ _ _ HI.out).mono ?_
  rintro e w1 ⟨rfl, hb1⟩
  obtain ⟨hc1, hf1⟩ := bcell hb1
  have hT2 := hT1.mono hb1
  have hB1 : Below w.heap.size w w1 := ((Below.refl w.heap.size w).alloc (Nat.le_refl _) _).trans (hb1.mono (by simp))
  go_wp2_with fail
  go_at_call 29
  refine (FM _ hT2).mono ?_
  rintro e w2 ⟨rfl, hb2⟩
  go_wp2_with fail
  rw [HC.out]
  go_at_call 30
  refine (RP _).mono ?_
  rintro e w3 ⟨rfl, hb3⟩
  go_wp2
  go_ret
  have hB2 := hB1.trans (hb2.mono hB1.size)
  exact ⟨by rw [← HX.out]; rfl, hB2.trans (hb3.mono hB2.size)⟩
end Go.Proofs.YtpjfhdbkkomogaaDoor.Mb
