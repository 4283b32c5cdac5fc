/- The walk of TextInts. -/
import Derived.Test.YtpjfhdbkkomogaaDoorWi
namespace Go.Proofs.YtpjfhdbkkomogaaDoor.Mb
open Go.RowKit Go.Proofs.YtpjfhdbkkomogaaDoorW.PrintWords Go.Proofs.YtpjfhdbkkomogaaDoorW.PrintLast Go.Proofs.YtpjfhdbkkomogaaDoorW.PrintMore Go.Proofs.YtpjfhdbkkomogaaDoor.Px Go.Proofs.YtpjfhdbkkomogaaDoor.Gvn
open Go.Lib (decDigits itoa parseUintM parseUintB parseIntB)
attribute [local go_sem] run_store_float

/-- The walk's form of what text.Parse answers. -/
abbrev PutOk (t : ByteArray) (v : Value) (c : Int) : Prop := ∀ w, Errs w → Calls Tryd.prog 14 #[.string t] w fun e w' => e = .returned (.tuple #[v, .int .i64 c]) ∧ Below w.heap.size w w'
theorem not_special {c : UInt8} (h : c ≠ 34 ∧ c ≠ 116 ∧ c ≠ 102 ∧ c ≠ 120) (r : List UInt8) : c :: r = [] ∨ ∃ d r', c :: r = d :: r' ∧ d ≠ 34 ∧ d ≠ 116 ∧ d ≠ 102 ∧ d ≠ 120 := .inr ⟨c, r, rfl, h⟩
theorem num_plain {c : UInt8} (h : isNum c = true) : c ≠ 34 ∧ c ≠ 116 ∧ c ≠ 102 ∧ c ≠ 120 := by
  rw [isNum_iff] at h
  refine ⟨?_, ?_, ?_, ?_⟩ <;> rintro rfl <;> revert h <;> decide
theorem itoa_plain (n : Int) (m : List UInt8) : itoa n ++ m = [] ∨ ∃ d r, itoa n ++ m = d :: r ∧ d ≠ 34 ∧ d ≠ 116 ∧ d ≠ 102 ∧ d ≠ 120 := by
  have hne : itoa n ≠ [] := by
    unfold itoa
    split
    · simp
    · exact (dec_digits _).2
  cases h : itoa n with
  | nil => exact absurd h hne
  | cons c r => exact .inr ⟨c, r ++ m, rfl, num_plain (itoa_num n c (by rw [h]; simp))⟩
section
variable (n : Int) (h0 : -9223372036854775808 ≤ n) (h1 : n ≤ 9223372036854775807)
include h0 h1
theorem front_itoa (m : List UInt8) (hm : m = [] ∨ ∃ c r, m = c :: r ∧ isNum c = false) (hml : m.length ≤ 1000) (w : World) (hw : Errs w) :
    Calls Tryd.prog 33 #[.string (B (itoa n ++ m))] w fun e w' => e = .returned (.tuple #[Av 1 n ⟨#[]⟩ 0, .string (B m), .bool true]) ∧ Below w.heap.size w w' := by
  have hl := lead_all (itoa n) m (itoa_num n) hm
  have hs := itoa_short n h0 h1
  have := front_num (itoa n ++ m) (by rw [List.length_append]; omega) (itoa_plain n m) n true (.inl ⟨by rw [hl, List.take_left]; exact parse_itoa n h0 h1, rfl⟩) w hw
  rw [hl, List.drop_left] at this
  exact this
theorem parse_int : PutOk (B (itoa n)) (Av 1 n ⟨#[]⟩ 0) 0 := fun w hw => by
  refine parse_ok (T := Errs) Errs.mono (B (itoa n)) (B []) (toList_B []) 1 n ⟨#[]⟩ 0 w hw (fun w hw => ?_) (fun w hw => print_int n h0 h1 w hw.tabs)
  have := front_itoa n h0 h1 [] (.inl rfl) (by simp) w hw
  rw [List.append_nil] at this
  exact this
theorem bad_behind (c : UInt8) (hc : isNum c = false) : PutOk (B (itoa n) ++ B [c]) (Av 0 0 ⟨#[]⟩ 0) 30 := fun w hw => by
  rw [append_B]
  exact parse_bad (T := Errs) Errs.mono _ (B [c]) true (.inr (by rw [toList_B]; rfl)) 1 n ⟨#[]⟩ 0 w hw (fun w hw => front_itoa n h0 h1 [c] (.inr ⟨c, [], rfl, hc⟩) (by simp) w hw)
theorem bad_ahead (c : UInt8) (hc : isNum c = false) (hp : c ≠ 34 ∧ c ≠ 116 ∧ c ≠ 102 ∧ c ≠ 120) : PutOk (B [c] ++ B (itoa n)) (Av 0 0 ⟨#[]⟩ 0) 30 := fun w hw => by
  rw [append_B, List.singleton_append]
  have hl : lead (c :: itoa n) = 0 := by unfold lead; rw [List.takeWhile_cons, if_neg (by rw [hc]; simp)]; rfl
  have hs := itoa_short n h0 h1
  refine parse_bad (T := Errs) Errs.mono _ (B (c :: itoa n)) false (.inl rfl) 1 0 ⟨#[]⟩ 0 w hw (fun w hw => ?_)
  have := front_num (c :: itoa n) (by rw [List.length_cons]; omega) (not_special hp _) 0 false (.inr (.inl ⟨by rw [hl]; rfl, rfl, rfl⟩)) w hw
  rw [hl] at this
  exact this
theorem bad_nought : PutOk (B [48] ++ B (itoa n)) (Av 0 0 ⟨#[]⟩ 0) 30 := fun w hw => by
  rw [append_B, List.singleton_append]
  have hl : lead (48 :: itoa n) = (48 :: itoa n).length := by
    have := lead_all (48 :: itoa n) [] (fun c hc => (List.mem_cons.1 hc).elim (fun h => by rw [h]; decide) (itoa_num n c)) (.inl rfl)
    rw [List.append_nil] at this
    exact this
  have hs := itoa_short n h0 h1
  have hp : (48 : UInt8) ≠ 34 ∧ (48 : UInt8) ≠ 116 ∧ (48 : UInt8) ≠ 102 ∧ (48 : UInt8) ≠ 120 := by decide
  have ht : (48 :: itoa n).take (lead (48 :: itoa n)) = 48 :: itoa n := by rw [hl, List.take_length]
  have hd : (48 :: itoa n).drop (lead (48 :: itoa n)) = [] := by rw [hl, List.drop_length]
  by_cases h : n < 0
  · refine parse_bad (T := Errs) Errs.mono _ (B []) false (.inl rfl) 1 0 ⟨#[]⟩ 0 w hw (fun w hw => ?_)
    have := front_num (48 :: itoa n) (by rw [List.length_cons]; omega) (not_special hp _) 0 false (.inr (.inl ⟨by rw [ht]; exact parse_nought_neg n h, rfl, rfl⟩)) w hw
    rw [hd] at this
    exact this
  · refine parse_other (T := Errs) Errs.mono _ (B []) (B (itoa n)) (toList_B []) ?_ 1 n ⟨#[]⟩ 0 w hw (fun w hw => ?_) (fun w hw => print_int n h0 h1 w hw.tabs)
    · rw [toList_B, toList_B, beq_eq_false_iff_ne]
      intro he
      have := congrArg List.length he
      simp at this
    · have := front_num (48 :: itoa n) (by rw [List.length_cons]; omega) (not_special hp _) n true (.inl ⟨by rw [ht]; exact parse_nought n (by omega) h1, rfl⟩) w hw
      rw [hd] at this
      exact this
end
theorem itoa_zero : itoa 0 = [48] := by unfold itoa; rw [if_neg (by omega)]; exact dec_small 0 (by omega)
theorem parse_minus0 : parseIntB 64 [45, 48] = .ok 0 := by
  have := parseI_minus [48] 0 (by omega) (by have := parseU 0 (by omega); rw [dec_small 0 (by omega)] at this; exact this)
  exact this
theorem bad_minus : PutOk (B [45, 48]) (Av 0 0 ⟨#[]⟩ 0) 30 := fun w hw => by
  have hp : (45 : UInt8) ≠ 34 ∧ (45 : UInt8) ≠ 116 ∧ (45 : UInt8) ≠ 102 ∧ (45 : UInt8) ≠ 120 := by decide
  refine parse_other (T := Errs) Errs.mono _ (B []) (B (itoa 0)) (toList_B []) ?_ 1 0 ⟨#[]⟩ 0 w hw (fun w hw => ?_) (fun w hw => print_int 0 (by omega) (by omega) w hw.tabs)
  · rw [toList_B, toList_B, itoa_zero]; rfl
  · exact front_num [45, 48] (by decide) (not_special hp _) 0 true (.inl ⟨parse_minus0, rfl⟩) w hw
theorem run_eq_f0 (w : World) : Sem.run Tryd.prog (Op.equalIn 9999 22 (Value.float FloatKind.f64 0) (Value.float FloatKind.f64 0)) w = .ok true w := by kernel_rfl
attribute [local go_sem] run_eq_f0
set_option maxHeartbeats 4000000 in
set_option maxRecDepth 100000 in
theorem ints_walk (n : Int) (h0 : -9223372036854775808 ≤ n) (h1 : n ≤ 9223372036854775807) (sp : Int) (w : World) (hw : Errs w) (r : Int) (hr : sp % 5 = r) (hr2 : r = 0 ∨ r = 1 ∨ r = 2 ∨ r = 3 ∨ r = 4) (hs0 : 0 ≤ sp) (hs1 : sp ≤ 255) :
    Calls Tryd.prog 5 #[.int .i64 n, .int .u8 sp] w fun e w' => e = .returned (.bool true) ∧ Below w.heap.size w w' := by
  have KN := known_any w hw.tabs
  obtain ⟨k, hk⟩ := digits_is n h0 h1
  have DG := fun (w : World) => rialtoref4_Digits.calls k n _ w hk
  have P1 := parse_int n h0 h1
  have PR := fun (w : World) (hw : Errs w) => print_int n h0 h1 w hw.tabs
  have Q0 := bad_nought n h0 h1
  have Q1 := bad_ahead n h0 h1 43 (by decide) (by decide)
  have Q2 := bad_ahead n h0 h1 32 (by decide) (by decide)
  have Q3 := bad_behind n h0 h1 32 (by decide)
  have Q4 := bad_behind n h0 h1 46 (by decide)
  have QM := bad_minus
  have hsz : (B (itoa n)).size ≤ 1000 := Nat.le_trans (itoa_short n h0 h1) (by omega)
  generalize B (itoa n) = t at *
  have HK := Lib.hid hk
  clear hk h0 h1
  go_enter Tryd.func5, Tryd.ntmps5
  go_wp2_with fail
  go_at_call 8
  refine KN.mono ?_
  rintro e w1 ⟨rfl, hb1⟩
  have hT1 := hw.mono hb1
  go_wp2_with fail
  go_at_call 21
  refine (DG _).mono ?_
  rintro e w2 ⟨rfl, hb2⟩
  have hT2 := hT1.mono hb2
  go_wp2_with fail
  go_at_call 14
  refine (P1 _ hT2).mono ?_
  rintro e w3 ⟨rfl, hb3⟩
  have hT3 : Errs (w3.alloc (.cells #[.int .i64 1, .int .i64 n, .string ⟨#[]⟩, .float .f64 0] 24)) := (hT2.mono hb3).mono ((Below.refl w3.heap.size w3).alloc (Nat.le_refl _) _)
  go_wp2_with fail
  go_at_call 10
  refine (PR _ hT3).mono ?_
  rintro e w4 ⟨rfl, hb4⟩
  have hT4 := hT3.mono hb4
  have hz3 := hb3.size
  have hB3 : Below w.heap.size w w3 := (hb1.trans (hb2.mono hb1.size)).trans (hb3.mono (Nat.le_trans hb1.size hb2.size))
  have hB4 : Below w.heap.size w w4 := (hB3.trans (((Below.refl w3.heap.size w3).alloc (Nat.le_refl _) _).mono hB3.size)).trans (hb4.mono (by have := hB3.size; simp; omega))
  have hT5 : ∀ o : Obj, Errs (w4.alloc o) := fun o => hT4.mono ((Below.refl w4.heap.size w4).alloc (Nat.le_refl _) _)
  have hB5 : ∀ o : Obj, Below w.heap.size w (w4.alloc o) := fun o => hB4.trans (((Below.refl w4.heap.size w4).alloc (Nat.le_refl _) _).mono hB4.size)
  clear hz3
  rcases hr2 with rfl | rfl | rfl | rfl | rfl
  · go_wp2_with fail
    go_at_call 14
    refine (Q0 _ (hT5 _)).mono ?_
    rintro e w5 ⟨rfl, hb5⟩
    have hT6 := (hT5 _).mono hb5
    have hB6 := (hB5 _).trans (hb5.mono (hB5 _).size)
    go_wp2_with fail
    go_at_call 14
    refine (QM _ hT6).mono ?_
    rintro e w6 ⟨rfl, hb6⟩
    have hB7 := hB6.trans (hb6.mono hB6.size)
    clear hB5 hB6 hb6 hb5 hB4 hb4 hB3 hb3 hT5 hT6 hT4 hT3
    go_wp2
    go_ret
    exact ⟨rfl, hB7.trans (((Below.refl w6.heap.size w6).alloc (Nat.le_refl _) _).mono hB7.size)⟩
  · go_wp2_with fail
    go_at_call 14
    refine (Q1 _ (hT5 _)).mono ?_
    rintro e w5 ⟨rfl, hb5⟩
    have hT6 := (hT5 _).mono hb5
    have hB6 := (hB5 _).trans (hb5.mono (hB5 _).size)
    go_wp2_with fail
    go_at_call 14
    refine (QM _ hT6).mono ?_
    rintro e w6 ⟨rfl, hb6⟩
    have hB7 := hB6.trans (hb6.mono hB6.size)
    clear hB5 hB6 hb6 hb5 hB4 hb4 hB3 hb3 hT5 hT6 hT4 hT3
    go_wp2
    go_ret
    exact ⟨rfl, hB7.trans (((Below.refl w6.heap.size w6).alloc (Nat.le_refl _) _).mono hB7.size)⟩
  · go_wp2_with fail
    go_at_call 14
    refine (Q2 _ (hT5 _)).mono ?_
    rintro e w5 ⟨rfl, hb5⟩
    have hT6 := (hT5 _).mono hb5
    have hB6 := (hB5 _).trans (hb5.mono (hB5 _).size)
    go_wp2_with fail
    go_at_call 14
    refine (QM _ hT6).mono ?_
    rintro e w6 ⟨rfl, hb6⟩
    have hB7 := hB6.trans (hb6.mono hB6.size)
    clear hB5 hB6 hb6 hb5 hB4 hb4 hB3 hb3 hT5 hT6 hT4 hT3
    go_wp2
    go_ret
    exact ⟨rfl, hB7.trans (((Below.refl w6.heap.size w6).alloc (Nat.le_refl _) _).mono hB7.size)⟩
  · go_wp2_with fail
    go_at_call 14
    refine (Q3 _ (hT5 _)).mono ?_
    rintro e w5 ⟨rfl, hb5⟩
    have hT6 := (hT5 _).mono hb5
    have hB6 := (hB5 _).trans (hb5.mono (hB5 _).size)
    go_wp2_with fail
    go_at_call 14
    refine (QM _ hT6).mono ?_
    rintro e w6 ⟨rfl, hb6⟩
    have hB7 := hB6.trans (hb6.mono hB6.size)
    clear hB5 hB6 hb6 hb5 hB4 hb4 hB3 hb3 hT5 hT6 hT4 hT3
    go_wp2
    go_ret
    exact ⟨rfl, hB7.trans (((Below.refl w6.heap.size w6).alloc (Nat.le_refl _) _).mono hB7.size)⟩
  · go_wp2_with fail
    go_at_call 14
    refine (Q4 _ (hT5 _)).mono ?_
    rintro e w5 ⟨rfl, hb5⟩
    have hT6 := (hT5 _).mono hb5
    have hB6 := (hB5 _).trans (hb5.mono (hB5 _).size)
    go_wp2_with fail
    go_at_call 14
    refine (QM _ hT6).mono ?_
    rintro e w6 ⟨rfl, hb6⟩
    have hB7 := hB6.trans (hb6.mono hB6.size)
    clear hB5 hB6 hb6 hb5 hB4 hb4 hB3 hb3 hT5 hT6 hT4 hT3
    go_wp2
    go_ret
    exact ⟨rfl, hB7.trans (((Below.refl w6.heap.size w6).alloc (Nat.le_refl _) _).mono hB7.size)⟩
end Go.Proofs.YtpjfhdbkkomogaaDoor.Mb
