/- Walks: what the program prints of a string. -/
import Derived.Test.YtpjfhdbkkomogaaDoorMu
import Derived.Test.YtpjfhdbkkomogaaDoorPx3
import Derived.Outline
namespace Go.Proofs.YtpjfhdbkkomogaaDoor.Mb
open Go.RowKit Go.Proofs.YtpjfhdbkkomogaaDoorW.PrintWords Go.Proofs.YtpjfhdbkkomogaaDoorW.PrintLast Go.Proofs.YtpjfhdbkkomogaaDoorW.PrintMore Go.Proofs.YtpjfhdbkkomogaaDoor.Px Go.Proofs.YtpjfhdbkkomogaaDoor.Gvn

theorem size_data (s : ByteArray) : s.data.toList.length = s.size := rfl
attribute [local go_sem] run_store_float

theorem order0 : bits_Order.f 0 = some 9223372036854775808 := by unfold bits_Order.f; rw [if_pos (by omega), if_pos (by omega)]; rfl
theorem is_str (s : ByteArray) : value_Is.f 1 3 0 s 0 = some (decide (s.size ≤ 60)) := by
  unfold value_Is.f
  rw [order0, Option.bind_some, if_neg (by omega), if_neg (by omega), if_pos rfl]
  have e3 : ((3 : Int) == 3) = true := rfl
  rw [e3, value_Is.j0, if_pos rfl]
  by_cases h : s.size ≤ 60
  · have h' : (s.size : Int) ≤ 60 := by omega
    rw [if_pos h', if_pos rfl, decide_eq_true h]; rfl
  · have h' : ¬ (s.size : Int) ≤ 60 := by omega
    rw [if_neg h', decide_eq_false h]
theorem bcell {W w1 : World} (hb : Below W.heap.size W w1) : (∀ b o, b < W.heap.size → w1.cell? ⟨b, o, none⟩ = W.cell? ⟨b, o, none⟩) ∧ (∀ b o, b < W.heap.size → w1.frozen? ⟨b, o, none⟩ = W.frozen? ⟨b, o, none⟩) :=
  ⟨fun b o h => hb.cell (p := ⟨b, o, none⟩) h, fun b o h => hb.frozen (p := ⟨b, o, none⟩) h⟩
set_option maxRecDepth 100000 in
theorem print_str (s : ByteArray) (w : World) (h : s.size ≤ 60) :
    Calls Tryd.prog 10 #[.agg #[.int .i64 3, .int .i64 0, .string s, .float .f64 0]] w fun e w' => e = .returned (.string (B (quoteL s.data.toList))) ∧ Below w.heap.size w w' := by
  have hi := is_str s
  rw [decide_eq_true h] at hi
  have hq := quoted_is (2 * s.size + 5) s.data.toList (by rw [size_data]; omega) (by rw [size_data]; omega)
  rw [B_data] at hq
  have HI := Lib.hid hi
  have HQ := Lib.hid hq
  clear hi hq
  go_enter Tryd.func10, Tryd.ntmps10
  go_wp2_with (first | (go_at_call 24; refine (value_Is.calls _ _ _ _ _ _ _ HI.out).mono ?_; rintro e w1 ⟨rfl, hb1⟩; obtain ⟨hc1, hf1⟩ := bcell hb1) | (go_at_call 27; refine (text_quoted.calls _ _ _ _ HQ.out).mono ?_; rintro e w2 ⟨rfl, hb2⟩))
  go_ret
  refine ⟨rfl, ?_⟩
  have h1 := (Below.refl w.heap.size w).alloc (Nat.le_refl _) (.cells #[Value.int IntKind.i64 3, Value.int IntKind.i64 0, Value.string s, Value.float FloatKind.f64 0] 24)
  have h2 := h1.trans (hb1.mono (by simp))
  exact h2.trans (hb2.mono h2.size)
set_option maxRecDepth 100000 in
theorem print_long (s : ByteArray) (w : World) (h : ¬ s.size ≤ 60) :
    Calls Tryd.prog 10 #[.agg #[.int .i64 3, .int .i64 0, .string s, .float .f64 0]] w fun e w' => e = .returned (.string (B [63])) ∧ Below w.heap.size w w' := by
  have hi := is_str s
  rw [decide_eq_false h] at hi
  have HI := Lib.hid hi
  clear hi
  go_enter Tryd.func10, Tryd.ntmps10
  go_wp2_with (first | (go_at_call 24; refine (value_Is.calls _ _ _ _ _ _ _ HI.out).mono ?_; rintro e w1 ⟨rfl, hb1⟩))
  go_ret
  refine ⟨rfl, ?_⟩
  have h1 := (Below.refl w.heap.size w).alloc (Nat.le_refl _) (.cells #[Value.int IntKind.i64 3, Value.int IntKind.i64 0, Value.string s, Value.float FloatKind.f64 0] 24)
  exact h1.trans (hb1.mono (by simp))
set_option maxRecDepth 100000 in
theorem front_quote (l : List UInt8) (k : Nat) (o r : ByteArray) (b : Bool) (w : World) (h : text_unquoted.f k (B l) = some (o, r, b)) :
    Calls Tryd.prog 33 #[.string (B (34 :: l))] w fun e w' => e = .returned (.tuple #[.agg #[.int .i64 3, .int .i64 0, .string o, .float .f64 0], .string r, .bool b]) ∧ Below w.heap.size w w' := by
  have hp := hasPrefix_is (34 :: l) [34]
  have hf : ((34 :: l).take ([34] : List UInt8).length == [34]) = true := by simp
  rw [hf] at hp
  have HP : Hid (strings_HasPrefix.f (B (34 :: l)) (⟨#[34]⟩ : ByteArray) = some true) := hp
  have HU := Lib.hid h
  have ht := tail1 34 l
  have HT := Lib.hid ht
  obtain ⟨s, hs⟩ : ∃ s, s = B (34 :: l) := ⟨_, rfl⟩
  have hsz : 1 ≤ s.size := by rw [hs, size_cons]; omega
  rw [← hs] at HP HT ⊢
  clear hs hp hf h ht
  go_enter Tryd.func33, Tryd.ntmps33
  go_wp2_with (first | (go_at_call 44; refine (strings_HasPrefix.calls _ _ _ _ HP.out).mono ?_; rintro e w1 ⟨rfl, ⟨n1, rfl⟩⟩) | (go_at_call 50; rw [HT.out]; refine (text_unquoted.calls _ _ _ _ _ _ HU.out).mono ?_; rintro e w2 ⟨rfl, hb2⟩; obtain ⟨hc2, hf2⟩ := bcell hb2; have hz2 := hb2.size))
  refine bodyPost_ret (v := .tuple #[.agg #[.int .i64 3, .int .i64 0, .string o, .float .f64 0], .string r, .bool b]) ?_ rfl ⟨rfl, ?_⟩
  · simp [results, Tryd.results33, go_sem, hc2]
  · have hB : Below w.heap.size w w2 := by
      refine Below.trans ?_ (hb2.mono (by simp))
      repeat (first | exact Below.refl _ _ | apply below_alloc | apply pw_below_drewN | apply below_drew1)
    exact (((hB.setCell (Nat.le_refl _) _).setCell (Nat.le_refl _) _).setCell (Nat.le_refl _) _).setCell (Nat.le_refl _) _
/-- A value, as the walk has it. -/
abbrev Av (k i : Int) (s : ByteArray) (f : Nat) : Value := .agg #[.int .i64 k, .int .i64 i, .string s, .float .f64 f]
abbrev zeroCells : Obj := .cells #[Value.int IntKind.i64 0, Value.int IntKind.i64 0, Value.string ⟨#[]⟩, Value.float FloatKind.f64 0] 24
theorem below_zero (w : World) : Below w.heap.size w (w.alloc zeroCells) := (Below.refl w.heap.size w).alloc (Nat.le_refl _) _
section
variable {T : World → Prop} (HM : ∀ {w w' : World}, T w → Below w.heap.size w w' → T w')
include HM
set_option maxRecDepth 100000 in
/-- text.Parse: what is read is printed as the text. -/
theorem parse_ok (t n : ByteArray) (hn : n.toList = []) (k i : Int) (s : ByteArray) (f : Nat) (w : World) (hw : T w)
    (FQ : ∀ w, T w → Calls Tryd.prog 33 #[.string t] w fun e w' => e = .returned (.tuple #[Av k i s f, .string n, .bool true]) ∧ Below w.heap.size w w')
    (PS : ∀ w, T w → Calls Tryd.prog 10 #[Av k i s f] w fun e w' => e = .returned (.string t) ∧ Below w.heap.size w w') :
    Calls Tryd.prog 14 #[.string t] w fun e w' => e = .returned (.tuple #[Av k i s f, .int .i64 0]) ∧ Below w.heap.size w w' := by
  have m1 : n.toList.isEmpty = true := by rw [hn]; rfl
  have hT1 : T (w.alloc zeroCells) := HM hw (below_zero w)
  go_enter Tryd.func14, Tryd.ntmps14
  go_wp2_with fail
  go_at_call 33
  refine (FQ _ hT1).mono ?_
  rintro e w1 ⟨rfl, hb1⟩
  have hT2 : T (w1.alloc (.cells #[.int .i64 k, .int .i64 i, .string s, .float .f64 f] 24)) := HM (HM hT1 hb1) ((Below.refl w1.heap.size w1).alloc (Nat.le_refl _) _)
  obtain ⟨hc1, hf1⟩ := bcell hb1
  have hz1 := hb1.size
  simp at hz1
  have hz1a : w.heap.size < w1.heap.size := by omega
  have hz1b : w.heap.size < w1.heap.size + 1 := by omega
  clear hz1
  go_wp2_with fail
  go_at_call 10
  refine (PS _ hT2).mono ?_
  rintro e w2 ⟨rfl, hb2⟩
  obtain ⟨hc2, hf2⟩ := bcell hb2
  have hz2 := hb2.size
  simp at hz2
  have hz2a : w1.heap.size < w2.heap.size := by omega
  have hz2b : w.heap.size < w2.heap.size := by omega
  clear hz2
  go_wp2
  refine bodyPost_ret (v := .tuple #[Av k i s f, .int .i64 0]) ?_ rfl ⟨rfl, ?_⟩
  · simp [results, Tryd.results14, go_sem, hc1, hc2, hz1a, hz1b]
  · have hB1 : Below w.heap.size w w1 := (below_zero w).trans (hb1.mono (by simp))
    have hB2 : Below w.heap.size w w2 := (hB1.trans (((Below.refl w1.heap.size w1).alloc (Nat.le_refl _) _).mono hB1.size)).trans (hb2.mono (by simp; omega))
    exact (((hB2.setCell (Nat.le_refl _) _).setCell (Nat.le_refl _) _).setCell (Nat.le_refl _) _).setCell (Nat.le_refl _) _
set_option maxRecDepth 100000 in
/-- text.Parse: no value is read, or something is left. -/
theorem parse_bad (t r : ByteArray) (ok : Bool) (hr : ok = false ∨ r.toList.isEmpty = false) (k i : Int) (s : ByteArray) (f : Nat) (w : World) (hw : T w)
    (FQ : ∀ w, T w → Calls Tryd.prog 33 #[.string t] w fun e w' => e = .returned (.tuple #[Av k i s f, .string r, .bool ok]) ∧ Below w.heap.size w w') :
    Calls Tryd.prog 14 #[.string t] w fun e w' => e = .returned (.tuple #[Av 0 0 ⟨#[]⟩ 0, .int .i64 30]) ∧ Below w.heap.size w w' := by
  have hT1 : T (w.alloc zeroCells) := HM hw (below_zero w)
  go_enter Tryd.func14, Tryd.ntmps14
  go_wp2_with fail
  go_at_call 33
  refine (FQ _ hT1).mono ?_
  rintro e w1 ⟨rfl, hb1⟩
  obtain ⟨hc1, hf1⟩ := bcell hb1
  have hz1 := hb1.size
  simp at hz1
  have hz1a : w.heap.size < w1.heap.size := by omega
  have hz1b : w.heap.size < w1.heap.size + 1 := by omega
  have hB1 : Below w.heap.size w w1 := (below_zero w).trans (hb1.mono (by simp))
  clear hz1
  cases ok with
  | false =>
    clear hr
    go_wp2
    refine bodyPost_ret (v := .tuple #[Av 0 0 ⟨#[]⟩ 0, .int .i64 30]) ?_ rfl ⟨rfl, ?_⟩
    · simp [results, Tryd.results14, go_sem, hc1, hz1a]
    · repeat (first | exact hB1 | apply below_alloc | refine below_set ?_ (Nat.le_refl _))
  | true =>
    have hr := hr.resolve_left (by simp)
    go_wp2
    refine bodyPost_ret (v := .tuple #[Av 0 0 ⟨#[]⟩ 0, .int .i64 30]) ?_ rfl ⟨rfl, ?_⟩
    · simp [results, Tryd.results14, go_sem, hc1, hz1a]
    · repeat (first | exact hB1 | apply below_alloc | refine below_set ?_ (Nat.le_refl _))
set_option maxRecDepth 100000 in
/-- text.Parse: what is read is printed otherwise. -/
theorem parse_other (t n u : ByteArray) (hn : n.toList = []) (hu : (u.toList == t.toList) = false) (k i : Int) (s : ByteArray) (f : Nat) (w : World) (hw : T w)
    (FQ : ∀ w, T w → Calls Tryd.prog 33 #[.string t] w fun e w' => e = .returned (.tuple #[Av k i s f, .string n, .bool true]) ∧ Below w.heap.size w w')
    (PS : ∀ w, T w → Calls Tryd.prog 10 #[Av k i s f] w fun e w' => e = .returned (.string u) ∧ Below w.heap.size w w') :
    Calls Tryd.prog 14 #[.string t] w fun e w' => e = .returned (.tuple #[Av 0 0 ⟨#[]⟩ 0, .int .i64 30]) ∧ Below w.heap.size w w' := by
  have m1 : n.toList.isEmpty = true := by rw [hn]; rfl
  have hu2 : (u.toList != t.toList) = true := by rw [bne, hu]; rfl
  have hT1 : T (w.alloc zeroCells) := HM hw (below_zero w)
  go_enter Tryd.func14, Tryd.ntmps14
  go_wp2_with fail
  go_at_call 33
  refine (FQ _ hT1).mono ?_
  rintro e w1 ⟨rfl, hb1⟩
  have hT2 : T (w1.alloc (.cells #[.int .i64 k, .int .i64 i, .string s, .float .f64 f] 24)) := HM (HM hT1 hb1) ((Below.refl w1.heap.size w1).alloc (Nat.le_refl _) _)
  obtain ⟨hc1, hf1⟩ := bcell hb1
  have hz1 := hb1.size
  simp at hz1
  have hz1a : w.heap.size < w1.heap.size := by omega
  have hz1b : w.heap.size < w1.heap.size + 1 := by omega
  clear hz1
  go_wp2_with fail
  go_at_call 10
  refine (PS _ hT2).mono ?_
  rintro e w2 ⟨rfl, hb2⟩
  obtain ⟨hc2, hf2⟩ := bcell hb2
  have hz2 := hb2.size
  simp at hz2
  have hz2a : w1.heap.size < w2.heap.size := by omega
  have hz2b : w.heap.size < w2.heap.size := by omega
  clear hz2
  go_wp2
  refine bodyPost_ret (v := .tuple #[Av 0 0 ⟨#[]⟩ 0, .int .i64 30]) ?_ rfl ⟨rfl, ?_⟩
  · simp [results, Tryd.results14, go_sem, hc1, hc2, hz1a, hz1b]
  · have hB1 : Below w.heap.size w w1 := (below_zero w).trans (hb1.mono (by simp))
    have hB2 : Below w.heap.size w w2 := (hB1.trans (((Below.refl w1.heap.size w1).alloc (Nat.le_refl _) _).mono hB1.size)).trans (hb2.mono (by simp; omega))
    exact (((hB2.setCell (Nat.le_refl _) _).setCell (Nat.le_refl _) _).setCell (Nat.le_refl _) _).setCell (Nat.le_refl _) _
end
end Go.Proofs.YtpjfhdbkkomogaaDoor.Mb
