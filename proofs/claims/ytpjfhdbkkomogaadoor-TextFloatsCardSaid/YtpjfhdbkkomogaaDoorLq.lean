/- The walk of TextQuotes. -/
import Derived.Test.YtpjfhdbkkomogaaDoorWk
import Derived.Test.YtpjfhdbkkomogaaDoorKn
namespace Go.Proofs.YtpjfhdbkkomogaaDoor.Mb
open Go.RowKit Go.Proofs.YtpjfhdbkkomogaaDoorW.PrintWords Go.Proofs.YtpjfhdbkkomogaaDoorW.PrintLast Go.Proofs.YtpjfhdbkkomogaaDoorW.PrintMore Go.Proofs.YtpjfhdbkkomogaaDoor.Px Go.Proofs.YtpjfhdbkkomogaaDoor.Gvn
attribute [local go_sem] run_store_float

theorem hx_plain : ∀ n, n < 16 → 32 ≤ (hx n).toNat ∧ (hx n).toNat ≤ 126 := by decide
theorem esc_plain (c : UInt8) : ∀ d ∈ esc c, 32 ≤ d.toNat ∧ d.toNat ≤ 126 := by
  intro d hd
  have hc := c.toNat_lt
  unfold esc at hd
  split at hd
  · rename_i h
    rcases h with rfl | rfl <;> simp at hd <;> rcases hd with rfl | rfl <;> decide
  · split at hd
    · simp [two] at hd
      rcases hd with rfl | rfl | rfl | rfl
      · decide
      · decide
      · exact hx_plain _ (by omega)
      · exact hx_plain _ (by omega)
    · rename_i h
      obtain rfl := List.mem_singleton.1 hd
      have h1 : ¬ d < 32 := fun e => h (.inl e)
      have h2 : ¬ 126 < d := fun e => h (.inr e)
      rw [UInt8.lt_iff_toNat_lt, show (32 : UInt8).toNat = 32 by decide] at h1
      rw [UInt8.lt_iff_toNat_lt, show (126 : UInt8).toNat = 126 by decide] at h2
      omega
theorem quote_plain (l : List UInt8) : ∀ d ∈ quoteL l, 32 ≤ d.toNat ∧ d.toNat ≤ 126 := by
  intro d hd
  unfold quoteL at hd
  rcases List.mem_append.1 hd with hd | hd
  · rcases List.mem_cons.1 hd with rfl | hd
    · decide
    · obtain ⟨c, _, h⟩ := List.mem_flatMap.1 hd
      exact esc_plain c d h
  · obtain rfl := List.mem_singleton.1 hd
    decide
/-- What the walk needs of the world. -/
structure Tabs (w : World) : Prop where
  t6 : ∃ e z, w.heap[6]? = some (.cells Ex.d64.toArray e z)
  t1 : ∃ e z, w.heap[1]? = some (.cells Ex.p10.toArray e z)
theorem Tabs.mono {w w' : World} (h : Tabs w) (hb : Below w.heap.size w w') : Tabs w' := by
  obtain ⟨⟨e6, z6, h6⟩, ⟨e1, z1, h1⟩⟩ := h
  have l6 := (Array.getElem?_eq_some_iff.1 h6).1
  have l1 := (Array.getElem?_eq_some_iff.1 h1).1
  exact ⟨⟨e6, z6, (hb.block _ l6).trans h6⟩, ⟨e1, z1, (hb.block _ l1).trans h1⟩⟩
theorem known_any (w : World) (h : Tabs w) : Calls Tryd.prog 8 #[] w fun e w' => e = .returned (.bool true) ∧ Below w.heap.size w w' := by
  obtain ⟨⟨e6, z6, h6⟩, ⟨e1, z1, h1⟩⟩ := h
  exact Ex.known_calls w e6 z6 h6 e1 z1 h1
theorem any_mono : ∀ {w w' : World}, True → Below w.heap.size w w' → True := fun _ _ => trivial
theorem parse_q1 (s : ByteArray) (hs : s.size ≤ 60) (w : World) :
    Calls Tryd.prog 14 #[.string (B (quoteL s.data.toList))] w fun e w' => e = .returned (.tuple #[Av 3 0 s 0, .int .i64 0]) ∧ Below w.heap.size w w' := by
  obtain ⟨k, hk⟩ := unquoted_back s.data.toList [] (by rw [size_data]; omega)
  have e0 : B (34 :: (s.data.toList.flatMap esc ++ [34])) = B (quoteL s.data.toList) := rfl
  refine parse_ok (T := fun _ => True) any_mono _ (B []) (toList_B []) 3 0 s 0 w trivial (fun w _ => ?_) (fun w _ => print_str s w hs)
  have := front_quote (s.data.toList.flatMap esc ++ [34]) k _ _ _ w hk
  rw [e0, B_data] at this
  exact this
theorem parse_q2 (s : ByteArray) (hs : s.size ≤ 60) (w : World) :
    Calls Tryd.prog 14 #[.string (B (quoteL s.data.toList) ++ ⟨#[120]⟩)] w fun e w' => e = .returned (.tuple #[Av 0 0 ⟨#[]⟩ 0, .int .i64 30]) ∧ Below w.heap.size w w' := by
  obtain ⟨k, hk⟩ := unquoted_back s.data.toList [120] (by rw [size_data]; omega)
  have e0 : B (34 :: (s.data.toList.flatMap esc ++ 34 :: [120])) = B (quoteL s.data.toList) ++ ⟨#[120]⟩ := by
    rw [show (⟨#[120]⟩ : ByteArray) = B [120] from rfl, append_B]
    congr 1
    simp [quoteL]
  refine parse_bad (T := fun _ => True) any_mono _ (B [120]) true (.inr (by rw [toList_B]; rfl)) 3 0 s 0 w trivial (fun w _ => ?_)
  have := front_quote (s.data.toList.flatMap esc ++ 34 :: [120]) k _ _ _ w hk
  rw [e0, B_data] at this
  exact this
theorem parse_q3 (s : ByteArray) (hs : s.size ≤ 60) (w : World) :
    Calls Tryd.prog 14 #[.string (B (34 :: s.data.toList.flatMap esc))] w fun e w' => e = .returned (.tuple #[Av 0 0 ⟨#[]⟩ 0, .int .i64 30]) ∧ Below w.heap.size w w' := by
  obtain ⟨k, hk⟩ := unquoted_open s.data.toList (by rw [size_data]; omega)
  exact parse_bad (T := fun _ => True) any_mono _ (B []) false (.inl rfl) 3 0 (B []) 0 w trivial (fun w _ => front_quote (s.data.toList.flatMap esc) k _ _ _ w hk)
set_option maxRecDepth 100000 in
theorem quotes_long (s : ByteArray) (hm : s.size ≤ maxLen) (hs : ¬ s.size ≤ 60) (w : World) (hw : Tabs w) :
    Calls Tryd.prog 7 #[.string s] w fun e w' => e = .returned (.bool true) ∧ Below w.heap.size w w' := by
  unfold maxLen at hm
  have KN := known_any w hw
  have PL := fun (w : World) => print_long s w hs
  have m1 : ((B [63]).toList == [63]) = true := by rw [toList_B]; rfl
  generalize B [63] = q at PL m1
  have hd : decide (60 < s.size) = true := by simp; omega
  have hd2 : decide ((60 : Int) < (s.size : Int)) = true := by simp; omega
  clear hs hm
  go_enter Tryd.func7, Tryd.ntmps7
  go_wp2_with fail
  go_at_call 8
  refine KN.mono ?_
  rintro e w1 ⟨rfl, hb1⟩
  go_wp2_with fail
  go_at_call 10
  refine (PL _).mono ?_
  rintro e w2 ⟨rfl, hb2⟩
  go_wp2
  go_ret
  exact ⟨rfl, hb1.trans (hb2.mono hb1.size)⟩
theorem getB {l : List UInt8} {i : Nat} (h : i < (B l).size) : (B l)[i] ∈ l := by
  have h' : i < l.length := h
  exact List.getElem_mem h'
theorem head_B (c : UInt8) (l : List UInt8) (n : Nat) (hn : n = (B (c :: l ++ [34])).size - 1) : (B (c :: l ++ [34])).extract 0 n = B (c :: l) := by
  have hs : (B (c :: l ++ [34])).size = (c :: l).length + 1 := by rw [size_B, List.length_append]; rfl
  rw [extract_B, hn, hs]
  congr 1
  simp
set_option maxHeartbeats 1000000 in
set_option maxRecDepth 100000 in
theorem quotes_short (s : ByteArray) (hs : s.size ≤ 60) (w : World) (hw : Tabs w) :
    Calls Tryd.prog 7 #[.string s] w fun e w' => e = .returned (.bool true) ∧ Below w.heap.size w w' := by
  have KN := known_any w hw
  have PS := fun (w : World) => print_str s w hs
  have Q1 := parse_q1 s hs
  have Q2 := parse_q2 s hs
  have Q3 := parse_q3 s hs
  have hsz : 2 ≤ (B (quoteL s.data.toList)).size ∧ (B (quoteL s.data.toList)).size ≤ 1000 := by
    have := flat_length s.data.toList
    rw [size_data] at this
    rw [size_B]
    simp only [quoteL, List.length_append, List.length_cons, List.length_nil]
    omega
  have hpl : ∀ k (h : k < (B (quoteL s.data.toList)).size), 32 ≤ (B (quoteL s.data.toList))[k].toNat ∧ (B (quoteL s.data.toList))[k].toNat ≤ 126 := fun k h => quote_plain _ _ (getB h)
  have hcut : ∀ n, n = (B (quoteL s.data.toList)).size - 1 → (B (quoteL s.data.toList)).extract 0 n = B (34 :: s.data.toList.flatMap esc) := fun n hn => head_B _ _ n hn
  have hself : (s.toList == s.toList) = true := by simp
  generalize B (34 :: s.data.toList.flatMap esc) = u at Q3 hcut
  generalize B (quoteL s.data.toList) = t at PS Q1 Q2 hsz hpl hcut
  have hd : decide (60 < s.size) = false := by simp; omega
  have hd2 : decide ((60 : Int) < (s.size : Int)) = false := by simp; omega
  obtain ⟨hs1, hs2⟩ := hsz
  have HP := Lib.hid hpl
  have HC := Lib.hid hcut
  clear hs hpl hcut
  go_enter Tryd.func7, Tryd.ntmps7
  go_wp2_with fail
  go_at_call 8
  refine KN.mono ?_
  rintro e w1 ⟨rfl, hb1⟩
  go_wp2_with fail
  go_at_call 10
  refine (PS _).mono ?_
  rintro e w2 ⟨rfl, hb2⟩
  have hB2 : Below w.heap.size w w2 := hb1.trans (hb2.mono hb1.size)
  clear hb1 hb2 KN
  go_wp2_with fail
  go_loop [4] (fun i => ∃ k : Nat, k ≤ t.size ∧ i = .int .i64 k) (fun i => t.size - (intOf i).toNat)
  case atStart => exact ⟨0, Nat.zero_le _, rfl⟩
  case round =>
    obtain ⟨k, hk, rfl⟩ := hrel
    by_cases hlt : k < t.size
    · obtain ⟨p1, p2⟩ := HP.out k hlt
      have d1 : decide ((t[k].toNat : Int) < 32) = false := by simp; omega
      have d2 : decide (126 < (t[k].toNat : Int)) = false := by simp; omega
      clear p1 p2
      go_wp2
      go_round
      case rel => exact ⟨k + 1, by omega, by go_num⟩
      case measure => simp [intOf]; omega
    · have hk2 : k = t.size := by omega
      subst hk2
      clear HP
      go_wp2_with fail
      go_at_call 14
      refine (Q1 _).mono ?_
      rintro e w3 ⟨rfl, hb3⟩
      have hB3 : Below w.heap.size w w3 := hB2.trans (hb3.mono hB2.size)
      clear hb3
      go_wp2_with fail
      go_at_call 14
      refine (Q2 _).mono ?_
      rintro e w4 ⟨rfl, hb4⟩
      obtain ⟨hc4, hf4⟩ := bcell hb4
      have hz4 := hb4.size
      simp at hz4
      have hz4a : w3.heap.size < w4.heap.size := by omega
      have hz4b : w3.heap.size < w4.heap.size + 1 := by omega
      have hB4 : Below w.heap.size w w4 := (hB3.alloc hB3.size _).trans (hb4.mono (by have := hB3.size; simp; omega))
      clear hb4 hz4
      go_wp2_with fail
      go_at_call 14
      rw [HC.out _ rfl]
      refine (Q3 _).mono ?_
      rintro e w5 ⟨rfl, hb5⟩
      obtain ⟨hc5, hf5⟩ := bcell hb5
      have hz5 := hb5.size
      simp at hz5
      have hz5a : w3.heap.size < w5.heap.size := by omega
      have hz5b : w3.heap.size < w5.heap.size + 1 := by omega
      have hz5c : w4.heap.size < w5.heap.size := by omega
      have hz5d : w4.heap.size < w5.heap.size + 1 := by omega
      have hB5 : Below w.heap.size w w5 := (hB4.alloc hB4.size _).trans (hb5.mono (by have := hB4.size; simp; omega))
      clear hb5 hz5
      go_wp2
      trace_state
      go_ret
      exact ⟨rfl, hB5.alloc hB5.size _⟩
end Go.Proofs.YtpjfhdbkkomogaaDoor.Mb
