/- Walks: text.front, where a float stands ahead. -/
import Derived.Test.YtpjfhdbkkomogaaDoorWh
namespace Go.Proofs.YtpjfhdbkkomogaaDoor.Mb
open Go.RowKit Go.Proofs.YtpjfhdbkkomogaaDoorW.PrintWords Go.Proofs.YtpjfhdbkkomogaaDoorW.PrintLast Go.Proofs.YtpjfhdbkkomogaaDoorW.PrintMore Go.Proofs.YtpjfhdbkkomogaaDoor.Px Go.Proofs.YtpjfhdbkkomogaaDoor.Gvn
attribute [local go_sem] run_store_float

theorem not_false_ahead (l m : List UInt8) (h : l.length = 16) (hl : ∀ c ∈ l, isDgt c) : (((102 :: (l ++ m)).take ([102, 97, 108, 115, 101] : List UInt8).length) == [102, 97, 108, 115, 101]) = false := by
  match l, h, hl with
  | a :: b :: r, _, hl =>
    have hb := hl b (by simp)
    have : b ≠ 108 := by
      rintro rfl
      revert hb
      unfold isDgt
      decide
    simp [this]
set_option maxHeartbeats 2000000 in
set_option maxRecDepth 100000 in
theorem front_float (l m : List UInt8) (h : l.length = 16) (hm : m.length ≤ 1000) (hl : ∀ c ∈ l, isDgt c) (w : World) :
    Calls Tryd.prog 33 #[.string (B (102 :: (l ++ m)))] w fun e w' => e = .returned (.tuple #[Av 5 0 ⟨#[]⟩ (hval l), .string (B m), .bool true]) ∧ Below w.heap.size w w' := by
  have H1 : Hid (strings_HasPrefix.f (B (102 :: (l ++ m))) (⟨#[34]⟩ : ByteArray) = some false) := (hasPrefix_is (102 :: (l ++ m)) [34]).trans (by simp)
  have H2 : Hid (strings_HasPrefix.f (B (102 :: (l ++ m))) (⟨#[116, 114, 117, 101]⟩ : ByteArray) = some false) := (hasPrefix_is (102 :: (l ++ m)) [116, 114, 117, 101]).trans (by simp)
  have H3 : Hid (strings_HasPrefix.f (B (102 :: (l ++ m))) (⟨#[102, 97, 108, 115, 101]⟩ : ByteArray) = some false) := (hasPrefix_is (102 :: (l ++ m)) [102, 97, 108, 115, 101]).trans (by rw [not_false_ahead l m h hl])
  have H4 : Hid (strings_HasPrefix.f (B (102 :: (l ++ m))) (⟨#[120]⟩ : ByteArray) = some false) := (hasPrefix_is (102 :: (l ++ m)) [120]).trans (by simp)
  have H5 : Hid (strings_HasPrefix.f (B (102 :: (l ++ m))) (⟨#[102]⟩ : ByteArray) = some true) := (hasPrefix_is (102 :: (l ++ m)) [102]).trans (by simp)
  have PI := fun (w : World) => parse16 l (by omega) (by omega) hl w
  have hs0 : (B (102 :: (l ++ m))).size = 17 + m.length := by rw [size_B, List.length_cons, List.length_append]; omega
  have HC : Hid ((B (102 :: (l ++ m))).extract 1 17 = B l) := Lib.hid (by
    rw [extract_B, List.drop_succ_cons, List.drop_zero, show 17 - 1 = 16 from rfl, ← h, List.take_left])
  have HD : Hid ((B (102 :: (l ++ m))).extract 17 (B (102 :: (l ++ m))).size = B m) := Lib.hid (by
    rw [tail_B, List.drop_succ_cons, ← h, List.drop_left])
  have hs1 : 17 ≤ (B (102 :: (l ++ m))).size := by omega
  have hs2 : (B (102 :: (l ++ m))).size ≤ 100000 := by omega
  have hsI : (17 : Int) ≤ ((B (102 :: (l ++ m))).size : Int) := by omega
  clear hs0
  generalize B m = rest at HD ⊢
  generalize B (102 :: (l ++ m)) = s at *
  generalize B l = num at HC PI
  generalize hval l = f at PI ⊢
  have k22 := run22
  clear h hm hl
  go_enter Tryd.func33, Tryd.ntmps33
  go_wp2_with fail
  go_at_call 44
  refine (strings_HasPrefix.calls _ _ _ _ H1.out).mono ?_
  rintro e w1 ⟨rfl, ⟨n1, rfl⟩⟩
  go_wp2_with fail
  go_at_call 44
  refine (strings_HasPrefix.calls _ _ _ _ H2.out).mono ?_
  rintro e w2 ⟨rfl, ⟨n2, rfl⟩⟩
  go_wp2_with fail
  go_at_call 44
  refine (strings_HasPrefix.calls _ _ _ _ H3.out).mono ?_
  rintro e w3 ⟨rfl, ⟨n3, rfl⟩⟩
  go_wp2_with fail
  go_at_call 44
  refine (strings_HasPrefix.calls _ _ _ _ H4.out).mono ?_
  rintro e w4 ⟨rfl, ⟨n4, rfl⟩⟩
  go_wp2_with fail
  go_at_call 44
  refine (strings_HasPrefix.calls _ _ _ _ H5.out).mono ?_
  rintro e w5 ⟨rfl, ⟨n5, rfl⟩⟩
  clear H1 H2 H3 H4 H5
  go_wp2_with fail
  rw [HC.out]
  go_at_call 52
  refine (PI _).mono ?_
  rintro e w6 ⟨rfl, hb6⟩
  go_wp2_with fail
  obtain ⟨hc6, hf6⟩ := bcell hb6
  have hz6 := hb6.size
  simp at hz6
  have hz6a : w.heap.size < w6.heap.size := by omega
  clear hz6
  have g0 := hc6 w.heap.size 0 (by simp)
  have g1 := hc6 w.heap.size 1 (by simp)
  have g2 := hc6 w.heap.size 2 (by simp)
  have g3 := hc6 w.heap.size 3 (by simp)
  have f0 := hf6 w.heap.size 0 (by simp)
  have f1 := hf6 w.heap.size 1 (by simp)
  have f2 := hf6 w.heap.size 2 (by simp)
  have f3 := hf6 w.heap.size 3 (by simp)
  simp [go_sem] at g0 g1 g2 g3 f0 f1 f2 f3
  clear hc6 hf6
  go_region
  go_wp2
  refine bodyPost_ret (v := .tuple #[Av 5 0 ⟨#[]⟩ f, .string rest, .bool true]) ?_ rfl ⟨rfl, ?_⟩
  · rw [← HD.out]
    simp [results, Tryd.results33, go_sem, g0, g1, g2, g3]
  · have hB6 : Below w.heap.size w w6 := ((below_zero w).trans (pw_below_drewN (Below.refl _ _) _)).trans (hb6.mono (by simp))
    repeat (first | exact hB6 | apply below_drew1 | refine below_set ?_ (Nat.le_refl _))
end Go.Proofs.YtpjfhdbkkomogaaDoor.Mb
