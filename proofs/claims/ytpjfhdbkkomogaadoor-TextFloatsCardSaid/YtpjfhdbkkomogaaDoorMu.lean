/- What the program's reading of a quoted string comes to, on what its printing writes. -/
import Derived.Test.YtpjfhdbkkomogaaDoorMq
import Derived.Test.YtpjfhdbkkomogaaDoorPx46
namespace Go.Proofs.YtpjfhdbkkomogaaDoor.Mb
open Go.RowKit Go.Proofs.YtpjfhdbkkomogaaDoorW.PrintWords Go.Proofs.YtpjfhdbkkomogaaDoor.Px Go.Proofs.YtpjfhdbkkomogaaDoor.Gvn

/-- A digit's number; -1: it is none. -/
def dg (c : UInt8) : Int := Lib.indexByte DG c
theorem digit_is (c : UInt8) : text_digit.f (c.toNat : Int) = some (dg c) := by
  unfold text_digit.f strings_IndexByte.f
  rw [Option.bind_some]
  congr 1
  have : (c.toNat : Int).toNat.toUInt8 = c := by simp
  rw [this]
  rfl
theorem dg_hx : ∀ n, n < 16 → dg (hx n) = n := by decide
theorem hasPrefix_is (l p : List UInt8) : strings_HasPrefix.f (B l) (B p) = some (l.take p.length == p) := by
  unfold strings_HasPrefix.f stringslite_HasPrefix.f
  by_cases h : p.length ≤ l.length
  · rw [if_pos (by rw [size_B, size_B]; omega), if_pos (by rw [size_B]; omega), if_pos (by rw [size_B, size_B]; omega), Option.bind_some]
    rw [extract_B, toList_B, toList_B, size_B]
    simp
  · rw [if_neg (by rw [size_B, size_B]; omega), Option.bind_some]
    congr 1
    symm
    rw [beq_eq_false_iff_ne]
    intro he
    have := congrArg List.length he
    rw [List.length_take] at this
    omega
theorem or_lt (a b : Nat) (ha : a < 16) (hb : b < 16) : Go.bits .or .i64 (wrap64 ((a : Int) * 16)) (b : Int) = ((16 * a + b : Nat) : Int) := by
  have hw : wrap64 ((a : Int) * 16) = ((16 * a : Nat) : Int) := by rw [wrap_in _ (by omega) (by omega)]; omega
  rw [hw]
  have e : (BitVec.ofInt 64 ((16 * a : Nat) : Int) ||| BitVec.ofInt 64 (b : Int)).toNat = 16 * a + b := by
    rw [BitVec.toNat_or, bv_nat _ (by omega), bv_nat _ (by omega)]
    have h4 := Nat.two_pow_add_eq_or_of_lt (show b < 2 ^ 4 from hb) a
    rw [show (2 ^ 4 : Nat) = 16 from rfl] at h4
    exact h4.symm
  show IntKind.i64.wrap ((BitVec.ofInt 64 ((16 * a : Nat) : Int) ||| BitVec.ofInt 64 (b : Int)).toNat : Int) = _
  rw [e]
  rw [YtpjfhdbkkomogaaDoorW.PrintLast.i64_w]
  exact wrap_in _ (by omega) (by omega)
theorem or_byte (c : UInt8) : Go.bits .or .i64 (wrap64 (((c.toNat / 16 : Nat) : Int) * 16)) ((c.toNat % 16 : Nat) : Int) % 256 = (c.toNat : Int) := by
  have hc := c.toNat_lt
  rw [or_lt _ _ (by omega) (by omega)]
  omega
theorem bt_two0 (c : UInt8) (m : List UInt8) : bt (B (two c ++ m)) 0 = ((hx (c.toNat / 16)).toNat : Int) := bt_cons _ _
theorem bt_two1 (c : UInt8) (m : List UInt8) : bt (B (two c ++ m)) 1 = ((hx (c.toNat % 16)).toNat : Int) := bt_cons2 _ _ _
theorem size_two (c : UInt8) (m : List UInt8) : (B (two c ++ m)).size = m.length + 2 := by rw [size_B, List.length_append, Nat.add_comm]; rfl
theorem tail_two (c : UInt8) (m : List UInt8) : (B (two c ++ m)).extract 2 (B (two c ++ m)).size = B m := by rw [tail_B]; rfl
theorem digit_hi (c : UInt8) : text_digit.f ((hx (c.toNat / 16)).toNat : Int) = some ((c.toNat / 16 : Nat) : Int) := by
  have hc := c.toNat_lt
  rw [digit_is, dg_hx _ (by omega)]
theorem digit_lo (c : UInt8) : text_digit.f ((hx (c.toNat % 16)).toNat : Int) = some ((c.toNat % 16 : Nat) : Int) := by
  rw [digit_is, dg_hx _ (by omega)]
/-- Two digits are read as a byte. -/
theorem unhexed_step (k : Nat) (c : UInt8) (m acc : List UInt8) (hl : acc.length < 1000000) :
    text_unhexed.l0 (k + 2) (B (two c ++ m)) (N acc) = text_unhexed.l0 k (B m) (N (acc ++ [c])) := by
  have n1 : ((c.toNat / 16 : Nat) : Int) ≥ 0 := by omega
  have n2 : ((c.toNat % 16 : Nat) : Int) ≥ 0 := by omega
  have s1 : ((B (two c ++ m)).size : Int) > 1 := by rw [size_two]; omega
  have s0 : (0 : Int) < ((B (two c ++ m)).size : Int) := by rw [size_two]; omega
  have s2 : (2 : Int) ≤ ((B (two c ++ m)).size : Int) := by rw [size_two]; omega
  have sa : (N acc).length < 140737488355328 := by rw [N_length]; omega
  rw [text_unhexed.l0, if_pos s1, if_pos s0, bt_two0, digit_hi, Option.bind_some, if_pos n1, if_pos s1, bt_two1, digit_lo, Option.bind_some]
  rw [text_unhexed.j1, if_pos (decide_eq_true n2), if_pos s0, bt_two0, digit_hi, Option.bind_some, if_pos s1, bt_two1, digit_lo, Option.bind_some, if_pos sa, if_pos s2, tail_two, or_byte]
  rw [show ([(c.toNat : Int)] : List Int) = N [c] from rfl, N_append]
/-- What is no digit ends it. -/
theorem unhexed_end (k : Nat) (m acc : List UInt8) (hm : m = [] ∨ ∃ c r, m = c :: r ∧ dg c < 0) :
    text_unhexed.l0 (k + 2) (B m) (N acc) = some (B acc, B m) := by
  have fin : text_unhexed.j1 (k + 1) (B m) (N acc) false = some (B acc, B m) := by
    rw [text_unhexed.j1, if_neg (by simp), str_N]
  rw [text_unhexed.l0]
  by_cases h : ((B m).size : Int) > 1
  · rcases hm with rfl | ⟨c, r, rfl, hc⟩
    · rw [size_B] at h; simp at h
    · rw [if_pos h, if_pos (by omega), bt_cons, digit_is, Option.bind_some, if_neg (by omega), fin]
  · rw [if_neg h, fin]
theorem unhexed_is (l : List UInt8) : ∀ (m acc : List UInt8), (m = [] ∨ ∃ c r, m = c :: r ∧ dg c < 0) → acc.length + l.length < 1000000 →
    ∃ k, text_unhexed.l0 k (B (hexL l ++ m)) (N acc) = some (B (acc ++ l), B m) := by
  induction l with
  | nil => intro m acc hm _; exact ⟨2, by rw [List.append_nil]; exact unhexed_end 0 m acc hm⟩
  | cons c l ih =>
    intro m acc hm hl
    rw [List.length_cons] at hl
    obtain ⟨k, hk⟩ := ih m (acc ++ [c]) hm (by rw [List.length_append, List.length_singleton]; omega)
    refine ⟨k + 2, ?_⟩
    rw [show hexL (c :: l) ++ m = two c ++ (hexL l ++ m) by rw [show hexL (c :: l) = two c ++ hexL l from rfl, List.append_assoc]]
    rw [unhexed_step k c _ acc (by omega), hk, List.append_assoc]
    rfl
theorem unhexed_two (k : Nat) (c : UInt8) (hk : 8 ≤ k) : text_unhexed.f k (B (two c)) = some (B [c], B []) := by
  obtain ⟨k, rfl⟩ : ∃ m, k = m + 4 := ⟨k - 4, by omega⟩
  have h := unhexed_step (k + 2) c [] [] (by decide)
  rw [List.append_nil] at h
  unfold text_unhexed.f
  exact h.trans (unhexed_end k [] [c] (.inl rfl))
theorem cons_ne (c : UInt8) (l : List UInt8) : ¬ ((B (c :: l)).toList = ([] : List UInt8)) := by rw [toList_B]; simp
theorem size_cons (c : UInt8) (l : List UInt8) : (B (c :: l)).size = l.length + 1 := rfl
theorem tail1 (c : UInt8) (l : List UInt8) : (B (c :: l)).extract 1 (B (c :: l)).size = B l := tail_B (c :: l) 1
theorem b_34 (c : UInt8) : c ≠ 34 ↔ ¬ ((c.toNat : Int) = 34) :=
  not_congr ⟨fun h => by rw [h]; decide, fun h => UInt8.toNat_inj.1 (by rw [show (34 : UInt8).toNat = 34 by decide]; omega)⟩
theorem b_92 (c : UInt8) : c ≠ 92 ↔ ¬ ((c.toNat : Int) = 92) :=
  not_congr ⟨fun h => by rw [h]; decide, fun h => UInt8.toNat_inj.1 (by rw [show (92 : UInt8).toNat = 92 by decide]; omega)⟩
/-- One plain byte. -/
theorem unq_plain (k : Nat) (c : UInt8) (m acc : List UInt8) (h34 : c ≠ 34) (h92 : c ≠ 92) (hl : acc.length < 1000000) :
    text_unquoted.l0 (k + 1) (B (c :: m)) (N acc) = text_unquoted.l0 k (B m) (N (acc ++ [c])) := by
  have a34 := (b_34 c).1 h34
  have a92 := (b_92 c).1 h92
  simp only [text_unquoted.l0, bt_cons, tail1]
  rw [if_neg (cons_ne c m), if_pos (by rw [size_cons]; omega), if_pos (by rw [size_cons]; omega), if_neg a34, if_neg a92, if_pos (by rw [N_length]; omega)]
  rw [show ([(c.toNat : Int)] : List Int) = N [c] from rfl, N_append]
/-- A byte behind a stroke. -/
theorem unq_stroke (k : Nat) (c : UInt8) (m acc : List UInt8) (hx : c ≠ 120) (hl : acc.length < 1000000) :
    text_unquoted.l0 (k + 2) (B (92 :: c :: m)) (N acc) = text_unquoted.l0 k (B m) (N (acc ++ [c])) := by
  have hp := hasPrefix_is (c :: m) [120]
  have hf : ((c :: m).take ([120] : List UInt8).length == [120]) = false := by simp [hx]
  rw [hf] at hp
  simp only [text_unquoted.l0, bt_cons, tail1]
  rw [if_neg (cons_ne 92 _), if_pos (by rw [size_cons]; omega), if_pos (by rw [size_cons]; omega), if_neg (by decide), if_pos (by decide)]
  rw [show (⟨#[120]⟩ : ByteArray) = B [120] from rfl, hp, Option.bind_some, if_neg (by simp)]
  simp only [text_unquoted.j1, bt_cons, tail1]
  rw [if_neg (by simp), if_neg (cons_ne c m), if_pos (by rw [size_cons]; omega), if_pos (by rw [N_length]; omega), if_pos (by rw [size_cons]; omega)]
  rw [show ([(c.toNat : Int)] : List Int) = N [c] from rfl, N_append]
/-- A byte in digits. -/
theorem unq_hex (k : Nat) (c : UInt8) (m acc : List UInt8) (hk : 8 ≤ k) (hl : acc.length < 1000000) :
    text_unquoted.l0 (k + 2) (B (92 :: 120 :: two c ++ m)) (N acc) = text_unquoted.l0 k (B m) (N (acc ++ [c])) := by
  have hp := hasPrefix_is (120 :: (two c ++ m)) [120]
  have hf : ((120 :: (two c ++ m)).take ([120] : List UInt8).length == [120]) = true := by simp
  rw [hf] at hp
  have hl2 : (two c ++ m).length = m.length + 2 := by simp [two]
  rw [show (92 :: 120 :: two c ++ m : List UInt8) = 92 :: 120 :: (two c ++ m) from rfl]
  simp only [text_unquoted.l0, bt_cons, tail1]
  rw [if_neg (cons_ne 92 _), if_pos (by rw [size_cons]; omega), if_pos (by rw [size_cons]; omega), if_neg (by decide), if_pos (by decide)]
  rw [show (⟨#[120]⟩ : ByteArray) = B [120] from rfl, hp, Option.bind_some, if_pos rfl]
  simp only [text_unquoted.j1]
  rw [if_pos (by rw [size_cons, hl2, decide_eq_true_eq]; omega), if_pos (by omega), if_pos (by rw [size_cons, hl2]; omega)]
  have e1 : (B (120 :: (two c ++ m))).extract 1 3 = B (two c) := by rw [extract_B]; rfl
  have e3 : (B (120 :: (two c ++ m))).extract 3 (B (120 :: (two c ++ m))).size = B m := by rw [tail_B]; rfl
  rw [e1, unhexed_two k c hk, Option.bind_some]
  simp only []
  rw [if_pos (toList_B []), if_pos (by rw [N_length, size_cons]; simp; omega), e3, bytesOf_B, N_append]
theorem unq_esc (k : Nat) (c : UInt8) (m acc : List UInt8) (hk : 8 ≤ k) (hl : acc.length < 1000000) :
    ∃ j, k ≤ j ∧ j ≤ k + 2 ∧ text_unquoted.l0 j (B (esc c ++ m)) (N acc) = text_unquoted.l0 k (B m) (N (acc ++ [c])) := by
  unfold esc
  by_cases h : c = 34 ∨ c = 92
  · rw [if_pos h]
    exact ⟨k + 2, by omega, by omega, unq_stroke k c m acc (by rcases h with rfl | rfl <;> decide) hl⟩
  · rw [if_neg h]
    by_cases h2 : c < 32 ∨ 126 < c
    · rw [if_pos h2]; exact ⟨k + 2, by omega, by omega, unq_hex k c m acc hk hl⟩
    · rw [if_neg h2]; exact ⟨k + 1, by omega, by omega, unq_plain k c m acc (fun e => h (.inl e)) (fun e => h (.inr e)) hl⟩
theorem unq_back (l : List UInt8) : ∀ (acc r : List UInt8), acc.length + l.length < 1000000 →
    ∃ k, text_unquoted.l0 k (B (l.flatMap esc ++ 34 :: r)) (N acc) = some (B (acc ++ l), B r, true) ∧ 8 ≤ k := by
  induction l with
  | nil =>
    intro acc r hl
    refine ⟨9, ?_, by omega⟩
    rw [List.flatMap_nil, List.nil_append, List.append_nil]
    simp only [text_unquoted.l0, bt_cons, tail1]
    rw [if_neg (cons_ne 34 _), if_pos (by rw [size_cons]; omega), if_pos (by rw [size_cons]; omega), if_pos (by decide), str_N]
  | cons c l ih =>
    intro acc r hl
    obtain ⟨k, hk, h8⟩ := ih (acc ++ [c]) r (by simp at hl ⊢; omega)
    obtain ⟨j, hj, _, he⟩ := unq_esc k c (l.flatMap esc ++ 34 :: r) acc h8 (by simp at hl; omega)
    refine ⟨j, ?_, by omega⟩
    rw [List.flatMap_cons, List.append_assoc, he, hk, List.append_assoc]
    rfl
theorem unq_open (l : List UInt8) : ∀ (acc : List UInt8), acc.length + l.length < 1000000 →
    ∃ k, text_unquoted.l0 k (B (l.flatMap esc)) (N acc) = some (B [], B [], false) ∧ 8 ≤ k := by
  induction l with
  | nil =>
    intro acc hl
    refine ⟨9, ?_, by omega⟩
    simp only [text_unquoted.l0, List.flatMap_nil]
    rw [if_pos (toList_B [])]
    rfl
  | cons c l ih =>
    intro acc hl
    obtain ⟨k, hk, h8⟩ := ih (acc ++ [c]) (by simp at hl ⊢; omega)
    obtain ⟨j, hj, _, he⟩ := unq_esc k c (l.flatMap esc) acc h8 (by simp at hl; omega)
    exact ⟨j, by rw [List.flatMap_cons, he, hk], by omega⟩
theorem unquoted_back (l r : List UInt8) (hl : l.length < 1000000) : ∃ k, text_unquoted.f k (B (l.flatMap esc ++ 34 :: r)) = some (B l, B r, true) := by
  obtain ⟨k, hk, _⟩ := unq_back l [] r (by simpa using hl)
  exact ⟨k, hk⟩
theorem unquoted_open (l : List UInt8) (hl : l.length < 1000000) : ∃ k, text_unquoted.f k (B (l.flatMap esc)) = some (B [], B [], false) := by
  obtain ⟨k, hk, _⟩ := unq_open l [] (by simpa using hl)
  exact ⟨k, hk⟩
end Go.Proofs.YtpjfhdbkkomogaaDoor.Mb
