/- Numerals: what the reference's Digits comes to; numerals read back. -/
import Derived.Test.YtpjfhdbkkomogaaDoorMq
import Derived.Test.YtpjfhdbkkomogaaDoorPx72
import Derived.Lib.ItoaNum
import Derived.Lib.ParseIntB
namespace Go.Proofs.YtpjfhdbkkomogaaDoor.Mb
open Go.RowKit Go.Proofs.YtpjfhdbkkomogaaDoorW.PrintWords Go.Proofs.YtpjfhdbkkomogaaDoor.Px
open Go.Lib (decDigits itoa parseUintM parseUintB parseIntB)

theorem dig_toNat (d : Nat) (h : d < 10) : (UInt8.ofNat (48 + d)).toNat = 48 + d := by
  rw [UInt8.toNat_ofNat']
  omega
theorem dec_small (u : Nat) (h : u < 10) : decDigits u = [UInt8.ofNat (48 + u)] := by rw [decDigits, dif_pos h]
theorem dec_big (u : Nat) (h : ¬ u < 10) : decDigits u = decDigits (u / 10) ++ [UInt8.ofNat (48 + u % 10)] := by rw [decDigits, dif_neg h]
/-- The bytes of a number. -/
def isNum (c : UInt8) : Bool := decide (c.toNat = 45 ∨ (48 ≤ c.toNat ∧ c.toNat ≤ 57))
theorem dec_digits (u : Nat) : (∀ c ∈ decDigits u, 48 ≤ c.toNat ∧ c.toNat ≤ 57) ∧ decDigits u ≠ [] := by
  induction u using Nat.strongRecOn with
  | _ u ih =>
    by_cases h : u < 10
    · rw [dec_small u h]
      refine ⟨fun c hc => ?_, by simp⟩
      obtain rfl := List.mem_singleton.1 hc
      rw [dig_toNat u h]; omega
    · rw [dec_big u h]
      refine ⟨fun c hc => ?_, by simp⟩
      rcases List.mem_append.1 hc with hc | hc
      · exact (ih (u / 10) (by omega)).1 c hc
      · obtain rfl := List.mem_singleton.1 hc
        rw [dig_toNat _ (by omega)]; omega
theorem dec_cons (u : Nat) : ∃ c r, decDigits u = c :: r ∧ 48 ≤ c.toNat ∧ c.toNat ≤ 57 := by
  obtain ⟨h1, h2⟩ := dec_digits u
  cases h : decDigits u with
  | nil => exact absurd h h2
  | cons c r => exact ⟨c, r, rfl, h1 c (by rw [h]; simp)⟩
theorem step_digit (M acc : Nat) (c : UInt8) (r : List UInt8) (d : Nat) (hd : c.toNat = 48 + d) (h9 : d < 10) (h1 : ¬ 1844674407370955162 ≤ acc) (h2 : ¬ M < acc * 10 + d) :
    parseUintM M acc (c :: r) = parseUintM M (acc * 10 + d) r := by
  have e : c.toNat - 48 = d := by omega
  rw [parseUintM, if_pos (by omega), if_neg h1, e, if_neg h2]
theorem parse_dec (M : Nat) (hM : M ≤ 18446744073709551615) (u : Nat) : ∀ r, u ≤ M → parseUintM M 0 (decDigits u ++ r) = parseUintM M u r := by
  induction u using Nat.strongRecOn with
  | _ u ih =>
    intro r hu
    by_cases h : u < 10
    · rw [dec_small u h]
      have := step_digit M 0 (UInt8.ofNat (48 + u)) r u (dig_toNat u h) h (by omega) (by omega)
      rw [Nat.zero_mul, Nat.zero_add] at this
      exact this
    · rw [dec_big u h, List.append_assoc, ih (u / 10) (by omega) _ (by omega)]
      have := step_digit M (u / 10) (UInt8.ofNat (48 + u % 10)) r (u % 10) (dig_toNat _ (by omega)) (by omega) (by omega) (by omega)
      rw [show u / 10 * 10 + u % 10 = u by omega] at this
      exact this
theorem parseU (u : Nat) (h : u < 18446744073709551616) : parseUintB 64 (decDigits u) = .ok u := by
  unfold parseUintB
  rw [if_neg (dec_digits u).2]
  have := parse_dec (2 ^ 64 - 1) (by decide) u [] (by omega)
  rw [List.append_nil] at this
  rw [this, parseUintM]
theorem parseI_cons (c : UInt8) (r : List UInt8) (hc : 48 ≤ c.toNat ∧ c.toNat ≤ 57) (u : Nat) (hu : u < 9223372036854775808) (h : parseUintB 64 (c :: r) = .ok u) : parseIntB 64 (c :: r) = .ok (u : Int) := by
  have h1 : ¬ (c.toNat = 43 ∨ c.toNat = 45) := by omega
  have h2 : ¬ c.toNat = 45 := by omega
  have h3 : ¬ (¬ c.toNat = 45 ∧ 2 ^ (64 - 1) ≤ u) := by omega
  have h4 : ¬ (c.toNat = 45 ∧ 2 ^ (64 - 1) < u) := by omega
  unfold parseIntB
  simp only []
  rw [if_neg h1, h]
  simp only []
  rw [if_neg h3, if_neg h4, if_neg h2]
theorem parseI_minus (r : List UInt8) (u : Nat) (hu : u ≤ 9223372036854775808) (h : parseUintB 64 r = .ok u) : parseIntB 64 (45 :: r) = .ok (-(u : Int)) := by
  have h1 : ((45 : UInt8).toNat = 43 ∨ (45 : UInt8).toNat = 45) := by decide
  have h2 : (45 : UInt8).toNat = 45 := by decide
  have h3 : ¬ (¬ (45 : UInt8).toNat = 45 ∧ 2 ^ (64 - 1) ≤ u) := fun h => h.1 h2
  have h4 : ¬ ((45 : UInt8).toNat = 45 ∧ 2 ^ (64 - 1) < u) := by omega
  unfold parseIntB
  simp only []
  rw [if_pos h1, h]
  simp only []
  rw [if_neg h3, if_neg h4, if_pos h2]
theorem parse_itoa (n : Int) (h0 : -9223372036854775808 ≤ n) (h1 : n ≤ 9223372036854775807) : parseIntB 64 (itoa n) = .ok n := by
  unfold itoa
  by_cases h : n < 0
  · rw [if_pos h, parseI_minus _ n.natAbs (by omega) (parseU _ (by omega))]
    congr 1
    omega
  · rw [if_neg h]
    obtain ⟨c, r, hc, hd⟩ := dec_cons n.toNat
    have := parseU n.toNat (by omega)
    rw [hc] at this ⊢
    rw [parseI_cons c r hd n.toNat (by omega) this]
    congr 1
    omega
theorem parse_nought (n : Int) (h0 : 0 ≤ n) (h1 : n ≤ 9223372036854775807) : parseIntB 64 (48 :: itoa n) = .ok n := by
  unfold itoa
  rw [if_neg (by omega)]
  have e : parseUintB 64 (48 :: decDigits n.toNat) = .ok n.toNat := by
    have := parseU n.toNat (by omega)
    unfold parseUintB at this ⊢
    rw [if_neg (by simp)]
    rw [if_neg (dec_digits _).2] at this
    have s := step_digit (2 ^ 64 - 1) 0 48 (decDigits n.toNat) 0 (by decide) (by omega) (by omega) (by omega)
    rw [s]
    exact this
  rw [parseI_cons 48 _ (by decide) n.toNat (by omega) e]
  congr 1
  omega
/-- What no number gives. -/
theorem parse_nought_neg (n : Int) (h : n < 0) : parseIntB 64 (48 :: itoa n) = parseIntB 64 [] := by
  unfold itoa
  rw [if_pos h]
  have s := step_digit (2 ^ 64 - 1) 0 48 (45 :: decDigits n.natAbs) 0 (by decide) (by omega) (by omega) (by omega)
  have e : parseUintB 64 (48 :: 45 :: decDigits n.natAbs) = parseUintB 64 [] := by
    have e0 : parseUintM (2 ^ 64 - 1) (0 * 10 + 0) (45 :: decDigits n.natAbs) = parseUintB 64 [] := by
      rw [parseUintM, if_neg (by decide)]
      rfl
    rw [← e0, ← s]
    unfold parseUintB
    rw [if_neg (by simp)]
  unfold parseIntB
  have h1 : ¬ ((48 : UInt8).toNat = 43 ∨ (48 : UInt8).toNat = 45) := by decide
  simp only [if_neg h1, e]
  rfl
theorem isNum_iff (c : UInt8) : isNum c = true ↔ (c.toNat = 45 ∨ (48 ≤ c.toNat ∧ c.toNat ≤ 57)) := decide_eq_true_iff
theorem itoa_num (n : Int) : ∀ c ∈ itoa n, isNum c = true := by
  intro c hc
  rw [isNum_iff]
  unfold itoa at hc
  split at hc
  · rcases List.mem_cons.1 hc with rfl | hc
    · exact .inl (by decide)
    · exact .inr ((dec_digits _).1 c hc)
  · exact .inr ((dec_digits _).1 c hc)
/-- How many bytes of a number there are ahead. -/
def lead (l : List UInt8) : Nat := (l.takeWhile isNum).length
theorem lead_all (l m : List UInt8) (h : ∀ c ∈ l, isNum c = true) (hm : m = [] ∨ ∃ c r, m = c :: r ∧ isNum c = false) : lead (l ++ m) = l.length := by
  induction l with
  | nil =>
    rcases hm with rfl | ⟨c, r, rfl, hc⟩
    · rfl
    · simp [lead, hc]
  | cons c l ih =>
    have hc := h c (by simp)
    have := ih fun d hd => h d (by simp [hd])
    unfold lead at this ⊢
    rw [List.cons_append, List.takeWhile_cons, if_pos hc, List.length_cons, this, List.length_cons]
theorem lead_le (l : List UInt8) : lead l ≤ l.length := (List.takeWhile_sublist _).length_le
theorem lead_in (l : List UInt8) (i : Nat) (hi : i < lead l) (h : i < l.length) : isNum l[i] = true := by
  have hp : (l.takeWhile isNum) <+: l := List.takeWhile_prefix _
  have e : (l.takeWhile isNum)[i]'hi = l[i] := hp.getElem hi
  have hm : (l.takeWhile isNum)[i]'hi ∈ l.takeWhile isNum := List.getElem_mem _
  rw [← e]
  exact List.all_eq_true.1 List.all_takeWhile _ hm
theorem lead_end : ∀ (l : List UInt8) (h : lead l < l.length), isNum l[lead l] = false
  | [], h => by simp at h
  | c :: l, h => by
    by_cases hc : isNum c = true
    · have e : lead (c :: l) = lead l + 1 := by unfold lead; rw [List.takeWhile_cons, if_pos hc, List.length_cons]
      have := lead_end l (by rw [e, List.length_cons] at h; omega)
      simp only [e, List.getElem_cons_succ]
      exact this
    · have e : lead (c :: l) = 0 := by unfold lead; rw [List.takeWhile_cons, if_neg hc]; rfl
      simp only [e, List.getElem_cons_zero]
      simpa using hc
/-! ### The reference's Digits -/
theorem u64_in (u : Nat) (h : u < 18446744073709551616) : IntKind.u64.wrap (u : Int) = (u : Int) := by
  simp [IntKind.wrap, IntKind.bits, IntKind.signed]; omega
theorem dig_byte (u : Nat) (h : u < 18446744073709551616) : strOfNums ([(IntKind.u64.wrap (48 + (Int.tmod (u : Int) 10))) % 256] : List Int) = B [UInt8.ofNat (48 + u % 10)] := by
  have e1 : Int.tmod (u : Int) 10 = ((u % 10 : Nat) : Int) := by rw [Int.tmod_eq_emod_of_nonneg (by omega)]; omega
  have e2 : (48 + ((u % 10 : Nat) : Int)) = ((48 + u % 10 : Nat) : Int) := by omega
  rw [e1, e2, u64_in _ (by omega)]
  have e3 : (((48 + u % 10 : Nat) : Int) % 256) = ((48 + u % 10 : Nat) : Int) := by omega
  rw [e3]
  rfl
theorem dig_rest (u : Nat) (h : u < 18446744073709551616) : IntKind.u64.wrap (Int.tdiv (u : Int) 10) = ((u / 10 : Nat) : Int) := by
  have e1 : Int.tdiv (u : Int) 10 = ((u / 10 : Nat) : Int) := by rw [Int.tdiv_eq_ediv_of_nonneg (by omega)]; omega
  rw [e1, u64_in _ (by omega)]
theorem digits_last (n : Int) (u : Nat) (hu : u < 10) (acc : List UInt8) (ha : acc.length ≤ 1000) (k : Nat) :
    rialtoref4_Digits.l0 (k + 1) n (u : Int) (B acc) = some (B ((if n < 0 then [45] else []) ++ (decDigits u ++ acc))) := by
  have hs : (B [UInt8.ofNat (48 + u % 10)]).size = 1 := by rw [size_B]; rfl
  rw [rialtoref4_Digits.l0, Option.bind_some, dig_byte u (by omega), dig_rest u (by omega), if_pos (by rw [hs, size_B]; omega), if_pos (by omega), append_B, dec_small u hu]
  have e : u % 10 = u := by omega
  rw [e]
  by_cases hn : n < 0
  · rw [if_pos hn, if_pos (by rw [size_B]; simp; omega), if_pos hn, show (⟨#[45]⟩ : ByteArray) = B [45] from rfl, append_B]
  · rw [if_neg hn, if_neg hn]; rfl
theorem digits_loop (n : Int) (d : Nat) : ∀ (u : Nat) (acc : List UInt8), u < 10 ^ (d + 1) → u < 18446744073709551616 → acc.length + d ≤ 1000 →
    ∃ k, rialtoref4_Digits.l0 k n (u : Int) (B acc) = some (B ((if n < 0 then [45] else []) ++ (decDigits u ++ acc))) := by
  induction d with
  | zero => intro u acc hu _ ha; exact ⟨1, digits_last n u (by simpa using hu) acc (by omega) 0⟩
  | succ d ih =>
    intro u acc hu h64 ha
    by_cases h : u < 10
    · exact ⟨1, digits_last n u h acc (by omega) 0⟩
    · obtain ⟨k, hk⟩ := ih (u / 10) (UInt8.ofNat (48 + u % 10) :: acc) (by rw [Nat.pow_succ] at hu; omega) (by omega) (by rw [List.length_cons]; omega)
      refine ⟨k + 1, ?_⟩
      have hs : (B [UInt8.ofNat (48 + u % 10)]).size = 1 := by rw [size_B]; rfl
      rw [rialtoref4_Digits.l0, Option.bind_some, dig_byte u h64, dig_rest u h64, if_pos (by rw [hs, size_B]; omega), if_neg (by omega), append_B]
      rw [List.singleton_append, hk, dec_big u h, List.append_assoc]
      rfl
theorem digits_is (n : Int) (h0 : -9223372036854775808 ≤ n) (h1 : n ≤ 9223372036854775807) : ∃ k, rialtoref4_Digits.f k n = some (B (itoa n)) := by
  by_cases h : n < 0
  · obtain ⟨k, hk⟩ := digits_loop n 19 n.natAbs [] (by omega) (by omega) (by decide)
    refine ⟨k + 1, ?_⟩
    have e : IntKind.u64.wrap (-(IntKind.u64.wrap n)) = ((n.natAbs : Nat) : Int) := by
      simp [IntKind.wrap, IntKind.bits, IntKind.signed]; omega
    unfold rialtoref4_Digits.f
    rw [if_pos h, e, rialtoref4_Digits.j0]
    rw [show (⟨#[]⟩ : ByteArray) = B [] from rfl, hk, if_pos h, List.append_nil]
    unfold itoa
    rw [if_pos h]
    rfl
  · obtain ⟨k, hk⟩ := digits_loop n 19 n.toNat [] (by omega) (by omega) (by decide)
    refine ⟨k + 1, ?_⟩
    have e : IntKind.u64.wrap n = ((n.toNat : Nat) : Int) := by
      simp [IntKind.wrap, IntKind.bits, IntKind.signed]; omega
    unfold rialtoref4_Digits.f
    rw [if_neg h, e, rialtoref4_Digits.j0]
    rw [show (⟨#[]⟩ : ByteArray) = B [] from rfl, hk, if_neg h, List.append_nil, List.nil_append]
    unfold itoa
    rw [if_neg h]
theorem itoa_short (n : Int) (h0 : -9223372036854775808 ≤ n) (h1 : n ≤ 9223372036854775807) : (itoa n).length ≤ 100 := by
  have key : ∀ (d u : Nat), u < 10 ^ (d + 1) → (decDigits u).length ≤ d + 1 := by
    intro d
    induction d with
    | zero => intro u hu; rw [dec_small u (by simpa using hu)]; simp
    | succ d ih =>
      intro u hu
      by_cases h : u < 10
      · rw [dec_small u h]; simp
      · rw [dec_big u h, List.length_append, List.length_singleton]
        have := ih (u / 10) (by rw [Nat.pow_succ] at hu; omega)
        omega
  unfold itoa
  split
  · have := key 19 n.natAbs (by omega)
    rw [List.length_cons]; omega
  · have := key 19 n.toNat (by omega)
    omega
end Go.Proofs.YtpjfhdbkkomogaaDoor.Mb
