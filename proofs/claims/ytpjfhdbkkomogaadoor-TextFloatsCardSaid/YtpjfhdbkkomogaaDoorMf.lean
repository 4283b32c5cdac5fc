/- Digits of sixteen: how a number is told, and read. -/
import Derived.Test.YtpjfhdbkkomogaaDoorMb
namespace Go.Proofs.YtpjfhdbkkomogaaDoor.Mb
open Go.RowKit

/-- A digit. -/
def dgt (d : Nat) : UInt8 := UInt8.ofNat (if d < 10 then 48 + d else 87 + d)
theorem dgt_toNat (d : Nat) (h : d < 16) : (dgt d).toNat = if d < 10 then 48 + d else 87 + d := by
  unfold dgt
  rw [UInt8.toNat_ofNat']
  split <;> omega
theorem dgt_inj (d e : Nat) (h : d < 16) (g : e < 16) : (dgt d).toNat < (dgt e).toNat ↔ d < e := by
  rw [dgt_toNat d h, dgt_toNat e g]
  split <;> split <;> omega
/-- A number's digits, none ahead that is nought. -/
def tell (u : Nat) : List UInt8 := if _h : u < 16 then [dgt u] else tell (u / 16) ++ [dgt (u % 16)]
decreasing_by omega
theorem tell_small (u : Nat) (h : u < 16) : tell u = [dgt u] := by rw [tell, dif_pos h]
theorem tell_big (u : Nat) (h : ¬ u < 16) : tell u = tell (u / 16) ++ [dgt (u % 16)] := by rw [tell, dif_neg h]
/-- Just so many digits. -/
def tells : Nat → Nat → List UInt8
  | 0, _ => []
  | n + 1, u => tells n (u / 16) ++ [dgt (u % 16)]
theorem tells_length : ∀ n u, (tells n u).length = n
  | 0, _ => rfl
  | n + 1, u => by rw [tells, List.length_append, tells_length n, List.length_singleton]
theorem tells_zero : ∀ n, tells n 0 = List.replicate n 48
  | 0 => rfl
  | n + 1 => by rw [tells, show 0 / 16 = 0 from rfl, tells_zero n, List.replicate_succ']; rfl
theorem tell_filled : ∀ (n u : Nat), u < 16 ^ (n + 1) → (tell u).length ≤ n + 1 ∧ List.replicate (n + 1 - (tell u).length) 48 ++ tell u = tells (n + 1) u
  | 0, u, h => by
    have h : u < 16 := by simpa using h
    rw [tell_small u h]
    refine ⟨by simp, ?_⟩
    rw [tells, tells, Nat.mod_eq_of_lt h]
    rfl
  | n + 1, u, h => by
    by_cases h16 : u < 16
    · rw [tell_small u h16]
      refine ⟨by simp, ?_⟩
      rw [tells, Nat.mod_eq_of_lt h16, show u / 16 = 0 by omega, tells_zero]
      rfl
    · have hq : u / 16 < 16 ^ (n + 1) := by
        rw [Nat.pow_succ] at h
        exact Nat.div_lt_of_lt_mul (by omega)
      obtain ⟨h1, h2⟩ := tell_filled n (u / 16) hq
      rw [tell_big u h16, List.length_append, List.length_singleton]
      refine ⟨by omega, ?_⟩
      rw [tells, ← h2, ← List.append_assoc]
      congr 3
      omega
/-- A digit's number. -/
def dgv (c : UInt8) : Nat := if c.toNat ≤ 57 then c.toNat - 48 else c.toNat - 87
theorem dgv_dgt (d : Nat) (h : d < 16) : dgv (dgt d) = d := by
  unfold dgv
  rw [dgt_toNat d h]
  split <;> split <;> omega
def isDgt (c : UInt8) : Prop := (48 ≤ c.toNat ∧ c.toNat ≤ 57) ∨ (97 ≤ c.toNat ∧ c.toNat ≤ 102)
theorem dgt_hex (d : Nat) (h : d < 16) : isDgt (dgt d) := by
  unfold isDgt
  rw [dgt_toNat d h]
  split <;> omega
theorem dgv_lt (c : UInt8) (h : isDgt c) : dgv c < 16 := by
  unfold isDgt at h
  unfold dgv
  split <;> omega
theorem tells_hex : ∀ n u, ∀ c ∈ tells n u, isDgt c
  | 0, _, c, hc => by cases hc
  | n + 1, u, c, hc => by
    rcases List.mem_append.1 hc with hc | hc
    · exact tells_hex n _ c hc
    · obtain rfl := List.mem_singleton.1 hc
      exact dgt_hex _ (Nat.mod_lt _ (by decide))
/-- What digits tell. -/
def hval (l : List UInt8) : Nat := l.foldl (fun a c => a * 16 + dgv c) 0
theorem hval_snoc (l : List UInt8) (c : UInt8) : hval (l ++ [c]) = hval l * 16 + dgv c := by
  unfold hval
  rw [List.foldl_append]
  rfl
theorem hval_tells : ∀ n u, u < 16 ^ n → hval (tells n u) = u
  | 0, u, h => by
    have : u = 0 := by simpa using h
    rw [this]; rfl
  | n + 1, u, h => by
    have hq : u / 16 < 16 ^ n := by
      rw [Nat.pow_succ] at h
      exact Nat.div_lt_of_lt_mul (by omega)
    rw [tells, hval_snoc, hval_tells n _ hq, dgv_dgt _ (Nat.mod_lt _ (by decide))]
    omega
theorem fold_lt : ∀ (l : List UInt8) (a : Nat), (∀ c ∈ l, isDgt c) → l.foldl (fun a c => a * 16 + dgv c) a < (a + 1) * 16 ^ l.length
  | [], a, _ => by simp
  | c :: l, a, h => by
    have h1 := fold_lt l (a * 16 + dgv c) fun d dgt => h d (List.mem_cons_of_mem _ dgt)
    have h2 := dgv_lt c (h c (List.mem_cons_self ..))
    have h3 : (a * 16 + dgv c + 1) * 16 ^ l.length ≤ ((a + 1) * 16) * 16 ^ l.length := Nat.mul_le_mul_right _ (by omega)
    rw [List.foldl_cons, List.length_cons, Nat.pow_succ]
    have h4 : (a + 1) * (16 ^ l.length * 16) = ((a + 1) * 16) * 16 ^ l.length := by rw [Nat.mul_comm (16 ^ l.length) 16, Nat.mul_assoc]
    omega
theorem hval_lt (l : List UInt8) (h : ∀ c ∈ l, isDgt c) : hval l < 16 ^ l.length := by
  have := fold_lt l 0 h
  unfold hval
  omega
/-- Told, numbers stand as they are. -/
theorem tells_inj (n a b : Nat) (ha : a < 16 ^ n) (hb : b < 16 ^ n) : tells n a = tells n b ↔ a = b :=
  ⟨fun h => by rw [← hval_tells n a ha, h, hval_tells n b hb], fun h => by rw [h]⟩
theorem lt_snoc : ∀ (l m : List UInt8) (c d : UInt8), l.length = m.length → (l ++ [c] < m ++ [d] ↔ l < m ∨ (l = m ∧ c < d))
  | [], [], c, d, _ => by rw [List.nil_append, List.nil_append, List.cons_lt_cons_iff]; simp
  | [], _ :: _, _, _, h => by simp at h
  | _ :: _, [], _, _, h => by simp at h
  | x :: l, y :: m, c, d, h => by
    have ih := lt_snoc l m c d (by simpa using h)
    rw [List.cons_append, List.cons_append, List.cons_lt_cons_iff, List.cons_lt_cons_iff, ih, List.cons.injEq]
    constructor
    · rintro (h | ⟨h, h' | h'⟩)
      · exact .inl (.inl h)
      · exact .inl (.inr ⟨h, h'⟩)
      · exact .inr ⟨⟨h, h'.1⟩, h'.2⟩
    · rintro ((h | ⟨h, h'⟩) | ⟨⟨h, h'⟩, h''⟩)
      · exact .inl h
      · exact .inr ⟨h, .inl h'⟩
      · exact .inr ⟨h, .inr ⟨h', h''⟩⟩
theorem tells_lt : ∀ (n a b : Nat), a < 16 ^ n → b < 16 ^ n → (tells n a < tells n b ↔ a < b)
  | 0, a, b, ha, hb => by
    have : a = 0 := by simpa using ha
    have : b = 0 := by simpa using hb
    subst a b
    simp [tells]
  | n + 1, a, b, ha, hb => by
    have ha' : a / 16 < 16 ^ n := by
      rw [Nat.pow_succ] at ha
      exact Nat.div_lt_of_lt_mul (by omega)
    have hb' : b / 16 < 16 ^ n := by
      rw [Nat.pow_succ] at hb
      exact Nat.div_lt_of_lt_mul (by omega)
    rw [tells, tells, lt_snoc _ _ _ _ (by rw [tells_length, tells_length]), tells_lt n _ _ ha' hb', tells_inj n _ _ ha' hb', UInt8.lt_iff_toNat_lt, dgt_inj _ _ (Nat.mod_lt _ (by decide)) (Nat.mod_lt _ (by decide))]
    omega
end Go.Proofs.YtpjfhdbkkomogaaDoor.Mb
