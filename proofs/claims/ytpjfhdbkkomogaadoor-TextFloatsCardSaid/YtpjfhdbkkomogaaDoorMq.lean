/- What the program's printing of a string comes to: its bytes, quoted. -/
import Derived.Test.YtpjfhdbkkomogaaDoorMb
import Derived.Test.YtpjfhdbkkomogaaDoorPx20
import Derived.Laws.BitsLemmas
import Derived.Lib.Hide
namespace Go.Proofs.YtpjfhdbkkomogaaDoor.Mb
open Go.RowKit Go.Proofs.YtpjfhdbkkomogaaDoorW.PrintWords Go.Proofs.YtpjfhdbkkomogaaDoor.Px

def DG : List UInt8 := [48, 49, 50, 51, 52, 53, 54, 55, 56, 57, 97, 98, 99, 100, 101, 102]
/-- A digit. -/
def hx (n : Nat) : UInt8 := DG.getD n 0
/-- A byte's two digits. -/
def two (c : UInt8) : List UInt8 := [hx (c.toNat / 16), hx (c.toNat % 16)]
def hexL (l : List UInt8) : List UInt8 := l.flatMap two
theorem hexL_append (a b : List UInt8) : hexL (a ++ b) = hexL a ++ hexL b := by simp [hexL]
theorem hexL_length (l : List UInt8) : (hexL l).length = 2 * l.length := by
  induction l with
  | nil => rfl
  | cons c l ih => rw [show hexL (c :: l) = two c ++ hexL l from rfl, List.length_append, ih]; simp [two]; omega
theorem bt_DG (n : Nat) (h : n < 16) : bt (⟨#[48, 49, 50, 51, 52, 53, 54, 55, 56, 57, 97, 98, 99, 100, 101, 102]⟩ : ByteArray) n = ((hx n).toNat : Int) := by
  have e := bt_B DG n h
  rw [show (⟨#[48, 49, 50, 51, 52, 53, 54, 55, 56, 57, 97, 98, 99, 100, 101, 102]⟩ : ByteArray) = B DG from rfl, e, hx]
  congr 2
  rw [List.getD_eq_getElem?_getD, List.getElem?_eq_getElem h]
  rfl
theorem wrap_in (n : Int) (h0 : 0 ≤ n) (h1 : n ≤ 1000000000) : wrap64 n = n := by unfold wrap64; omega
theorem byte_lt (c : UInt8) : (c.toNat : Int) < 256 := by have := c.toNat_lt; omega
theorem and15 (c : UInt8) : Go.bits .and .u8 (c.toNat : Int) 15 = ((c.toNat % 16 : Nat) : Int) := by
  have h := byte_lt c
  have h0 : (0 : Int) ≤ (c.toNat : Int) := by omega
  have e := u8_and15 _ h0 h
  rw [e]; omega
theorem hexed_loop (d : Nat) : ∀ (k : Nat) (pre post : List UInt8), post.length = d → d < k → pre.length + post.length ≤ 1000000 →
    text_hexed.l0 k (B (pre ++ post)) (N (hexL pre)) ((B (pre ++ post)).size : Int) (pre.length : Int) = some (B (hexL (pre ++ post))) := by
  induction d with
  | zero =>
    intro k pre post hd hk hb
    obtain ⟨k, rfl⟩ : ∃ m, k = m + 1 := ⟨k - 1, by omega⟩
    have hp : post = [] := List.length_eq_zero_iff.1 hd
    subst hp
    simp only [text_hexed.l0, List.append_nil]
    rw [if_neg (by rw [size_B]; omega), str_N]
  | succ d ih =>
    intro k pre post hd hk hb
    obtain ⟨k, rfl⟩ : ∃ m, k = m + 1 := ⟨k - 1, by omega⟩
    cases post with
    | nil => simp at hd
    | cons c post =>
      have hd' : post.length = d := by simpa using hd
      have hbt : bt (B (pre ++ c :: post)) (pre.length : Int) = (c.toNat : Int) := by
        rw [bt_B _ _ (by simp)]; simp
      have hc := c.toNat_lt
      simp only [text_hexed.l0, hbt, and15]
      have hs : (B (pre ++ c :: post)).size = pre.length + (post.length + 1) := by rw [size_B]; simp
      rw [if_pos (by omega), if_pos (by omega), if_pos (by omega), if_pos (by omega), if_pos (by omega), if_pos (by omega), if_pos (by omega)]
      simp only [Option.bind_some]
      rw [if_pos (by rw [N_length, hexL_length]; simp; simp at hb; omega)]
      rw [show ((c.toNat : Int) / 16) = ((c.toNat / 16 : Nat) : Int) by omega, bt_DG _ (by omega), bt_DG _ (by omega)]
      rw [show ([((hx (c.toNat / 16)).toNat : Int), ((hx (c.toNat % 16)).toNat : Int)] : List Int) = N (two c) from rfl, N_append]
      rw [show hexL pre ++ two c = hexL (pre ++ [c]) by rw [hexL_append]; simp [hexL]]
      rw [wrap_in _ (by omega) (by simp at hb; omega)]
      have := ih k (pre ++ [c]) post hd' (by omega) (by simp at hb ⊢; omega)
      simp only [List.append_assoc, List.singleton_append, List.length_append, List.length_singleton] at this
      rw [show ((pre.length : Int) + 1) = ((pre.length + 1 : Nat) : Int) by omega]
      exact this
theorem hexed_is (k : Nat) (l : List UInt8) (hk : l.length < k) (hb : l.length ≤ 1000000) : text_hexed.f k (B l) = some (B (hexL l)) :=
  hexed_loop l.length k [] l rfl hk (by simpa using hb)

/-- A byte within quotes. -/
def esc (c : UInt8) : List UInt8 := if c = 34 ∨ c = 92 then [92, c] else if c < 32 ∨ 126 < c then 92 :: 120 :: two c else [c]
def quoteL (l : List UInt8) : List UInt8 := 34 :: l.flatMap esc ++ [34]
theorem esc_length (c : UInt8) : (esc c).length ≤ 4 := by unfold esc; split <;> (try split) <;> simp [two]
theorem flat_length (l : List UInt8) : (l.flatMap esc).length ≤ 4 * l.length := by
  induction l with
  | nil => simp
  | cons c l ih => rw [List.flatMap_cons, List.length_append, List.length_cons]; have := esc_length c; omega
theorem cut1 (pre : List UInt8) (c : UInt8) (post : List UInt8) : (B (pre ++ c :: post)).extract (pre.length : Int).toNat ((pre.length + 1 : Nat) : Int).toNat = B [c] := by
  rw [extract_B]
  congr 1
  simp
theorem quoted_loop (d : Nat) : ∀ (k : Nat) (pre post : List UInt8), post.length = d → 2 * d + 4 < k → pre.length + post.length ≤ 1000000 →
    text_quoted.l0 k (B (pre ++ post)) (B (34 :: pre.flatMap esc)) ((B (pre ++ post)).size : Int) (pre.length : Int) = some (B (quoteL (pre ++ post))) := by
  induction d with
  | zero =>
    intro k pre post hd hk hb
    obtain ⟨k, rfl⟩ : ∃ m, k = m + 1 := ⟨k - 1, by omega⟩
    have hp : post = [] := List.length_eq_zero_iff.1 hd
    subst hp
    have hf := flat_length pre
    have hs : (B (34 :: pre.flatMap esc)).size = (pre.flatMap esc).length + 1 := by rw [size_B]; rfl
    simp only [text_quoted.l0, List.append_nil]
    rw [if_neg (by rw [size_B]; omega), if_pos (by simp at hb; omega)]
    rw [show (⟨#[34]⟩ : ByteArray) = B [34] from rfl, append_B]
    rfl
  | succ d ih =>
    intro k pre post hd hk hb
    obtain ⟨k, rfl⟩ : ∃ m, k = m + 2 := ⟨k - 2, by omega⟩
    cases post with
    | nil => simp at hd
    | cons c post =>
      have hd' : post.length = d := by simpa using hd
      have hb' : pre.length + (post.length + 1) ≤ 1000000 := by simpa using hb
      have hbt : bt (B (pre ++ c :: post)) (pre.length : Int) = (c.toNat : Int) := by
        rw [bt_B _ _ (by simp)]; simp
      have hc := c.toNat_lt
      have hf := flat_length pre
      have hs0 : (B (34 :: pre.flatMap esc)).size = (pre.flatMap esc).length + 1 := by rw [size_B]; rfl
      have hs : (B (pre ++ c :: post)).size = pre.length + (post.length + 1) := by rw [size_B]; simp
      have hw : Hid (wrap64 ((pre.length : Int) + 1) = ((pre.length + 1 : Nat) : Int)) := Lib.hid (by rw [wrap_in _ (by omega) (by omega)]; rfl)
      have big : ∀ x : List UInt8, x.length ≤ 4 → (B (34 :: pre.flatMap esc)).size + (B x).size ≤ 9223372036854775807 := fun x hx => by rw [hs0, size_B]; omega
      have hcut := cut1 pre c post
      have next : ∀ e, esc c = e → text_quoted.l0 k (B (pre ++ c :: post)) (B (34 :: pre.flatMap esc) ++ B e) ((B (pre ++ c :: post)).size : Int) ((pre.length + 1 : Nat) : Int) = some (B (quoteL (pre ++ c :: post))) := fun e he => by
        have h := ih k (pre ++ [c]) post hd' (by omega) (by rw [List.length_append, List.length_singleton]; omega)
        have e1 : pre ++ [c] ++ post = pre ++ c :: post := by rw [List.append_assoc]; rfl
        have e2 : (pre ++ [c]).flatMap esc = pre.flatMap esc ++ e := by rw [List.flatMap_append, ← he]; simp
        have e3 : ((pre ++ [c]).length : Int) = ((pre.length + 1 : Nat) : Int) := by rw [List.length_append]; rfl
        rw [e1, e2, e3] at h
        rw [append_B, List.cons_append]
        exact h
      have h1 : ∀ b : Bool, ((c = 34 ∨ c = 92) ↔ b = true) → text_quoted.j1 (k + 1) (B (pre ++ c :: post)) (B (34 :: pre.flatMap esc)) (pre.length : Int) (c.toNat : Int) ((B (pre ++ c :: post)).size : Int) (pre.length : Int) b = some (B (quoteL (pre ++ c :: post))) := fun b hb => by
        simp only [text_quoted.j1, hw.out, hcut]
        by_cases hq : c = 34 ∨ c = 92
        · rw [if_pos (hb.1 hq), if_pos (by omega), if_pos (by omega), if_pos (by omega), if_pos (by rw [size_B]; simp), show (⟨#[92]⟩ : ByteArray) = B [92] from rfl, append_B, if_pos (big _ (by simp))]
          exact next _ (by unfold esc; rw [if_pos hq]; rfl)
        · rw [if_neg (fun h => hq (hb.2 h))]
          have hex : text_hexed.f k (B [c]) = some (B (two c)) := by
            rw [hexed_is k [c] (by simp; omega) (by simp)]; simp [hexL]
          by_cases h32 : (c.toNat : Int) < 32
          · rw [if_pos h32, if_pos (by omega), if_pos (by omega), if_pos (by omega), hex]
            simp only [Option.bind_some]
            rw [if_pos (by rw [size_B]; simp [two]), show (⟨#[92, 120]⟩ : ByteArray) = B [92, 120] from rfl, append_B, if_pos (big _ (by simp [two]))]
            exact next _ (by unfold esc; rw [if_neg hq, if_pos (.inl (UInt8.lt_iff_toNat_lt.2 (by rw [show (32 : UInt8).toNat = 32 by decide]; omega)))]; rfl)
          · rw [if_neg h32]
            by_cases h126 : (c.toNat : Int) > 126
            · rw [if_pos h126, if_pos (by omega), if_pos (by omega), if_pos (by omega), hex]
              simp only [Option.bind_some]
              rw [if_pos (by rw [size_B]; simp [two]), show (⟨#[92, 120]⟩ : ByteArray) = B [92, 120] from rfl, append_B, if_pos (big _ (by simp [two]))]
              exact next _ (by unfold esc; rw [if_neg hq, if_pos (.inr (UInt8.lt_iff_toNat_lt.2 (by rw [show (126 : UInt8).toNat = 126 by decide]; omega)))]; rfl)
            · rw [if_neg h126, if_pos (by omega), if_pos (by omega), if_pos (by omega), if_pos (big _ (by simp))]
              exact next _ (by unfold esc; rw [if_neg hq, if_neg (by rw [UInt8.lt_iff_toNat_lt, UInt8.lt_iff_toNat_lt, show (32 : UInt8).toNat = 32 by decide, show (126 : UInt8).toNat = 126 by decide]; omega)])
      have h34 : c = 34 ↔ (c.toNat : Int) = 34 := ⟨fun h => by rw [h]; decide, fun h => UInt8.toNat_inj.1 (by rw [show (34 : UInt8).toNat = 34 by decide]; omega)⟩
      have h92 : c = 92 ↔ (c.toNat : Int) = 92 := ⟨fun h => by rw [h]; decide, fun h => UInt8.toNat_inj.1 (by rw [show (92 : UInt8).toNat = 92 by decide]; omega)⟩
      simp only [text_quoted.l0, hbt]
      rw [if_pos (by omega), if_pos (by omega), if_pos (by omega)]
      by_cases h : (c.toNat : Int) = 34
      · rw [if_pos h]
        exact h1 true (by rw [h34]; simp [h])
      · rw [if_neg h]
        exact h1 _ (by rw [h34, h92]; simp [h])
theorem quoted_is (k : Nat) (l : List UInt8) (hk : 2 * l.length + 4 < k) (hb : l.length ≤ 1000000) : text_quoted.f k (B l) = some (B (quoteL l)) :=
  quoted_loop l.length k [] l rfl hk (by simpa using hb)
end Go.Proofs.YtpjfhdbkkomogaaDoor.Mb
