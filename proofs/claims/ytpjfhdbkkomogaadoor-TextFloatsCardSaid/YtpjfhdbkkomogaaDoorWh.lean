/- Walks: digits of sixteen read. -/
import Derived.Test.YtpjfhdbkkomogaaDoorWg
import Derived.Lib.Strings
import Derived.Lib.Walk
import Derived.Lib.ConvBytes
import Derived.Lib.AtoiAllMem
import Derived.Lib.AtoiErrMem
import Derived.Lib.SmallJoins
import Derived.Lib.Hide
import Derived.Laws.Strings3
import Derived.Laws.Closers25
import Derived.Laws.Closers25b
namespace Go.Proofs.YtpjfhdbkkomogaaDoor.Mb
open Go.RowKit Go.Proofs.YtpjfhdbkkomogaaDoorW.PrintWords Go.Proofs.YtpjfhdbkkomogaaDoorW.PrintLast Go.Proofs.YtpjfhdbkkomogaaDoorW.PrintMore Go.Proofs.YtpjfhdbkkomogaaDoor.Px Go.Proofs.YtpjfhdbkkomogaaDoor.Gvn
attribute [local go_sem] run_store_float

theorem or32 : ∀ n : Fin 256, 97 ≤ n.val → n.val ≤ 102 → bits .or .u8 (n.val : Int) 32 = (n.val : Int) := by decide +kernel
theorem lower_any (c : UInt8) (h : 97 ≤ c.toNat ∧ c.toNat ≤ 102) (w : World) : Calls Tryd.prog 83 #[.int .u8 (c.toNat : Int)] w fun e w' => e = .returned (.int .u8 (c.toNat : Int)) ∧ w' = w := by
  have e := or32 ⟨c.toNat, c.toNat_lt⟩ h.1 h.2
  simp only at e
  obtain ⟨x, hx⟩ : ∃ x : Int, x = (c.toNat : Int) := ⟨_, rfl⟩
  have h0 : 0 ≤ x := by omega
  have h1 : x < 256 := by omega
  rw [← hx] at e ⊢
  clear h hx
  have he := Lib.hid e
  clear e
  generalize hy : bits .or .u8 x 32 = y at he
  go_enter Tryd.func83, Tryd.ntmps83
  go_wp2
  go_ret
  have e := he.out
  subst e
  exact ⟨rfl, rfl⟩
set_option maxHeartbeats 4000000 in
set_option maxRecDepth 100000 in
theorem parse16_in (l : List UInt8) (h1 : 1 ≤ l.length) (h2 : l.length ≤ 16) (hl : ∀ c ∈ l, isDgt c) (w : World) :
    Calls Tryd.prog 70 #[.string (B l), .int .i64 16, .int .i64 64] w fun e w' => e = .returned (.tuple #[.int .u64 (hval l : Int), .nilIface]) ∧ Below w.heap.size w w' := by
  obtain ⟨t, ht⟩ : ∃ t, t = B l := ⟨_, rfl⟩
  have hsz : t.size = l.length := by rw [ht, size_B]
  have hemp : t.toList.isEmpty = false := by
    rw [ht, toList_B]
    cases l with
    | nil => simp at h1
    | cons c r => rfl
  have hcv := Lib.run_convert_string_bytes (P := Tryd.prog) w 9 57 5 t (u := .string) Tryd.underlying9 Tryd.underlying57 Tryd.underlying5
  have hB : ∀ j, j < t.size → (Lib.bytesWorld w 5 t).cell? ⟨w.heap.size, j, none⟩ = some (.int .u8 (l.getD j 0).toNat) := fun j hj => by
    have := Lib.bytesWorld_cell w 5 t j hj
    rw [ht, data_B, ← ht] at this
    exact this
  have hW := Lib.bytesWorld_below w 5 t
  rw [← ht]
  obtain ⟨W1, hW1⟩ : ∃ W1, W1 = Lib.bytesWorld w 5 t := ⟨_, rfl⟩
  rw [← hW1] at hcv hB hW
  clear hW1 ht
  have hmv : IntKind.u64.wrap (IntKind.u64.wrap 18446744073709551616 - 1) = 18446744073709551615 := by
    rw [IntKind.wrap_u64, IntKind.wrap_u64]
    decide
  have HZ := Lib.hid hsz
  have hs1 : 1 ≤ t.size := by omega
  have hs2 : t.size ≤ 16 := by omega
  clear hsz
  generalize hr : (hval l : Int) = r
  have HR := Lib.hid hr
  clear hr
  go_enter Tryd.func70, Tryd.ntmps70
  have HWB := Lib.hid hW
  clear hW
  go_wp2_with fail
  go_loop [12, 13, 101] (fun vu vn vi => ∃ (k : Nat) (a : Int), vu = .bool false ∧ vn = .int .u64 a ∧ vi = .int .i64 k ∧ k ≤ t.size ∧ Hid (a = (hval (l.take k) : Int)))
    (fun _ _ vi => t.size - (intOf vi).toNat)
  case atStart => exact ⟨0, 0, rfl, rfl, rfl, by omega, rfl⟩
  case round =>
    obtain ⟨k, a, rfl, rfl, rfl, hk, hh⟩ := hrel
    have ha := hh.out
    clear hh
    by_cases hkn : k < t.size
    · have hc := hB k hkn
      have hkl : k < l.length := by have := HZ.out; omega
      have hget : l.getD k 0 = l[k] := by simp [List.getD, List.getElem?_eq_getElem hkl]
      have hdg := hl l[k] (List.getElem_mem _)
      have hlt := hval_lt (l.take k) fun c hc => hl c (List.mem_of_mem_take hc)
      have hlt2 : hval (l.take k) < 16 ^ 15 := by
        refine Nat.lt_of_lt_of_le hlt (Nat.pow_le_pow_right (by decide) ?_)
        rw [List.length_take]; omega
      have hsn : hval (l.take (k + 1)) = hval (l.take k) * 16 + dgv l[k] := by
        rw [List.take_succ_eq_append_getElem hkl, hval_snoc]
      rw [hget] at hc
      generalize l[k] = c at hc hdg hsn
      have a0 : 0 ≤ a := by omega
      have a1 : a < 1152921504606846976 := by omega
      have hc256 : c.toNat < 256 := c.toNat_lt
      have LW := fun (w : World) (h : 97 ≤ c.toNat ∧ c.toNat ≤ 102) => lower_any c h w
      clear hB hget hlt hlt2 hl hkl h1 h2
      by_cases hdig : c.toNat ≤ 57
      · have hd0 : 48 ≤ c.toNat := by unfold isDgt at hdg; omega
        have HN : Hid (a * 16 + ((c.toNat : Int) - 48) = (hval (l.take (k + 1)) : Int)) := Lib.hid (by
          rw [hsn, ha]; unfold dgv; rw [if_pos hdig]; omega)
        clear hdg hsn ha LW
        go_wp2
        refine ⟨⟨k + 1, a * 16 + ((c.toNat : Int) - 48), rfl, (by first | rfl | (congr 1; omega)), (by first | rfl | (congr 1; omega)), by omega, HN⟩, by simp [intOf]; omega⟩
      · have hd0 : 97 ≤ c.toNat := by unfold isDgt at hdg; omega
        have hd1 : c.toNat ≤ 102 := by unfold isDgt at hdg; omega
        have HN : Hid (a * 16 + ((c.toNat : Int) - 97 + 10) = (hval (l.take (k + 1)) : Int)) := Lib.hid (by
          rw [hsn, ha]; unfold dgv; rw [if_neg hdig]; omega)
        clear hdg hsn ha
        go_wp2_with (go_at_call 83; refine (LW _ ⟨hd0, hd1⟩).mono ?_; rintro e w' ⟨rfl, rfl⟩)
        refine ⟨⟨k + 1, a * 16 + ((c.toNat : Int) - 97 + 10), rfl, (by first | rfl | (congr 1; omega)), (by first | rfl | (congr 1; omega)), by omega, HN⟩, by simp [intOf]; omega⟩
    · have hkk : k = t.size := by omega
      subst hkk
      have hF : a = r := by rw [ha, ← HR.out, HZ.out, List.take_length]
      subst hF
      clear hB ha hl
      go_wp2
      go_ret2
      exact ⟨rfl, HWB.out⟩
theorem parse16 (l : List UInt8) (h1 : 1 ≤ l.length) (h2 : l.length ≤ 16) (hl : ∀ c ∈ l, isDgt c) (w : World) :
    Calls Tryd.prog 52 #[.string (B l), .int .i64 16, .int .i64 64] w fun e w' => e = .returned (.tuple #[.int .u64 (hval l : Int), .nilIface]) ∧ Below w.heap.size w w' := by
  have PI := fun (w : World) => parse16_in l h1 h2 hl w
  generalize (hval l : Int) = r at PI ⊢
  generalize B l = t at PI ⊢
  clear h1 h2 hl
  go_enter Tryd.func52, Tryd.ntmps52
  go_wp2_with fail
  go_at_call 70
  refine (PI _).mono ?_
  rintro e w1 ⟨rfl, hb1⟩
  go_wp2
  go_ret2
  exact ⟨rfl, hb1⟩
end Go.Proofs.YtpjfhdbkkomogaaDoor.Mb
