/- Walks: a float told. -/
import Derived.Test.YtpjfhdbkkomogaaDoorWk
import Derived.Test.YtpjfhdbkkomogaaDoorMf
import Derived.Test.YtpjfhdbkkomogaaDoorKf
import Derived.Test.YtpjfhdbkkomogaaDoorLq
import Derived.RegionTactic
import Derived.BigRegion
import Derived.ChangeAlike
import Derived.LoopTactic
import Derived.Laws.IdiomStrings
import Derived.Laws.Bits64b
import Derived.Lib.ItoaMem
import Derived.KernelRfl
namespace Go.Proofs.YtpjfhdbkkomogaaDoor.Mb
open Go.RowKit Go.Proofs.YtpjfhdbkkomogaaDoorW.PrintWords Go.Proofs.YtpjfhdbkkomogaaDoorW.PrintLast Go.Proofs.YtpjfhdbkkomogaaDoorW.PrintMore Go.Proofs.YtpjfhdbkkomogaaDoor.Px Go.Proofs.YtpjfhdbkkomogaaDoor.Gvn
attribute [local go_sem] run_store_float

theorem tz_any (w : World) (h : Tabs w) : Calls Tryd.prog 79 #[.int .u64 16] w fun e w' => e = .returned (.int .i64 4) ∧ Below w.heap.size w w' := by
  obtain ⟨⟨e6, z6, h6⟩, _⟩ := h
  exact Ex.tz_calls w e6 z6 h6
/-- A number half told: its last digits lie in a row of 65. -/
structure At (w0 wr : World) (u v i : Nat) (l : List UInt8) (G : Nat → Int) : Prop where
  len : i + l.length = 65
  few : l.length ≤ 15
  fits : v * 16 ^ l.length ≤ u
  told : tell u = tell v ++ l
  cells : ∀ t, t < 65 → wr.cell? ⟨w0.heap.size, t, none⟩ = some (.int .u8 (G t))
  free : ∀ t, t < 65 → wr.frozen? ⟨w0.heap.size, t, none⟩ = false
  put : ∀ j (h : j < l.length), G (i + j) = (l[j].toNat : Int)
  below : Below w0.heap.size w0 wr
theorem zeros_at (t : Nat) (h : t < 65) : Tryd.zeroCells113[t]? = some (.int .u8 0) := by
  have e : Tryd.zeroCells113 = Array.replicate 65 (.int .u8 0) := by kernel_rfl
  rw [e, Array.getElem?_replicate, if_pos h]
theorem At.start {w w1 w2 : World} (hb1 : Below (w.alloc (.cells Tryd.zeroCells113 113)).heap.size (w.alloc (.cells Tryd.zeroCells113 113)) w1) (hb2 : Below w1.heap.size w1 w2) (u : Nat) : At w w2 u u 65 [] (fun _ => 0) := by
  have hb := hb1.trans (hb2.mono hb1.size)
  have hlt : w.heap.size < (w.alloc (.cells Tryd.zeroCells113 113)).heap.size := by simp
  refine ⟨rfl, by simp, by simp, by simp, fun t ht => ?_, fun t ht => ?_, fun j h => by simp at h, ((Below.refl w.heap.size w).alloc (Nat.le_refl _) _).trans (hb.mono (Nat.le_of_lt hlt))⟩
  · rw [hb.cell (p := ⟨w.heap.size, t, none⟩) hlt, World.cell?_alloc_new]
    exact zeros_at t ht
  · rw [hb.frozen (p := ⟨w.heap.size, t, none⟩) hlt]
    exact World.frozen?_alloc_new _ _ _ _
abbrev digs : ByteArray := ⟨#[48, 49, 50, 51, 52, 53, 54, 55, 56, 57, 97, 98, 99, 100, 101, 102, 103, 104, 105, 106, 107, 108, 109, 110, 111, 112, 113, 114, 115, 116, 117, 118, 119, 120, 121, 122]⟩
theorem digs_all : ∀ d, d < 16 → digs.data.toList[d]? = some (dgt d) := by decide
theorem digs_at (k : IntKind) (z : Int) (d : Nat) (hz : z = (d : Int)) (h : d < 16) (W : World) : (Instr.index 9 (.string digs) (.int k z)).run Tryd.prog W = .ok (.int .u8 ((dgt d).toNat : Int)) W := by
  subst hz
  have hs : digs.size = 36 := by kernel_rfl
  rw [run_index_string (P := Tryd.prog) (w := W) 9 digs k _ Tryd.underlying9, dif_pos ⟨by omega, by rw [hs]; omega⟩]
  have e := digs_all d h
  have h2 : ((d : Int)).toNat < digs.size := by rw [hs]; omega
  have e2 : digs[((d : Int)).toNat]'h2 = dgt d := by
    obtain ⟨h3, h4⟩ := List.getElem?_eq_some_iff.1 e
    rw [← h4]
    rfl
  rw [e2]
theorem and15w (v : Nat) (h : v < 18446744073709551616) : bits .and .u64 (v : Int) 15 = ((v % 16 : Nat) : Int) := by
  have := bits_and_u64_nat v 15 h (by decide)
  rw [show v &&& 15 = v % 16 from Nat.and_two_pow_sub_one_eq_mod v 4] at this
  exact this
theorem At.step {w0 wr : World} {u v m : Nat} {l : List UInt8} {G : Nat → Int} (h : At w0 wr u v (m + 1) l G) (h16 : 16 ≤ v) (h15 : l.length < 15) (g : UInt8) (hg : g = dgt (v % 16)) :
    At w0 (wr.setCell ⟨w0.heap.size, m, none⟩ (.int .u8 (g.toNat : Int))) u (v / 16) m (g :: l) (fun t => if t = m then (g.toNat : Int) else G t) := by
  have hm : m < 65 := by have := h.len; omega
  refine ⟨by have := h.len; rw [List.length_cons]; omega, by rw [List.length_cons]; omega, ?_, ?_, fun t ht => ?_, fun t ht => ?_, fun j hj => ?_, h.below.setCell (Nat.le_refl _) _⟩
  · have h1 : v / 16 * 16 * 16 ^ l.length ≤ v * 16 ^ l.length := Nat.mul_le_mul_right _ (by omega)
    have := h.fits
    rw [List.length_cons, Nat.pow_succ, Nat.mul_comm (16 ^ l.length) 16, ← Nat.mul_assoc]
    omega
  · rw [h.told, tell_big v (by omega), hg, List.append_assoc]
    rfl
  · by_cases e : t = m
    · subst e
      rw [if_pos rfl]
      exact World.cell?_setCell_same _ _ _ (h.cells t ht)
    · rw [if_neg e, World.cell?_setCell_other _ _ _ _ (by simp only [ne_eq, Addr.mk.injEq, true_and, and_true]; omega)]
      exact h.cells t ht
  · rw [World.frozen?_setCell]
    exact h.free t ht
  · cases j with
    | zero => simp
    | succ j =>
      have hj' : j < l.length := by simpa using hj
      have := h.put j hj'
      rw [if_neg (by omega), List.getElem_cons_succ, ← this]
      congr 1
      omega
set_option maxHeartbeats 1000000 in
set_option maxRecDepth 100000 in
theorem bits_any (u : Nat) (hu : u < 18446744073709551616) (w : World) (hw : Tabs w) :
    Calls Tryd.prog 63 #[.slice none 0 0, .int .u64 u, .int .i64 16, .bool false, .bool false] w fun e w' => e = .returned (.tuple #[.slice none 0 0, .string (B (tell u))]) ∧ Below w.heap.size w w' := by
  have TZ := fun (w : World) (h : Tabs w) => tz_any w h
  have PW := Ex.pow_calls
  generalize hr : B (tell u) = r
  have HR := Lib.hid hr
  clear hr
  go_enter Tryd.func63, Tryd.ntmps63
  go_wp2_with fail
  go_at_call 78
  refine (PW _).mono ?_
  rintro e w1 ⟨rfl, hb1⟩
  go_wp2_with fail
  go_at_call 79
  refine (TZ _ ?_).mono ?_
  · exact (hw.mono ((Below.refl w.heap.size w).alloc (Nat.le_refl _) _)).mono hb1
  rintro e w2 ⟨rfl, hb2⟩
  have HA := Lib.hid (At.start hb1 hb2 u)
  clear hb1 hb2 hw TZ PW
  go_wp2_with fail
  go_loopw [1, 13] (fun cu ci wr => ∃ (v i : Nat) (l : List UInt8) (G : Nat → Int), cu = .int .u64 v ∧ ci = .int .i64 i ∧ Hid (At w wr u v i l G)) (fun cu _ _ => (intOf cu).toNat)
  case atStart => exact ⟨u, 65, [], _, rfl, rfl, HA⟩
  case round =>
    obtain ⟨v, i, l, G, rfl, rfl, HI⟩ := hrel
    rename World => wr
    clear HA
    have hfit := HI.out.fits
    have hlen := HI.out.len
    have hvu : v ≤ u := Nat.le_trans (Nat.le_mul_of_pos_right _ (Nat.pow_pos (by decide))) hfit
    by_cases h16 : 16 ≤ v
    · have hl15 : l.length < 15 := by
        apply Nat.lt_of_not_le
        intro h
        have h1 : 16 ^ 15 ≤ 16 ^ l.length := Nat.pow_le_pow_right (by decide) h
        have h2 : 16 * 16 ^ 15 ≤ v * 16 ^ l.length := Nat.mul_le_mul h16 h1
        omega
      obtain ⟨m, rfl⟩ : ∃ m, i = m + 1 := ⟨i - 1, by omega⟩
      have hc := HI.out.cells
      have hf := HI.out.free
      have hm : m < 65 := by omega
      obtain ⟨g, hg⟩ : ∃ g : UInt8, g = dgt (v % 16) := ⟨_, rfl⟩
      have hix : ∀ W, (Instr.index 9 (.string digs) (.int .u64 (bits .and .u64 (v : Int) 15))).run Tryd.prog W = .ok (.int .u8 (g.toNat : Int)) W := fun W => by
        rw [hg]
        exact digs_at _ _ _ (and15w v (by omega)) (Nat.mod_lt _ (by decide)) W
      have HS := Lib.hid (HI.out.step h16 hl15 g hg)
      clear hg hlen hfit hl15 HI
      go_wp2
      go_roundw
      case rel => exact ⟨v / 16, m, g :: l, _, by simp, rfl, HS⟩
      case measure => simp [intOf]; omega
    · obtain ⟨m, rfl⟩ : ∃ m, i = m + 1 := ⟨i - 1, by have := HI.out.few; omega⟩
      have hc := HI.out.cells
      have hf := HI.out.free
      have hm : m < 65 := by omega
      obtain ⟨g, hg⟩ : ∃ g : UInt8, g = dgt v := ⟨_, rfl⟩
      have hix : ∀ W, (Instr.index 9 (.string digs) (.int .u64 (v : Int))).run Tryd.prog W = .ok (.int .u8 (g.toNat : Int)) W := fun W => by
        rw [hg]
        exact digs_at _ _ _ rfl (by omega) W
      have hal : Tryd.prog.arrayLen 113 = 65 := by kernel_rfl
      have hlm : 65 - m = l.length + 1 := by omega
      have hsl : ∀ W, (Instr.sliceAt 113 (.pointer (some ⟨w.heap.size, 0, none⟩)) (some (.int .i64 (m : Int))) none none).run Tryd.prog W = .ok (.slice (some ⟨w.heap.size, m, none⟩) (l.length + 1) (l.length + 1)) W := fun W => by
        rw [run_sliceAt_array_l W 113 ⟨w.heap.size, 0, none⟩ (by kernel_rfl) .i64 (m : Int) (by omega) (by rw [hal]; omega)]
        rw [hal]
        go_simp
        omega
      have hcv : (convert 57 9 (.slice (some ⟨w.heap.size, m, none⟩) (l.length + 1) (l.length + 1))).run Tryd.prog (wr.setCell ⟨w.heap.size, m, none⟩ (.int .u8 (g.toNat : Int))) = .ok (.string r) (wr.setCell ⟨w.heap.size, m, none⟩ (.int .u8 (g.toNat : Int))) := by
        have h := run_convert_bytes_back (P := Tryd.prog) (wr.setCell ⟨w.heap.size, m, none⟩ (.int .u8 (g.toNat : Int))) 57 9 5 ⟨w.heap.size, m, none⟩ (l.length + 1) (g :: l) Tryd.underlying57 Tryd.underlying5 Tryd.underlying9 (fun j hj => by
          rw [Lib.add_plain]
          cases j with
          | zero => exact World.cell?_setCell_same _ _ _ (hc m (by omega))
          | succ j =>
            have hj' : j < l.length := by simpa using hj
            have := HI.out.put j hj'
            rw [World.cell?_setCell_other _ _ _ _ (by simp), List.getElem_cons_succ, ← this, show m + 1 + j = m + (j + 1) by omega]
            exact hc _ (by omega))
        have e : (⟨(g :: l).toArray⟩ : ByteArray) = r := by
          rw [← HR.out, HI.out.told, hg, tell_small v (by omega)]
          rfl
        rw [e] at h
        exact h
      have HB : Hid (Below w.heap.size w (wr.setCell ⟨w.heap.size, m, none⟩ (.int .u8 (g.toNat : Int)))) := Lib.hid (HI.out.below.setCell (Nat.le_refl _) _)
      clear hg hlen hfit HI hlm hal
      go_wp2
      refine bodyPost_ret (v := .tuple #[.slice none 0 0, .string r]) (by simp [results, Tryd.results63, go_sem]) rfl ⟨rfl, HB.out⟩
end Go.Proofs.YtpjfhdbkkomogaaDoor.Mb
