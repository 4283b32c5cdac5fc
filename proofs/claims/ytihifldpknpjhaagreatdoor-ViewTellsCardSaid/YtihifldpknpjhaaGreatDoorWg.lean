/- The mark that a Fault bears: by a run. -/
import Derived.Test.YtihifldpknpjhaaGreatDoorWf
namespace Go.Ex
noncomputable section
open Go.RowKit (Below)
open Go.Proofs

theorem vr_num {m : Mp} {a : Int} (hd : m.dom 0) (he : m.esz 0 = (a + 9223372036854775808).toNat) (h : -9223372036854775808 ≤ a ∧ a ≤ 9223372036854775807) : VR m (.complex .f32 0 3) (.int .i64 a) := by
  have e : Int.ofNat (m.esz 0) - 9223372036854775808 = a := by
    rw [he]
    show ((a + 9223372036854775808).toNat : Int) - _ = a
    omega
  have := VR.symo (m := m) .i64 0 3 rfl (by
    rw [e]
    have h7 : IntKind.i64.min = -9223372036854775808 := by decide
    have h8 : IntKind.i64.max = 9223372036854775807 := by decide
    rw [h7, h8]; exact h) (.inl rfl) (fun i hi => ⟨by rw [Nat.le_zero.1 hi]; exact hd, fun hl => absurd hl (by omega)⟩)
  rwa [e] at this
theorem vr_num_inv {m : Mp} {a : Int} (he : m.esz 0 = (a + 9223372036854775808).toNat) (h : -9223372036854775808 ≤ a) {v : Value} (hv : VR m (.complex .f32 0 3) v) : v = .int .i64 a := by
  cases hv with
  | symo k b c hk =>
    have : k = .i64 := kcode_inj (by rw [hk]; rfl)
    subst this
    rw [he]
    congr 1
    show ((a + 9223372036854775808).toNat : Int) - _ = a
    omega

def num64 : Value := .complex .f32 0 3
def numTest (v : Value) (_ : T AO) (_ : Nat) : Bool := veq 4 v num64
theorem struckBody : (bodyOf Tryz.prog 12).isSome = true := by kernel_rfl
theorem struckRun1 : enterK Tryz.prog 64 (execF Tryz.prog 64 4000) 12 [.iface 83 (.pointer (some ⟨64, 0, none⟩))]
    (layH [(0, [hndl 193 3 36])] [.cells 2 [.string ⟨#[]⟩, .iface 38 (.pointer (some ⟨65, 0, none⟩)), .nilIface] 88 3, .cells 2 [num64] 40 1] 64) 66 numTest = true := by kernel_rfl
theorem struckRun2 : enterK Tryz.prog 64 (execF Tryz.prog 64 4000) 12 [.iface 83 (.pointer (some ⟨64, 0, none⟩))]
    (layH [(0, [hndl 193 3 36])] [.cells 2 [.string ⟨#[]⟩, .nilIface, .iface 3 num64] 88 3] 64) 65 numTest = true := by kernel_rfl

/-- A Fault that bears a number, by an error or by a panic. -/
def IsFault (w : World) (fb : Nat) (a : Int) : Prop :=
  (∃ mb, w.heap[fb]? = some (.cells #[.string ⟨#[]⟩, .iface 38 (.pointer (some ⟨mb, 0, none⟩)), .nilIface] 88 (0, 0)) ∧ w.heap[mb]? = some (.cells #[.int .i64 a] 40 (0, 0)) ∧ mb ≠ 0) ∨
  w.heap[fb]? = some (.cells #[.string ⟨#[]⟩, .nilIface, .iface 3 (.int .i64 a)] 88 (0, 0))

theorem struck (w : World) (fb : Nat) (a : Int) (hr : -9223372036854775808 ≤ a ∧ a ≤ 9223372036854775807) (hE : ErrT w) (h0 : fb ≠ 0) (hf : IsFault w fb a) :
    Calls Tryz.prog 12 #[.iface 83 (.pointer (some ⟨fb, 0, none⟩))] w fun e w' => e = .returned (.int .i64 a) ∧ Below w.heap.size w w' := by
  have fin : ∀ {bs : List Nat} {m' : Mp} {v v' : Value} {w' : World}, (mL 64 bs (fun _ => 0) (fun _ => (a + 9223372036854775808).toNat) (fun _ => .nilIface)).le m' → VR m' v v' → veq 4 v num64 = true → BelowS (allB w) w w' → v' = .int .i64 a ∧ Below w.heap.size w w' := by
    intro bs m' v v' w' hle hv hk hB
    obtain rfl := veq_eq _ _ _ hk
    refine ⟨vr_num_inv (m := m') ?_ hr.1 hv, ⟨hB.os, hB.tape, hB.output, hB.size, hB.block⟩⟩
    exact (hle 0 (Nat.lt_of_lt_of_le (by decide) (Nat.le_add_right 64 _))).2.2.2.1
  rcases hf with ⟨mb, h1, h2, h3⟩ | h1
  · have hne : fb ≠ mb := Go.Proofs.YtihifldpknpjhaaGreatDoor.Wk.blk_ne h1 h2 (by decide)
    refine (callLay (B := allB w) (bs := [fb, mb]) (cap := fun _ => 0) (es := fun _ => (a + 9223372036854775808).toNat) (vs := fun _ => .nilIface) (args' := [.iface 83 (.pointer (some ⟨fb, 0, none⟩))]) mixedOrders struckBody struckRun1 (Nat.le_refl _) (glErr hE _ _ _ _) ?_ ?_ ?_ ?_ ?_).mono ?_
    · refine ⟨⟨⟨rfl, fun h => by cases h⟩, _, h1, .ro _ _ _ _ _ _ ⟨.string _, .iface _ _ _ (vr_ptr (mL_dom 64 _ _ _ _ (i := 1) rfl) (mL_mu 64 _ _ _ _ (i := 1) rfl)), .nilIface, trivial⟩ ?_⟩, ⟨⟨rfl, fun h => by cases h⟩, _, h2, .ro _ _ _ _ _ _ ⟨vr_num (Nat.lt_of_lt_of_le (by decide) (Nat.le_add_right 64 _)) rfl hr, trivial⟩ ?_⟩, trivial⟩
      · intro v hv; simp at hv; rcases hv with rfl | rfl | rfl <;> rfl
      · intro v hv; simp at hv; subst hv; rfl
    · simp [hne]
    · intro x hx
      obtain rfl := List.mem_singleton.1 hx
      simp [h0.symm, h3.symm]
    · exact ⟨.iface _ _ _ (vr_ptr (mL_dom 64 _ _ _ _ (i := 0) rfl) (mL_mu 64 _ _ _ _ (i := 0) rfl)), trivial⟩
    · intro v h n; rfl
    · rintro e w' ⟨v, v', m', h', n', rfl, hle, hv, hk, hB, -⟩
      obtain ⟨rfl, hb⟩ := fin hle hv hk hB
      exact ⟨rfl, hb⟩
  · refine (callLay (B := allB w) (bs := [fb]) (cap := fun _ => 0) (es := fun _ => (a + 9223372036854775808).toNat) (vs := fun _ => .nilIface) (args' := [.iface 83 (.pointer (some ⟨fb, 0, none⟩))]) mixedOrders struckBody struckRun2 (Nat.le_refl _) (glErr hE _ _ _ _) ?_ ?_ ?_ ?_ ?_).mono ?_
    · refine ⟨⟨⟨rfl, fun h => by cases h⟩, _, h1, .ro _ _ _ _ _ _ ⟨.string _, .nilIface, .iface _ _ _ (vr_num (Nat.lt_of_lt_of_le (by decide) (Nat.le_add_right 64 _)) rfl hr), trivial⟩ ?_⟩, trivial⟩
      intro v hv; simp at hv; rcases hv with rfl | rfl | rfl <;> rfl
    · simp
    · intro x hx
      obtain rfl := List.mem_singleton.1 hx
      simp [h0.symm]
    · exact ⟨.iface _ _ _ (vr_ptr (mL_dom 64 _ _ _ _ (i := 0) rfl) (mL_mu 64 _ _ _ _ (i := 0) rfl)), trivial⟩
    · intro v h n; rfl
    · rintro e w' ⟨v, v', m', h', n', rfl, hle, hv, hk, hB, -⟩
      obtain ⟨rfl, hb⟩ := fin hle hv hk hB
      exact ⟨rfl, hb⟩
end
end Go.Ex
