/- A hash index's search of its chains for a key whose hash is unknown: where it differs from all keys there, none is found. -/
import Derived.Test.YtpbfiddnnpmblaaGreatDoorProg
import Derived.Test.YtpbfiddnnpmblaaGreatDoorEx5
import Derived.Tactics
import Derived.Tactics2
import Derived.WalkKit
import Derived.RowKit
import Derived.Deep.RegionHeld3
import Derived.Deep.DeepCutAuto
import Derived.KernelRfl
namespace Go.Proofs.YtpbfiddnnpmblaaGreatDoor.Fw
open Go.RowKit Go.Ex

/-- A callee's answer, taken apart only where it is wanted. -/
def HashPost (w : World) (e : Ending) (w' : World) : Prop := ∃ H : Int, e = .returned (.int .u64 H) ∧ Below w.heap.size w w'

theorem cell_below {w w1 : World} (hb : Below w.heap.size w w1) {a : Addr} {v : Value} (h : w.cell? a = some v) : w1.cell? a = some v := by
  have hlt : a.block < w.heap.size := by
    unfold World.cell? at h
    split at h
    · rename_i hh; exact (Array.getElem?_eq_some_iff.1 hh).1
    · cases h
  unfold World.cell?
  rw [hb.block _ hlt]
  exact h
theorem obj_below {w w1 : World} (hb : Below w.heap.size w w1) {R : Nat} {o : Obj} (h : w.heap[R]? = some o) : w1.heap[R]? = some o := by
  rw [hb.block _ (Array.getElem?_eq_some_iff.1 h).1]; exact h

/-- What a lookup comes to in a map of at most one entry. -/
theorem look1 {w : World} {R cl : Nat} {es : Array MapEntry} (hR : w.heap[R]? = some (.map es cl)) (H : Int)
    (hes : es.toList = [] ∨ ∃ (e : MapEntry) (K0 : Int) (a : Option Addr) (l c : Nat), es.toList = [e] ∧ e.key = .int .u64 K0 ∧ e.val = .slice a l c) :
    ∃ p : Option Addr × Nat × Nat, (∀ w1, Below w.heap.size w w1 → Sem.run Tryz.prog (Instr.lookup 269 (.map (some R)) (.int .u64 H) false) w1 = .ok (.slice p.1 p.2.1 p.2.2) w1) ∧
      (p = (none, 0, 0) ∨ ∃ e, es.toList = [e] ∧ e.val = .slice p.1 p.2.1 p.2.2) := by
  have hu : Tryz.prog.underlying 269 = some (.map 186 273) := by kernel_rfl
  have hud : Tryz.prog.underlying 186 = some (.int .u64) := by kernel_rfl
  have hz : ∀ w, (zeroValue 273).run Tryz.prog w = .ok (.slice none 0 0) w := fun w => by
    have : zeroV Tryz.prog 273 = some (.slice none 0 0) := by kernel_rfl
    exact (zeroV_spec this).2 w
  have hget : ∀ w1, Below w.heap.size w w1 → (getObj R).run Tryz.prog w1 = .ok (.map es cl) w1 := fun w1 hb => by simp [getObj, Sem.run, obj_below hb hR]
  have hk : keyOk Tryz.prog 186 (.int .u64 H) = some (.int .u64) := by unfold keyOk; rw [hud]
  have hck := (keyOk_spec hk).2.2
  obtain ⟨es⟩ := es
  rcases hes with rfl | ⟨e, K0, a, l, c, rfl, he, hv⟩
  · refine ⟨(none, 0, 0), fun w1 hb => ?_, .inl rfl⟩
    simp only [Instr.lookup, Sem.run_bind, run_underlying hu, Result.andThen_ok, hget w1 hb, Sem.run_pure, hck, Instr.findKey, run_underlying hud, Instr.findNow, hz]
    rfl
  · by_cases hHK : H = K0
    · refine ⟨(a, l, c), fun w1 hb => ?_, .inr ⟨e, rfl, hv⟩⟩
      have hs : Instr.findNow (.int .u64) (.int .u64 H) [e] 0 = some (some (0, e.val)) := by simp [Instr.findNow, he, Instr.sameNow, hHK]
      simp only [Instr.lookup, Sem.run_bind, run_underlying hu, Result.andThen_ok, hget w1 hb, Sem.run_pure, hck, Instr.findKey, run_underlying hud, hs]
      rw [hv]
      rfl
    · refine ⟨(none, 0, 0), fun w1 hb => ?_, .inl rfl⟩
      have hs : Instr.findNow (.int .u64) (.int .u64 H) [e] 0 = some none := by
        have : (H == K0) = false := by simpa using hHK
        simp [Instr.findNow, he, Instr.sameNow, this]
      simp only [Instr.lookup, Sem.run_bind, run_underlying hu, Result.andThen_ok, hget w1 hb, Sem.run_pure, hck, Instr.findKey, run_underlying hud, hs, hz]
      rfl

theorem below_drewF {n : Nat} {w w1 : World} (hb : Below n w w1) : Below n w w1.drew := Ex.Same.below hb (Ex.Same.drew w1)
theorem below_hash {w w1 w2 : World} (hb : Below w.heap.size w w1) (h : Below w1.heap.size w1 w2) : Below w.heap.size w w2 := hb.trans (h.mono hb.size)

set_option maxHeartbeats 1000000 in
set_option maxRecDepth 100000 in
theorem find_walk (w : World) (xb R : Nat) (key : Value) (es : Array MapEntry) (cl : Nat) (hx : w.cell? ⟨xb, 1, none⟩ = some (.map (some R))) (hR : w.heap[R]? = some (.map es cl))
    (hes : es.toList = [] ∨ ∃ (e : MapEntry) (K0 : Int) (A o cap C : Nat) (kv : Value), es.toList = [e] ∧ e.key = .int .u64 K0 ∧ e.val = .slice (some ⟨A, o, none⟩) 1 cap ∧ w.cell? ⟨A, o, none⟩ = some (.pointer (some ⟨C, 0, none⟩)) ∧
      w.cell? ⟨C, 0, none⟩ = some kv ∧ ∀ w1, Below w.heap.size w w1 → Calls Tryz.prog 131 #[kv, key] w1 fun e w' => ∃ z : Int, e = .returned (.int .i64 z) ∧ z ≠ 0 ∧ Below w1.heap.size w1 w')
    (hH : ∀ w1, Below w.heap.size w w1 → Calls Tryz.prog 169 #[key] w1 (HashPost w1)) :
    Calls Tryz.prog 156 #[.pointer (some ⟨xb, 0, none⟩), key] w fun e w' => e = .returned (.pointer none) ∧ Below w.heap.size w w' := by
  go_enter Tryz.func156, Tryz.ntmps156
  go_wp2_with fail
  have L := fun (H : Int) => look1 hR H (hes.imp id fun ⟨e, K0, A, o, cap, _, _, h1, h2, h3, _⟩ => ⟨e, K0, _, _, _, h1, h2, h3⟩)
  obtain ⟨p, hp⟩ := Classical.axiomOfChoice L
  clear L
  have hb0 : Below w.heap.size w w := Below.refl _ _
  go_region_held3 (fun w' => w'.cell? ⟨xb, 1, none⟩ = some (.map (some R)) ∧ Below w.heap.size w w') (first | exact ⟨hx, below_drewF hb0⟩ | assumption | exact ⟨hx2, hb2⟩)
    (first | (rw [(hp H).1 _ hb2]; go_simp) | (go_at_call 169; refine (hH _ ?_).mono ?_; (first | assumption | exact below_drewF hb0); rintro e w1 ⟨H, rfl, hb1⟩; have hb2 := below_hash (below_drewF hb0) hb1; have hx2 := cell_below hb2 hx))
  have hq := (hp H).2
  clear hp hx2
  generalize p H = q at hq ⊢
  rcases hq with rfl | ⟨e, he1, he2⟩
  · go_wp2_with fail
    refine wp_loop_rounds 1 ?_
    rw [rounds_succ]
    go_wp2_with fail
    go_ret
    exact ⟨rfl, hb2⟩
  · rcases hes with hes | ⟨e', K0, A, o, cap, C, kv, h1, h2, h3, h4, h5, hr⟩
    · rw [hes] at he1; cases he1
    rw [h1] at he1
    cases he1
    rw [h3] at he2
    obtain ⟨q1, q2, q3⟩ := q
    cases he2
    have h4' := cell_below hb2 h4
    have h5' := cell_below hb2 h5
    go_wp2_with fail
    refine wp_loop_rounds 2 ?_
    rw [rounds_succ]
    go_wp2_with fail
    refine (hr w1 hb2).mono ?_
    rintro x w2 ⟨z, rfl, hz, hb3⟩
    have hz' : (z == 0) = false := by simpa using hz
    go_wp2_with fail
    rw [rounds_succ]
    go_wp2_with fail
    go_ret
    exact ⟨rfl, below_hash hb2 hb3⟩

theorem findC : FindC Tryz.prog 156 169 131 where
  enters := enters_body (by kernel_rfl)
  entersH := enters_body (by kernel_rfl)
  entersR := enters_body (by kernel_rfl)
  gives := fun w xb R key es cl hx hR hes hH => find_walk w xb R key es cl hx hR hes hH
end Go.Proofs.YtpbfiddnnpmblaaGreatDoor.Fw
