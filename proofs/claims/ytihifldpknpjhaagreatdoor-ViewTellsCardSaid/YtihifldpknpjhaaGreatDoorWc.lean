/- hook.Run's deferred closure. -/
import Derived.Test.YtihifldpknpjhaaGreatDoorWb
import Derived.Defers
import Derived.Recover
import Derived.Laws.Pointers
namespace Go.Proofs.YtihifldpknpjhaaGreatDoor.Wk
open Go.RowKit

theorem ta_nil (w : World) : (Instr.typeAssert .nilIface 20 206 true).run Tryz.prog w = .ok (.tuple #[.agg #[], .bool false]) w := by kernel_rfl
theorem ta_oth (t : TypeId) (v : Value) (ht : t ≠ 206) (w : World) : (Instr.typeAssert (.iface t v) 20 206 true).run Tryz.prog w = .ok (.tuple #[.agg #[], .bool false]) w := by
  have h := Tryz.zeroValue206
  simp only [Instr.typeAssert, Sem.run_bind, run_underlying Tryz.underlying206, Result.andThen_ok, if_neg ht, if_true, h, Sem.run_pure]

theorem frame_eq {P : Program} {c : Code} {Q : Exit → Act → World → Prop} {ds : List Deferred} {w : World} {T T' : Array Value} (h : T = T') (k : Code.wp P c Q ⟨T', ds⟩ w) : Code.wp P c Q ⟨T, ds⟩ w := h ▸ k

set_option maxHeartbeats 1000000 in
set_option maxRecDepth 100000 in
theorem catch_idle (a b c : Nat) (w : World) (hc : w.heap[c]? = some (.cells #[.bool true] 4 (0, 0))) :
    CallsD Tryz.prog 81 #[.pointer (some ⟨a, 0, none⟩), .pointer (some ⟨b, 0, none⟩), .pointer (some ⟨c, 0, none⟩)] .returning w fun e u' w' => e = .returned (.tuple #[]) ∧ u' = .returning ∧ Below w.heap.size w w' := by
  have cc := cell_of_one hc
  have lc := lt_of_block hc
  refine callsD_of_wpS Tryz.func81 rfl fun c₀ cs hu => ?_
  apply wpS_seq
  apply wpS_region
  simp [wpOpsS, go_sem, recoverD, hu, Tryz.ntmps81, Exit.thenS]
  refine wpS_of_wp ?_
  refine frame_eq (T' := #[.pointer (some ⟨a, 0, none⟩), .pointer (some ⟨b, 0, none⟩), .pointer (some ⟨c, 0, none⟩), .nilIface, undef, undef, .nilIface, undef, undef, undef, undef, undef, undef, undef, undef, undef, undef, undef, undef, undef, undef, undef, undef, undef, undef, undef, undef]) (by kernel_rfl) ?_
  have tn := ta_nil
  go_wp2_with fail
  refine ⟨rfl, .returning, ?_, .tuple #[], results_none rfl _ _ _, rfl, rfl, below_alloc _ _⟩
  cases c₀
  simp_all

/-- One block turned, the others as they were. -/
structure One (b : Nat) (w w' : World) : Prop where
  os : w'.os = w.os
  tape : w'.tape = w.tape
  output : w'.output = w.output
  size : w.heap.size ≤ w'.heap.size
  block : ∀ i, i < w.heap.size → i ≠ b → w'.heap[i]? = w.heap[i]?

set_option maxHeartbeats 1000000 in
set_option maxRecDepth 100000 in
theorem catch_panic (a b c : Nat) (W : ByteArray) (t : TypeId) (x : Value) (older : List PanicEntry) (w : World) (ht : t ≠ 206) (ha : w.heap[a]? = some (.cells #[.string W] 9 (0, 0))) (hb : w.heap[b]? = some (.cells #[.nilIface] 36 (0, 0))) (hc : w.heap[c]? = some (.cells #[.bool false] 4 (0, 0))) :
    CallsD Tryz.prog 81 #[.pointer (some ⟨a, 0, none⟩), .pointer (some ⟨b, 0, none⟩), .pointer (some ⟨c, 0, none⟩)] (.panicking ({ v := .iface t x, recovered := false } :: older)) w fun e u' w' =>
      e = .returned (.tuple #[]) ∧ u' = .panicking ({ v := .iface t x, recovered := true } :: older) ∧ One b w w' ∧ ∃ fb, w.heap.size ≤ fb ∧ w'.heap[b]? = some (.cells #[.iface 83 (.pointer (some ⟨fb, 0, none⟩))] 36 (0, 0)) ∧ w'.heap[fb]? = some (.cells #[.string W, .nilIface, .iface t x] 88 (0, 0)) := by
  have ca := cell_of_one ha
  have cb := cell_of_one hb
  have fb := free_of_one hb
  have cc := cell_of_one hc
  have la := lt_of_block ha
  have lb := lt_of_block hb
  have lc := lt_of_block hc
  refine callsD_of_wpS Tryz.func81 rfl fun c₀ cs hu => ?_
  apply wpS_seq
  apply wpS_region
  simp [wpOpsS, go_sem, recoverD, hu, Tryz.ntmps81, Exit.thenS]
  refine wpS_of_wp ?_
  refine frame_eq (T' := #[.pointer (some ⟨a, 0, none⟩), .pointer (some ⟨b, 0, none⟩), .pointer (some ⟨c, 0, none⟩), .iface t x, undef, undef, .iface t x, undef, undef, undef, undef, undef, undef, undef, undef, undef, undef, undef, undef, undef, undef, undef, undef, undef, undef, undef, undef])  (by kernel_rfl) ?_
  have tn := ta_oth t x ht
  go_wp2_with fail
  refine ⟨rfl, _, rfl, .tuple #[], results_none rfl _ _ _, rfl, rfl, ?_, w.heap.size + 1, Nat.le_succ _, ?_, ?_⟩
  · refine ⟨rfl, rfl, rfl, ?_, fun i hi hne => ?_⟩
    · simp
      omega
    · rw [Below.heap_alloc _ _ _ (by simp; omega), Below.heap_alloc _ _ _ (by simpa using hi), Below.heap_setCell _ _ _ _ hne]
  · rw [Below.heap_alloc _ _ _ (by simp; omega), Below.heap_alloc _ _ _ (by simpa using lb)]
    exact one_setCell hb
  · have := heap_alloc_new ((w.setCell ⟨b, 0, none⟩ (.iface 83 (.pointer (some ⟨w.heap.size + 1, 0, none⟩)))).alloc (.cells #[] 206)) (.cells #[.string W, .nilIface, .iface t x] 88)
    simpa using this
end Go.Proofs.YtihifldpknpjhaaGreatDoor.Wk
