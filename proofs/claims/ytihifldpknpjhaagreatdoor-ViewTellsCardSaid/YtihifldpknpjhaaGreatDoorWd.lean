/- hook.Run. -/
import Derived.Test.YtihifldpknpjhaaGreatDoorWc
namespace Go.Proofs.YtihifldpknpjhaaGreatDoor.Wk
open Go.RowKit

/-- The world in which the user's code is called: three variables more. -/
def RunW (W : ByteArray) (w : World) : World := ((w.alloc (.cells #[.string W] 9)).alloc (.cells #[.nilIface] 36)).alloc (.cells #[.bool false] 4)

/-- What Run makes of how it ended. -/
def Told (W : ByteArray) (_n0 : Nat) (e2 : Ending) (w2 : World) (e : Ending) (w' : World) : Prop :=
  (e2 = .returned .nilIface ∧ e = .returned .nilIface) ∨
  (∃ t x fb, e2 = .returned (.iface t x) ∧ e = .returned (.iface 83 (.pointer (some ⟨fb, 0, none⟩))) ∧ w2.heap.size ≤ fb ∧ w'.heap[fb]? = some (.cells #[.string W, .iface t x, .nilIface] 88 (0, 0))) ∨
  (∃ t x fb, e2 = .panicked [{ v := .iface t x, recovered := false }] ∧ t ≠ 206 ∧ e = .returned (.iface 83 (.pointer (some ⟨fb, 0, none⟩))) ∧ w2.heap.size ≤ fb ∧ w'.heap[fb]? = some (.cells #[.string W, .nilIface, .iface t x] 88 (0, 0)))

theorem func_nil (F : FuncId) (cap : Array Value) (w : World) : Sem.run Tryz.prog (binOp .eql 143 (.func (.func F) #[] cap) .nilFunc) w = .ok (.bool false) w := by kernel_rfl
theorem func_nil75 (F : FuncId) (cap : Array Value) (w : World) : Sem.run Tryz.prog (binOp .eql 75 (.func (.func F) #[] cap) .nilFunc) w = .ok (.bool false) w := by kernel_rfl

/-- Behind it two variables of Run's own have turned. -/
structure Aft (n0 : Nat) (w w' : World) : Prop where
  os : w'.os = w.os
  tape : w'.tape = w.tape
  output : w'.output = w.output
  size : w.heap.size ≤ w'.heap.size
  block : ∀ i, i < w.heap.size → i ≠ n0 + 1 → i ≠ n0 + 2 → w'.heap[i]? = w.heap[i]?
theorem Aft.refl (n0 : Nat) (w : World) : Aft n0 w w := ⟨rfl, rfl, rfl, Nat.le_refl _, fun _ _ _ _ => rfl⟩
theorem Aft.ext {n0 : Nat} {w w1 w2 : World} (h : Aft n0 w w1) (h2 : Below w1.heap.size w1 w2) : Aft n0 w w2 :=
  ⟨h2.os.trans h.os, h2.tape.trans h.tape, h2.output.trans h.output, Nat.le_trans h.size h2.size, fun b hb a c => (h2.block b (Nat.lt_of_lt_of_le hb h.size)).trans (h.block b hb a c)⟩
theorem Aft.set {n0 : Nat} {w w1 : World} (h : Aft n0 w w1) {a : Addr} (u : Value) (ha : a.block = n0 + 1 ∨ a.block = n0 + 2) : Aft n0 w (w1.setCell a u) :=
  ⟨h.os, h.tape, h.output, by have := h.size; simpa using this, fun b hb h1 h2 => by rw [Below.heap_setCell _ _ _ _ (by omega)]; exact h.block b hb h1 h2⟩

set_option maxHeartbeats 1000000 in
set_option maxRecDepth 100000 in
theorem run (W : ByteArray) (F : FuncId) (cap : Array Value) (w : World) (R : Ending → World → Prop) (hent : ∀ w, (callFunc F cap).run Tryz.prog w = .ok (.enter F cap) w)
    (hF : Calls Tryz.prog F cap (RunW W w) fun e2 w2 => R e2 w2 ∧ w2.heap[w.heap.size]? = some (.cells #[.string W] 9 (0, 0)) ∧ w2.heap[w.heap.size + 1]? = some (.cells #[.nilIface] 36 (0, 0)) ∧ w2.heap[w.heap.size + 1 + 1]? = some (.cells #[.bool false] 4 (0, 0)) ∧
      (e2 = .returned .nilIface ∨ (∃ t x, e2 = .returned (.iface t x)) ∨ ∃ t x, e2 = .panicked [{ v := .iface t x, recovered := false }] ∧ t ≠ 206)) :
    Calls Tryz.prog 51 #[.string W, .func (.func F) #[] cap] w fun e w' => ∃ e2 w2, R e2 w2 ∧ Aft w.heap.size w2 w' ∧ Told W w.heap.size e2 w2 e w' := by
  have hmf : ∀ (fn : Fn) (first cap : Array Value) (w : World), (Instr.makeFunc fn first cap).run Tryz.prog w = .ok (.func fn first cap) w := fun _ _ _ _ => rfl
  have hfn := func_nil F cap
  go_enter_defers Tryz.func51, Tryz.ntmps51
  go_wp2_with fail
  refine hF.mono ?_
  have n1 : w.heap.size + 1 ≠ w.heap.size + 1 + 1 := by omega
  have n2 : w.heap.size + 1 + 1 ≠ w.heap.size + 1 := by omega
  have n3 : w.heap.size ≠ w.heap.size + 1 := by omega
  have n4 : w.heap.size ≠ w.heap.size + 1 + 1 := by omega
  rintro e2 w2 ⟨hR, ha, hb, hc, rfl | ⟨t, x, rfl⟩ | ⟨t, x, rfl, ht⟩⟩
  · have cb := cell_of_one hb
    have fb := free_of_one hb
    have cc := cell_of_one hc
    have fc := free_of_one hc
    go_wp2_with fail
    refine leaves_cons (f := 81) (args := #[.pointer (some ⟨w.heap.size, 0, none⟩), .pointer (some ⟨w.heap.size + 1, 0, none⟩), .pointer (some ⟨w.heap.size + 1 + 1, 0, none⟩)]) (by simp) (by simp [go_sem]) ?_
    have hc' : ((w2.setCell ⟨w.heap.size + 1 + 1, 0, none⟩ (.bool true)).setCell ⟨w.heap.size + 1, 0, none⟩ .nilIface).heap[w.heap.size + 1 + 1]? = some (.cells #[.bool true] 4 (0, 0)) := by
      rw [Below.heap_setCell _ _ _ _ n2]; exact one_setCell hc
    have hb' : ((w2.setCell ⟨w.heap.size + 1 + 1, 0, none⟩ (.bool true)).setCell ⟨w.heap.size + 1, 0, none⟩ .nilIface).heap[w.heap.size + 1]? = some (.cells #[.nilIface] 36 (0, 0)) :=
      one_setCell (set_heap hb n1)
    refine (catch_idle _ _ _ _ hc').mono ?_
    rintro e u' w'' ⟨rfl, rfl, hbl⟩
    have cb' := cell_of_one ((hbl.block _ (lt_of_block hb')).trans hb')
    have HA : Aft w.heap.size w2 w'' := (((Aft.refl _ w2).set _ (.inr rfl)).set _ (.inl rfl)).ext hbl
    simp only [settle, Leaves]
    exact ⟨.nilIface, by simp [results, Tryz.results51, go_sem, cb'], _, w2, hR, HA, .inl ⟨rfl, rfl⟩⟩
  · have ca := cell_of_one ha
    have cb := cell_of_one hb
    have fb := free_of_one hb
    have cc := cell_of_one hc
    have fc := free_of_one hc
    have la := lt_of_block ha
    have lb := lt_of_block hb
    have lc := lt_of_block hc
    go_wp2_with fail
    refine leaves_cons (f := 81) (args := #[.pointer (some ⟨w.heap.size, 0, none⟩), .pointer (some ⟨w.heap.size + 1, 0, none⟩), .pointer (some ⟨w.heap.size + 1 + 1, 0, none⟩)]) (by simp) (by simp [go_sem]) ?_
    generalize hW : ((w2.setCell ⟨w.heap.size + 1 + 1, 0, none⟩ (.bool true)).setCell ⟨w.heap.size + 1, 0, none⟩ (.iface 83 (.pointer (some ⟨w2.heap.size, 0, none⟩)))) = W2
    have hs : W2.heap.size = w2.heap.size := by rw [← hW]; simp
    have hc' : W2.heap[w.heap.size + 1 + 1]? = some (.cells #[.bool true] 4 (0, 0)) := by
      rw [← hW, Below.heap_setCell _ _ _ _ n2]; exact one_setCell hc
    have hb' : W2.heap[w.heap.size + 1]? = some (.cells #[.iface 83 (.pointer (some ⟨w2.heap.size, 0, none⟩))] 36 (0, 0)) := by
      rw [← hW]; exact one_setCell (set_heap hb n1)
    have HA0 : Aft w.heap.size w2 W2 := by rw [← hW]; exact ((Aft.refl _ w2).set _ (.inr rfl)).set _ (.inl rfl)
    have hF' := heap_alloc_new W2 (.cells #[.string W, .iface t x, .nilIface] 88)
    rw [hs] at hF'
    refine (catch_idle _ _ _ _ (alloc_heap hc')).mono ?_
    rintro e u' w'' ⟨rfl, rfl, hbl⟩
    have cb' := cell_of_one ((hbl.block _ (lt_of_block (alloc_heap hb'))).trans (alloc_heap hb'))
    have HA : Aft w.heap.size w2 w'' := (HA0.ext (below_alloc _ _)).ext hbl
    have hF2 := (hbl.block _ (lt_of_block hF')).trans hF'
    simp only [settle, Leaves]
    exact ⟨.iface 83 (.pointer (some ⟨w2.heap.size, 0, none⟩)), by simp [results, Tryz.results51, go_sem, cb'], _, w2, hR, HA, .inr (.inl ⟨t, x, w2.heap.size, rfl, rfl, Nat.le_refl _, hF2⟩)⟩
  · go_wp2_with fail
    refine leaves_cons (f := 81) (args := #[.pointer (some ⟨w.heap.size, 0, none⟩), .pointer (some ⟨w.heap.size + 1, 0, none⟩), .pointer (some ⟨w.heap.size + 1 + 1, 0, none⟩)]) (by simp) (by simp [go_sem]) ?_
    refine (catch_panic _ _ _ W t x [] w2 ht ha hb hc).mono ?_
    rintro e u' w'' ⟨rfl, rfl, hone, fb, hfb, hb', hF'⟩
    have cb' := cell_of_one hb'
    have HA : Aft w.heap.size w2 w'' := ⟨hone.os, hone.tape, hone.output, hone.size, fun i hi h1 _ => hone.block i hi h1⟩
    simp only [settle, List.dropWhile_nil, Leaves]
    exact ⟨.iface 83 (.pointer (some ⟨fb, 0, none⟩)), by simp [results, Tryz.results51, go_sem, cb'], _, w2, hR, HA, .inr (.inr ⟨t, x, fb, rfl, ht, rfl, hfb, hF'⟩)⟩
end Go.Proofs.YtihifldpknpjhaaGreatDoor.Wk
