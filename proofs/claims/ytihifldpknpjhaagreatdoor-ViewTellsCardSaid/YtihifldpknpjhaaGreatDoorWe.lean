/- hook.Observe. -/
import Derived.Test.YtihifldpknpjhaaGreatDoorWd
import Derived.Deep.RegionHeld3
import Derived.Deep.RegionWith
import Derived.Deep.DeepCutAuto
namespace Go.Proofs.YtihifldpknpjhaaGreatDoor.Wk
open Go.RowKit

def Ended (e : Ending) : Prop := e = .returned .nilIface ∨ (∃ t x, e = .returned (.iface t x)) ∨ ∃ t x, e = .panicked [{ v := .iface t x, recovered := false }] ∧ t ≠ 206

set_option maxHeartbeats 1000000 in
set_option maxRecDepth 100000 in
theorem obs1 (fbx cbx : Nat) (p1 p2 p3 p4 : Value) (tb : ByteArray) (id : Int) (A2 A3 : Option Addr) (n2 q2 n3 q3 : Nat) (w : World) (R : Ending → World → Prop)
    (hf : w.heap[fbx]? = some (.cells #[.func (.func 8) #[] #[p1, p2, p3, p4]] 75 (0, 0))) (hc : w.heap[cbx]? = some (.cells #[.string tb, .int .i64 id, .slice A2 n2 q2, .slice A3 n3 q3] 29 (0, 0)))
    (hcall : Calls Tryz.prog 8 #[.agg #[.string tb, .int .i64 id, .slice A2 n2 q2, .slice A3 n3 q3], p1, p2, p3, p4] w fun e w' => R e w' ∧ Ended e) :
    Calls Tryz.prog 53 #[.pointer (some ⟨fbx, 0, none⟩), .pointer (some ⟨cbx, 0, none⟩)] w fun e w' => R e w' ∧ Ended e := by
  have cf := cell_of_one hf
  have c0 : w.cell? ⟨cbx, 0, none⟩ = some (.string tb) := by simp [World.cell?, hc]
  have c1 : w.cell? ⟨cbx, 1, none⟩ = some (.int .i64 id) := by simp [World.cell?, hc]
  have c2 : w.cell? ⟨cbx, 2, none⟩ = some (.slice A2 n2 q2) := by simp [World.cell?, hc]
  have c3 : w.cell? ⟨cbx, 3, none⟩ = some (.slice A3 n3 q3) := by simp [World.cell?, hc]
  go_enter Tryz.func53, Tryz.ntmps53
  go_wp2_with (go_at_call 8; refine hcall.mono ?_; rintro e w' ⟨hR, rfl | ⟨t, x, rfl⟩ | ⟨t, x, rfl, ht⟩⟩)
  · go_ret
    exact ⟨hR, .inl rfl⟩
  · go_ret
    exact ⟨hR, .inr (.inl ⟨t, x, rfl⟩)⟩
  · exact ⟨rfl, hR, .inr (.inr ⟨t, x, rfl, ht⟩)⟩

theorem Rd.mono {w w1 : World} {v : Value} (h : Rd w v) (hb : Below w.heap.size w w1) : Rd w1 v := by
  obtain ⟨A, n, c, rfl, hn, hA⟩ := h
  refine ⟨A, n, c, rfl, hn, fun a ha => ?_⟩
  obtain ⟨news, h2, h3, h4⟩ := hA a ha
  refine ⟨news, h2, fun j u hj => ?_, h4⟩
  have := h3 j u hj
  rw [World.cell?_of_block (w := w), this]
  exact hb.block _ (World.block_lt_of_cell? w _ this)

/-- Observe's own two variables, and what lay there before. -/
structure CB (w : World) (fv : Value) (c : Array Value) (w1 : World) : Prop where
  below : Below w.heap.size w w1
  f : w1.heap[w.heap.size]? = some (.cells #[fv] 75 (0, 0))
  c : w1.heap[w.heap.size + 1]? = some (.cells c 29 (0, 0))
theorem CB.drewN {w w1 : World} {fv : Value} {c : Array Value} (h : CB w fv c w1) (n : Nat) : CB w fv c (w1.drewN n) := ⟨h.below.trans ((below_drewN w1 n).mono h.below.size), h.f, h.c⟩
theorem CB.drew {w w1 : World} {fv : Value} {c : Array Value} (h : CB w fv c w1) : CB w fv c w1.drew := ⟨h.below.drew, h.f, h.c⟩
theorem CB.ext {w w1 w2 : World} {fv : Value} {c : Array Value} (h : CB w fv c w1) (hb : Below w1.heap.size w1 w2) : CB w fv c w2 :=
  ⟨h.below.trans (hb.mono h.below.size), (hb.block _ (lt_of_block h.f)).trans h.f, (hb.block _ (lt_of_block h.c)).trans h.c⟩
theorem CB.cells {w w1 : World} {fv a b c d : Value} (h : CB w fv #[a, b, c, d] w1) : w1.cell? ⟨w.heap.size + 1, 2, none⟩ = some c ∧ w1.cell? ⟨w.heap.size + 1, 3, none⟩ = some d ∧ w1.frozen? ⟨w.heap.size + 1, 2, none⟩ = false ∧ w1.frozen? ⟨w.heap.size + 1, 3, none⟩ = false := by
  refine ⟨?_, ?_, ?_, ?_⟩ <;> simp [World.cell?, World.frozen?, h.c]
theorem CB.start (w : World) (fv : Value) (c : Array Value) : CB w fv c ((w.alloc (.cells #[fv] 75)).alloc (.cells c 29)) := by
  refine ⟨(below_alloc w _).trans ((Below.refl _ _).alloc (by simp) _), ?_, ?_⟩
  · exact alloc_heap (heap_alloc_new w _)
  · have := heap_alloc_new (w.alloc (.cells #[fv] 75)) (.cells c 29)
    simpa using this

theorem set4 {w : World} {b o : Nat} {cs : Array Value} {t : TypeId} (h : w.heap[b]? = some (.cells cs t (0, 0))) (u : Value) : (w.setCell ⟨b, o, none⟩ u).heap[b]? = some (.cells (cs.setIfInBounds o u) t (0, 0)) := by
  have hlt := lt_of_block h
  have h' : w.heap[b] = .cells cs t (0, 0) := by rwa [Array.getElem?_eq_getElem hlt, Option.some.injEq] at h
  simp only [World.setCell]
  rw [Array.getElem?_modify]
  simp [h]
theorem CB.set {w w1 : World} {fv a b c d : Value} (h : CB w fv #[a, b, c, d] w1) (c' d' : Value) : CB w fv #[a, b, c', d'] ((w1.setCell ⟨w.heap.size + 1, 2, none⟩ c').setCell ⟨w.heap.size + 1, 3, none⟩ d') := by
  have hlt := lt_of_block h.c
  refine ⟨(h.below.setCell (by simp) _).setCell (by simp) _, ?_, ?_⟩
  · rw [Below.heap_setCell _ _ _ _ (by simp), Below.heap_setCell _ _ _ _ (by simp)]; exact h.f
  · have := set4 (o := 3) (set4 (o := 2) h.c c') d'
    simpa using this

/-- What Observe comes to: the observer's call in a world that has grown, and what Run makes of how it ended. -/
def Obs (B0 gb cb : Nat) (S : Ending → World → World → Prop) (w : World) (e : Ending) (w' : World) : Prop :=
  ∃ wa e2 w2 n0, w.heap.size ≤ n0 ∧ Below w.heap.size w wa ∧ Turn B0 gb cb wa w2 ∧ S e2 wa w2 ∧ w2.heap[n0 + 1]? = some (.cells #[.nilIface] 36 (0, 0)) ∧ w2.heap[n0 + 1 + 1]? = some (.cells #[.bool false] 4 (0, 0)) ∧ Aft n0 w2 w' ∧ Told ⟨#[]⟩ n0 e2 w2 e w'

set_option maxHeartbeats 4000000 in
set_option maxRecDepth 100000 in
theorem observe (p1 p2 p3 p4 : Value) (tb : ByteArray) (id : Int) (A2 A3 : Option Addr) (n2 q2 n3 q3 : Nat) (w : World) (B0 gb cb : Nat) (hgb : gb < w.heap.size) (hcb : cb < w.heap.size) (S : Ending → World → World → Prop)
    (hcall : ∀ w1 A2 n2 q2 A3 n3 q3, Below w.heap.size w w1 → Calls Tryz.prog 8 #[.agg #[.string tb, .int .i64 id, .slice A2 n2 q2, .slice A3 n3 q3], p1, p2, p3, p4] w1 fun e w' => (Turn B0 gb cb w1 w' ∧ S e w1 w') ∧ Ended e)
    (h2 : Rd w (.slice A2 n2 q2)) (h3 : Rd w (.slice A3 n3 q3)) :
    Calls Tryz.prog 28 #[.func (.func 8) #[] #[p1, p2, p3, p4], .agg #[.string tb, .int .i64 id, .slice A2 n2 q2, .slice A3 n3 q3]] w fun e w' => Obs B0 gb cb S w e w' := by
  have hmf : ∀ (fn : Fn) (first cap : Array Value) (w : World), (Instr.makeFunc fn first cap).run Tryz.prog w = .ok (.func fn first cap) w := fun _ _ _ _ => rfl
  have hfn := func_nil75 8 #[p1, p2, p3, p4]
  have hcp : ∀ v w1, Rd w v → CB w (.func (.func 8) #[] #[p1, p2, p3, p4]) #[.string tb, .int .i64 id, .slice A2 n2 q2, .slice A3 n3 q3] w1 → Calls Tryz.prog 52 #[v] w1 fun e w' => (∃ A m q, e = .returned (.slice A m q)) ∧ CB w (.func (.func 8) #[] #[p1, p2, p3, p4]) #[.string tb, .int .i64 id, .slice A2 n2 q2, .slice A3 n3 q3] w' :=
    fun v w1 hv hb => (copy _ w1 (hv.mono hb.below)).mono fun e w' ⟨h1, h2⟩ => ⟨h1, hb.ext h2⟩
  have runC : ∀ A2 n2 q2 A3 n3 q3 W1, CB w (.func (.func 8) #[] #[p1, p2, p3, p4]) #[.string tb, .int .i64 id, .slice A2 n2 q2, .slice A3 n3 q3] W1 → Calls Tryz.prog 51 #[.string ⟨#[]⟩, .func (.func 53) #[] #[.pointer (some ⟨w.heap.size, 0, none⟩), .pointer (some ⟨w.heap.size + 1, 0, none⟩)]] W1 fun e w' => (∃ v, e = .returned v) ∧ Obs B0 gb cb S w e w' := by
    intro A2 n2 q2 A3 n3 q3 W1 hCB
    have hsz := hCB.below.size
    have hRW : Below W1.heap.size W1 (RunW ⟨#[]⟩ W1) := ((below_alloc W1 _).alloc (by simp) _).alloc (by simp; omega) _
    have hB0 : Below w.heap.size w (RunW ⟨#[]⟩ W1) := hCB.below.trans (hRW.mono hsz)
    have r1 : (RunW ⟨#[]⟩ W1).heap[W1.heap.size]? = some (.cells #[.string ⟨#[]⟩] 9 (0, 0)) := alloc_heap (alloc_heap (heap_alloc_new W1 _))
    have r2 : (RunW ⟨#[]⟩ W1).heap[W1.heap.size + 1]? = some (.cells #[.nilIface] 36 (0, 0)) := by
      have := heap_alloc_new (W1.alloc (.cells #[.string ⟨#[]⟩] 9)) (.cells #[.nilIface] 36)
      rw [World.size_alloc] at this
      exact alloc_heap this
    have r3 : (RunW ⟨#[]⟩ W1).heap[W1.heap.size + 1 + 1]? = some (.cells #[.bool false] 4 (0, 0)) := by
      have := heap_alloc_new ((W1.alloc (.cells #[.string ⟨#[]⟩] 9)).alloc (.cells #[.nilIface] 36)) (.cells #[.bool false] 4)
      rw [World.size_alloc, World.size_alloc] at this
      exact this
    refine (run ⟨#[]⟩ 53 #[.pointer (some ⟨w.heap.size, 0, none⟩), .pointer (some ⟨w.heap.size + 1, 0, none⟩)] W1 (fun e2 w2 => Turn B0 gb cb (RunW ⟨#[]⟩ W1) w2 ∧ S e2 (RunW ⟨#[]⟩ W1) w2) (fun w => by kernel_rfl)
      ((obs1 _ _ p1 p2 p3 p4 tb id A2 A3 n2 q2 n3 q3 _ _ ((hRW.block _ (lt_of_block hCB.f)).trans hCB.f) ((hRW.block _ (lt_of_block hCB.c)).trans hCB.c) (hcall _ _ _ _ _ _ _ hB0)).mono fun e2 w2 ⟨⟨hT, hS⟩, hE⟩ => ⟨⟨hT, hS⟩, hT.heap r1 (by decide) (by omega) (by omega), hT.heap r2 (by decide) (by omega) (by omega), hT.heap r3 (by decide) (by omega) (by omega), hE⟩)).mono ?_
    rintro e w' ⟨e2, w2, ⟨hT, hS⟩, hA, hTo⟩
    refine ⟨?_, _, e2, w2, W1.heap.size, hsz, hB0, hT, hS, hT.heap r2 (by decide) (by omega) (by omega), hT.heap r3 (by decide) (by omega) (by omega), hA, hTo⟩
    rcases hTo with ⟨_, rfl⟩ | ⟨_, _, _, _, rfl, _⟩ | ⟨_, _, _, _, _, rfl, _⟩ <;> exact ⟨_, rfl⟩
  have RunC : Hid (∀ A2 n2 q2 A3 n3 q3 W1, CB w (.func (.func 8) #[] #[p1, p2, p3, p4]) #[.string tb, .int .i64 id, .slice A2 n2 q2, .slice A3 n3 q3] W1 → Calls Tryz.prog 51 #[.string ⟨#[]⟩, .func (.func 53) #[] #[.pointer (some ⟨w.heap.size, 0, none⟩), .pointer (some ⟨w.heap.size + 1, 0, none⟩)]] W1 fun e w' => (∃ v, e = .returned v) ∧ Obs B0 gb cb S w e w') := runC
  clear runC hcall
  have hcb0 := CB.start w (.func (.func 8) #[] #[p1, p2, p3, p4]) #[.string tb, .int .i64 id, .slice A2 n2 q2, .slice A3 n3 q3]
  have Hcp : Hid (∀ v w1, Rd w v → CB w (.func (.func 8) #[] #[p1, p2, p3, p4]) #[.string tb, .int .i64 id, .slice A2 n2 q2, .slice A3 n3 q3] w1 → Calls Tryz.prog 52 #[v] w1 fun e w' => (∃ A m q, e = .returned (.slice A m q)) ∧ CB w (.func (.func 8) #[] #[p1, p2, p3, p4]) #[.string tb, .int .i64 id, .slice A2 n2 q2, .slice A3 n3 q3] w') := hcp
  clear hcp
  go_enter Tryz.func28, Tryz.ntmps28
  go_wp2_with fail
  go_region_with (go_at_call 52; refine (Hcp.out _ _ (by assumption) (by first | assumption | exact CB.drewN (by assumption) _ | exact CB.drew (by assumption))).mono ?_; rintro e w1 ⟨⟨A2', m2, q2', rfl⟩, hb1⟩; go_loud (obtain ⟨c2, c3, f2, f3⟩ := hb1.cells))
  all_goals
    go_wp2_with (go_at_call 51; refine (RunC.out _ _ _ _ _ _ _ (hb1.set _ _)).mono ?_; rintro e w3 ⟨⟨v, rfl⟩, hobs⟩)
    go_ret
    exact hobs
end Go.Proofs.YtihifldpknpjhaaGreatDoor.Wk
