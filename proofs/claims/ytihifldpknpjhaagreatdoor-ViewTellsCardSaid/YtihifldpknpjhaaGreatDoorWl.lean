/- Watch.Tell. -/
import Derived.Test.YtihifldpknpjhaaGreatDoorWi
import Derived.Test.YtihifldpknpjhaaGreatDoorWj
import Derived.LoopTactic
import Derived.Laws.EntriesVeiled
import Derived.WalkKit
namespace Go.Proofs.YtihifldpknpjhaaGreatDoor.Wk
open Go.RowKit Go.Ex

/-- A change, as it came in. -/
structure Cg where
  tb : ByteArray
  id : Int
  A2 : Option Addr
  n2 : Nat
  q2 : Nat
  A3 : Option Addr
  n3 : Nat
  q3 : Nat
/-- The changes' cells. -/
def CgAt (W : World) (a : Addr) (cs : List Cg) : Prop := ∀ (i : Nat) (c : Cg), cs[i]? = some c →
  W.cell? ⟨a.block, a.off + i * 4, none⟩ = some (.string c.tb) ∧ W.cell? ⟨a.block, a.off + i * 4 + 1, none⟩ = some (.int .i64 c.id) ∧ W.cell? ⟨a.block, a.off + i * 4 + 2, none⟩ = some (.slice c.A2 c.n2 c.q2) ∧
    W.cell? ⟨a.block, a.off + i * 4 + 3, none⟩ = some (.slice c.A3 c.n3 c.q3) ∧ Rd W (.slice c.A2 c.n2 c.q2) ∧ Rd W (.slice c.A3 c.n3 c.q3)

/-- The state by the document: what was gathered, how often each was told, the first fault. -/
structure PS where
  xs : List Value
  ks : Nat → Int
  first : Option Int
def step (E : Env) (id : Int) (s : PS) (j : Nat) : PS :=
  ⟨s.xs ++ [.int .i64 (j : Nat), .int .i64 id], upk s.ks j, match s.first with | some a => some a | none => if hits (E.hows j) (s.ks j) = true then some (100 + (j : Nat)) else none⟩
def inner (E : Env) (js : List Nat) (id : Int) (s : PS) : PS := js.foldl (step E id) s
def outer (E : Env) (js : List Nat) (ids : List Int) (s : PS) : PS := ids.foldl (fun s id => inner E js id s) s

def FirstIs (w : World) (fv : Value) : Option Int → Prop
  | none => fv = .pointer none
  | some a => ∃ fb, fv = .pointer (some ⟨fb, 0, none⟩) ∧ IsFault w fb a ∧ fb ≠ 0

/-- What Tell answers. -/
def Faulted (w' : World) (e : Ending) : Option Int → Prop
  | none => e = .returned .nilIface
  | some a => ∃ fb, e = .returned (.iface 83 (.pointer (some ⟨fb, 0, none⟩))) ∧ IsFault w' fb a ∧ fb ≠ 0

/-- What a round finds. -/
structure Inv (E : Env) (w0 : World) (P : Prop) (A : Nat) (o : Array Value) (wr : World) (fv : Value) (s : PS) (k : Nat) : Prop where
  st : St E wr s.xs s.ks
  fr : Fr E w0 wr
  arr : P → wr.heap[A]? = some (.cells o 78 (0, 0))
  first : FirstIs wr fv s.first
  len : s.xs.length = 2 * k
  kb : ∀ j, 0 ≤ s.ks j ∧ s.ks j ≤ k

theorem isFault_fr {E : Env} {w w' : World} {fb : Nat} {a : Int} {xs : List Value} {ks : Nat → Int} (hs : St E w xs ks) (h : IsFault w fb a) (f : Fr E w w') : IsFault w' fb a := by
  obtain ⟨ga, gc, hg, _⟩ := hs.got
  have key : ∀ {b : Nat} {cs : Array Value} {t : TypeId}, w.heap[b]? = some (.cells cs t (0, 0)) → t ≠ 2 → t ≠ 32 → t ≠ 3 → w'.heap[b]? = some (.cells cs t (0, 0)) := fun hb h2 h32 h3 =>
    f.blk _ _ _ _ hb h2 (blk_ne hb hg h32) (fun j hj => blk_ne hb (hs.c j hj) h3)
  rcases h with ⟨mb, h1, h2, h3⟩ | h1
  · exact .inl ⟨mb, key h1 (by decide) (by decide) (by decide), key h2 (by decide) (by decide) (by decide), h3⟩
  · exact .inr (key h1 (by decide) (by decide) (by decide))

theorem as_nil (t : TypeId) (v : Value) (w : World) : Calls Tryz.prog 27 #[.nilIface, .iface t v] w fun e w' => e = .returned (.bool false) ∧ w' = w := by
  go_enter Tryz.func27, Tryz.ntmps27
  go_wp2
  go_ret
  exact ⟨rfl, rfl⟩

theorem St.but {E : Env} {w w' : World} {xs : List Value} {ks : Nat → Int} {tb : Nat} {x : Array Value} (h : St E w xs ks) (ok : E.Ok) (ht : w.heap[tb]? = some (.cells x 83 (0, 0))) (hB : E.B0 ≤ tb) (hb : BelowS (butB w tb) w w') : St E w' xs ks := by
  have key : ∀ {b : Nat} {cs : Array Value} {t : TypeId} {fz : Nat × Nat}, w.heap[b]? = some (.cells cs t fz) → t ≠ 83 → w'.heap[b]? = some (.cells cs t fz) := fun hc hne => by
    rw [hb.block _ ⟨lt_of_block hc, blk_ne hc ht hne⟩]
    exact hc
  refine ⟨Nat.le_trans h.size hb.size, ?_, fun j hj => key (h.n j hj) (by decide), fun j hj => key (h.c j hj) (by decide), key h.h (by decide), fun j hj => ?_⟩
  · obtain ⟨ga, gc, h1, h2, h3⟩ := h.got
    refine ⟨ga, gc, key h1 (by decide), h2, ?_⟩
    rcases h3 with h3 | ⟨g, cap, cur, e1, e2, e3, e4⟩
    · exact .inl h3
    · exact .inr ⟨g, cap, cur, e1, e2, key e3 (by decide), e4⟩
  · rw [World.cell?_of_block (w := w) (hb.block E.hab ⟨by have := h.size; have := ok.hA; omega, by have := ok.hA; omega⟩)]
    exact h.how j hj
theorem Fr.but {E : Env} {w w2 w' : World} {tb : Nat} (h : Fr E w w2) (hs : E.B0 ≤ w.heap.size) (ht : w.heap.size ≤ tb) (hb : BelowS (butB w2 tb) w2 w') : Fr E w w' :=
  ⟨hb.os.trans h.os, hb.tape.trans h.tape, hb.output.trans h.output, Nat.le_trans h.size hb.size, fun b hlt => by
    have := h.size
    rw [hb.block b ⟨by omega, by omega⟩]; exact h.old b hlt, fun b cs t fz hc h1 h2 h3 => by
    have hlt := lt_of_block hc
    have := h.size
    rw [hb.block b ⟨by omega, by omega⟩]
    exact h.blk b cs t fz hc h1 h2 h3⟩
theorem Inv.next {E : Env} {w0 w2 w4 : World} {P : Prop} {A : Nat} {o : Array Value} {fv fv' : Value} {s : PS} {k : Nat} {id : Int} {j : Nat} (h : Inv E w0 P A o w2 fv s k) (hst : St E w4 (s.xs ++ [.int .i64 (j : Nat), .int .i64 id]) (upk s.ks j)) (hf : Fr E w2 w4)
    (hfv : FirstIs w4 fv' (step E id s j).first) : Inv E w0 P A o w4 fv' (step E id s j) (k + 1) := by
  obtain ⟨ga, gc, hg, _⟩ := h.st.got
  refine ⟨hst, h.fr.trans hf, fun hp => hf.blk _ _ _ _ (h.arr hp) (by decide) (blk_ne (h.arr hp) hg (by decide)) (fun i hi => blk_ne (h.arr hp) (h.st.c i hi) (by decide)), hfv, ?_, fun i => ?_⟩
  · have := h.len
    simp only [step, List.length_append, List.length_cons, List.length_nil]
    omega
  · have h1 := h.kb i
    have h2 := h.kb j
    show 0 ≤ upk s.ks j i ∧ upk s.ks j i ≤ _
    unfold upk
    split <;> omega
theorem Rd.old {W w : World} {v : Value} (h : Rd W v) (ho : ∀ b, b < W.heap.size → w.heap[b]? = W.heap[b]?) : Rd w v := by
  obtain ⟨A, n, c, rfl, hn, hA⟩ := h
  refine ⟨A, n, c, rfl, hn, fun a ha => ?_⟩
  obtain ⟨news, h2, h3, h4⟩ := hA a ha
  refine ⟨news, h2, fun j u hj => ?_, h4⟩
  have := h3 j u hj
  rw [World.cell?_of_block (w := W) (ho _ (World.block_lt_of_cell? W _ this))]
  exact this
theorem inner_next (E : Env) (js : List Nat) (id : Int) (s : PS) (q j : Nat) (hj : js[q]? = some j) : inner E (js.take (q + 1)) id s = step E id (inner E (js.take q) id s) j := by
  unfold inner
  rw [List.take_add_one, hj, Option.toList_some, List.foldl_append]
  rfl
theorem outer_next (E : Env) (js : List Nat) (cs : List Cg) (s : PS) (i : Nat) (c : Cg) (hc : cs[i]? = some c) : outer E js ((cs.take (i + 1)).map (·.id)) s = inner E js c.id (outer E js ((cs.take i).map (·.id)) s) := by
  unfold outer
  rw [List.take_add_one, hc, Option.toList_some, List.map_append, List.foldl_append]
  rfl
theorem errT_fr {E : Env} {w w' : World} (h : ErrT w) (hp : 0 < E.B0) (f : Fr E w w') : ErrT w' := by
  obtain ⟨e, fz, h⟩ := h
  exact ⟨e, fz, by rw [f.old 0 hp]; exact h⟩
theorem isFault_but {w w' : World} {fb tb : Nat} {a : Int} {x : Array Value} (h : IsFault w fb a) (ht : w.heap[tb]? = some (.cells x 83 (0, 0))) (hb : BelowS (butB w tb) w w') : IsFault w' fb a := by
  have key : ∀ {b : Nat} {cs : Array Value} {t : TypeId}, w.heap[b]? = some (.cells cs t (0, 0)) → t ≠ 83 → w'.heap[b]? = some (.cells cs t (0, 0)) := fun hc hne => by
    rw [hb.block _ ⟨lt_of_block hc, blk_ne hc ht hne⟩]
    exact hc
  rcases h with ⟨mb, h1, h2, h3⟩ | h1
  · exact .inl ⟨mb, key h1 (by decide), key h2 (by decide), h3⟩
  · exact .inr (key h1 (by decide))
theorem firstIs_keep {E : Env} {w2 w3 : World} {fv : Value} {s : PS} {xs : List Value} {ks : Nat → Int} {id : Int} {j : Nat} (_hs : St E w2 xs ks) (h : FirstIs w2 fv s.first) (hk : s.first ≠ none ∨ hits (E.hows j) (s.ks j) = false) (hf : ∀ fb a, IsFault w2 fb a → IsFault w3 fb a) : FirstIs w3 fv (step E id s j).first := by
  unfold step
  cases hfi : s.first with
  | none =>
    rw [hfi] at h
    rcases hk with hk | hk
    · exact absurd hfi hk
    · simp only [hk, Bool.false_eq_true, if_false]
      exact h
  | some a =>
    rw [hfi] at h
    obtain ⟨fb, h1, h2, h3⟩ := h
    exact ⟨fb, h1, hf _ _ h2, h3⟩
theorem isFault_cells {w : World} {fb : Nat} {a : Int} (h : IsFault w fb a) : ∃ x y z, w.heap[fb]? = some (.cells #[x, y, z] 88 (0, 0)) ∧ atom x = true ∧ atom y = true ∧ atom z = true := by
  rcases h with ⟨mb, h1, _⟩ | h1
  · exact ⟨_, _, _, h1, rfl, rfl, rfl⟩
  · exact ⟨_, _, _, h1, rfl, rfl, rfl⟩

set_option maxHeartbeats 4000000 in
set_option maxRecDepth 100000 in
theorem tell (E : Env) (ok : E.Ok) (W w : World) (hW : E.B0 = W.heap.size) (hWw : Below W.heap.size W w) (wb A : Nat) (oa la : Option Addr) (ocap lcap : Nat) (o : Array Value) (js : List Nat) (cs : List Cg) (last : Int) (s : PS)
    (hwb : w.heap[wb]? = some (.cells #[.slice oa js.length ocap, .int .i64 last] 74 (0, 0))) (ho : 0 < js.length → w.heap[A]? = some (.cells o 78 (0, 0))) (hoa : 0 < js.length → oa = some ⟨A, 0, none⟩)
    (hcell : ∀ (q j : Nat), js[q]? = some j → o[2 * q]? = some (cl E j) ∧ o[2 * q + 1]? = some (.int .i64 ((j : Int) + 1)) ∧ j < E.hl) (hj8 : js.length ≤ 8) (hc12 : cs.length ≤ 12)
    (hla : 0 < cs.length → ∃ a, la = some a ∧ a.spot = none ∧ CgAt W a cs) (hst : St E w s.xs s.ks) (hs : s.xs = [] ∧ (∀ j, s.ks j = 0) ∧ s.first = none) (hE : ErrT w) :
    Calls Tryz.prog 10 #[.pointer (some ⟨wb, 0, none⟩), .slice la cs.length lcap] w fun e w' => Fr E w w' ∧ St E w' (outer E js (cs.map (·.id)) s).xs (outer E js (cs.map (·.id)) s).ks ∧
      Faulted w' e (outer E js (cs.map (·.id)) s).first := by
  have c0 : w.cell? ⟨wb, 0, none⟩ = some (.slice oa js.length ocap) := by simp [World.cell?, hwb]
  have I0 : Hid (Inv E w (0 < js.length) A o w (.pointer none) s 0) := ⟨hst, Fr.refl _ _, ho, by rw [hs.2.2]; rfl, by rw [hs.1]; rfl, fun j => by rw [hs.2.1]; omega⟩
  clear hst hwb ho
  go_enter Tryz.func10, Tryz.ntmps10
  go_wp2_with fail
  go_loopw [5, 18] (fun fv iv wr => ∃ i : Nat, i ≤ cs.length ∧ iv = .int .i64 i ∧ Hid (Inv E w (0 < js.length) A o wr fv (outer E js ((cs.take i).map (·.id)) s) (i * js.length))) (fun _ iv _ => cs.length - (Go.RowKit.intOf iv).toNat)
  case atStart => exact ⟨0, Nat.zero_le _, rfl, by simpa [outer, Hid] using I0⟩
  case round =>
    obtain ⟨i, hi, rfl, HI⟩ := hrel
    rename World => wr
    clear I0
    by_cases hlt : i < cs.length
    · obtain ⟨⟨ab, ao, asp⟩, rfl, hsp, hCg⟩ := hla (by omega)
      obtain rfl : asp = none := hsp
      obtain ⟨c, hc⟩ : ∃ c, cs[i]? = some c := ⟨_, List.getElem?_eq_getElem hlt⟩
      obtain ⟨g0, g1, g2, g3, r2, r3⟩ := hCg i c hc
      have hab : ab < E.B0 := by rw [hW]; exact World.block_lt_of_cell? W _ g0
      have hold : wr.heap[ab]? = W.heap[ab]? := (HI.out.fr.old ab hab).trans (hWw.block ab (by omega))
      have d0 : wr.cell? ⟨ab, ao + i * 4, none⟩ = some (.string c.tb) := (World.cell?_of_block (w := W) hold).trans g0
      have d1 : wr.cell? ⟨ab, ao + i * 4 + 1, none⟩ = some (.int .i64 c.id) := (World.cell?_of_block (w := W) hold).trans g1
      have d2 : wr.cell? ⟨ab, ao + i * 4 + 2, none⟩ = some (.slice c.A2 c.n2 c.q2) := (World.cell?_of_block (w := W) hold).trans g2
      have d3 : wr.cell? ⟨ab, ao + i * 4 + 3, none⟩ = some (.slice c.A3 c.n3 c.q3) := (World.cell?_of_block (w := W) hold).trans g3
      clear g0 g1 g2 g3 hCg hold
      go_wp2_with fail
      have HB : Hid (Below wr.heap.size wr (wr.alloc (.cells #[.string c.tb, .int .i64 c.id, .slice c.A2 c.n2 c.q2, .slice c.A3 c.n3 c.q3] 29))) := below_alloc _ _
      have HI1 : Hid (Inv E w (0 < js.length) A o (wr.alloc (.cells #[.string c.tb, .int .i64 c.id, .slice c.A2 c.n2 c.q2, .slice c.A3 c.n3 c.q3] 29)) u5 (inner E (js.take 0) c.id (outer E js ((cs.take i).map (·.id)) s)) (i * js.length + 0)) :=
        ⟨HI.out.st.below ok.hA HB.out, HI.out.fr.trans (Fr.ofBelow HB.out HI.out.st.size), fun hp => alloc_heap (HI.out.arr hp), by
          have h := HI.out.first
          have hf := fun fb a (h : IsFault wr fb a) => isFault_fr HI.out.st h (Fr.ofBelow HB.out HI.out.st.size)
          show FirstIs _ u5 (outer E js ((cs.take i).map (·.id)) s).first
          cases hfi : (outer E js ((cs.take i).map (·.id)) s).first with
          | none => rw [hfi] at h; exact h
          | some a => rw [hfi] at h; obtain ⟨fb, h1, h2, h3⟩ := h; exact ⟨fb, h1, hf _ _ h2, h3⟩, HI.out.len, HI.out.kb⟩
      have HX : Hid ((wr.alloc (.cells #[.string c.tb, .int .i64 c.id, .slice c.A2 c.n2 c.q2, .slice c.A3 c.n3 c.q3] 29)).heap[wr.heap.size]? = some (.cells #[.string c.tb, .int .i64 c.id, .slice c.A2 c.n2 c.q2, .slice c.A3 c.n3 c.q3] 29 (0, 0))) := heap_alloc_new _ _
      go_loopw [5, 24] (fun fv iv w2 => ∃ q : Nat, q ≤ js.length ∧ iv = .int .i64 q ∧ Hid (Inv E w (0 < js.length) A o w2 fv (inner E (js.take q) c.id (outer E js ((cs.take i).map (·.id)) s)) (i * js.length + q)) ∧ Hid (w2.heap[wr.heap.size]? = some (.cells #[.string c.tb, .int .i64 c.id, .slice c.A2 c.n2 c.q2, .slice c.A3 c.n3 c.q3] 29 (0, 0)))) (fun _ iv _ => js.length - (Go.RowKit.intOf iv).toNat)
      case atStart => exact ⟨0, Nat.zero_le _, rfl, HI1, HX⟩
      case round =>
        obtain ⟨q, hq, rfl, HJ, HC⟩ := hrel
        rename World => w2
        clear HI1 HX
        by_cases hql : q < js.length
        · obtain ⟨j, hj⟩ : ∃ j, js[q]? = some j := ⟨_, List.getElem?_eq_getElem hql⟩
          obtain ⟨o1, o2, hjl⟩ := hcell q j hj
          obtain rfl := hoa (by omega)
          have e0 : w2.cell? ⟨A, q * 2, none⟩ = some (.func (.func 8) #[] #[.pointer (some ⟨E.gb, 0, none⟩), .pointer (some ⟨E.nb j, 0, none⟩), .pointer (some ⟨E.cb j, 0, none⟩), .pointer (some ⟨E.hb, 0, none⟩)]) := by
            unfold World.cell?; simp only [HJ.out.arr (by omega)]; rw [Nat.mul_comm]; exact o1
          have e1 : w2.cell? ⟨A, q * 2 + 1, none⟩ = some (.int .i64 ((j : Int) + 1)) := by
            unfold World.cell?; simp only [HJ.out.arr (by omega)]; rw [Nat.mul_comm]; exact o2
          have lC := lt_of_block HC.out
          have x0 : w2.cell? ⟨wr.heap.size, 0, none⟩ = some (.string c.tb) := by simp [World.cell?, HC.out]
          have x1 : w2.cell? ⟨wr.heap.size, 1, none⟩ = some (.int .i64 c.id) := by simp [World.cell?, HC.out]
          have x2 : w2.cell? ⟨wr.heap.size, 2, none⟩ = some (.slice c.A2 c.n2 c.q2) := by simp [World.cell?, HC.out]
          have x3 : w2.cell? ⟨wr.heap.size, 3, none⟩ = some (.slice c.A3 c.n3 c.q3) := by simp [World.cell?, HC.out]
          clear o1 o2 d0 d1 d2 d3
          have hnext := inner_next E js c.id (outer E js ((cs.take i).map (·.id)) s) q j hj
          obtain ⟨S, hS⟩ : ∃ S, S = inner E (js.take q) c.id (outer E js ((cs.take i).map (·.id)) s) := ⟨_, rfl⟩
          rw [← hS] at hnext HJ
          have HN : Hid (inner E (js.take (q + 1)) c.id (outer E js ((cs.take i).map (·.id)) s) = step E c.id S j) := hnext
          clear hnext hS HI HB
          have HBx : Hid (Below w2.heap.size w2 ((w2.alloc (.cells #[cl E j, .int .i64 ((j : Int) + 1)] 78)).alloc (.cells #[.pointer none] 83))) := (below_alloc _ _).alloc (by simp) _
          have HTb : Hid (((w2.alloc (.cells #[cl E j, .int .i64 ((j : Int) + 1)] 78)).alloc (.cells #[.pointer none] 83)).heap[w2.heap.size + 1]? = some (.cells #[.pointer none] 83 (0, 0))) := by
            have := heap_alloc_new (w2.alloc (.cells #[cl E j, .int .i64 ((j : Int) + 1)] 78)) (.cells #[.pointer none] 83)
            rwa [World.size_alloc] at this
          have HCx : Hid (((w2.alloc (.cells #[cl E j, .int .i64 ((j : Int) + 1)] 78)).alloc (.cells #[.pointer none] 83)).heap[wr.heap.size]? = some (.cells #[.string c.tb, .int .i64 c.id, .slice c.A2 c.n2 c.q2, .slice c.A3 c.n3 c.q3] 29 (0, 0))) := alloc_heap (alloc_heap HC.out)
          have HSx : Hid (St E ((w2.alloc (.cells #[cl E j, .int .i64 ((j : Int) + 1)] 78)).alloc (.cells #[.pointer none] 83)) S.xs S.ks) := HJ.out.st.below ok.hA HBx.out
          have hkq : i * js.length + q ≤ 100 := by
            have : i * js.length ≤ 11 * 8 := Nat.mul_le_mul (by omega) hj8
            omega
          have HR : Hid (Rd ((w2.alloc (.cells #[cl E j, .int .i64 ((j : Int) + 1)] 78)).alloc (.cells #[.pointer none] 83)) (.slice c.A2 c.n2 c.q2) ∧ Rd ((w2.alloc (.cells #[cl E j, .int .i64 ((j : Int) + 1)] 78)).alloc (.cells #[.pointer none] 83)) (.slice c.A3 c.n3 c.q3)) := by
            have hold : ∀ b, b < W.heap.size → ((w2.alloc (.cells #[cl E j, .int .i64 ((j : Int) + 1)] 78)).alloc (.cells #[.pointer none] 83)).heap[b]? = W.heap[b]? := fun b hb =>
              (HBx.out.block b (Nat.lt_of_lt_of_le hb (by have := HJ.out.st.size; omega))).trans ((HJ.out.fr.old b (by omega)).trans (hWw.block b hb))
            exact ⟨r2.old hold, r3.old hold⟩
          have HTO : Hid (Calls Tryz.prog 28 #[cl E j, .agg #[.string c.tb, .int .i64 c.id, .slice c.A2 c.n2 c.q2, .slice c.A3 c.n3 c.q3]] ((w2.alloc (.cells #[cl E j, .int .i64 ((j : Int) + 1)] 78)).alloc (.cells #[.pointer none] 83)) fun e w' => St E w' (S.xs ++ [.int .i64 (j : Nat), .int .i64 c.id]) (upk S.ks j) ∧ Fr E ((w2.alloc (.cells #[cl E j, .int .i64 ((j : Int) + 1)] 78)).alloc (.cells #[.pointer none] 83)) w' ∧
              if hits (E.hows j) (S.ks j) = true then ∃ fb, e = .returned (.iface 83 (.pointer (some ⟨fb, 0, none⟩))) ∧ IsFault w' fb (100 + (j : Nat)) ∧ ((w2.alloc (.cells #[cl E j, .int .i64 ((j : Int) + 1)] 78)).alloc (.cells #[.pointer none] 83)).heap.size ≤ fb else e = .returned .nilIface) :=
            tell_one E ok _ S.xs S.ks j hjl c.tb c.id c.A2 c.A3 c.n2 c.q2 c.n3 c.q3 HSx.out (by have := HJ.out.len; omega) (by have := HJ.out.kb j; omega) HR.out.1 HR.out.2
          have HG : Hid (∀ w3, Fr E ((w2.alloc (.cells #[cl E j, .int .i64 ((j : Int) + 1)] 78)).alloc (.cells #[.pointer none] 83)) w3 → w3.heap[w2.heap.size + 1]? = some (.cells #[.pointer none] 83 (0, 0)) ∧ w3.heap[wr.heap.size]? = some (.cells #[.string c.tb, .int .i64 c.id, .slice c.A2 c.n2 c.q2, .slice c.A3 c.n3 c.q3] 29 (0, 0)) ∧ Fr E w2 w3 ∧ ErrT w3) := fun w3 f => by
            obtain ⟨ga, gc, hg, _⟩ := HSx.out.got
            have f2 : Fr E w2 w3 := (Fr.ofBelow HBx.out HJ.out.st.size).trans f
            exact ⟨f.blk _ _ _ _ HTb.out (by decide) (blk_ne HTb.out hg (by decide)) (fun i hi => blk_ne HTb.out (HSx.out.c i hi) (by decide)), f.blk _ _ _ _ HCx.out (by decide) (blk_ne HCx.out hg (by decide)) (fun i hi => blk_ne HCx.out (HSx.out.c i hi) (by decide)), f2, errT_fr (errT_fr hE ok.pos HJ.out.fr) ok.pos f2⟩
          clear HBx HTb HCx HSx HR r2 r3
          go_wp2_with fail
          refine HTO.out.mono ?_
          clear HTO
          cases hh : hits (E.hows j) (S.ks j)
          · rintro e w3 ⟨s3, f3, he⟩
            rw [if_neg (by decide)] at he
            subst he
            obtain ⟨t3, c3, f23, -⟩ := HG.out w3 f3
            clear HG f3
            have HN3 : Hid (Inv E w (0 < js.length) A o w3 u5 (step E c.id S j) (i * js.length + q + 1)) := HJ.out.next s3 f23 (firstIs_keep HJ.out.st HJ.out.first (.inr hh) fun fb a hf => isFault_fr HJ.out.st hf f23)
            have HC3 : Hid (w3.heap[wr.heap.size]? = some (.cells #[.string c.tb, .int .i64 c.id, .slice c.A2 c.n2 c.q2, .slice c.A3 c.n3 c.q3] 29 (0, 0))) := c3
            clear t3 c3 f23 s3 hh
            go_wp2_with (go_at_call 27; refine (as_nil _ _ _).mono ?_; rintro e w4 ⟨rfl, rfl⟩)
            go_roundw
            case rel => exact ⟨q + 1, by omega, by go_num, by rw [HN.out]; exact HN3, HC3⟩
            case measure => simp [Go.RowKit.intOf]; omega
          · rintro e w3 ⟨s3, f3, he⟩
            rw [if_pos rfl] at he
            obtain ⟨fb, rfl, hF, hfb⟩ := he
            obtain ⟨t3, c3, f23, E3⟩ := HG.out w3 f3
            obtain ⟨x, y, z, hFc, hxa, hya, hza⟩ := isFault_cells hF
            have hp := ok.pos
            have hsz := HJ.out.st.size
            have hAs : Hid (Calls Tryz.prog 27 #[.iface 83 (.pointer (some ⟨fb, 0, none⟩)), .iface 86 (.pointer (some ⟨w2.heap.size + 1, 0, none⟩))] w3 fun e w' => e = .returned (.bool true) ∧ BelowS (butB w3 (w2.heap.size + 1)) w3 w' ∧ w'.heap[w2.heap.size + 1]? = some (.cells #[.pointer (some ⟨fb, 0, none⟩)] 83 (0, 0))) :=
              as_fault w3 fb (w2.heap.size + 1) x y z hxa hya hza E3 hFc t3 ⟨by simp at hfb; omega, by omega⟩
            have hfb0 : fb ≠ 0 := by simp at hfb; omega
            have HK : Hid (∀ w4, BelowS (butB w3 (w2.heap.size + 1)) w3 w4 → St E w4 (S.xs ++ [.int .i64 (j : Nat), .int .i64 c.id]) (upk S.ks j) ∧ Fr E w2 w4 ∧ IsFault w4 fb (100 + (j : Nat)) ∧ w4.heap[wr.heap.size]? = some (.cells #[.string c.tb, .int .i64 c.id, .slice c.A2 c.n2 c.q2, .slice c.A3 c.n3 c.q3] 29 (0, 0)) ∧ (∀ fb a, IsFault w2 fb a → IsFault w4 fb a)) := fun w4 hb =>
              ⟨s3.but ok t3 (by omega) hb, f23.but hsz (by omega) hb, isFault_but hF t3 hb, by rw [hb.block _ ⟨lt_of_block c3, blk_ne c3 t3 (by decide)⟩]; exact c3, fun fb a hf => isFault_but (isFault_fr HJ.out.st hf f23) t3 hb⟩
            clear HG f3 t3 c3 f23 E3 hFc hxa hya hza s3 hF hfb
            cases hfi : S.first with
            | some a0 =>
              obtain ⟨fb0, hu, -, -⟩ : ∃ fb0, u5 = .pointer (some ⟨fb0, 0, none⟩) ∧ IsFault w2 fb0 a0 ∧ fb0 ≠ 0 := by have := HJ.out.first; rw [hfi] at this; exact this
              subst hu
              go_wp2_with (go_at_call 27; refine hAs.out.mono ?_; rintro e w4 ⟨rfl, hb4, ht4⟩)
              obtain ⟨s4, f4, hF4, c4, hf4⟩ := HK.out w4 hb4
              have HN4 : Hid (Inv E w (0 < js.length) A o w4 (.pointer (some ⟨fb0, 0, none⟩)) (step E c.id S j) (i * js.length + q + 1)) := HJ.out.next s4 f4 (firstIs_keep HJ.out.st HJ.out.first (.inl (by rw [hfi]; simp)) hf4)
              go_roundw
              case rel => exact ⟨q + 1, by omega, by go_num, by rw [HN.out]; exact HN4, c4⟩
              case measure => simp [Go.RowKit.intOf]; omega
            | none =>
              obtain hu : u5 = .pointer none := by have := HJ.out.first; rw [hfi] at this; exact this
              subst hu
              go_wp2_with (go_at_call 27; refine hAs.out.mono ?_; rintro e w4 ⟨rfl, hb4, ht4⟩; have ct4 := cell_of_one ht4)
              obtain ⟨s4, f4, hF4, c4, hf4⟩ := HK.out w4 hb4
              have HN4 : Hid (Inv E w (0 < js.length) A o w4 (.pointer (some ⟨fb, 0, none⟩)) (step E c.id S j) (i * js.length + q + 1)) := HJ.out.next s4 f4 (by
                unfold step
                simp only [hfi, hh, if_true]
                exact ⟨fb, rfl, hF4, hfb0⟩)
              go_roundw
              case rel => exact ⟨q + 1, by omega, by go_num, by rw [HN.out]; exact HN4, c4⟩
              case measure => simp [Go.RowKit.intOf]; omega
        · obtain rfl : q = js.length := by omega
          have hon := outer_next E js cs s i c hc
          have HO : Hid (outer E js ((cs.take (i + 1)).map (·.id)) s = inner E js c.id (outer E js ((cs.take i).map (·.id)) s)) := hon
          clear hon
          go_wp2_with fail
          go_roundw
          case rel =>
            refine ⟨i + 1, by omega, by go_num, ?_⟩
            rw [HO.out, Nat.succ_mul]
            rw [List.take_of_length_le (Nat.le_refl _)] at HJ
            exact HJ
          case measure => simp [Go.RowKit.intOf]; omega
    · obtain rfl : i = cs.length := by omega
      rw [List.take_of_length_le (Nat.le_refl _)] at HI
      have h := HI.out.first
      have hst := HI.out.st
      have hfr := HI.out.fr
      clear HI
      obtain ⟨S, hS⟩ : ∃ S, S = outer E js (cs.map (·.id)) s := ⟨_, rfl⟩
      rw [← hS] at h hst
      cases hfi : S.first with
      | none =>
        rw [hfi] at h
        obtain rfl : u5 = .pointer none := h
        go_wp2_with fail
        go_ret
        exact ⟨hfr, by rw [← hS]; exact hst, by rw [← hS, hfi]; rfl⟩
      | some a =>
        rw [hfi] at h
        obtain ⟨fb, rfl, h2, h3⟩ := h
        go_wp2_with fail
        go_ret
        exact ⟨hfr, by rw [← hS]; exact hst, by rw [← hS, hfi]; exact ⟨fb, rfl, h2, h3⟩⟩
end Go.Proofs.YtihifldpknpjhaaGreatDoor.Wk
