/- The law's observer: what it appends, what it counts, how it ends. -/
import Derived.Test.YtihifldpknpjhaaGreatDoorProg
import Derived.Tactics
import Derived.Tactics2
import Derived.WalkKit
import Derived.RowKit
import Derived.BigQuiet
import Derived.WalkSmall
import Derived.KernelRfl
namespace Go.Proofs.YtihifldpknpjhaaGreatDoor.Wk
open Go.RowKit

theorem info2 : (Tryz.prog.info? 2).map (fun i => (i.zero, i.size, i.bytes)) = some (some (.int .i64 0), 1, 8) := by kernel_rfl


/-- A row of numbers is no block of another type. -/
theorem own_ne {w : World} {B e : Nat} {v : Value} {n : Nat} {xs : List Value} (h : w.ownsRow B e 1 v n xs) {b : Nat} {cs : Array Value} {t : TypeId} {fz : Nat × Nat} (hb : w.heap[b]? = some (.cells cs t fz)) (ht : t ≠ e) : some b ≠ v.ownBlock := by
  rintro hv
  rcases h.2 with ⟨rfl, _⟩ | ⟨g, cap, cur, rfl, _, hh, _⟩
  · cases hv
  · simp only [Value.ownBlock, Option.some.injEq] at hv
    subst hv
    rw [hb] at hh
    cases hh
    exact ht rfl
theorem alloc_heap {w : World} {b : Nat} {o x : Obj} (h : w.heap[b]? = some o) : (w.alloc x).heap[b]? = some o := by
  rw [Below.heap_alloc _ _ _ (lt_of_block h)]; exact h
theorem set_heap {w : World} {b : Nat} {o : Obj} {a : Addr} {u : Value} (h : w.heap[b]? = some o) (hne : b ≠ a.block) : (w.setCell a u).heap[b]? = some o := by
  rw [Below.heap_setCell _ _ _ _ hne]; exact h
theorem blk_ne {w : World} {a b : Nat} {ca cb : Array Value} {s t : TypeId} {f g : Nat × Nat} (ha : w.heap[a]? = some (.cells ca s f)) (hb : w.heap[b]? = some (.cells cb t g)) (h : s ≠ t) : a ≠ b := by
  rintro rfl
  rw [ha] at hb
  cases hb
  exact h rfl

theorem grown_heap {w w1 : World} {x y : Obj} {B : Nat} {v : Value} {n : Nat} {xs : List Value} (h : w.ownsRow B 2 1 v n xs) (hg : ((w.alloc x).alloc y).grownBy w1 v.ownBlock) {b : Nat} {cs : Array Value} {t : TypeId} {fz : Nat × Nat}
    (hb : w.heap[b]? = some (.cells cs t fz)) (ht : t ≠ 2) : w1.heap[b]? = some (.cells cs t fz) := by
  rw [hg.block b (by have := lt_of_block hb; simp; omega) (own_ne h hb ht)]
  exact alloc_heap (alloc_heap hb)
theorem grown_cell {w w1 : World} {x y : Obj} {B : Nat} {v : Value} {n : Nat} {xs : List Value} (h : w.ownsRow B 2 1 v n xs) (hg : ((w.alloc x).alloc y).grownBy w1 v.ownBlock) {a : Addr} {u : Value}
    (ha : a.block < B) (hB : B ≤ w.heap.size) (hc : w.cell? a = some u) : w1.cell? a = some u := by
  rw [World.cell?_of_block (w := w), hc]
  rw [hg.block a.block (by simp; omega) (fun e => by have := h.lt _ e.symm; omega), Below.heap_alloc _ _ _ (by simp; omega), Below.heap_alloc _ _ _ (by omega)]

theorem new_cell (w : World) (x : Obj) (a b : Value) (t : TypeId) {q : Nat} {u : Value} (hq : [a, b][q]? = some u) : ((w.alloc x).alloc (.cells #[a, b] t)).cell? ((⟨w.heap.size + 1, 0, none⟩ : Addr).add q) = some u := by
  have hh : ((w.alloc x).alloc (.cells #[a, b] t)).heap[w.heap.size + 1]? = some (.cells #[a, b] t (0, 0)) := by
    have := heap_alloc_new (w.alloc x) (.cells #[a, b] t)
    rwa [World.size_alloc] at this
  generalize (w.alloc x).alloc (.cells #[a, b] t) = W at hh
  match q, hq with
  | 0, hq => simp at hq; subst hq; unfold World.cell?; simp [Addr.add, hh]
  | 1, hq => simp at hq; subst hq; unfold World.cell?; simp [Addr.add, hh]

theorem own_shape {w : World} {B e : Nat} {v : Value} {n : Nat} {xs : List Value} (h : w.ownsRow B e 1 v n xs) (hn : n ≠ 0) : ∃ g c, v = .slice (some ⟨g, 0, none⟩) n c := by
  rcases h.2 with ⟨_, h0⟩ | ⟨g, c, _, rfl, _⟩
  · exact absurd h0 hn
  · exact ⟨g, c, rfl⟩

/-- What an observer's call turns: the list's variable, its own count, the list's row (numbers of the call's own). -/
structure Turn (B0 gb cb : Nat) (w w' : World) : Prop where
  os : w'.os = w.os
  tape : w'.tape = w.tape
  output : w'.output = w.output
  size : w.heap.size ≤ w'.heap.size
  block : ∀ b, b < w.heap.size → b ≠ gb → b ≠ cb → (b < B0 ∨ ∀ cs fz, w.heap[b]? ≠ some (.cells cs 2 fz)) → w'.heap[b]? = w.heap[b]?
theorem Turn.heap {B0 gb cb : Nat} {w w' : World} (h : Turn B0 gb cb w w') {b : Nat} {cs : Array Value} {t : TypeId} {fz : Nat × Nat} (hb : w.heap[b]? = some (.cells cs t fz)) (ht : t ≠ 2) (h1 : b ≠ gb) (h2 : b ≠ cb) : w'.heap[b]? = some (.cells cs t fz) := by
  rw [h.block b (lt_of_block hb) h1 h2 (.inr fun cs' fz' he => by rw [hb] at he; cases he; exact ht rfl)]
  exact hb
theorem Turn.ext {B0 gb cb : Nat} {w w1 w2 : World} (h : Turn B0 gb cb w w1) (h2 : Below w1.heap.size w1 w2) : Turn B0 gb cb w w2 :=
  ⟨h2.os.trans h.os, h2.tape.trans h.tape, h2.output.trans h.output, Nat.le_trans h.size h2.size, fun b hb a c d => (h2.block b (Nat.lt_of_lt_of_le hb h.size)).trans (h.block b hb a c d)⟩

/-- What holds behind it. -/
def After (B0 gb cb n : Nat) (xs : List Value) (jn : Nat) (id k : Int) (w w' : World) : Prop :=
  Turn B0 gb cb w w' ∧ (∃ g c, w'.heap[gb]? = some (.cells #[.slice (some ⟨g, 0, none⟩) (n + 2) c] 32 (0, 0)) ∧ w'.ownsRow B0 2 1 (.slice (some ⟨g, 0, none⟩) (n + 2) c) (n + 2) (xs ++ [.int .i64 (jn : Nat), .int .i64 id])) ∧
    w'.heap[cb]? = some (.cells #[.int .i64 (k + 1)] 3 (0, 0))
theorem owns_below {w w' : World} {B e n : Nat} {v : Value} {xs : List Value} (h : w.ownsRow B e 1 v n xs) (hb : Below w.heap.size w w') : w'.ownsRow B e 1 v n xs := by
  obtain ⟨h1, h2⟩ := h
  refine ⟨h1, ?_⟩
  rcases h2 with h2 | ⟨g, cap, cur, hv, hg, hh, r⟩
  · exact .inl h2
  · exact .inr ⟨g, cap, cur, hv, hg, (hb.block g (lt_of_block hh)).trans hh, r⟩
theorem After.ext {B0 gb cb n : Nat} {xs : List Value} {jn : Nat} {id k : Int} {w w1 w2 : World} (h : After B0 gb cb n xs jn id k w w1) (h2 : Below w1.heap.size w1 w2) : After B0 gb cb n xs jn id k w w2 := by
  obtain ⟨h1, ⟨g, c, h3, h4⟩, h5⟩ := h
  exact ⟨h1.ext h2, ⟨g, c, (h2.block gb (lt_of_block h3)).trans h3, owns_below h4 h2⟩, (h2.block cb (lt_of_block h5)).trans h5⟩

theorem after_of {B0 gb cb n : Nat} {ga : Option Addr} {gc : Nat} {xs : List Value} {jn : Nat} {id k : Int} {w w1 : World} {x y : Obj} {g' c' : Nat}
    (hg : w.heap[gb]? = some (.cells #[.slice ga n gc] 32 (0, 0))) (hown : w.ownsRow B0 2 1 (.slice ga n gc) n xs) (hc : w.heap[cb]? = some (.cells #[.int .i64 k] 3 (0, 0)))
    (hgrow : ((w.alloc x).alloc y).grownBy w1 (Value.slice ga n gc).ownBlock) (hown' : w1.ownsRow B0 2 1 (.slice (some ⟨g', 0, none⟩) (n + 2) c') (n + 2) (xs ++ [.int .i64 (jn : Nat), .int .i64 id])) :
    After B0 gb cb n xs jn id k w ((w1.setCell ⟨gb, 0, none⟩ (.slice (some ⟨g', 0, none⟩) (n + 2) c')).setCell ⟨cb, 0, none⟩ (.int .i64 (k + 1))) := by
  have hne := blk_ne hg hc (by decide)
  have g1 := grown_heap hown hgrow hg (by decide)
  have g3 := grown_heap hown hgrow hc (by decide)
  have e1 : (Value.slice (some ⟨g', 0, none⟩) (n + 2) c').ownBlock ≠ some gb := fun e => own_ne hown' g1 (by decide) e.symm
  have e2 : (Value.slice (some ⟨g', 0, none⟩) (n + 2) c').ownBlock ≠ some cb := fun e => own_ne hown' g3 (by decide) e.symm
  refine ⟨⟨?_, ?_, ?_, ?_, fun b hb h1 h2 h3 => ?_⟩, ⟨g', c', ?_, ?_⟩, ?_⟩
  · exact hgrow.os
  · exact hgrow.tape
  · exact hgrow.output
  · have := hgrow.size
    simp at this ⊢
    omega
  · rw [Below.heap_setCell _ _ _ _ h2, Below.heap_setCell _ _ _ _ h1, hgrow.block b (by simp; omega) (fun e => ?_), Below.heap_alloc _ _ _ (by simp; omega), Below.heap_alloc _ _ _ hb]
    rcases h3 with h3 | h3
    · have := hown.lt b e.symm
      omega
    · rcases hown.2 with ⟨h4, _⟩ | ⟨g, cap, cur, h4, _, hh, _⟩
      · rw [h4] at e; cases e
      · rw [h4] at e
        simp only [Value.ownBlock, Option.some.injEq] at e
        subst e
        exact h3 _ _ hh
  · rw [Below.heap_setCell _ _ _ _ hne]
    exact one_setCell g1
  · exact ownsRow_setCell_other (ownsRow_setCell_other hown' e1 _) e2 _
  · have g4 : (w1.setCell ⟨gb, 0, none⟩ (.slice (some ⟨g', 0, none⟩) (n + 2) c')).heap[cb]? = some (.cells #[.int .i64 k] 3 (0, 0)) := by
      rw [Below.heap_setCell _ _ _ _ hne.symm]; exact g3
    exact one_setCell g4
theorem below_drewN (w : World) (q : Nat) : Below w.heap.size w (w.drewN q) := ⟨rfl, rfl, rfl, Nat.le_refl _, fun _ _ => rfl⟩
theorem below_alloc (w : World) (o : Obj) : Below w.heap.size w (w.alloc o) := (Below.refl _ _).alloc (Nat.le_refl _) o

/-- How an observer ends: told how, called how often, its number. -/
def Ends (h k : Int) (jn : Nat) (w : World) (e : Ending) (w' : World) : Prop :=
  if (bits .and .i64 h 3 == 1) = true ∧ (k + 1 == bits .and .i64 (h / 4) 3) = true then ∃ mb, e = .returned (.iface 38 (.pointer (some ⟨mb, 0, none⟩))) ∧ w'.heap[mb]? = some (.cells #[.int .i64 (100 + (jn : Nat))] 40 (0, 0)) ∧ w.heap.size ≤ mb
  else if (bits .and .i64 h 3 == 2) = true ∧ (k + 1 == bits .and .i64 (h / 4) 3) = true then e = .panicked [{ v := .iface 3 (.int .i64 (100 + (jn : Nat))), recovered := false }]
  else e = .returned .nilIface

set_option maxHeartbeats 1000000 in
set_option maxRecDepth 100000 in
theorem clos (B0 gb nb cb hb hab hoff hl hcap : Nat) (ga : Option Addr) (n gc : Nat) (xs : List Value) (k h : Int) (jn : Nat) (tb : ByteArray) (id : Int) (bf af : Value) (w : World)
    (hg : w.heap[gb]? = some (.cells #[.slice ga n gc] 32 (0, 0))) (hown : w.ownsRow B0 2 1 (.slice ga n gc) n xs) (hn : w.heap[nb]? = some (.cells #[.int .i64 (jn : Nat)] 3 (0, 0))) (hc : w.heap[cb]? = some (.cells #[.int .i64 k] 3 (0, 0)))
    (hh : w.heap[hb]? = some (.cells #[.slice (some ⟨hab, hoff, none⟩) hl hcap] 23 (0, 0))) (hcell : w.cell? ⟨hab, hoff + jn, none⟩ = some (.int .i64 h)) (hjl : jn < hl) (hne : nb ≠ cb)
    (hBg : B0 ≤ gb) (hBc : B0 ≤ cb) (hha : hab < B0) (hBw : B0 ≤ w.heap.size) (hnm : n ≤ 1000) (hk : 0 ≤ k ∧ k < 1000) (hl8 : hl ≤ 8) :
    Calls Tryz.prog 8 #[.agg #[.string tb, .int .i64 id, bf, af], .pointer (some ⟨gb, 0, none⟩), .pointer (some ⟨nb, 0, none⟩), .pointer (some ⟨cb, 0, none⟩), .pointer (some ⟨hb, 0, none⟩)] w fun e w' => Ends h k jn w e w' ∧ After B0 gb cb n xs jn id k w w' := by
  obtain ⟨i0, hi, hz0, hz1, hz2⟩ := info_parts info2
  have cg := cell_of_one hg
  have cn := cell_of_one hn
  have cc := cell_of_one hc
  have ch := cell_of_one hh
  have lg := lt_of_block hg
  have ln := lt_of_block hn
  have lc := lt_of_block hc
  have lh := lt_of_block hh
  have n1 := blk_ne hg hc (by decide)
  have n2 := blk_ne hg hn (by decide)
  have n3 := blk_ne hg hh (by decide)
  have n4 := blk_ne hc hh (by decide)
  go_enter Tryz.func8, Tryz.ntmps8
  go_wp2_with (at_builtin; refine wpList_append_own _ rfl (.tmp 7) (.tmp 11) 32 rfl B0 2 i0 (.int .i64 0) 1 8 Tryz.underlying32 hi hz0 hz1 hz2 rfl (by decide) _ _ _ rfl ((hown.alloc _).alloc _) ⟨w.heap.size + 1, 0, none⟩ 2 2 [.int .i64 (jn : Nat), .int .i64 id] rfl rfl ?c1 ?c2 ?c3 ?c4 ?c5 ?_)
  case c1 => exact fun q u hq => new_cell w _ _ _ _ hq
  case c2 => intro u hu; simp at hu; rcases hu with rfl | rfl <;> rfl
  case c3 => unfold maxLen; omega
  case c4 => omega
  case c5 => simp; omega
  intro v' w1 hown' hgrow _
  obtain ⟨g', gc', rfl⟩ := own_shape hown' (by omega)
  have g1 := grown_heap hown hgrow hg (by decide)
  have g2 := grown_heap hown hgrow hn (by decide)
  have g3 := grown_heap hown hgrow hc (by decide)
  have g4 := grown_heap hown hgrow hh (by decide)
  have g5 := grown_cell hown hgrow hha hBw hcell
  have HA := after_of hg hown hc hgrow hown'
  clear hgrow hown'
  have cg := cell_of_one g1
  have cn := cell_of_one g2
  have cc := cell_of_one g3
  have ch := cell_of_one g4
  have fg := free_of_one g1
  have fc := free_of_one g3
  go_wp2_with fail
  have h12 : (bits .and .i64 h 3 == 1) = true → (bits .and .i64 h 3 == 2) = false := fun e => by
    rw [beq_iff_eq] at e; rw [e]; rfl

  cases ha : (bits .and .i64 h 3 == 1)
  · cases ha2 : (bits .and .i64 h 3 == 2)
    · go_quiet (fail)
      go_wp2_with fail
      go_quiet (fail)
      go_wp2_with fail
      go_ret
      exact ⟨by simp only [Ends, ha, ha2, Bool.false_eq_true, false_and, if_false] <;> rfl, (HA.ext (below_drewN _ _)).ext (below_drewN _ _)⟩
    · cases ha3 : (k + 1 == bits .and .i64 (h / 4) 3)
      · go_quiet (fail)
        go_wp2_with fail
        go_quiet (fail)
        go_wp2_with fail
        go_ret
        exact ⟨by simp only [Ends, ha, ha2, ha3, Bool.false_eq_true, and_false, if_false] <;> rfl, (HA.ext (below_drewN _ _)).ext (below_drewN _ _)⟩
      · go_quiet (fail)
        go_wp2_with fail
        go_quiet (fail)
        go_wp2_with fail
        refine ⟨rfl, ?_, HA.ext (below_drewN _ _)⟩
        simp only [Ends, ha, ha2, ha3, Bool.false_eq_true, false_and, and_self, if_false, if_true]
  · have ha2 := h12 ha
    cases ha3 : (k + 1 == bits .and .i64 (h / 4) 3)
    · go_quiet (fail)
      go_wp2_with fail
      go_quiet (fail)
      go_wp2_with fail
      go_ret
      exact ⟨by simp only [Ends, ha, ha2, ha3, Bool.false_eq_true, and_false, if_false] <;> rfl, (HA.ext (below_drewN _ _)).ext (below_drewN _ _)⟩
    · go_quiet (fail)
      go_wp2_with fail
      go_ret
      refine ⟨?_, (HA.ext (below_drewN _ _)).ext (below_alloc _ _)⟩
      simp only [Ends, ha, ha3, and_self, if_true]
      refine ⟨_, rfl, ?_, ?_⟩
      · have := heap_alloc_new (((w1.setCell ⟨gb, 0, none⟩ (.slice (some ⟨g', 0, none⟩) (n + 2) gc')).setCell ⟨cb, 0, none⟩ (.int .i64 (k + 1))).drewN nq) (.cells #[.int .i64 (100 + (jn : Nat))] 40)
        simpa using this
      · have := HA.1.size
        simpa using this
end Go.Proofs.YtihifldpknpjhaaGreatDoor.Wk
