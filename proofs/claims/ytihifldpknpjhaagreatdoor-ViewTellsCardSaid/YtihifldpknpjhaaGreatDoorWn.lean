/- What the law's loops keep: observers come, observers go; what Tell gathers, in plain Lean. -/
import Derived.Test.YtihifldpknpjhaaGreatDoorWm
namespace Go.Proofs.YtihifldpknpjhaaGreatDoor.Wk
open Go.RowKit Go.Ex

def obs (E : Env) (js : List Nat) : List (Value × Int) := js.map fun j => (cl E j, (j : Int) + 1)
def bools (th : Nat → Bool) (n : Nat) : Array Value := ((List.range n).map fun j => Value.bool (th j)).toArray
theorem bools_at (th : Nat → Bool) (n j : Nat) (h : j < n) : (bools th n)[j]? = some (.bool (th j)) := by
  unfold bools
  simp [List.getElem?_range h]
theorem bools_set (th : Nat → Bool) (n j : Nat) (b : Bool) : (bools th n).setIfInBounds j (.bool b) = bools (fun i => if i = j then b else th i) n := by
  apply Array.ext'
  apply List.ext_getElem?
  intro i
  unfold bools
  simp only [List.setIfInBounds_toArray, List.getElem?_set, List.length_map, List.length_range, List.getElem?_map]
  by_cases h : j = i
  · subst h
    by_cases hn : j < n
    · simp [hn]
    · simp [hn]
  · rw [if_neg h]
    by_cases hi : i < n
    · simp only [hi, List.getElem?_range, Option.map_some]
      rw [if_neg (fun e => h e.symm)]
    · have : (List.range n)[i]? = none := List.getElem?_eq_none (by simp; omega)
      simp [this]

def Env.at (E : Env) (nb cb : Nat → Nat) : Env := { E with nb := nb, cb := cb }
/-- Behind so many rounds of Add. -/
structure L2 (E : Env) (nb cb : Nat → Nat) (W w : World) (wb tb i : Nat) : Prop where
  base : Below W.heap.size W w
  got : w.heap[E.gb]? = some (.cells #[.slice none 0 0] 32 (0, 0))
  h : w.heap[E.hb]? = some (.cells #[E.hv] 23 (0, 0))
  watch : Wt w wb (obs (E.at nb cb) (List.range i)) i
  w0 : i = 0 → w.heap[wb]? = some (.cells #[.slice none 0 0, .int .i64 0] 74 (0, 0))
  n : ∀ j, j < i → w.heap[nb j]? = some (.cells #[.int .i64 (j : Nat)] 3 (0, 0))
  c : ∀ j, j < i → w.heap[cb j]? = some (.cells #[.int .i64 0] 3 (0, 0))
  cB : ∀ j, j < i → W.heap.size ≤ cb j
  inj : ∀ a b, a < i → b < i → cb a = cb b → a = b
  nc : ∀ a b, a < i → b < i → nb a ≠ cb b
  there : w.heap[tb]? = some (.cells (bools (fun j => decide (j < i)) E.hl) 4 (0, 0))
  wB : W.heap.size ≤ wb
  tB : W.heap.size ≤ tb

theorem obs_came (E : Env) (i : Nat) : Came (obs E (List.range i)) := fun j x hx => by
  unfold obs at hx
  simp only [List.getElem?_map, Option.map_eq_some_iff] at hx
  obtain ⟨a, ha, rfl⟩ := hx
  obtain ⟨h, e⟩ := List.getElem?_eq_some_iff.1 ha
  rw [List.getElem_range] at e
  subst e
  exact ⟨rfl, rfl⟩
theorem wt_below {w w' : World} {wb : Nat} {L : List (Value × Int)} {last : Int} (h : Wt w wb L last) (hb : Below w.heap.size w w') : Wt w' wb L last := by
  obtain ⟨sv, h1, h2⟩ := h
  refine ⟨sv, (hb.block _ (lt_of_block h1)).trans h1, ?_⟩
  rcases h2 with h2 | ⟨A, cap, cs, h3, h4, h5⟩
  · exact .inl h2
  · exact .inr ⟨A, cap, cs, h3, (hb.block _ (lt_of_block h4)).trans h4, h5⟩
theorem wt_other {w : World} {wb tb : Nat} {L : List (Value × Int)} {last : Int} {x : Array Value} {i : Nat} {u : Value} (h : Wt w wb L last) (ht : w.heap[tb]? = some (.cells x 4 (0, 0))) : Wt (w.setCell ⟨tb, i, none⟩ u) wb L last := by
  obtain ⟨sv, h1, h2⟩ := h
  refine ⟨sv, set_heap h1 (blk_ne h1 ht (by decide)), ?_⟩
  rcases h2 with h2 | ⟨A, cap, cs, h3, h4, h5⟩
  · exact .inl h2
  · exact .inr ⟨A, cap, cs, h3, set_heap h4 (blk_ne h4 ht (by decide)), h5⟩
theorem L2.below {E : Env} {nb cb : Nat → Nat} {W w w' : World} {wb tb i : Nat} (h : L2 E nb cb W w wb tb i) (hb : Below w.heap.size w w') : L2 E nb cb W w' wb tb i where
  base := ⟨hb.os.trans h.base.os, hb.tape.trans h.base.tape, hb.output.trans h.base.output, Nat.le_trans h.base.size hb.size, fun b hl => (hb.block b (Nat.lt_of_lt_of_le hl h.base.size)).trans (h.base.block b hl)⟩
  got := (hb.block _ (lt_of_block h.got)).trans h.got
  h := (hb.block _ (lt_of_block h.h)).trans h.h
  watch := wt_below h.watch hb
  w0 := fun e => (hb.block _ (lt_of_block (h.w0 e))).trans (h.w0 e)
  n := fun j hj => (hb.block _ (lt_of_block (h.n j hj))).trans (h.n j hj)
  c := fun j hj => (hb.block _ (lt_of_block (h.c j hj))).trans (h.c j hj)
  cB := h.cB
  inj := h.inj
  nc := h.nc
  there := (hb.block _ (lt_of_block h.there)).trans h.there
  wB := h.wB
  tB := h.tB
theorem L2.add {E : Env} {nb cb : Nat → Nat} {W w : World} {wb tb i : Nat} (h : L2 E nb cb W w wb tb i) (hi : i < 8) (fv : Value) (hf : atom fv = true) :
    Calls Tryz.prog 7 #[.pointer (some ⟨wb, 0, none⟩), fv] w fun e w' => e = .returned (.int .i64 ((i : Int) + 1)) ∧ BelowS (butB w wb) w w' ∧ Wt w' wb (obs (E.at nb cb) (List.range i) ++ [(fv, (i : Int) + 1)]) ((i : Int) + 1) := by
  by_cases h0 : i = 0
  · subst h0
    exact add_first w wb fv hf (h.w0 rfl)
  · have hl : (obs (E.at nb cb) (List.range i)).length = i := by simp [obs]
    have := add_next w wb (obs (E.at nb cb) (List.range i)) fv (obs_came _ _) (by rw [hl]; exact hi) (fun e => h0 (by rw [← hl, e]; rfl)) hf (by rw [hl]; exact h.watch)
    rw [hl] at this
    exact this
theorem BelowS.heap {w w' : World} {wb b : Nat} {cs xs : Array Value} {t : TypeId} {fz : Nat × Nat} (h : BelowS (butB w wb) w w') (hw : w.heap[wb]? = some (.cells xs 74 (0, 0))) (hb : w.heap[b]? = some (.cells cs t fz)) (ht : t ≠ 74) : w'.heap[b]? = some (.cells cs t fz) := by
  rw [h.block b ⟨lt_of_block hb, blk_ne hb hw ht⟩]
  exact hb
theorem wt_blk {w : World} {wb : Nat} {L : List (Value × Int)} {last : Int} (h : Wt w wb L last) : ∃ xs, w.heap[wb]? = some (.cells xs 74 (0, 0)) := ⟨_, h.choose_spec.1⟩
theorem base_but {W w w' : World} {wb : Nat} (h : Below W.heap.size W w) (hb : BelowS (butB w wb) w w') (hw : W.heap.size ≤ wb) : Below W.heap.size W w' :=
  ⟨hb.os.trans h.os, hb.tape.trans h.tape, hb.output.trans h.output, Nat.le_trans h.size hb.size, fun b hl => (hb.block b ⟨Nat.lt_of_lt_of_le hl h.size, by omega⟩).trans (h.block b hl)⟩
theorem base_set {W w : World} {a : Addr} {u : Value} (h : Below W.heap.size W w) (hw : W.heap.size ≤ a.block) : Below W.heap.size W (w.setCell a u) :=
  ⟨h.os, h.tape, h.output, by simpa using h.size, fun b hl => by rw [Below.heap_setCell _ _ _ _ (by omega)]; exact h.block b hl⟩
theorem set_there {w : World} {tb n j : Nat} {th : Nat → Bool} {b : Bool} (h : w.heap[tb]? = some (.cells (bools th n) 4 (0, 0))) : (w.setCell ⟨tb, j, none⟩ (.bool b)).heap[tb]? = some (.cells (bools (fun i => if i = j then b else th i) n) 4 (0, 0)) := by
  have hlt := lt_of_block h
  have h' : w.heap[tb] = .cells (bools th n) 4 (0, 0) := by simpa [Array.getElem?_eq_getElem hlt] using h
  show (w.heap.modify tb _)[tb]? = _
  rw [Array.getElem?_eq_getElem (by simpa using hlt), Array.getElem_modify_self, h']
  show some (Obj.cells ((bools th n).setIfInBounds j (.bool b)) 4 (0, 0)) = _
  rw [bools_set]
theorem L2.next {E : Env} {nb cb : Nat → Nat} {W w w' : World} {wb tb i s s' : Nat} (h : L2 E nb cb W w wb tb i) (hs : w.heap[s]? = some (.cells #[.int .i64 (i : Nat)] 3 (0, 0))) (hs' : w.heap[s']? = some (.cells #[.int .i64 0] 3 (0, 0)))
    (hnew : ∀ j, j < i → cb j ≠ s' ∧ cb j ≠ s ∧ nb j ≠ s') (hss : s ≠ s') (hsB : W.heap.size ≤ s') (hb : BelowS (butB w wb) w w')
    (hw : Wt w' wb (obs (E.at nb cb) (List.range i) ++ [(.func (.func 8) #[] #[.pointer (some ⟨E.gb, 0, none⟩), .pointer (some ⟨s, 0, none⟩), .pointer (some ⟨s', 0, none⟩), .pointer (some ⟨E.hb, 0, none⟩)], (i : Int) + 1)]) ((i : Int) + 1)) :
    L2 E (fun j => if j = i then s else nb j) (fun j => if j = i then s' else cb j) W (w'.setCell ⟨tb, i, none⟩ (.bool true)) wb tb (i + 1) := by
  obtain ⟨xs, hx⟩ := wt_blk h.watch
  have key : ∀ {b : Nat} {cs : Array Value} {t : TypeId} {fz : Nat × Nat}, w.heap[b]? = some (.cells cs t fz) → t ≠ 74 → t ≠ 4 → (w'.setCell ⟨tb, i, none⟩ (.bool true)).heap[b]? = some (.cells cs t fz) := fun hc h1 h2 =>
    set_heap (BelowS.heap hb hx hc h1) (blk_ne hc h.there h2)
  have ht := BelowS.heap hb hx h.there (by decide)
  refine ⟨base_set (base_but h.base hb h.wB) h.tB, key h.got (by decide) (by decide), key h.h (by decide) (by decide), ?_, fun e => absurd e (by omega), fun j hj => ?_, fun j hj => ?_, fun j hj => ?_, fun a b ha hb' he => ?_, fun a b ha hb' => ?_, ?_, h.wB, h.tB⟩
  · have e : obs (E.at (fun j => if j = i then s else nb j) (fun j => if j = i then s' else cb j)) (List.range (i + 1)) = obs (E.at nb cb) (List.range i) ++ [(.func (.func 8) #[] #[.pointer (some ⟨E.gb, 0, none⟩), .pointer (some ⟨s, 0, none⟩), .pointer (some ⟨s', 0, none⟩), .pointer (some ⟨E.hb, 0, none⟩)], (i : Int) + 1)] := by
      unfold obs
      rw [List.range_succ, List.map_append]
      congr 1
      · apply List.map_congr_left
        intro j hj
        have hji := List.mem_range.1 hj
        unfold cl Env.at
        simp only [show ¬ j = i by omega, if_false]
      · simp [cl, Env.at]
    rw [e]
    have := wt_other (i := i) (u := .bool true) hw ht
    simpa using this
  · by_cases e : j = i
    · subst e; simp only [if_true]; exact key hs (by decide) (by decide)
    · simp only [e, if_false]; exact key (h.n j (by omega)) (by decide) (by decide)
  · by_cases e : j = i
    · subst e; simp only [if_true]; exact key hs' (by decide) (by decide)
    · simp only [e, if_false]; exact key (h.c j (by omega)) (by decide) (by decide)
  · by_cases e : j = i
    · simp only [e, if_true]; exact hsB
    · simp only [e, if_false]; exact h.cB j (by omega)
  · by_cases e : a = i <;> by_cases e' : b = i
    · omega
    · simp only [e, e', if_true, if_false] at he
      exact absurd he.symm (hnew b (by omega)).1
    · simp only [e, e', if_true, if_false] at he
      exact absurd he (hnew a (by omega)).1
    · simp only [e, e', if_false] at he
      exact h.inj a b (by omega) (by omega) he
  · by_cases e : a = i <;> by_cases e' : b = i
    · simp only [e, e', if_true]; exact hss
    · simp only [e, e', if_true, if_false]; exact fun x => (hnew b (by omega)).2.1 x.symm
    · simp only [e, e', if_true, if_false]; exact (hnew a (by omega)).2.2
    · simp only [e, e', if_false]; exact h.nc a b (by omega) (by omega)
  · have := set_there (j := i) (b := true) ht
    rw [this]
    congr 3
    funext j
    by_cases e : j = i
    · simp [e]
    · simp only [e, if_false]
      congr 1
      apply propext
      omega

/-! ### Observers go -/
def left (th : Nat → Bool) (n : Nat) : List Nat := (List.range n).filter th
def off (th : Nat → Bool) (q : Nat) : Nat → Bool := fun i => if i = q then false else th i
/-- Behind so many rounds of Remove. -/
structure L3 (E : Env) (W w : World) (wb tb : Nat) (th : Nat → Bool) : Prop where
  base : Below W.heap.size W w
  got : w.heap[E.gb]? = some (.cells #[.slice none 0 0] 32 (0, 0))
  h : w.heap[E.hb]? = some (.cells #[E.hv] 23 (0, 0))
  watch : Wt w wb (obs E (left th E.hl)) E.hl
  n : ∀ j, j < E.hl → w.heap[E.nb j]? = some (.cells #[.int .i64 (j : Nat)] 3 (0, 0))
  c : ∀ j, j < E.hl → w.heap[E.cb j]? = some (.cells #[.int .i64 0] 3 (0, 0))
  there : w.heap[tb]? = some (.cells (bools th E.hl) 4 (0, 0))
  wB : W.heap.size ≤ wb
  tB : W.heap.size ≤ tb
theorem L2.done {E : Env} {nb cb : Nat → Nat} {W w : World} {wb tb : Nat} (h : L2 E nb cb W w wb tb E.hl) : L3 (E.at nb cb) W w wb tb (fun j => decide (j < E.hl)) where
  base := h.base
  got := h.got
  h := h.h
  watch := by
    have e : left (fun j => decide (j < E.hl)) E.hl = List.range E.hl := List.filter_eq_self.2 fun a ha => by simpa using ha
    show Wt w wb (obs (E.at nb cb) (left (fun j => decide (j < E.hl)) E.hl)) E.hl
    rw [e]; exact h.watch
  n := h.n
  c := h.c
  there := h.there
  wB := h.wB
  tB := h.tB
theorem left_length (th : Nat → Bool) (n : Nat) : (left th n).length ≤ n := by
  have := List.length_filter_le th (List.range n)
  simpa [left] using this
theorem left_mem {th : Nat → Bool} {n j : Nat} : j ∈ left th n ↔ j < n ∧ th j = true := by simp [left]
theorem erase_at (q : Nat) : ∀ (l : List Nat) (p : Nat), l.Nodup → l[p]? = some q → l.eraseIdx p = l.filter fun x => !decide (x = q)
  | [], p, _, h => by simp at h
  | a :: l, 0, hn, h => by
    have hn' := List.nodup_cons.1 hn
    simp at h
    subst h
    simp only [List.eraseIdx_zero, List.tail_cons, decide_true, Bool.not_true, Bool.false_eq_true, not_false_eq_true, List.filter_cons_of_neg]
    exact (List.filter_eq_self.2 fun x hx => by
      have : x ≠ a := fun e => hn'.1 (e ▸ hx)
      simp [this]).symm
  | a :: l, p + 1, hn, h => by
    have hn' := List.nodup_cons.1 hn
    have h' : l[p]? = some q := by simpa using h
    have : a ≠ q := fun e => hn'.1 (e ▸ List.mem_of_getElem? h')
    rw [List.eraseIdx_cons_succ, erase_at q l p hn'.2 h', List.filter_cons_of_pos (by simp [this])]
theorem left_off (th : Nat → Bool) (n q p : Nat) (h : (left th n)[p]? = some q) : left (off th q) n = (left th n).eraseIdx p := by
  have nd : (left th n).Nodup := List.Pairwise.filter _ List.nodup_range
  rw [erase_at q _ p nd h]
  unfold left off
  rw [List.filter_filter]
  apply List.filter_congr
  intro x _
  by_cases h : x = q
  · simp [h]
  · simp [h]
theorem left_rise (E : Env) (th : Nat → Bool) (hl : E.hl ≤ 8) : Rise (obs E (left th E.hl)) := by
  have pw : (left th E.hl).Pairwise (· < ·) := List.Pairwise.filter _ List.pairwise_lt_range
  refine ⟨fun i j x y hx hy hij => ?_, fun j x hx => ?_⟩
  · unfold obs at hx hy
    simp only [List.getElem?_map, Option.map_eq_some_iff] at hx hy
    obtain ⟨a, ha, rfl⟩ := hx
    obtain ⟨b, hb, rfl⟩ := hy
    obtain ⟨h1, rfl⟩ := List.getElem?_eq_some_iff.1 ha
    obtain ⟨h2, rfl⟩ := List.getElem?_eq_some_iff.1 hb
    have := List.pairwise_iff_getElem.1 pw i j h1 h2 hij
    simp only
    omega
  · unfold obs at hx
    simp only [List.getElem?_map, Option.map_eq_some_iff] at hx
    obtain ⟨a, ha, rfl⟩ := hx
    have := (left_mem.1 (List.mem_of_getElem? ha)).1
    refine ⟨rfl, ?_, ?_⟩ <;> simp only <;> omega
theorem L3.hit {E : Env} {W w : World} {wb tb q : Nat} {th : Nat → Bool} (h : L3 E W w wb tb th) (h8 : E.hl ≤ 8) (hq : q < E.hl) (ht : th q = true) :
    Calls Tryz.prog 9 #[.pointer (some ⟨wb, 0, none⟩), .int .i64 ((q : Int) + 1)] w fun e w' => e = .returned (.bool true) ∧ L3 E W (w'.setCell ⟨tb, q, none⟩ (.bool false)) wb tb (off th q) ∧ w'.heap[tb]? = some (.cells (bools th E.hl) 4 (0, 0)) ∧ w'.heap[E.hb]? = some (.cells #[E.hv] 23 (0, 0)) := by
  obtain ⟨p, hp⟩ := List.getElem?_of_mem (left_mem.2 ⟨hq, ht⟩)
  have hp' : (obs E (left th E.hl))[p]? = some (cl E q, (q : Int) + 1) := by
    unfold obs; simp [hp]
  refine (remove_hit w wb (obs E (left th E.hl)) E.hl p _ (left_rise E th h8) (by have := left_length th E.hl; simp [obs]; omega) hp' h.watch).mono ?_
  rintro e w' ⟨rfl, hb, hw⟩
  obtain ⟨xs, hx⟩ := wt_blk h.watch
  have key : ∀ {b : Nat} {cs : Array Value} {t : TypeId} {fz : Nat × Nat}, w.heap[b]? = some (.cells cs t fz) → t ≠ 74 → t ≠ 4 → (w'.setCell ⟨tb, q, none⟩ (.bool false)).heap[b]? = some (.cells cs t fz) := fun hc h1 h2 =>
    set_heap (BelowS.heap hb hx hc h1) (blk_ne hc h.there h2)
  have ht := BelowS.heap hb hx h.there (by decide)
  refine ⟨rfl, ⟨base_set (base_but h.base hb h.wB) h.tB, key h.got (by decide) (by decide), key h.h (by decide) (by decide), ?_, fun j hj => key (h.n j hj) (by decide) (by decide), fun j hj => key (h.c j hj) (by decide) (by decide), ?_, h.wB, h.tB⟩, ht, BelowS.heap hb hx h.h (by decide)⟩
  · rw [left_off th E.hl q p hp]
    have e : obs E ((left th E.hl).eraseIdx p) = (obs E (left th E.hl)).eraseIdx p := by unfold obs; simp only [List.eraseIdx_eq_take_drop_succ, List.map_append, List.map_take, List.map_drop]
    rw [e]
    exact wt_other hw ht
  · exact set_there ht
theorem L3.below {E : Env} {W w w' : World} {wb tb : Nat} {th : Nat → Bool} (h : L3 E W w wb tb th) (hb : Below w.heap.size w w') : L3 E W w' wb tb th where
  base := ⟨hb.os.trans h.base.os, hb.tape.trans h.base.tape, hb.output.trans h.base.output, Nat.le_trans h.base.size hb.size, fun b hl => (hb.block b (Nat.lt_of_lt_of_le hl h.base.size)).trans (h.base.block b hl)⟩
  got := (hb.block _ (lt_of_block h.got)).trans h.got
  h := (hb.block _ (lt_of_block h.h)).trans h.h
  watch := wt_below h.watch hb
  n := fun j hj => (hb.block _ (lt_of_block (h.n j hj))).trans (h.n j hj)
  c := fun j hj => (hb.block _ (lt_of_block (h.c j hj))).trans (h.c j hj)
  there := (hb.block _ (lt_of_block h.there)).trans h.there
  wB := h.wB
  tB := h.tB
theorem L3.miss {E : Env} {W w : World} {wb tb : Nat} {th : Nat → Bool} (h : L3 E W w wb tb th) (h8 : E.hl ≤ 8) (n : Int) (hn : 0 ≤ n ∧ n ≤ 1000) (hno : ∀ q : Nat, q < E.hl → th q = true → n ≠ (q : Int) + 1) :
    Calls Tryz.prog 9 #[.pointer (some ⟨wb, 0, none⟩), .int .i64 n] w fun e w' => e = .returned (.bool false) ∧ L3 E W w' wb tb th := by
  refine (remove_miss w wb (obs E (left th E.hl)) E.hl n hn (left_rise E th h8) (by have := left_length th E.hl; simp [obs]; omega) (fun x hx => ?_) h.watch).mono ?_
  · unfold obs at hx
    obtain ⟨j, hj, rfl⟩ := List.mem_map.1 hx
    have := left_mem.1 hj
    exact fun e => hno j this.1 this.2 e.symm
  · rintro e w' ⟨rfl, hb⟩
    exact ⟨rfl, h.below hb⟩

/-! ### What is gathered, by the document -/
structure Ok1 (S : PS) (k : Nat) : Prop where
  len : S.xs.length ≤ k
  ints : ∀ u ∈ S.xs, ∃ n, u = .int .i64 n
  first : ∀ a, S.first = some a → 100 ≤ a ∧ a ≤ 200
def fInt : Option Int → Int
  | none => 0
  | some a => a
theorem Ok1.step {E : Env} {S : PS} {k : Nat} {id : Int} {j : Nat} (h : Ok1 S k) (hj : j ≤ 8) : Ok1 (step E id S j) (k + 2) := by
  refine ⟨by have := h.len; simp [Wk.step]; omega, fun u hu => ?_, fun a ha => ?_⟩
  · simp only [Wk.step, List.mem_append, List.mem_cons, List.not_mem_nil, or_false] at hu
    rcases hu with hu | rfl | rfl
    · exact h.ints u hu
    · exact ⟨_, rfl⟩
    · exact ⟨_, rfl⟩
  · unfold Wk.step at ha
    simp only at ha
    cases hf : S.first with
    | some b =>
      rw [hf] at ha
      cases ha
      exact h.first _ hf
    | none =>
      rw [hf] at ha
      simp only at ha
      split at ha
      · cases ha
        omega
      · cases ha
theorem ks_inner (E : Env) (id : Int) : ∀ (js : List Nat) (S : PS) (q : Nat), js.Nodup → (inner E js id S).ks q = if q ∈ js then S.ks q + 1 else S.ks q
  | [], S, q, _ => by simp [inner]
  | a :: js, S, q, hn => by
    have hn' := List.nodup_cons.1 hn
    have := ks_inner E id js (step E id S a) q hn'.2
    show (inner E js id (step E id S a)).ks q = _
    rw [this]
    by_cases h : q = a
    · subst h
      simp [hn'.1, step, upk]
    · by_cases h' : q ∈ js
      · simp [h', step, upk, h]
      · simp [h, h', step, upk]
theorem ks_outer (E : Env) (js : List Nat) (hn : js.Nodup) (q : Nat) (hq : q ∈ js) : ∀ (ids : List Int) (S : PS), (outer E js ids S).ks q = S.ks q + ids.length
  | [], S => by simp [outer]
  | a :: ids, S => by
    have := ks_outer E js hn q hq ids (inner E js a S)
    show (outer E js ids (inner E js a S)).ks q = _
    rw [this, ks_inner E a js S q hn, if_pos hq]
    simp
    omega
theorem left_succ (th : Nat → Bool) (q : Nat) : left th (q + 1) = left th q ++ (if th q then [q] else []) := by
  unfold left
  rw [List.range_succ, List.filter_append]
  congr 1
  by_cases h : th q = true <;> simp [h]
theorem left_nodup (th : Nat → Bool) (q : Nat) : (left th q).Nodup := List.Pairwise.filter _ List.nodup_range
/-- One observer more, in the law's own count. -/
theorem inner_left (E : Env) (th : Nat → Bool) (id : Int) (S : PS) (q : Nat) : inner E (left th (q + 1)) id S = if th q then step E id (inner E (left th q) id S) q else inner E (left th q) id S := by
  rw [left_succ]
  unfold inner
  rw [List.foldl_append]
  by_cases h : th q = true <;> simp [h]
theorem ks_now (E : Env) (th : Nat → Bool) (ids : List Int) (id : Int) (S : PS) (hS : ∀ j, S.ks j = 0) (q : Nat) (hq : q < E.hl) (ht : th q = true) : (inner E (left th q) id (outer E (left th E.hl) ids S)).ks q = ids.length := by
  rw [ks_inner E id _ _ q (left_nodup _ _), if_neg (by simp [left]), ks_outer E _ (left_nodup _ _) q (left_mem.2 ⟨hq, ht⟩), hS]
  omega
end Go.Proofs.YtihifldpknpjhaaGreatDoor.Wk
