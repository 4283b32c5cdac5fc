/- The arguments, opened. -/
import Derived.Test.YtihifldpknpjhaaGreatDoorWp
import Derived.Deep.Slices
import Derived.Deep.Fields
import Derived.ChangeSame
import Derived.Lib.SmallJoins
namespace Go.Proofs.YtihifldpknpjhaaGreatDoor.Wk
open Go.RowKit Go.ChangeShapes Go.WideShapes Go.Deep
section
variable {H : Type} {enc : TypeId × Value → H} {w : World} {base : Nat} {spare : Nat → Bool} {held : Bool}
theorem cells71 : Tryz.prog.cellsOf 71 = 4 := by kernel_rfl
theorem cells29 : Tryz.prog.cellsOf 29 = 4 := by kernel_rfl
theorem cells27 : Tryz.prog.cellsOf 27 = 1 := by kernel_rfl
theorem cells9 : Tryz.prog.cellsOf 9 = 1 := by kernel_rfl
theorem cells2 : Tryz.prog.cellsOf 2 = 1 := by kernel_rfl
theorem cells3 : Tryz.prog.cellsOf 3 = 1 := by kernel_rfl
theorem cells5 : Tryz.prog.cellsOf 5 = 1 := by kernel_rfl
theorem trod_f64 {P : Program} {t : TypeId} {fuel : Nat} {v : Value} {x : DataW H × List MemPlace} (ht : P.underlying t = some (.float .f64)) (h : DataW.trod enc P w base spare held fuel t [v] = some x) : ∃ b, v = .float .f64 b := by
  cases fuel with
  | zero => simp [DataW.trod] at h
  | succ n =>
    unfold DataW.trod at h
    rw [ht] at h
    split at h <;> simp_all
/-- A value's cells. -/
theorem val_cells {P : Program} {t : TypeId} {f0 f1 f2 f3 : Field} {n : Nat} {cs : List Value} {x : DataW H × List MemPlace} (hs : P.underlying t = some (.struct #[f0, f1, f2, f3])) (hC : P.cellsOf t = 4)
    (o0 : f0.offset = 0) (o1 : f1.offset = 1) (o2 : f2.offset = 2) (o3 : f3.offset = 3) (c0 : P.cellsOf f0.type = 1) (c1 : P.cellsOf f1.type = 1) (c2 : P.cellsOf f2.type = 1) (c3 : P.cellsOf f3.type = 1)
    (u0 : P.underlying f0.type = some (.int .i64)) (u1 : P.underlying f1.type = some (.int .i64)) (u2 : P.underlying f2.type = some .string) (u3 : P.underlying f3.type = some (.float .f64))
    (h : DataW.trod enc P w base spare held n t cs = some x) : ∃ (k i : Int) (s : ByteArray) (f : Nat), cs = [.int .i64 k, .int .i64 i, .string s, .float .f64 f] := by
  obtain ⟨xs, m, -, hx, hlen, hxl, hf⟩ := DataW.trod_struct hs h
  rw [hC] at hlen
  match cs, hlen with
  | [a, b, c, d], _ =>
    match xs, hxl with
    | [y0, y1, y2, y3], _ =>
      have g0 := hf 0 f0 rfl
      have g1 := hf 1 f1 rfl
      have g2 := hf 2 f2 rfl
      have g3 := hf 3 f3 rfl
      rw [o0, c0] at g0
      rw [o1, c1] at g1
      rw [o2, c2] at g2
      rw [o3, c3] at g3
      obtain ⟨k, e0, -, -⟩ := DataW.trod_int u0 g0
      obtain ⟨i, e1, -, -⟩ := DataW.trod_int u1 g1
      obtain ⟨s, e2, -, -⟩ := DataW.trod_string u2 g2
      obtain ⟨f, e3⟩ := trod_f64 u3 g3
      simp at e0 e1 e2 e3
      subst e0 e1 e2 e3
      exact ⟨k, i, s, f, rfl⟩
theorem open_vals {fuel : Nat} {v : Value} {x : DataW H × List MemPlace} (h : DataW.trod enc Tryz.prog w base spare held fuel 27 [v] = some x) : ∃ (A : Option Addr) (n cap : Nat), v = .slice A n cap ∧ Vals w A n := by
  rcases open_slice Tryz.underlying27 h with ⟨hcs, -⟩ | ⟨a, len, cap, m, n, D, Pl, hcs, -, hl, hm, hmm, -, hi⟩
  · simp at hcs
    subst hcs
    exact ⟨none, 0, 0, rfl, Nat.zero_le _, fun h => absurd h (by omega), fun a h => by cases h⟩
  · simp at hcs
    subst hcs
    have hle : len ≤ m := by rw [hmm]; split <;> omega
    refine ⟨some a, len, cap, rfl, by omega, fun _ => rfl, fun a' ha => ?_⟩
    cases ha
    have key : ∀ i : Fin len, ∃ l : List Value, (∃ (k i : Int) (s : ByteArray) (f : Nat), l = [.int .i64 k, .int .i64 i, .string s, .float .f64 f]) ∧ ∀ (j : Nat) u, l[j]? = some u → w.cell? (a.add (i.1 * 4 + j)) = some u := by
      intro ⟨i, hil⟩
      obtain ⟨cs, hc, ht⟩ := hi i (by omega)
      rw [cells71] at hc
      obtain ⟨-, hcl, hat⟩ := World.cells?_some hc
      obtain ⟨k, i', s, f, rfl⟩ := val_cells Tryz.underlying71 cells71 rfl rfl rfl rfl (by kernel_rfl) (by kernel_rfl) (by kernel_rfl) (by kernel_rfl) Tryz.underlying3 Tryz.underlying2 Tryz.underlying9 (by kernel_rfl) ht
      refine ⟨_, ⟨k, i', s, f, rfl⟩, fun j u hj => ?_⟩
      have hj4 : j < 4 := by
        have := (List.getElem?_eq_some_iff.1 hj).1
        simpa using this
      have := hat j hj4
      rw [← Go.Deep.add_add, this, hj]
    have hnews : ∀ (n : Nat) (g : Nat → List Value), (∀ i, i < n → (g i).length = 4) → (((List.range n).flatMap g).length = n * 4 ∧ ∀ (i j : Nat), i < n → j < 4 → ((List.range n).flatMap g)[i * 4 + j]? = (g i)[j]?) := by
      intro n g
      induction n with
      | zero => intro _; exact ⟨rfl, fun i j h => absurd h (by omega)⟩
      | succ n ih =>
        intro hg
        obtain ⟨h1, h2⟩ := ih fun i hi => hg i (by omega)
        rw [List.range_succ, List.flatMap_append]
        simp only [List.flatMap_cons, List.flatMap_nil, List.append_nil]
        refine ⟨by rw [List.length_append, h1, hg n (by omega)]; omega, fun i j hi hj => ?_⟩
        by_cases hin : i < n
        · rw [List.getElem?_append_left (by rw [h1]; omega), h2 i j hin hj]
        · obtain rfl : i = n := by omega
          rw [List.getElem?_append_right (by rw [h1]; omega), h1]
          congr 1
          omega
    let g : Nat → List Value := fun i => if h : i < len then (key ⟨i, h⟩).choose else []
    have hg : ∀ i (h : i < len), g i = (key ⟨i, h⟩).choose := fun i h => by simp [g, h]
    have hs : ∀ i (h : i < len), (∃ (k i' : Int) (s : ByteArray) (f : Nat), g i = [.int .i64 k, .int .i64 i', .string s, .float .f64 f]) ∧ ∀ (j : Nat) u, (g i)[j]? = some u → w.cell? (a.add (i * 4 + j)) = some u := fun i h => by
      rw [hg i h]; exact (key ⟨i, h⟩).choose_spec
    obtain ⟨h1, h2⟩ := hnews len g fun i hi => by
      obtain ⟨k, i', s, f, e⟩ := (hs i hi).1
      rw [e]; rfl
    refine ⟨(List.range len).flatMap g, h1, fun j u hj => ?_, fun u hu => ?_, fun i hi => ?_⟩
    · have hlt := (List.getElem?_eq_some_iff.1 hj).1
      rw [h1] at hlt
      have e := h2 (j / 4) (j % 4) (by omega) (by omega)
      have ej : j / 4 * 4 + j % 4 = j := by omega
      rw [ej, hj] at e
      have := (hs (j / 4) (by omega)).2 (j % 4) u e.symm
      rwa [ej] at this
    · obtain ⟨i, hi, hu⟩ := List.mem_flatMap.1 hu
      obtain ⟨k, i', s, f, e⟩ := (hs i (List.mem_range.1 hi)).1
      rw [e] at hu
      simp at hu
      rcases hu with rfl | rfl | rfl | rfl <;> rfl
    · obtain ⟨k, i', s, f, e⟩ := (hs i hi).1
      exact ⟨s, by rw [h2 i 2 hi (by omega), e]; rfl⟩
theorem open_ints {k : IntKind} {t e : TypeId} {fuel : Nat} {v : Value} {x : DataW H × List MemPlace} (ht : Tryz.prog.underlying t = some (.slice e)) (hc : Tryz.prog.cellsOf e = 1) (hk : Tryz.prog.underlying e = some (.int k)) (h : DataW.trod enc Tryz.prog w base spare held fuel t [v] = some x) :
    ∃ (A : Option Addr) (l : List Int) (cap : Nat), v = .slice A l.length cap ∧ l.length ≤ maxLen ∧ (0 < l.length → ∃ a, A = some a ∧ a.spot = none ∧ ∀ (i : Nat) (h : Int), l[i]? = some h → w.cell? ⟨a.block, a.off + i, none⟩ = some (.int k h) ∧ (Lit.int k h).wf = true) := by
  rcases open_slice1 ht hc h with ⟨hcs, -⟩ | ⟨a, len, cap, m, n, V, D, Pl, hcs, -, hl, hm, hmm, -, hi⟩
  · simp at hcs
    subst hcs
    exact ⟨none, [], 0, rfl, Nat.zero_le _, fun h => absurd h (by simp)⟩
  · simp at hcs
    subst hcs
    have hle : len ≤ m := by rw [hmm]; split <;> omega
    have key : ∀ i, i < len → ∃ z : Int, w.cell? (a.add i) = some (.int k z) ∧ (Lit.int k z).wf = true := fun i hil => by
      obtain ⟨h1, h2⟩ := hi i (by omega)
      obtain ⟨z, e, -, hw⟩ := DataW.trod_int hk h2
      simp at e
      exact ⟨z, by rw [h1, e], hw⟩
    obtain ⟨Z, hZ⟩ := choose_lt key
    refine ⟨some a, (List.range len).map Z, cap, by simp, by simp; omega, fun hp => ?_⟩
    have hp' : 0 < len := by simpa using hp
    have hs : a.spot = none := World.cell?_spot (a := a) (hZ 0 hp').1
    obtain ⟨b, o, s⟩ := a
    obtain rfl : s = none := hs
    refine ⟨_, rfl, rfl, fun i h hh => ?_⟩
    have hi' : i < len := by
      have := (List.getElem?_eq_some_iff.1 hh).1
      simpa using this
    simp [hi'] at hh
    subst hh
    obtain ⟨h1, h2⟩ := hZ i hi'
    rw [Addr.add_lit] at h1
    exact ⟨h1, h2⟩
theorem chg_gen {P : Program} {t : TypeId} {f0 f1 f2 f3 : Field} {n : Nat} {cs : List Value} {x : DataW H × List MemPlace} (hs : P.underlying t = some (.struct #[f0, f1, f2, f3])) (hC : P.cellsOf t = 4)
    (o0 : f0.offset = 0) (o1 : f1.offset = 1) (o2 : f2.offset = 2) (o3 : f3.offset = 3) (c0 : P.cellsOf f0.type = 1) (c1 : P.cellsOf f1.type = 1) (c2 : P.cellsOf f2.type = 1) (c3 : P.cellsOf f3.type = 1)
    (h : DataW.trod enc P w base spare held n t cs = some x) : ∃ a b c d y0 y1 y2 y3 m, cs = [a, b, c, d] ∧ DataW.trod enc P w base spare held m f0.type [a] = some y0 ∧ DataW.trod enc P w base spare held m f1.type [b] = some y1 ∧ DataW.trod enc P w base spare held m f2.type [c] = some y2 ∧ DataW.trod enc P w base spare held m f3.type [d] = some y3 := by
  obtain ⟨xs, m, -, hx, hlen, hxl, hf⟩ := DataW.trod_struct hs h
  rw [hC] at hlen
  match cs, hlen with
  | [a, b, c, d], _ =>
    match xs, hxl with
    | [y0, y1, y2, y3], _ =>
      have g0 := hf 0 f0 rfl
      have g1 := hf 1 f1 rfl
      have g2 := hf 2 f2 rfl
      have g3 := hf 3 f3 rfl
      rw [o0, c0] at g0
      rw [o1, c1] at g1
      rw [o2, c2] at g2
      rw [o3, c3] at g3
      exact ⟨a, b, c, d, y0, y1, y2, y3, m, rfl, g0, g1, g2, g3⟩
theorem chg_cells {fuel : Nat} {cs : List Value} {x : DataW H × List MemPlace} (h : DataW.trod enc Tryz.prog w base spare held fuel 29 cs = some x) : ∃ c : Cg, cs = [.string c.tb, .int .i64 c.id, .slice c.A2 c.n2 c.q2, .slice c.A3 c.n3 c.q3] ∧ Vals w c.A2 c.n2 ∧ Vals w c.A3 c.n3 ∧ c.tb.size ≤ maxLen := by
  obtain ⟨a, b, c, d, y0, y1, y2, y3, m, rfl, g0, g1, g2, g3⟩ := chg_gen Tryz.underlying29 cells29 rfl rfl rfl rfl cells9 cells2 cells27 cells27 h
  obtain ⟨s, e0, -, hs⟩ := DataW.trod_string Tryz.underlying9 g0
  obtain ⟨i, e1, -, -⟩ := DataW.trod_int Tryz.underlying2 g1
  obtain ⟨A2, n2, q2, e2, v2⟩ := open_vals (v := c) g2
  obtain ⟨A3, n3, q3, e3, v3⟩ := open_vals (v := d) g3
  simp at e0 e1
  subst e0 e1 e2 e3
  exact ⟨⟨s, i, A2, n2, q2, A3, n3, q3⟩, rfl, v2, v3, hs⟩
theorem open_chgs {fuel : Nat} {v : Value} {x : DataW H × List MemPlace} (h : DataW.trod enc Tryz.prog w base spare held fuel 22 [v] = some x) :
    ∃ (A : Option Addr) (l : List Cg) (cap : Nat), v = .slice A l.length cap ∧ l.length ≤ maxLen ∧ (0 < l.length → ∃ a, A = some a ∧ a.spot = none ∧ ∀ (i : Nat) (c : Cg), l[i]? = some c →
      w.cell? ⟨a.block, a.off + i * 4, none⟩ = some (.string c.tb) ∧ w.cell? ⟨a.block, a.off + i * 4 + 1, none⟩ = some (.int .i64 c.id) ∧ w.cell? ⟨a.block, a.off + i * 4 + 2, none⟩ = some (.slice c.A2 c.n2 c.q2) ∧
        w.cell? ⟨a.block, a.off + i * 4 + 3, none⟩ = some (.slice c.A3 c.n3 c.q3) ∧ Vals w c.A2 c.n2 ∧ Vals w c.A3 c.n3 ∧ c.tb.size ≤ maxLen) := by
  rcases open_slice Tryz.underlying22 h with ⟨hcs, -⟩ | ⟨a, len, cap, m, n, D, Pl, hcs, -, hl, hm, hmm, -, hi⟩
  · simp at hcs
    subst hcs
    exact ⟨none, [], 0, rfl, Nat.zero_le _, fun h => absurd h (by simp)⟩
  · simp at hcs
    subst hcs
    have hle : len ≤ m := by rw [hmm]; split <;> omega
    have key : ∀ i : Fin len, ∃ c : Cg, (∀ (j : Nat) u, ([.string c.tb, .int .i64 c.id, .slice c.A2 c.n2 c.q2, .slice c.A3 c.n3 c.q3] : List Value)[j]? = some u → w.cell? (a.add (i.1 * 4 + j)) = some u) ∧ Vals w c.A2 c.n2 ∧ Vals w c.A3 c.n3 ∧ c.tb.size ≤ maxLen := by
      intro ⟨i, hil⟩
      obtain ⟨cs, hc, ht⟩ := hi i (by omega)
      rw [cells29] at hc
      obtain ⟨-, hcl, hat⟩ := World.cells?_some hc
      obtain ⟨c, rfl, hv⟩ := chg_cells ht
      refine ⟨c, fun j u hj => ?_, hv⟩
      have hj4 : j < 4 := by
        have := (List.getElem?_eq_some_iff.1 hj).1
        simpa using this
      have := hat j hj4
      rw [← Go.Deep.add_add, this, hj]
    refine ⟨some a, List.ofFn fun i => (key i).choose, cap, by simp, by simp; omega, fun hp => ?_⟩
    have hp' : 0 < len := by simpa using hp
    have hs : a.spot = none := by
      have := (key ⟨0, hp'⟩).choose_spec.1 0 _ rfl
      exact World.cell?_spot (a := a) this
    obtain ⟨b, o, s⟩ := a
    obtain rfl : s = none := hs
    refine ⟨_, rfl, rfl, fun i c hc => ?_⟩
    rw [List.getElem?_ofFn] at hc
    split at hc
    · rename_i hjl
      cases hc
      obtain ⟨h1, h2⟩ := (key ⟨i, hjl⟩).choose_spec
      have e0 := h1 0 _ rfl
      have e1 := h1 1 _ rfl
      have e2 := h1 2 _ rfl
      have e3 := h1 3 _ rfl
      rw [Addr.add_lit] at e0 e1 e2 e3
      exact ⟨e0, e1, e2, e3, h2⟩
    · cases hc
end
end Go.Proofs.YtihifldpknpjhaaGreatDoor.Wk
