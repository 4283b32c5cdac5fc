/- Texts of this claim, one behind the other. -/
import Derived.Test.YtpjfhdbkkomogaaDoorB6
import Derived.Deep.Slices
import Derived.Deep.Fields
import Derived.ChangeSame
import Derived.Lib.SmallJoins
/- A slice of values that comes in: its cells; a value that comes in. -/
namespace Go.Proofs.YtpjfhdbkkomogaaDoor.Mb
open Go.RowKit Go.ChangeShapes Go.WideShapes Go.Deep Go.Proofs.YtpjfhdbkkomogaaDoorW.PrintWords Go.Proofs.YtpjfhdbkkomogaaDoor.Px
section
variable {H : Type} {enc : TypeId × Value → H} {w : World} {base : Nat} {spare : Nat → Bool} {held : Bool}
theorem trod_f64 {P : Program} {t : TypeId} {fuel : Nat} {v : Value} {x : DataW H × List MemPlace} (ht : P.underlying t = some (.float .f64)) (h : DataW.trod enc P w base spare held fuel t [v] = some x) :
    ∃ b, v = .float .f64 b ∧ x = (.lit (.float .f64 b), []) ∧ (Lit.float .f64 b).wf = true := by
  cases fuel with
  | zero => simp [DataW.trod] at h
  | succ n =>
    unfold DataW.trod at h
    rw [ht] at h
    split at h <;> simp_all
/-- A value's cells, wherever they are read. -/
theorem val_gen {P : Program} {t : TypeId} {f0 f1 f2 f3 : Field} {n : Nat} {cs : List Value} {x : DataW H × List MemPlace} (hs : P.underlying t = some (.struct #[f0, f1, f2, f3])) (hC : P.cellsOf t = 4)
    (o0 : f0.offset = 0) (o1 : f1.offset = 1) (o2 : f2.offset = 2) (o3 : f3.offset = 3) (c0 : P.cellsOf f0.type = 1) (c1 : P.cellsOf f1.type = 1) (c2 : P.cellsOf f2.type = 1) (c3 : P.cellsOf f3.type = 1)
    (u0 : P.underlying f0.type = some (.int .i64)) (u1 : P.underlying f1.type = some (.int .i64)) (u2 : P.underlying f2.type = some .string) (u3 : P.underlying f3.type = some (.float .f64))
    (h : DataW.trod enc P w base spare held n t cs = some x) :
    ∃ (k i : Int) (s : ByteArray) (f : Nat), cs = [.int .i64 k, .int .i64 i, .string s, .float .f64 f] ∧ x = (.agg [.lit (.int .i64 k), .lit (.int .i64 i), .lit (.string s.data.toList), .lit (.float .f64 f)], []) ∧
      (Lit.int .i64 k).wf = true ∧ (Lit.int .i64 i).wf = true ∧ s.size ≤ maxLen ∧ (Lit.float .f64 f).wf = true := by
  obtain ⟨xs, m, -, hx, hlen, hxl, hf⟩ := DataW.trod_struct hs h
  rw [hC] at hlen
  match cs, hlen with
  | [a, b, c, d], _ =>
    match xs, hxl with
    | [y0, y1, y2, y3], _ =>
      have g0 := hf 0 f0 rfl
      have g1 := hf 1 f1 rfl
      have g2 := hf 2 f2 rfl
      have g3 := hf 3 f3 rfl
      rw [o0, c0] at g0
      rw [o1, c1] at g1
      rw [o2, c2] at g2
      rw [o3, c3] at g3
      obtain ⟨k, e0, q0, w0⟩ := DataW.trod_int u0 g0
      obtain ⟨i, e1, q1, w1⟩ := DataW.trod_int u1 g1
      obtain ⟨s, e2, q2, w2⟩ := DataW.trod_string u2 g2
      obtain ⟨f, e3, q3, w3⟩ := trod_f64 u3 g3
      simp at e0 e1 e2 e3
      subst e0 e1 e2 e3 q0 q1 q2 q3
      exact ⟨k, i, s, f, rfl, hx, w0, w1, w2, w3⟩
theorem wf_i64 {n : Int} (h : (Lit.int .i64 n).wf = true) : -9223372036854775808 ≤ n ∧ n ≤ 9223372036854775807 := by
  simp [Lit.wf, IntKind.min, IntKind.max, IntKind.signed, IntKind.bits] at h
  omega
theorem wf_f64 {n : Nat} (h : (Lit.float .f64 n).wf = true) : n < 18446744073709551616 := by
  have := of_decide_eq_true h
  exact this
theorem val_cells {n : Nat} {cs : List Value} {x : DataW H × List MemPlace} (h : DataW.trod enc Tryd.prog w base spare held n 24 cs = some x) :
    ∃ v : S24, In v ∧ cs = [.int .i64 v.f0, .int .i64 v.f1, .string v.f2, .float .f64 v.f3] ∧ x = (.agg [.lit (.int .i64 v.f0), .lit (.int .i64 v.f1), .lit (.string v.f2.data.toList), .lit (.float .f64 v.f3)], []) ∧ (Lit.int .i64 v.f0).wf = true ∧ v.f2.size ≤ maxLen := by
  obtain ⟨k, i, s, f, hcs, hx, w0, w1, w2, w3⟩ := val_gen Tryd.underlying24 (by kernel_rfl) rfl rfl rfl rfl (by kernel_rfl) (by kernel_rfl) (by kernel_rfl) (by kernel_rfl) Tryd.underlying3 Tryd.underlying2 Tryd.underlying9 Tryd.underlying22 h
  exact ⟨⟨k, i, s, f⟩, ⟨(wf_i64 w1).1, (wf_i64 w1).2, wf_f64 w3⟩, hcs, hx, w0, w2⟩
theorem open_vals {fuel : Nat} {v : Value} {x : DataW H × List MemPlace} (h : DataW.trod enc Tryd.prog w base spare held fuel 25 [v] = some x) :
    ∃ (A : Option Addr) (cap : Nat) (l : List S24), v = .slice A l.length cap ∧ l.length ≤ cap ∧ cap ≤ maxLen ∧ Kd.C k24 w A l.length l ∧ ∀ v ∈ l, In v := by
  rcases open_slice Tryd.underlying25 h with ⟨hcs, -⟩ | ⟨a, len, cap, m, n, D, Pl, hcs, -, hl, hm, hmm, -, hi⟩
  · simp at hcs
    subst hcs
    exact ⟨none, 0, [], rfl, Nat.le_refl _, Nat.zero_le _, row_nil w none, fun v hv => absurd hv (by simp)⟩
  · simp at hcs
    subst hcs
    have hC : Tryd.prog.cellsOf 24 = 4 := by kernel_rfl
    have hle : len ≤ m := by rw [hmm]; split <;> omega
    have key : ∀ i : Fin len, ∃ v : S24, In v ∧ ∀ (j : Nat) u, ([.int .i64 v.f0, .int .i64 v.f1, .string v.f2, .float .f64 v.f3] : List Value)[j]? = some u → w.cell? (a.add (i.1 * 4 + j)) = some u := by
      intro ⟨i, hil⟩
      obtain ⟨cs, hc, ht⟩ := hi i (by omega)
      rw [hC] at hc
      obtain ⟨-, hcl, hat⟩ := World.cells?_some hc
      obtain ⟨v, hv, rfl, -⟩ := val_cells ht
      refine ⟨v, hv, fun j u hj => ?_⟩
      have hj4 : j < 4 := by
        have := (List.getElem?_eq_some_iff.1 hj).1
        simpa using this
      have := hat j hj4
      rw [← Go.Deep.add_add, this, hj]
    refine ⟨some a, cap, List.ofFn fun i => (key i).choose, by simp, by simpa using hl, hm, ?_, ?_⟩
    · refine row_of_cells w a _ (by simp; unfold maxLen at hm; omega) fun j v hj => ?_
      rw [List.getElem?_ofFn] at hj
      split at hj
      · rename_i hjl
        cases hj
        exact (key ⟨j, hjl⟩).choose_spec.2
      · cases hj
    · intro v hv
      rw [List.mem_ofFn] at hv
      obtain ⟨i, rfl⟩ := hv
      exact (key i).choose_spec.1
end
end Go.Proofs.YtpjfhdbkkomogaaDoor.Mb
