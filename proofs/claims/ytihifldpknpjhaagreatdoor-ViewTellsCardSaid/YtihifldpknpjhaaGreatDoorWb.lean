/- slices.Clone of values and of observers; schema.Copy. -/
import Derived.Test.YtihifldpknpjhaaGreatDoorWa
import Derived.Lib.SliceRun
import Derived.Lib.Walk
namespace Go.Proofs.YtihifldpknpjhaaGreatDoor.Wk
open Go.RowKit

theorem info71 : (Tryz.prog.info? 71).map (fun i => (i.zero, i.size, i.bytes)) = some (some (.agg #[.int .i64 0, .int .i64 0, .string ⟨#[]⟩, .float .f64 0]), 4, 40) := by kernel_rfl
theorem info78 : (Tryz.prog.info? 78).map (fun i => (i.zero, i.size, i.bytes)) = some (some (.agg #[.nilFunc, .int .i64 0]), 2, 16) := by kernel_rfl

set_option maxHeartbeats 1000000 in
set_option maxRecDepth 100000 in
theorem clone_vals (a : Addr) (n c : Nat) (news : List Value) (w : World) (hl : news.length = n * 4) (hn : n ≤ 1000) (hc : ∀ j u, news[j]? = some u → w.cell? (a.add j) = some u) (h1 : ∀ u ∈ news, u.oneCell' = true) :
    Calls Tryz.prog 82 #[.slice (some a) n c] w fun e w' => (∃ A m q, e = .returned (.slice A m q)) ∧ Below w.heap.size w w' := by
  obtain ⟨i0, hi, hz0, hz1, hz2⟩ := info_parts info71
  have q22 : ∀ (w : World) (a : Option Addr) (n c n' c' : Nat), (binOp .eql 27 (.slice a n c) (.slice none n' c')).run Tryz.prog w = .ok (.bool a.isNone) w := fun w a n c n' c' => Lib.run_eql_slice_nil w _ _ a n c n' c' Tryz.underlying27
  have A : Hid (∀ j u, news[j]? = some u → w.cell? (a.add j) = some u) := hc
  clear hc
  go_enter Tryz.func82, Tryz.ntmps82
  go_wp2_with (at_builtin; refine wpList_append_own _ rfl _ _ 27 rfl w.heap.size 71 i0 _ 4 40 Tryz.underlying27 hi hz0 hz1 hz2 rfl (by decide) _ _ _ rfl (World.ownsRow_made w #[] 0 (Nat.le_refl _) (Nat.zero_le _) (by simp)) a n c news rfl ?qc1 ?qc2 ?qc3 ?qc4 ?qc5 ?qc6 ?_)
  case qc1 => exact hl
  case qc2 =>
    intro j u hj
    exact Lib.cell?_alloc_some _ (A.out j u hj)
  case qc3 => exact h1
  case qc4 => unfold maxLen; omega
  case qc5 => omega
  case qc6 => simp
  intro v' w1 hown hgrow hnil
  go_wp2
  go_ret
  refine ⟨?_, ((Below.refl _ w).alloc (Nat.le_refl _) _).grown hgrow (by simp) (by intro k hk; simp [Value.ownBlock] at hk; omega)⟩
  rcases hown.2 with ⟨rfl, _⟩ | ⟨g, cap, cur, rfl, _⟩
  · exact ⟨_, _, _, rfl⟩
  · exact ⟨_, _, _, rfl⟩

set_option maxHeartbeats 1000000 in
theorem clone_vals_nil (n c : Nat) (w : World) : Calls Tryz.prog 82 #[.slice none n c] w fun e w' => e = .returned (.slice none 0 0) ∧ w' = w := by
  have q22 : ∀ (w : World) (a : Option Addr) (n c n' c' : Nat), (binOp .eql 27 (.slice a n c) (.slice none n' c')).run Tryz.prog w = .ok (.bool a.isNone) w := fun w a n c n' c' => Lib.run_eql_slice_nil w _ _ a n c n' c' Tryz.underlying27
  go_enter Tryz.func82, Tryz.ntmps82
  go_wp2
  go_ret
  exact ⟨rfl, rfl⟩

/-- A slice of values that can be read. -/
def Rd (w : World) (v : Value) : Prop := ∃ A n c, v = .slice A n c ∧ n ≤ 1000 ∧ ∀ a, A = some a → ∃ news : List Value, news.length = n * 4 ∧ (∀ j u, news[j]? = some u → w.cell? (a.add j) = some u) ∧ ∀ u ∈ news, u.oneCell' = true

set_option maxHeartbeats 1000000 in
theorem copy (v : Value) (w : World) (h : Rd w v) : Calls Tryz.prog 52 #[v] w fun e w' => (∃ A m q, e = .returned (.slice A m q)) ∧ Below w.heap.size w w' := by
  obtain ⟨A, n, c, rfl, hn, hA⟩ := h
  have hcl : Calls Tryz.prog 82 #[.slice A n c] w fun e w' => (∃ A m q, e = .returned (.slice A m q)) ∧ Below w.heap.size w w' := by
    cases A with
    | none => exact (clone_vals_nil n c w).mono fun e w' ⟨h1, h2⟩ => ⟨⟨_, _, _, h1⟩, by rw [h2]; exact Below.refl _ _⟩
    | some a =>
      obtain ⟨news, h1, h2, h3⟩ := hA a rfl
      exact clone_vals a n c news w h1 hn h2 h3
  clear hA
  go_enter Tryz.func52, Tryz.ntmps52
  go_wp2_with (go_at_call 82; refine hcl.mono ?_; rintro e w' ⟨⟨A', m, q, rfl⟩, hb⟩)
  go_ret
  exact ⟨⟨_, _, _, rfl⟩, hb⟩
end Go.Proofs.YtihifldpknpjhaaGreatDoor.Wk
