/- rialtohelp.Few, rialtohelp.Ids, view.NewWatch. -/
import Derived.Test.YtihifldpknpjhaaGreatDoorWl
namespace Go.Proofs.YtihifldpknpjhaaGreatDoor.Wk
open Go.RowKit

set_option maxHeartbeats 1000000 in
set_option maxRecDepth 100000 in
def FewEnds (n : Nat) (w : World) (e : Ending) (w' : World) : Prop := ∃ b : Bool, e = .returned (.bool b) ∧ w' = w ∧ (b = true → n ≤ 6)
/-- Few: of values that can be read, some answer; true: they are few. -/
theorem few (A : Option Addr) (n c : Nat) (w : World) (hn : n ≤ maxLen) (hA : 0 < n → ∃ a, A = some a ∧ a.spot = none ∧ ∀ i, i < n → ∃ s, w.cell? ⟨a.block, a.off + i * 4 + 2, none⟩ = some (.string s)) :
    Calls Tryz.prog 5 #[.slice A n c, .int .i64 6] w fun e w' => FewEnds n w e w' := by
  unfold maxLen at hn
  go_enter Tryz.func5, Tryz.ntmps5
  go_wp2_with fail
  go_loop [5] (fun iv => ∃ i : Nat, i ≤ n ∧ iv = .int .i64 i) (fun iv => n - (Go.RowKit.intOf iv).toNat)
  case atStart => exact ⟨0, Nat.zero_le _, rfl⟩
  case round =>
    obtain ⟨i, hi, rfl⟩ := hrel
    by_cases hlt : i < n
    · obtain ⟨⟨ab, ao, asp⟩, rfl, hsp, hC⟩ := hA (by omega)
      obtain rfl : asp = none := hsp
      obtain ⟨s, hs⟩ := hC i hlt
      clear hC
      go_wp2_with fail
      · go_ret
        exact ⟨false, rfl, rfl, fun h => by cases h⟩
      · go_round
        case rel => exact ⟨i + 1, by omega, by go_num⟩
        case measure => simp [Go.RowKit.intOf]; omega
    · obtain rfl : i = n := by omega
      go_wp2_with fail
      go_ret
      exact ⟨_, rfl, rfl, fun h => by have := of_decide_eq_true h; omega⟩

/-- A row of numbers that can be read. -/
def Row (w : World) (A : Option Addr) (xs : List Value) : Prop := 0 < xs.length → ∃ a, A = some a ∧ a.spot = none ∧ ∀ i u, xs[i]? = some u → w.cell? ⟨a.block, a.off + i, none⟩ = some u
theorem Row.of {w : World} {B : Nat} {A : Option Addr} {n c : Nat} {xs : List Value} (h : w.ownsRow B 2 1 (.slice A n c) n xs) : Row w A xs := by
  intro hp
  obtain ⟨hl, ⟨hv, rfl⟩ | ⟨g, cap, cur, hv, _, hh, hn, _, _, ht⟩⟩ := h
  · omega
  · cases hv
    refine ⟨_, rfl, rfl, fun i u hu => ?_⟩
    have hi := (List.getElem?_eq_some_iff.1 hu).1
    unfold World.cell?
    simp only [hh, Nat.zero_add]
    rw [← ht, List.getElem?_take_of_lt (by omega)] at hu
    simpa using hu

set_option maxHeartbeats 1000000 in
set_option maxRecDepth 100000 in
theorem ids (A1 A2 : Option Addr) (c1 c2 : Nat) (xs : List Value) (hint : ∀ u ∈ xs, ∃ n, u = .int .i64 n) (w : World) (hn : xs.length ≤ maxLen) (h1 : Row w A1 xs) (h2 : Row w A2 xs) :
    Calls Tryz.prog 11 #[.slice A1 xs.length c1, .slice A2 xs.length c2] w fun e w' => e = .returned (.bool true) ∧ Below w.heap.size w w' := by
  unfold maxLen at hn
  have HB : Hid (Below w.heap.size w w) := Below.refl _ _
  have H1 : Hid (Row w A1 xs) := h1
  have H2 : Hid (Row w A2 xs) := h2
  clear h1 h2
  go_enter Tryz.func11, Tryz.ntmps11
  go_wp2_with fail
  go_loopw [5] (fun iv wr => ∃ i : Nat, i ≤ xs.length ∧ iv = .int .i64 i ∧ Hid (Below w.heap.size w wr)) (fun iv _ => xs.length - (Go.RowKit.intOf iv).toNat)
  case atStart => exact ⟨0, Nat.zero_le _, rfl, HB⟩
  case round =>
    obtain ⟨i, hi, rfl, HC⟩ := hrel
    clear HB
    by_cases hlt : i < xs.length
    · obtain ⟨⟨ab, ao, asp⟩, rfl, hsp, hC⟩ := H1.out (by omega)
      obtain rfl : asp = none := hsp
      obtain ⟨⟨bb, bo, bsp⟩, rfl, hsp, hD⟩ := H2.out (by omega)
      obtain rfl : bsp = none := hsp
      obtain ⟨n, hn⟩ := hint xs[i] (List.getElem_mem hlt)
      have e1 := hC i _ (List.getElem?_eq_getElem hlt)
      have e2 := hD i _ (List.getElem?_eq_getElem hlt)
      rw [hn] at e1 e2
      have g1 : wr.cell? ⟨ab, ao + i, none⟩ = some (.int .i64 n) := (World.cell?_of_block (w := w) (HC.out.block ab (World.block_lt_of_cell? w _ e1))).trans e1
      have g2 : wr.cell? ⟨bb, bo + i, none⟩ = some (.int .i64 n) := (World.cell?_of_block (w := w) (HC.out.block bb (World.block_lt_of_cell? w _ e2))).trans e2
      clear hC hD e1 e2
      go_wp2_with fail
      go_quiet (fail)
      go_wp2_with fail
      go_roundw
      case rel => exact ⟨i + 1, by omega, by go_num, ⟨HC.out.os, HC.out.tape, HC.out.output, HC.out.size, HC.out.block⟩⟩
      case measure => simp [Go.RowKit.intOf]; omega
    · obtain rfl : i = xs.length := by omega
      go_wp2_with fail
      go_ret
      exact ⟨rfl, HC.out⟩

theorem new_watch (w : World) : Calls Tryz.prog 6 #[] w fun e w' => e = .returned (.pointer (some ⟨w.heap.size, 0, none⟩)) ∧ w' = w.alloc (.cells #[.slice none 0 0, .int .i64 0] 74) := by
  go_enter Tryz.func6, Tryz.ntmps6
  go_wp2
  go_ret
  exact ⟨rfl, rfl⟩
end Go.Proofs.YtihifldpknpjhaaGreatDoor.Wk
