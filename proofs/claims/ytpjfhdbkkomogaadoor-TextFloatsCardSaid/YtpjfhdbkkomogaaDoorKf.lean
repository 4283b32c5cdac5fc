/- Small closed calls, each by one run of the executor: a power of two's place, noughts repeated. -/
import Derived.Test.YtpjfhdbkkomogaaDoorKn
namespace Go.Ex
open Go.Proofs Go.RowKit
noncomputable section
def isInt (n : Int) (v : Value) : Bool := match v with
  | .int .i64 x => decide (x = n)
  | _ => false
theorem isInt_is {n : Int} {v : Value} (h : isInt n v = true) : v = .int .i64 n := by
  unfold isInt at h
  split at h
  · rw [of_decide_eq_true h]
  · cases h
def isStr (l : List UInt8) (v : Value) : Bool := match v with
  | .string s => s.data.toList == l
  | _ => false
theorem isStr_is {l : List UInt8} {v : Value} (h : isStr l v = true) : v = .string ⟨l.toArray⟩ := by
  unfold isStr at h
  split at h
  · rename_i s
    have e : s.data.toList = l := eq_of_beq h
    rw [← e]
  · cases h
theorem tzBody : (bodyOf Tryd.prog 79).isSome = true := by kernel_rfl
theorem tzRun : runM Tryd.prog 64 2000 79 [.int .u64 16] [(6, d64)] (isInt 4) = true := by kernel_rfl
theorem tz_calls (w : World) (e6 : TypeId) (z6 : Nat × Nat) (h6 : w.heap[6]? = some (.cells d64.toArray e6 z6)) :
    Calls Tryd.prog 79 #[.int .u64 16] w fun e w' => e = .returned (.int .i64 4) ∧ Below w.heap.size w w' := by
  refine (runM_run (es := fun _ => 0) mixedT tzBody tzRun (fun _ => rfl) (.cons (.int .u64 16) .nil) w fun x hx => ?_).mono fun e w' ⟨⟨v, v', m', e1, e2, e3⟩, e4⟩ => ⟨?_, e4⟩
  · obtain rfl := List.mem_singleton.1 hx
    exact ⟨by decide, fun v hv => List.all_eq_true.1 d64_atoms v hv, _, e6, z6, h6, VRs.refl_of fun v hv => flat_refl _ 2 v (List.all_eq_true.1 d64_flat v hv)⟩
  · rw [isInt_is e3] at e2
    rw [e1, e2.inv_int]
theorem powBody : (bodyOf Tryd.prog 78).isSome = true := by kernel_rfl
theorem powRun : lawM Tryd.prog 64 2000 78 [.int .i64 16] [] = true := by kernel_rfl
theorem pow_calls (w : World) : Calls Tryd.prog 78 #[.int .i64 16] w fun e w' => e = .returned (.bool true) ∧ Below w.heap.size w w' :=
  lawM_run (es := fun _ => 0) mixedT powBody powRun (.cons (.int .i64 16) .nil) w fun x hx => by cases hx
theorem repBody : (bodyOf Tryd.prog 30).isSome = true := by kernel_rfl
theorem repRun : ((List.range 16).all fun c => runM Tryd.prog 64 5000 30 [.string ⟨[48].toArray⟩, .int .i64 (c : Int)] [] (isStr (List.replicate c 48))) = true := by kernel_rfl
theorem rep_calls (c : Nat) (hc : c < 16) (w : World) :
    Calls Tryd.prog 30 #[.string ⟨[48].toArray⟩, .int .i64 (c : Int)] w fun e w' => e = .returned (.string ⟨(List.replicate c 48).toArray⟩) ∧ Below w.heap.size w w' :=
  (runM_run (es := fun _ => 0) mixedT repBody (List.all_eq_true.1 repRun c (List.mem_range.2 hc)) (fun _ => rfl) (.cons (.string _) (.cons (.int .i64 _) .nil)) w fun x hx => by cases hx).mono fun e w' ⟨⟨v, v', m', e1, e2, e3⟩, e4⟩ => by
    rw [isStr_is e3] at e2
    exact ⟨by rw [e1, e2.inv_string], e4⟩
end
end Go.Ex
