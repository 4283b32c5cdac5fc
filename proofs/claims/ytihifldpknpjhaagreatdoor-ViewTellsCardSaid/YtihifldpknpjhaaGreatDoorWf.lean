/- Contracts by runs of the executor: errors.As of a Fault; the mark that a Fault bears. -/
import Derived.Test.YtihifldpknpjhaaGreatDoorIntr
import Derived.Test.YtihifldpknpjhaaGreatDoorWe
namespace Go.Ex
noncomputable section
open Go.RowKit (Below)
open Go.Proofs

/-- A call by a run from some blocks: what they hold behind it. -/
theorem callLay {P : Program} [Intr P] (hm : P.follows .mixedOrders = true) {G fuel : Nat} {f : FuncId} {args args' : List Value} {gl : List (Nat × List Value)} {os : List AO} {bs : List Nat} {cap es : Nat → Nat} {vs : Nat → Value} {k : Value → T AO → Nat → Bool} {w : World} {B : Bd}
    (hb : (bodyOf P f).isSome = true) (hk : enterK P G (execF P G fuel) f args (layH gl os G) (G + bs.length) k = true) (hlim : B.lim ≤ w.heap.size) (hl : GlAt G (mL G bs cap es vs) w gl) (hos : LaysO (mL G bs cap es vs) w B os bs G) (hnd : bs.Nodup) (hne : ∀ x ∈ gl, x.1 ∉ bs)
    (ha : VRs (mL G bs cap es vs) args args') (hp : ∀ v h n, k (pan v) h n = false) :
    Calls P f ⟨args'⟩ w fun e w' => ∃ v v' m' h' n', e = .returned v' ∧ (mL G bs cap es vs).le m' ∧ VR m' v v' ∧ k v h' n' = true ∧ BelowS B w w' ∧ ∀ b o, h'.get b = some o → o.live = true → m'.dom b ∧ ∃ co, w'.heap[m'.mu b]? = some co ∧ OR m' b o co :=
  (callH hm hb hk (mL_GR G bs cap es vs) (lay_HR hlim hl hos hnd hne) ha hp).mono fun _ _ ⟨v, v', m', h', n', h1, h2, h3, h4, h5⟩ =>
    ⟨v, v', m', h', n', h1, h2, h3, h5, h4.lr.below, fun b o hb hlv => h4.lr.ok b o (ov_some hb) hlv⟩

/-- All blocks but one. -/
def butB (w : World) (b : Nat) : Bd := ⟨w.heap.size, fun i => i < w.heap.size ∧ i ≠ b, fun _ h => h.1⟩
def allB (w : World) : Bd := ⟨w.heap.size, fun i => i < w.heap.size, fun _ h => h⟩

theorem vr_ptr {m : Mp} {b k : Nat} (hd : m.dom b) (hk : m.mu b = k) : VR m (.pointer (some ⟨b, 0, none⟩)) (.pointer (some ⟨k, 0, none⟩)) := by
  have := VR.ptr (m := m) b 0 hd
  rwa [hk] at this

/-- errors.errorType, as the program's start lays it. -/
def ErrT (w : World) : Prop := ∃ e fz, w.heap[0]? = some (.cells #[hndl 193 3 36] e fz)
theorem glErr {w : World} (h : ErrT w) (bs : List Nat) (cap es : Nat → Nat) (vs : Nat → Value) : GlAt 64 (mL 64 bs cap es vs) w [(0, [hndl 193 3 36])] := fun x hx => by
  obtain rfl := List.mem_singleton.1 hx
  obtain ⟨e, fz, h⟩ := h
  exact ⟨by decide, fun v hv => by obtain rfl := List.mem_singleton.1 hv; rfl, _, e, fz, h, hndl_VR (mL_GR 64 bs cap es vs) (by decide), trivial⟩

def asTest (v : Value) (h : T AO) (_ : Nat) : Bool :=
  isTrue v && match h.get 65 with
  | some (.cells 0 [x] t _) => veq 4 x (.pointer (some ⟨64, 0, none⟩)) && Nat.beq t 83
  | _ => false

theorem asBody : (bodyOf Tryz.prog 27).isSome = true := by kernel_rfl
theorem asRun : enterK Tryz.prog 64 (execF Tryz.prog 64 4000) 27 [.iface 83 (.pointer (some ⟨64, 0, none⟩)), .iface 86 (.pointer (some ⟨65, 0, none⟩))]
    (layH [(0, [hndl 193 3 36])] [.cells 2 [.complex .f32 0 8, .complex .f32 0 8, .complex .f32 0 8] 88 3, .cells 0 [.pointer none] 83 1] 64) 66 asTest = true := by kernel_rfl

theorem as_fault (w : World) (fb tb : Nat) (a b c : Value) (ha : atom a = true) (hb : atom b = true) (hc : atom c = true) (hE : ErrT w) (hf : w.heap[fb]? = some (.cells #[a, b, c] 88 (0, 0))) (ht : w.heap[tb]? = some (.cells #[.pointer none] 83 (0, 0))) (h0 : fb ≠ 0 ∧ tb ≠ 0) :
    Calls Tryz.prog 27 #[.iface 83 (.pointer (some ⟨fb, 0, none⟩)), .iface 86 (.pointer (some ⟨tb, 0, none⟩))] w fun e w' => e = .returned (.bool true) ∧ BelowS (butB w tb) w w' ∧ w'.heap[tb]? = some (.cells #[.pointer (some ⟨fb, 0, none⟩)] 83 (0, 0)) := by
  have hne : fb ≠ tb := Go.Proofs.YtihifldpknpjhaaGreatDoor.Wk.blk_ne hf ht (by decide)
  refine (callLay (B := butB w tb) (bs := [fb, tb]) (cap := fun _ => 0) (es := fun _ => 0) (vs := fun _ => .nilIface) (args' := [.iface 83 (.pointer (some ⟨fb, 0, none⟩)), .iface 86 (.pointer (some ⟨tb, 0, none⟩))]) mixedOrders asBody asRun (Nat.le_refl _) (glErr hE _ _ _ _) ?_ ?_ ?_ ?_ ?_).mono ?_
  · refine ⟨⟨⟨rfl, fun h => by cases h⟩, _, hf, .ro _ _ _ _ _ _ ?_ ?_⟩, ⟨⟨rfl, fun _ h => h.2 rfl⟩, _, ht, .closed _ _ _ _ ⟨.ptrN, trivial⟩ ?_⟩, trivial⟩
    · exact ⟨.top _ ha, .top _ hb, .top _ hc, trivial⟩
    · intro v hv; simp at hv; subst hv; rfl
    · intro v hv; simp at hv; subst hv; rfl
  · simp [hne]
  · intro x hx
    obtain rfl := List.mem_singleton.1 hx
    simp [h0.1.symm, h0.2.symm]
  · exact ⟨.iface _ _ _ (vr_ptr (mL_dom 64 _ _ _ _ (i := 0) rfl) (mL_mu 64 _ _ _ _ (i := 0) rfl)), .iface _ _ _ (vr_ptr (mL_dom 64 _ _ _ _ (i := 1) rfl) (mL_mu 64 _ _ _ _ (i := 1) rfl)), trivial⟩
  · intro v h n; rfl
  · rintro e w' ⟨v, v', m', h', n', rfl, hle, hv, hk, hB, hok⟩
    unfold asTest at hk
    rw [Bool.and_eq_true] at hk
    obtain ⟨hk1, hk2⟩ := hk
    refine ⟨?_, hB, ?_⟩
    · unfold isTrue at hk1
      split at hk1
      · subst hk1; rw [hv.inv_bool]
      · cases hk1
    · split at hk2
      · rename_i x t z hg
        rw [Bool.and_eq_true, nbeq, decide_eq_true_eq] at hk2
        obtain ⟨hk2, rfl⟩ := hk2
        obtain rfl := veq_eq _ _ _ hk2
        obtain ⟨hd, co, hco, hor⟩ := hok 65 _ hg rfl
        have e65 := (hle 65 (mL_dom 64 [fb, tb] _ _ _ (i := 1) rfl)).2.1
        have e64 := (hle 64 (mL_dom 64 [fb, tb] _ _ _ (i := 0) rfl)).2.1
        rw [mL_mu 64 [fb, tb] _ _ _ (i := 1) (b := tb) rfl] at e65
        rw [mL_mu 64 [fb, tb] _ _ _ (i := 0) (b := fb) rfl] at e64
        rw [e65] at hco
        cases hor with
        | closed _ _ _ cs hcs _ =>
          obtain ⟨y, hy, hvy⟩ := vrs1 hcs
          obtain ⟨rfl, _⟩ := hvy.inv_ptr
          rw [e64] at hy
          have : cs = #[.pointer (some ⟨fb, 0, none⟩)] := by apply Array.ext'; rw [hy]
          rw [this] at hco
          exact hco
      · cases hk2
end
end Go.Ex
