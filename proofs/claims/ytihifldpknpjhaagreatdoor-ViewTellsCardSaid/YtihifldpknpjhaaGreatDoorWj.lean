/- Watch.Remove: by runs, for each number of observers and each place. -/
import Derived.Test.YtihifldpknpjhaaGreatDoorWh
namespace Go.Ex
noncomputable section
open Go.RowKit (Below)
open Go.Proofs

def sy (i : Nat) : Value := .complex .f32 i 3
/-- Observers numbered by names: the i-th's number is the name f i. -/
def named (f : Nat → Nat) : Nat → List Value
  | 0 => []
  | i + 1 => named f i ++ [nm i, sy (f i)]
def nameAt (p : Nat) (hit : Bool) (i : Nat) : Nat := sel hit i (sel (Nat.blt i p) i (i + 1))
def remRun (l p : Nat) (hit : Bool) : Bool :=
  enterK Tryz.prog 64 (execF Tryz.prog 64 4000) 9 [.pointer (some ⟨64, 0, none⟩), sy p]
    (layH [] [.cells (sel hit 0 2) [.slice (some ⟨65, 0, some 0⟩) l sent, nm 20] 74 2, .win (named (nameAt p hit) l)] 64) 66
    (sel hit (wTest (fun v => veq 2 v (.bool true)) (l - 1) (nm 20) (((named (nameAt p hit) l).take (2 * p)) ++ ((named (nameAt p hit) l).drop (2 * p + 2)))) (fun v _ _ => veq 2 v (.bool false)))
def remRunNil : Bool :=
  enterK Tryz.prog 64 (execF Tryz.prog 64 4000) 9 [.pointer (some ⟨64, 0, none⟩), sy 0] (layH [] [.cells 0 [.slice none 0 0, nm 20] 74 2] 64) 65 (fun v _ _ => veq 2 v (.bool false))
theorem remNil : remRunNil = true := by kernel_rfl

def upTo (p : Nat → Bool) : Nat → Bool
  | 0 => true
  | n + 1 => upTo p n && p n
theorem upTo_spec {p : Nat → Bool} : ∀ {n : Nat}, upTo p n = true → ∀ i, i < n → p i = true
  | n + 1, h, i, hi => by
    unfold upTo at h
    rw [Bool.and_eq_true] at h
    by_cases e : i = n
    · subst e; exact h.2
    · exact upTo_spec h.1 i (by omega)
theorem hits4 : upTo (fun l => upTo (fun p => remRun l p true) l) 6 = true := by kernel_rfl
theorem hits6 : upTo (fun p => remRun 6 p true) 6 = true := by kernel_rfl
theorem hits7 : upTo (fun p => remRun 7 p true) 7 = true := by kernel_rfl
theorem hits8 : upTo (fun p => remRun 8 p true) 8 = true := by kernel_rfl
theorem miss4 : upTo (fun l => upTo (fun p => remRun l p false) (l + 1)) 6 = true := by kernel_rfl
theorem miss6 : upTo (fun p => remRun 6 p false) 7 = true := by kernel_rfl
theorem miss7 : upTo (fun p => remRun 7 p false) 8 = true := by kernel_rfl
theorem miss8 : upTo (fun p => remRun 8 p false) 9 = true := by kernel_rfl
theorem hit_ok {l p : Nat} (hl : l ≤ 8) (hp : p < l) : remRun l p true = true := by
  by_cases h : l < 6
  · exact upTo_spec (upTo_spec hits4 l h) p hp
  · rcases (show l = 6 ∨ l = 7 ∨ l = 8 by omega) with rfl | rfl | rfl
    · exact upTo_spec hits6 p hp
    · exact upTo_spec hits7 p hp
    · exact upTo_spec hits8 p hp
theorem miss_ok {l p : Nat} (hl : l ≤ 8) (hp : p ≤ l) : remRun l p false = true := by
  by_cases h : l < 6
  · exact upTo_spec (upTo_spec miss4 l h) p (by omega)
  · rcases (show l = 6 ∨ l = 7 ∨ l = 8 by omega) with rfl | rfl | rfl
    · exact upTo_spec miss6 p (by omega)
    · exact upTo_spec miss7 p (by omega)
    · exact upTo_spec miss8 p (by omega)
theorem remBody : (bodyOf Tryz.prog 9).isSome = true := by kernel_rfl

theorem vr_sy {m : Mp} {b : Nat} {a : Int} (he : m.esz b = (a + 9223372036854775808).toNat) (h : -9223372036854775808 ≤ a ∧ a ≤ 9223372036854775807) (ho : ∀ i, i ≤ b → m.dom i ∧ (i < b → m.esz i < m.esz b)) : VR m (sy b) (.int .i64 a) := by
  have e : Int.ofNat (m.esz b) - 9223372036854775808 = a := by
    rw [he]
    show ((a + 9223372036854775808).toNat : Int) - _ = a
    omega
  have := VR.symo (m := m) .i64 b 3 rfl (by
    rw [e]
    have h7 : IntKind.i64.min = -9223372036854775808 := by decide
    have h8 : IntKind.i64.max = 9223372036854775807 := by decide
    rw [h7, h8]; exact h) (.inl rfl) ho
  rwa [e] at this
theorem named_length (f : Nat → Nat) : ∀ i, (named f i).length = 2 * i
  | 0 => rfl
  | i + 1 => by simp [named, named_length f i]; omega
theorem named_atom (f : Nat → Nat) : ∀ i, ∀ v ∈ named f i, atom v = true
  | 0, v, h => by simp [named] at h
  | i + 1, v, h => by
    simp only [named, List.mem_append, List.mem_cons, List.not_mem_nil, or_false] at h
    rcases h with h | rfl | rfl
    · exact named_atom f i v h
    · rfl
    · rfl
theorem named_det (f : Nat → Nat) : ∀ i, (named f i).all det = true
  | 0 => rfl
  | i + 1 => by simp [named, named_det f i, det, nm, sy]
theorem named_VRs {m : Mp} {f : Nat → Nat} {L : List (Value × Int)} (hd : ∀ j, j < L.length → m.dom j) (hv : ∀ (j : Nat) (x : Value × Int), L[j]? = some x → m.val j = x.1 ∧ atom x.1 = true) (hn : ∀ (j : Nat) (x : Value × Int), L[j]? = some x → VR m (sy (f j)) (.int .i64 x.2)) : ∀ i, i ≤ L.length → VRs m (named f i) (encL (L.take i))
  | 0, _ => by simp [named, encL, VRs]
  | i + 1, hi => by
    have hx : L[i]? = some L[i] := List.getElem?_eq_getElem (by omega)
    rw [List.take_add_one, hx, Option.toList_some, encL_snoc, named]
    exact VRs.append (named_VRs hd hv hn i (by omega)) ⟨.nam i _ (hd i (by omega)) (hv i _ hx).1 (hv i _ hx).2, hn i _ hx, trivial⟩

/-- Observers' numbers rise. -/
def Rise (L : List (Value × Int)) : Prop := (∀ (i j : Nat) (x y : Value × Int), L[i]? = some x → L[j]? = some y → i < j → x.2 < y.2) ∧ ∀ (j : Nat) (x : Value × Int), L[j]? = some x → atom x.1 = true ∧ 0 ≤ x.2 ∧ x.2 ≤ 1000

def esAt (L : List (Value × Int)) (p : Nat) (n : Int) (hit : Bool) (i : Nat) : Nat :=
  if hit then (((L[i]?).getD (.nilIface, 2000 + i)).2 + 9223372036854775808).toNat
  else if i < p then (((L[i]?).getD (.nilIface, 2000)).2 + 9223372036854775808).toNat else if i = p then (n + 9223372036854775808).toNat else (((L[i - 1]?).getD (.nilIface, 2000)).2 + 9223372036854775808).toNat
def vsAt (L : List (Value × Int)) (last : Int) (i : Nat) : Value := if i = 20 then .int .i64 last else ((L[i]?).getD (.nilIface, 0)).1

theorem encL_take (L : List (Value × Int)) (p : Nat) : (encL L).take (2 * p) = encL (L.take p) := by
  induction L generalizing p with
  | nil => simp [encL]
  | cons a L ih =>
    cases p with
    | zero => simp [encL]
    | succ p =>
      have : 2 * (p + 1) = 2 * p + 1 + 1 := by omega
      simp only [encL, List.flatMap_cons, List.cons_append, List.nil_append, this, List.take_succ_cons] at ih ⊢
      rw [ih]
theorem encL_drop (L : List (Value × Int)) (p : Nat) : (encL L).drop (2 * p) = encL (L.drop p) := by
  induction L generalizing p with
  | nil => simp [encL]
  | cons a L ih =>
    cases p with
    | zero => simp [encL]
    | succ p =>
      have : 2 * (p + 1) = 2 * p + 1 + 1 := by omega
      simp only [encL, List.flatMap_cons, List.cons_append, List.nil_append, this, List.drop_succ_cons] at ih ⊢
      rw [ih]
theorem encL_append (L R : List (Value × Int)) : encL (L ++ R) = encL L ++ encL R := by simp [encL]

theorem remove_hit (w : World) (wb : Nat) (L : List (Value × Int)) (last : Int) (p : Nat) (x : Value × Int) (hR : Rise L) (hlen : L.length ≤ 8) (hp : L[p]? = some x) (hw : Wt w wb L last) :
    Calls Tryz.prog 9 #[.pointer (some ⟨wb, 0, none⟩), .int .i64 x.2] w fun e w' => e = .returned (.bool true) ∧ BelowS (butB w wb) w w' ∧ Wt w' wb (L.eraseIdx p) last := by
  have hpl : p < L.length := (List.getElem?_eq_some_iff.1 hp).1
  obtain ⟨sv, hw, ⟨rfl, _⟩ | ⟨A, cap, cs, rfl, hA, hcs⟩⟩ := hw
  · simp at hpl
  have hAw : wb ≠ A := Go.Proofs.YtihifldpknpjhaaGreatDoor.Wk.blk_ne hw hA (by decide)
  have hes : ∀ (j : Nat) (y : Value × Int), L[j]? = some y → esAt L p x.2 true j = (y.2 + 9223372036854775808).toNat := fun j y hy => by
    unfold esAt; rw [if_pos rfl, hy]; rfl
  have hsy : ∀ (j : Nat) (y : Value × Int), L[j]? = some y → VR (mL 64 [wb, A] (fun _ => 0) (esAt L p x.2 true) (vsAt L last)) (sy j) (.int .i64 y.2) := fun j y hy => by
    have hb := hR.2 j y hy
    have hj := (List.getElem?_eq_some_iff.1 hy).1
    refine vr_sy (hes j y hy) (by omega) fun i hi => ⟨by show i < 64 + 2; omega, fun hl => ?_⟩
    show esAt L p x.2 true i < esAt L p x.2 true j
    have hiL : L[i]? = some L[i] := List.getElem?_eq_getElem (by omega)
    rw [hes j y hy, hes i _ hiL]
    have h1 := hR.1 i j _ _ hiL hy hl
    have h2 := hR.2 i _ hiL
    omega
  have hX : VRs (mL 64 [wb, A] (fun _ => 0) (esAt L p x.2 true) (vsAt L last)) (named (nameAt p true) L.length) (encL L) := by
    have := named_VRs (m := mL 64 [wb, A] (fun _ => 0) (esAt L p x.2 true) (vsAt L last)) (f := nameAt p true) (L := L) (fun j hj => by show j < 64 + 2; omega) (fun j y hy => by
      have hj := (List.getElem?_eq_some_iff.1 hy).1
      refine ⟨?_, (hR.2 j y hy).1⟩
      show vsAt L last j = y.1
      unfold vsAt
      rw [if_neg (by omega), hy]; rfl) hsy L.length (Nat.le_refl _)
    rwa [List.take_of_length_le (Nat.le_refl _)] at this
  have hX2 : VRs (mL 64 [wb, A] (fun _ => 0) (esAt L p x.2 true) (vsAt L last)) (((named (nameAt p true) L.length).take (2 * p)) ++ ((named (nameAt p true) L.length).drop (2 * p + 2))) (encL (L.eraseIdx p)) := by
    have h1 := hX.take (2 * p)
    have h2 := hX.drop (2 * (p + 1))
    rw [encL_take] at h1
    rw [encL_drop] at h2
    rw [List.eraseIdx_eq_take_drop_succ, encL_append]
    exact VRs.append h1 h2
  have hdet : (((named (nameAt p true) L.length).take (2 * p)) ++ ((named (nameAt p true) L.length).drop (2 * p + 2))).all det = true := by
    have := named_det (nameAt p true) L.length
    rw [List.all_eq_true] at this ⊢
    intro v hv
    rcases List.mem_append.1 hv with hv | hv
    · exact this v (List.mem_of_mem_take hv)
    · exact this v (List.mem_of_mem_drop hv)
  have hnl : VR (mL 64 [wb, A] (fun _ => 0) (esAt L p x.2 true) (vsAt L last)) (nm 20) (.int .i64 last) := .nam 20 _ (by show 20 < 64 + 2; omega) (by show vsAt L last 20 = _; unfold vsAt; rw [if_pos rfl]) rfl
  refine (callLay (G := 64) (fuel := 4000) (gl := []) (B := butB w wb) (bs := [wb, A]) (cap := fun _ => 0) (es := esAt L p x.2 true) (vs := vsAt L last) (args' := [.pointer (some ⟨wb, 0, none⟩), .int .i64 x.2]) mixedOrders remBody (hit_ok hlen hpl) (Nat.le_refl _) (fun x hx => by cases hx) ?_ ?_ ?_ ?_ ?_).mono ?_
  · refine ⟨⟨⟨rfl, fun _ h => h.2 rfl⟩, _, hw, .closed _ _ _ _ ⟨?_, hnl, trivial⟩ (fun v hv => by simp at hv; rcases hv with rfl | rfl <;> rfl)⟩, ⟨⟨rfl, fun h => by cases h⟩, _, hA, .win _ _ _ _ ?_ (named_atom _ _)⟩, trivial⟩
    · have := VR.slw (m := mL 64 [wb, A] (fun _ => 0) (esAt L p x.2 true) (vsAt L last)) 65 0 L.length sent cap (mL_dom 64 _ _ _ _ (i := 1) rfl) (Nat.le_refl _)
      rwa [mL_mu 64 [wb, A] _ _ _ (i := 1) (b := A) rfl] at this
    · rw [named_length]
      show VRs _ _ ((cs.toList.drop 0).take _)
      rw [List.drop_zero, hcs]
      exact hX
  · simp [hAw]
  · intro x hx; cases hx
  · exact ⟨vr_ptr (mL_dom 64 _ _ _ _ (i := 0) rfl) (mL_mu 64 _ _ _ _ (i := 0) rfl), hsy p x hp, trivial⟩
  · intro v h n
    rfl
  · rintro e w' ⟨v, v', m', h', n', rfl, hle, hv, hk, hB, hok⟩
    obtain ⟨hq, A', cap', cs', h1, h2, h3⟩ := wTest_ok (n := n') (wb := wb) hk hle (mL_dom 64 [wb, A] _ _ _ (i := 0) rfl) (mL_mu 64 [wb, A] _ _ _ (i := 0) rfl) hok hX2 hdet hnl rfl
    obtain rfl := veq_eq _ _ _ hq
    have hl2 : (L.eraseIdx p).length = L.length - 1 := List.length_eraseIdx_of_lt hpl
    refine ⟨by rw [hv.inv_bool], hB, _, h1, .inr ⟨A', cap', cs', ?_, h2, ?_⟩⟩
    · rw [hl2]
    · rw [hl2]; exact h3

theorem Rise.tail {a : Value × Int} {L : List (Value × Int)} (h : Rise (a :: L)) : Rise L :=
  ⟨fun i j x y hx hy hij => h.1 (i + 1) (j + 1) x y (by simpa using hx) (by simpa using hy) (by omega), fun j x hx => h.2 (j + 1) x (by simpa using hx)⟩
theorem gap (n : Int) : ∀ L : List (Value × Int), Rise L → (∀ x ∈ L, x.2 ≠ n) → ∃ p, p ≤ L.length ∧ (∀ (i : Nat) (x : Value × Int), L[i]? = some x → (i < p → x.2 < n) ∧ (p ≤ i → n < x.2))
  | [], _, _ => ⟨0, Nat.le_refl _, fun i x hx => by simp at hx⟩
  | a :: L, hR, hn => by
    have ha := hn a (by simp)
    by_cases h : n < a.2
    · refine ⟨0, Nat.zero_le _, fun i x hx => ⟨fun hi => absurd hi (by omega), fun _ => ?_⟩⟩
      cases i with
      | zero => simp at hx; subst hx; exact h
      | succ i => have := hR.1 0 (i + 1) a x (by simp) hx (by omega); omega
    · obtain ⟨p, h1, h2⟩ := gap n L hR.tail (fun x hx => hn x (by simp [hx]))
      refine ⟨p + 1, by simp; omega, fun i x hx => ?_⟩
      cases i with
      | zero => simp at hx; subst hx; exact ⟨fun _ => by omega, fun hi => absurd hi (by omega)⟩
      | succ i =>
        obtain ⟨h3, h4⟩ := h2 i x (by simpa using hx)
        exact ⟨fun hi => h3 (by omega), fun hi => h4 (by omega)⟩

theorem remove_nil (w : World) (wb : Nat) (last n : Int) (hn : 0 ≤ n ∧ n ≤ 1000) (hw : w.heap[wb]? = some (.cells #[.slice none 0 0, .int .i64 last] 74 (0, 0))) :
    Calls Tryz.prog 9 #[.pointer (some ⟨wb, 0, none⟩), .int .i64 n] w fun e w' => e = .returned (.bool false) ∧ Below w.heap.size w w' := by
  have hnl : VR (mL 64 [wb] (fun _ => 0) (fun _ => (n + 9223372036854775808).toNat) (fun _ => .int .i64 last)) (nm 20) (.int .i64 last) := .nam 20 _ (by show 20 < 64 + 1; omega) rfl rfl
  refine (callLay (G := 64) (fuel := 4000) (gl := []) (B := allB w) (os := [.cells 2 [.slice none 0 0, nm 20] 74 2]) (bs := [wb]) (cap := fun _ => 0) (es := fun _ => (n + 9223372036854775808).toNat) (vs := fun _ => .int .i64 last) (args := [.pointer (some ⟨64, 0, none⟩), sy 0]) (args' := [.pointer (some ⟨wb, 0, none⟩), .int .i64 n]) (k := fun v _ _ => veq 2 v (.bool false)) mixedOrders remBody (by kernel_rfl) (Nat.le_refl _) (fun x hx => by cases hx) ?_ ?_ ?_ ?_ ?_).mono ?_
  · exact ⟨⟨⟨rfl, fun h => by cases h⟩, _, hw, .ro _ _ _ _ _ _ ⟨.slN _ _, hnl, trivial⟩ (fun v hv => by simp at hv; rcases hv with rfl | rfl <;> rfl)⟩, trivial⟩
  · simp
  · intro x hx; cases hx
  · exact ⟨vr_ptr (mL_dom 64 _ _ _ _ (i := 0) rfl) (mL_mu 64 _ _ _ _ (i := 0) rfl), vr_sy rfl (by omega) (fun i hi => ⟨by show i < 64 + 1; omega, fun hl => absurd hl (by omega)⟩), trivial⟩
  · intro v h n; rfl
  · rintro e w' ⟨v, v', m', h', n', rfl, hle, hv, hk, hB, hok⟩
    obtain rfl := veq_eq _ _ _ hk
    exact ⟨by rw [hv.inv_bool], ⟨hB.os, hB.tape, hB.output, hB.size, hB.block⟩⟩

theorem remove_miss (w : World) (wb : Nat) (L : List (Value × Int)) (last n : Int) (hn : 0 ≤ n ∧ n ≤ 1000) (hR : Rise L) (hlen : L.length ≤ 8) (hno : ∀ x ∈ L, x.2 ≠ n) (hw : Wt w wb L last) :
    Calls Tryz.prog 9 #[.pointer (some ⟨wb, 0, none⟩), .int .i64 n] w fun e w' => e = .returned (.bool false) ∧ Below w.heap.size w w' := by
  obtain ⟨sv, hw, ⟨rfl, rfl⟩ | ⟨A, cap, cs, rfl, hA, hcs⟩⟩ := hw
  · exact remove_nil w wb last n hn hw
  obtain ⟨p, hp, hgap⟩ := gap n L hR hno
  have hAw : wb ≠ A := Go.Proofs.YtihifldpknpjhaaGreatDoor.Wk.blk_ne hw hA (by decide)
  have hes1 : ∀ (j : Nat) (y : Value × Int), L[j]? = some y → esAt L p n false (nameAt p false j) = (y.2 + 9223372036854775808).toNat := fun j y hy => by
    unfold esAt nameAt
    rw [if_neg (by decide), sel_false]
    by_cases hj : j < p
    · have e1 : Nat.blt j p = true := by rw [nblt]; exact decide_eq_true hj
      rw [e1, sel_true, if_pos hj, hy]; rfl
    · have e1 : Nat.blt j p = false := by rw [nblt]; exact decide_eq_false hj
      rw [e1, sel_false, if_neg (by omega), if_neg (by omega), Nat.add_sub_cancel, hy]; rfl
  have hesp : esAt L p n false p = (n + 9223372036854775808).toNat := by
    unfold esAt
    rw [if_neg (by decide), if_neg (by omega), if_pos rfl]
  -- each name but p is one of the list's
  have inv : ∀ i, i ≤ L.length → i ≠ p → ∃ (j : Nat) (y : Value × Int), L[j]? = some y ∧ nameAt p false j = i ∧ (i < p → j = i) ∧ (p < i → j + 1 = i) := fun i hi hip => by
    by_cases h : i < p
    · refine ⟨i, L[i], List.getElem?_eq_getElem (by omega), ?_, fun _ => rfl, fun h' => by omega⟩
      have e1 : Nat.blt i p = true := by rw [nblt]; exact decide_eq_true h
      simp [nameAt, e1, sel]
    · refine ⟨i - 1, L[i - 1], List.getElem?_eq_getElem (by omega), ?_, fun h' => absurd h' h, fun _ => by omega⟩
      have e1 : Nat.blt (i - 1) p = false := by rw [nblt]; exact decide_eq_false (by omega)
      simp only [nameAt, e1, sel]
      omega
  have hval : ∀ i, i ≤ L.length → ∃ a : Int, esAt L p n false i = (a + 9223372036854775808).toNat ∧ 0 ≤ a ∧ a ≤ 1000 ∧ (i < p → a < n) ∧ (i = p → a = n) ∧ (p < i → n < a) ∧ (i ≠ p → ∃ (j : Nat) (y : Value × Int), L[j]? = some y ∧ a = y.2 ∧ (i < p → j = i) ∧ (p < i → j + 1 = i)) := fun i hi => by
    by_cases h : i = p
    · subst h
      exact ⟨n, hesp, hn.1, hn.2, fun h => absurd h (by omega), fun _ => rfl, fun h => absurd h (by omega), fun h => absurd rfl h⟩
    · obtain ⟨j, y, hy, hj, h1, h2⟩ := inv i hi h
      have h3 := hgap j y hy
      have h4 := hR.2 j y hy
      refine ⟨y.2, by rw [← hj]; exact hes1 j y hy, h4.2.1, h4.2.2, fun h' => h3.1 (by have := h1 h'; omega), fun h' => absurd h' h, fun h' => h3.2 (by have := h2 h'; omega), fun _ => ⟨j, y, hy, rfl, h1, h2⟩⟩
  have mono : ∀ i k, i < k → k ≤ L.length → esAt L p n false i < esAt L p n false k := fun i k hik hk => by
    obtain ⟨a, ha, a1, a2, a3, a4, a5, a6⟩ := hval i (by omega)
    obtain ⟨b, hb, b1, b2, b3, b4, b5, b6⟩ := hval k hk
    rw [ha, hb]
    have : a < b := by
      rcases Nat.lt_trichotomy i p with h | h | h
      · rcases Nat.lt_trichotomy k p with h' | h' | h'
        · obtain ⟨j, y, hy, rfl, e1, _⟩ := a6 (by omega)
          obtain ⟨j', y', hy', rfl, e1', _⟩ := b6 (by omega)
          have := e1 h; have := e1' h'
          exact hR.1 j j' y y' hy hy' (by omega)
        · have := a3 h; have := b4 h'; omega
        · have := a3 h; have := b5 h'; omega
      · have := a4 h; have := b5 (by omega); omega
      · obtain ⟨j, y, hy, rfl, _, e1⟩ := a6 (by omega)
        obtain ⟨j', y', hy', rfl, _, e1'⟩ := b6 (by omega)
        have := e1 h; have := e1' (by omega)
        exact hR.1 j j' y y' hy hy' (by omega)
    clear a6 b6
    omega
  have hsy : ∀ (j : Nat) (y : Value × Int), L[j]? = some y → VR (mL 64 [wb, A] (fun _ => 0) (esAt L p n false) (vsAt L last)) (sy (nameAt p false j)) (.int .i64 y.2) := fun j y hy => by
    have hb := hR.2 j y hy
    have hj := (List.getElem?_eq_some_iff.1 hy).1
    have hle : nameAt p false j ≤ L.length := by
      unfold nameAt
      rw [sel_false]
      cases Nat.blt j p <;> simp only [sel] <;> omega
    exact vr_sy (hes1 j y hy) (by omega) fun i hi => ⟨by show i < 64 + 2; omega, fun hl => mono _ _ hl hle⟩
  have hX : VRs (mL 64 [wb, A] (fun _ => 0) (esAt L p n false) (vsAt L last)) (named (nameAt p false) L.length) (encL L) := by
    have := named_VRs (m := mL 64 [wb, A] (fun _ => 0) (esAt L p n false) (vsAt L last)) (f := nameAt p false) (L := L) (fun j hj => by show j < 64 + 2; omega) (fun j y hy => by
      have hj := (List.getElem?_eq_some_iff.1 hy).1
      refine ⟨?_, (hR.2 j y hy).1⟩
      show vsAt L last j = y.1
      unfold vsAt
      rw [if_neg (by omega), hy]; rfl) hsy L.length (Nat.le_refl _)
    rwa [List.take_of_length_le (Nat.le_refl _)] at this
  have hnl : VR (mL 64 [wb, A] (fun _ => 0) (esAt L p n false) (vsAt L last)) (nm 20) (.int .i64 last) := .nam 20 _ (by show 20 < 64 + 2; omega) (by show vsAt L last 20 = _; unfold vsAt; rw [if_pos rfl]) rfl
  have hrun := miss_ok hlen hp
  refine (callLay (G := 64) (fuel := 4000) (gl := []) (B := allB w) (bs := [wb, A]) (cap := fun _ => 0) (es := esAt L p n false) (vs := vsAt L last) (args' := [.pointer (some ⟨wb, 0, none⟩), .int .i64 n]) mixedOrders remBody hrun (Nat.le_refl _) (fun x hx => by cases hx) ?_ ?_ ?_ ?_ ?_).mono ?_
  · refine ⟨⟨⟨rfl, fun h => by cases h⟩, _, hw, .ro _ _ _ _ _ _ ⟨?_, hnl, trivial⟩ (fun v hv => by simp at hv; rcases hv with rfl | rfl <;> rfl)⟩, ⟨⟨rfl, fun h => by cases h⟩, _, hA, .win _ _ _ _ ?_ (named_atom _ _)⟩, trivial⟩
    · have := VR.slw (m := mL 64 [wb, A] (fun _ => 0) (esAt L p n false) (vsAt L last)) 65 0 L.length sent cap (mL_dom 64 _ _ _ _ (i := 1) rfl) (Nat.le_refl _)
      rwa [mL_mu 64 [wb, A] _ _ _ (i := 1) (b := A) rfl] at this
    · rw [named_length]
      show VRs _ _ ((cs.toList.drop 0).take _)
      rw [List.drop_zero, hcs]
      exact hX
  · simp [hAw]
  · intro x hx; cases hx
  · exact ⟨vr_ptr (mL_dom 64 _ _ _ _ (i := 0) rfl) (mL_mu 64 _ _ _ _ (i := 0) rfl), vr_sy hesp (by omega) (fun i hi => ⟨by show i < 64 + 2; omega, fun hl => mono _ _ hl hp⟩), trivial⟩
  · intro v h n
    rfl
  · rintro e w' ⟨v, v', m', h', n', rfl, hle, hv, hk, hB, hok⟩
    obtain rfl := veq_eq _ _ _ hk
    exact ⟨by rw [hv.inv_bool], ⟨hB.os, hB.tape, hB.output, hB.size, hB.block⟩⟩
end
end Go.Ex
