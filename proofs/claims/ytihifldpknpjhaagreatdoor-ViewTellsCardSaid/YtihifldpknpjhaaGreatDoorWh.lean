/- Watch.Add, Watch.Remove: by runs, for each number of observers: what the watch holds. -/
import Derived.Test.YtihifldpknpjhaaGreatDoorWg
namespace Go.Ex
noncomputable section
open Go.RowKit (Below)
open Go.Proofs

def nm (i : Nat) : Value := .complex .f32 i 10
/-- What the watch holds behind a call. -/
def wTest (q : Value → Bool) (l : Nat) (last : Value) (exp : List Value) (v : Value) (h : T AO) (_ : Nat) : Bool :=
  q v && match h.get 64 with
  | some (.cells 0 [.slice (some ⟨b, 0, none⟩) l' _, y] t _) => Nat.beq l' l && veq 4 y last && Nat.beq t 74 && match h.get b with
    | some (.cells 1 c e _) => Nat.ble (2 * l) c.length && veqs (c.take (2 * l)) exp && Nat.beq e 78
    | _ => false
  | _ => false

/-- Values that stand for one alone. -/
def det : Value → Bool
  | .int _ _ => true
  | .complex .f32 _ c => Nat.beq c 10 || Nat.beq c 3
  | _ => false
theorem VR.det {m : Mp} {a x y : Value} (hd : det a = true) (hx : VR m a x) (hy : VR m a y) : x = y := by
  unfold Ex.det at hd
  split at hd
  · rw [hx.inv_int, hy.inv_int]
  · simp only [Bool.or_eq_true, nbeq, decide_eq_true_eq] at hd
    rcases hd with rfl | rfl
    · cases hx with
      | nam i v _ hv _ => cases hy with
        | nam _ v' _ hv' _ => rw [← hv, ← hv']
        | symo k b c hk => exact absurd hk (by cases k <;> simp [kcode])
      | symo k b c hk => exact absurd hk (by cases k <;> simp [kcode])
    · cases hx with
      | symo k b c hk => cases hy with
        | symo k' b' c' hk' =>
          have : k = k' := kcode_inj (by rw [hk, hk'])
          rw [this]
  · cases hd
theorem VRs.det {m : Mp} : ∀ {l x y : List Value}, l.all det = true → VRs m l x → VRs m l y → x = y
  | [], [], [], _, _, _ => rfl
  | a :: l, b :: x, c :: y, hd, hx, hy => by
    rw [List.all_cons, Bool.and_eq_true] at hd
    rw [VR.det hd.1 hx.1 hy.1, VRs.det hd.2 hx.2 hy.2]

theorem wTest_ok {q : Value → Bool} {l : Nat} {last : Value} {exp : List Value} {v : Value} {h : T AO} {n : Nat} (hk : wTest q l last exp v h n = true) {m m' : Mp} {w' : World} {wb : Nat} (hle : m.le m') (hd : m.dom 64) (hmu : m.mu 64 = wb)
    (hok : ∀ b o, h.get b = some o → o.live = true → m'.dom b ∧ ∃ co, w'.heap[m'.mu b]? = some co ∧ OR m' b o co) {X : List Value} (hX : VRs m exp X) (hde : exp.all det = true) {lv : Value} (hl : VR m last lv) (hdl : det last = true) :
    q v = true ∧ ∃ A cap cs, w'.heap[wb]? = some (.cells #[.slice (some ⟨A, 0, none⟩) l cap, lv] 74 (0, 0)) ∧ w'.heap[A]? = some (.cells cs 78 (0, 0)) ∧ cs.toList.take (2 * l) = X := by
  unfold wTest at hk
  rw [Bool.and_eq_true] at hk
  obtain ⟨hq, hk⟩ := hk
  refine ⟨hq, ?_⟩
  split at hk
  case h_2 => cases hk
  rename_i b l' c' y t z hg
  simp only [Bool.and_eq_true, nbeq, decide_eq_true_eq] at hk
  obtain ⟨⟨⟨rfl, hy⟩, rfl⟩, hk⟩ := hk
  obtain rfl := veq_eq _ _ _ hy
  split at hk
  case h_2 => cases hk
  rename_i c e z' hg2
  simp only [Bool.and_eq_true, nble, decide_eq_true_eq] at hk
  obtain ⟨⟨hlen, hk⟩, rfl⟩ := hk
  have hexp := veqs_eq hk
  obtain ⟨hd1, co, hco, hor⟩ := hok 64 _ hg rfl
  rw [(hle 64 hd).2.1, hmu] at hco
  obtain ⟨hd2, co2, hco2, hor2⟩ := hok b _ hg2 rfl
  obtain ⟨cs, rfl, hcs⟩ : ∃ cs, co2 = .cells cs 78 (0, 0) ∧ VRs m' c (cs.toList.take c.length) := by
    cases hor2 with
    | opn _ _ cs h => exact ⟨cs, rfl, h⟩
  cases hor with
  | closed _ _ _ ws hws _ =>
    match ws, hws with
    | ⟨[a1, a2]⟩, hws =>
      obtain ⟨h1, h2, _⟩ := hws
      obtain ⟨_, c2, rfl, _, _⟩ := inv_slice h1 (by unfold sent; omega)
      have := VR.det hdl h2 (hl.mono hle)
      subst this
      refine ⟨_, c2, cs, hco, hco2, ?_⟩
      have h3 := hcs.take (2 * l')
      rw [hexp] at h3
      have h4 := VRs.det hde h3 (hX.mono hle)
      rw [List.take_take, Nat.min_eq_left hlen] at h4
      exact h4

/-! ### The watch -/
def encL (L : List (Value × Int)) : List Value := L.flatMap fun x => [x.1, .int .i64 x.2]
theorem encL_snoc (L : List (Value × Int)) (x : Value × Int) : encL (L ++ [x]) = encL L ++ [x.1, .int .i64 x.2] := by simp [encL]
theorem encL_length (L : List (Value × Int)) : (encL L).length = 2 * L.length := by
  induction L with
  | nil => rfl
  | cons a L ih => simp only [encL, List.flatMap_cons, List.length_append, List.length_cons, List.length_nil] at ih ⊢; omega
/-- A watch with these observers. -/
def Wt (w : World) (wb : Nat) (L : List (Value × Int)) (last : Int) : Prop :=
  ∃ sv, w.heap[wb]? = some (.cells #[sv, .int .i64 last] 74 (0, 0)) ∧ ((L = [] ∧ sv = .slice none 0 0) ∨ ∃ A cap cs, sv = .slice (some ⟨A, 0, none⟩) L.length cap ∧ w.heap[A]? = some (.cells cs 78 (0, 0)) ∧ cs.toList.take (2 * L.length) = encL L)

def numbered : Nat → List Value
  | 0 => []
  | i + 1 => numbered i ++ [nm i, .int .i64 (.ofNat (i + 1))]
theorem numbered_det : ∀ i, (numbered i).all det = true
  | 0 => rfl
  | i + 1 => by simp [numbered, numbered_det i, det, nm]
/-- Observers that have come one by one. -/
def Came (L : List (Value × Int)) : Prop := ∀ (j : Nat) (x : Value × Int), L[j]? = some x → x.2 = (j : Int) + 1 ∧ atom x.1 = true
theorem numbered_VRs {m : Mp} {L : List (Value × Int)} (hL : Came L) (hd : ∀ j, j < L.length → m.dom j) (hv : ∀ (j : Nat) (x : Value × Int), L[j]? = some x → m.val j = x.1) : ∀ i, i ≤ L.length → VRs m (numbered i) (encL (L.take i))
  | 0, _ => by simp [numbered, encL, VRs]
  | i + 1, hi => by
    have hx : L[i]? = some L[i] := List.getElem?_eq_getElem (by omega)
    obtain ⟨h1, h2⟩ := hL i _ hx
    rw [List.take_add_one, hx, Option.toList_some, encL_snoc, numbered]
    refine VRs.append (numbered_VRs hL hd hv i (by omega)) ⟨.nam i _ (hd i (by omega)) (hv i _ hx) h2, ?_, trivial⟩
    rw [h1]
    exact .int _ _

/-- The run of Add where there are i observers. -/
def addRun (i : Nat) : Bool :=
  enterK Tryz.prog 64 (execF Tryz.prog 64 4000) 7 [.pointer (some ⟨64, 0, none⟩), nm i]
    (layH [] (match i with | 0 => [.cells 0 [.slice none 0 0, .int .i64 0] 74 2] | k + 1 => [.cells 0 [.slice (some ⟨65, 0, some 0⟩) (k + 1) sent, .int .i64 (.ofNat (k + 1))] 74 2, .win (numbered (k + 1))]) 64) (match i with | 0 => 65 | _ => 66)
    (wTest (fun v => veq 2 v (.int .i64 (.ofNat (i + 1)))) (i + 1) (.int .i64 (.ofNat (i + 1))) (numbered (i + 1)))
theorem addRuns : addRun 0 = true ∧ addRun 1 = true ∧ addRun 2 = true ∧ addRun 3 = true ∧ addRun 4 = true ∧ addRun 5 = true ∧ addRun 6 = true ∧ addRun 7 = true := by
  refine ⟨?_, ?_, ?_, ?_, ?_, ?_, ?_, ?_⟩ <;> kernel_rfl
theorem addRun_ok {i : Nat} (h : i < 8) : addRun i = true := by
  obtain ⟨h0, h1, h2, h3, h4, h5, h6, h7⟩ := addRuns
  match i, h with
  | 0, _ => exact h0
  | 1, _ => exact h1
  | 2, _ => exact h2
  | 3, _ => exact h3
  | 4, _ => exact h4
  | 5, _ => exact h5
  | 6, _ => exact h6
  | 7, _ => exact h7

theorem numbered_length : ∀ i, (numbered i).length = 2 * i
  | 0 => rfl
  | i + 1 => by simp [numbered, numbered_length i]; omega
theorem numbered_atom : ∀ i, ∀ v ∈ numbered i, atom v = true
  | 0, v, h => by simp [numbered] at h
  | i + 1, v, h => by
    simp only [numbered, List.mem_append, List.mem_cons, List.not_mem_nil, or_false] at h
    rcases h with h | rfl | rfl
    · exact numbered_atom i v h
    · rfl
    · rfl
def vsOf (L : List (Value × Int)) (fv : Value) (j : Nat) : Value := match L[j]? with | some x => x.1 | none => fv

theorem addBody : (bodyOf Tryz.prog 7).isSome = true := by kernel_rfl
theorem came_snoc {L : List (Value × Int)} (hL : Came L) {fv : Value} (hf : atom fv = true) : Came (L ++ [(fv, (L.length : Int) + 1)]) := fun j x hx => by
  rw [List.getElem?_append] at hx
  split at hx
  · exact hL j x hx
  · have : j = L.length := by
      have := (List.getElem?_eq_some_iff.1 hx).1
      simp at this
      omega
    subst this
    simp at hx
    subst hx
    exact ⟨rfl, hf⟩

theorem add_first (w : World) (wb : Nat) (fv : Value) (hf : atom fv = true) (hw : w.heap[wb]? = some (.cells #[.slice none 0 0, .int .i64 0] 74 (0, 0))) :
    Calls Tryz.prog 7 #[.pointer (some ⟨wb, 0, none⟩), fv] w fun e w' => e = .returned (.int .i64 1) ∧ BelowS (butB w wb) w w' ∧ Wt w' wb [(fv, 1)] 1 := by
  have hX : VRs (mL 64 [wb] (fun _ => 0) (fun _ => 0) (fun _ => fv)) (numbered 1) (encL [(fv, 1)]) := ⟨.nam 0 _ (by show 0 < _; simp) rfl hf, .int _ _, trivial⟩
  refine (callLay (G := 64) (fuel := 4000) (gl := []) (B := butB w wb) (bs := [wb]) (cap := fun _ => 0) (es := fun _ => 0) (vs := fun _ => fv) (args' := [.pointer (some ⟨wb, 0, none⟩), fv]) mixedOrders addBody (addRun_ok (i := 0) (by decide)) (Nat.le_refl _) (fun x hx => by cases hx) ?_ ?_ ?_ ?_ ?_).mono ?_
  · exact ⟨⟨⟨rfl, fun _ h => h.2 rfl⟩, _, hw, .closed _ _ _ _ ⟨.slN _ _, .int _ _, trivial⟩ (fun v hv => by simp at hv; rcases hv with rfl | rfl <;> rfl)⟩, trivial⟩
  · simp
  · intro x hx; cases hx
  · exact ⟨vr_ptr (mL_dom 64 _ _ _ _ (i := 0) rfl) (mL_mu 64 _ _ _ _ (i := 0) rfl), .nam 0 _ (by show 0 < _; simp) rfl hf, trivial⟩
  · intro v h n; rfl
  · rintro e w' ⟨v, v', m', h', n', rfl, hle, hv, hk, hB, hok⟩
    obtain ⟨hq, A, cap, cs, h1, h2, h3⟩ := wTest_ok (wb := wb) hk hle (mL_dom 64 [wb] _ _ _ (i := 0) rfl) (mL_mu 64 [wb] _ _ _ (i := 0) rfl) hok hX (numbered_det 1) (.int .i64 1) rfl
    obtain rfl := veq_eq _ _ _ hq
    exact ⟨by rw [hv.inv_int]; rfl, hB, _, h1, .inr ⟨A, cap, cs, rfl, h2, h3⟩⟩

theorem add_next (w : World) (wb : Nat) (L : List (Value × Int)) (fv : Value) (hL : Came L) (hlen : L.length < 8) (hne : L ≠ []) (hf : atom fv = true) (hw : Wt w wb L L.length) :
    Calls Tryz.prog 7 #[.pointer (some ⟨wb, 0, none⟩), fv] w fun e w' => e = .returned (.int .i64 ((L.length : Int) + 1)) ∧ BelowS (butB w wb) w w' ∧ Wt w' wb (L ++ [(fv, (L.length : Int) + 1)]) ((L.length : Int) + 1) := by
  obtain ⟨sv, hw, ⟨rfl, _⟩ | ⟨A, cap, cs, rfl, hA, hcs⟩⟩ := hw
  · exact absurd rfl hne
  have hAw : wb ≠ A := Go.Proofs.YtihifldpknpjhaaGreatDoor.Wk.blk_ne hw hA (by decide)
  have hX : VRs (mL 64 [wb, A] (fun _ => 0) (fun _ => 0) (vsOf L fv)) (numbered (L.length + 1)) (encL (L ++ [(fv, (L.length : Int) + 1)])) := by
    have := numbered_VRs (m := mL 64 [wb, A] (fun _ => 0) (fun _ => 0) (vsOf L fv)) (came_snoc hL hf) (fun j hj => by show j < 64 + 2; simp at hj; omega) (fun j x hx => by
      show vsOf L fv j = x.1
      unfold vsOf
      rw [List.getElem?_append] at hx
      split at hx
      · rw [hx]
      · rw [List.getElem?_eq_none (by omega)]
        have : j = L.length := by
          have := (List.getElem?_eq_some_iff.1 hx).1
          simp at this
          omega
        subst this
        simp at hx
        rw [← hx]) (L.length + 1) (by simp)
    rwa [List.take_of_length_le (by simp)] at this
  obtain ⟨i, hi⟩ : ∃ i, L.length = i + 1 := ⟨L.length - 1, by have := List.length_pos_iff.2 hne; omega⟩
  have hrun := addRun_ok (i := i + 1) (by omega)
  rw [hi] at hX hw hcs ⊢
  have hX0 : VRs (mL 64 [wb, A] (fun _ => 0) (fun _ => 0) (vsOf L fv)) (numbered (i + 1)) (encL L) := by
    have := numbered_VRs (m := mL 64 [wb, A] (fun _ => 0) (fun _ => 0) (vsOf L fv)) hL (fun j hj => by show j < 64 + 2; omega) (fun j x hx => by
      show vsOf L fv j = x.1
      unfold vsOf
      rw [hx]) L.length (Nat.le_refl _)
    rwa [List.take_of_length_le (Nat.le_refl _), hi] at this
  refine (callLay (G := 64) (fuel := 4000) (gl := []) (B := butB w wb) (bs := [wb, A]) (cap := fun _ => 0) (es := fun _ => 0) (vs := vsOf L fv) (args' := [.pointer (some ⟨wb, 0, none⟩), fv]) mixedOrders addBody hrun (Nat.le_refl _) (fun x hx => by cases hx) ?_ ?_ ?_ ?_ ?_).mono ?_
  · refine ⟨⟨⟨rfl, fun _ h => h.2 rfl⟩, _, hw, .closed _ _ _ _ ⟨?_, .int _ _, trivial⟩ (fun v hv => by simp at hv; rcases hv with rfl | rfl <;> rfl)⟩, ⟨⟨rfl, fun h => by cases h⟩, _, hA, .win _ _ _ _ ?_ (numbered_atom _)⟩, trivial⟩
    · have := VR.slw (m := mL 64 [wb, A] (fun _ => 0) (fun _ => 0) (vsOf L fv)) 65 0 (i + 1) sent cap (mL_dom 64 _ _ _ _ (i := 1) rfl) (Nat.le_refl _)
      rwa [mL_mu 64 [wb, A] _ _ _ (i := 1) (b := A) rfl] at this
    · rw [numbered_length]
      show VRs _ _ ((cs.toList.drop 0).take _)
      rw [List.drop_zero, hcs]
      exact hX0
  · simp [hAw]
  · intro x hx; cases hx
  · refine ⟨vr_ptr (mL_dom 64 _ _ _ _ (i := 0) rfl) (mL_mu 64 _ _ _ _ (i := 0) rfl), .nam (i + 1) _ (by show i + 1 < 64 + 2; omega) ?_ hf, trivial⟩
    show vsOf L fv (i + 1) = fv
    unfold vsOf
    rw [List.getElem?_eq_none (by omega)]
  · intro v h n
    rfl
  · rintro e w' ⟨v, v', m', h', n', rfl, hle, hv, hk, hB, hok⟩
    obtain ⟨hq, A', cap', cs', h1, h2, h3⟩ := wTest_ok (wb := wb) hk hle (mL_dom 64 [wb, A] _ _ _ (i := 0) rfl) (mL_mu 64 [wb, A] _ _ _ (i := 0) rfl) hok hX (numbered_det _) (.int .i64 _) rfl
    obtain rfl := veq_eq _ _ _ hq
    refine ⟨by rw [hv.inv_int]; rfl, hB, _, h1, .inr ⟨A', cap', cs', ?_, h2, ?_⟩⟩
    · simp [hi]
    · simpa [hi] using h3
end
end Go.Ex
