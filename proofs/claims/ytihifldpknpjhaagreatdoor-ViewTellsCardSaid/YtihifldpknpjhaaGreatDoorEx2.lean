/- A verified executor of the model's code on an abstract heap, part 2: definitions and their soundness; nothing here names a program. -/
import Derived.Test.YtihifldpknpjhaaGreatDoorEx1
import Derived.Laws.CopyRow
import Derived.Laws.Append
import GoSem.Extern.SlicesOverlaps
import Derived.LoopN
import Derived.Tactics

/- Operations that make a block. -/
namespace Go.Ex
noncomputable section

variable {P : Program} {m : Mp} {B : Bd} {w0 w : World} {L : Nat → Option AO} {n : Nat}

/-- The cells of many zero values. -/
def genZ (zc : List Value) (k : Nat) : List Value := (List.range k).map fun i => zc.getD (i % zc.length) default
theorem genZ_eq (z : Array Value) (k : Nat) : ((Array.range k).map (z[· % z.size]!)) = ⟨genZ z.toList k⟩ := by
  apply Array.ext'
  simp only [Array.toList_map, Array.toList_range, genZ]
  apply List.map_congr_left
  intro i _
  simp [getElem!_def, List.getD]
  rcases h : z[i % z.size]? with _ | v <;> simp
theorem genZ_refl {z : Value} (hf : flat 8 z = true) (hn : noTuple z = true) (k : Nat) : VRs m (genZ z.cells.toList k) (genZ z.cells.toList k) ∧ ∀ v ∈ genZ z.cells.toList k, atom v = true := by
  have hz : VRs m z.cells.toList z.cells.toList := (flat_refl m 8 z hf).cells
  have ha := flat_cells_atom hf hn
  have key : ∀ v ∈ genZ z.cells.toList k, VR m v v ∧ atom v = true := fun v hv => by
    simp only [genZ, List.mem_map] at hv
    obtain ⟨i, _, rfl⟩ := hv
    simp only [List.getD]
    rcases h : z.cells.toList[i % z.cells.toList.length]? with _ | u
    · exact ⟨.bool _, rfl⟩
    · exact ⟨hz.get2 h h, ha u (List.mem_of_getElem? h)⟩
  exact ⟨VRs.refl_of fun v hv => (key v hv).1, fun v hv => (key v hv).2⟩

/-- A new block and what is handed back. -/
def allocV (P : Program) (ev : Operand → Option Value) (o : Oper) : Option (AO × (Nat → Value)) :=
  match o.op with
  | .alloc e => match zeroV P e with
    | some z => sel (noTuple z) (some (.cells 0 z.cells.toList e 0, fun r => .pointer (some ⟨r, 0, none⟩))) none
    | none => none
  | .box e x => match ev x with
    | some v => sel (noTuple v) (some (.cells 0 v.cells.toList e 0, fun r => .pointer (some ⟨r, 0, none⟩))) none
    | none => none
  | .buildSlice t len ps => match P.underlying t with
    | some (.slice e) => match P.info? e, zeroV P e, evps ev ps.toList with
      | some i, some z, some l => sel (Nat.beq (len * i.size) 0) (match l with
        | [] => sel (Nat.blt len sent) (some (.cells 0 [] e 0, fun r => .slice (some ⟨r, 0, none⟩) len len)) none
        | _ => none) (sel (Nat.blt 0 (len * i.size) && Nat.ble (len * i.size) 16777216 && Nat.blt len sent && noTuple z)
          (match fillL (fun j => some (j * i.size, i.size)) l (genZ z.cells.toList (len * i.size)) with
          | some cs => some (.cells 0 cs e 0, fun r => .slice (some ⟨r, 0, none⟩) len len)
          | none => none) none)
      | _, _, _ => none
    | _ => none
  | .makeMap _ none => some (.map [] 0, fun r => .map (some r))
  | .makeSlice t ln cp => match P.underlying t with
    | some (.slice e) => match P.info? e, zeroV P e, ev ln, ev cp with
      | some i, some z, some (.int .i64 (.ofNat l)), some (.int .i64 (.ofNat c)) => sel (Nat.ble l c && Nat.ble (i.bytes * c) 1099511627776 && Nat.blt c 1099511627776 && noTuple z && Nat.blt 0 i.size)
          (some (.cells 0 (sel (Nat.beq (c * i.size) 0) [] (genZ z.cells.toList (c * i.size))) e 0, fun r => .slice (some ⟨r, 0, none⟩) l c)) none
      | _, _, _, _ => none
    | _ => none
  | _ => none

theorem run_newRow (e : TypeId) (cs : Array Value) (w : World) : (newRow e cs).run P w = .ok ⟨w.heap.size, 0, none⟩ (w.alloc (.cells cs e)) := by
  simp [newRow, newObj, Sem.run]

theorem allocV_sound {ev : Operand → Option Value} {ρ : Operand → Value} (he : EvR m ev ρ) {o : Oper} {ao : AO} {f : Nat → Value} (hv : allocV P ev o = some (ao, f)) :
    ao.live = true ∧ ao.rw = true ∧ ∃ co, (∀ w, (execOp ρ o).run P w = .ok (.value (f w.heap.size)) (w.alloc co)) ∧ (∀ m' r, m.le m' → OR m' r ao co) ∧ (∀ m' r, m'.dom r → VR m' (f r) (f (m'.mu r))) := by
  obtain ⟨dst, op, ty, pos, after, guard⟩ := o
  cases op <;> simp only [allocV] at hv <;> simp only [execOp]
  case alloc e =>
    split at hv
    · rename_i z hz
      obtain ⟨hzf, hzr⟩ := zeroV_spec hz
      cases hn : noTuple z
      · rw [hn] at hv; cases hv
      · rw [hn, sel_true] at hv; cases hv
        refine ⟨rfl, rfl, .cells z.cells e, fun w => ?_, fun m' r hm => ?_, fun m' r hr => .ptr r 0 hr⟩
        · simp only [Instr.alloc, newVar, Sem.run_bind, hzr, Result.andThen_ok, run_newRow, Sem.run_pure]
        · exact .closed _ _ _ _ ((flat_refl m' 8 z hzf).cells) (flat_cells_atom hzf hn)
    · cases hv
  case box e x =>
    split at hv
    · rename_i v hx
      cases hn : noTuple v
      · rw [hn] at hv; cases hv
      · rw [hn, sel_true] at hv; cases hv
        have hr := he _ _ hx
        refine ⟨rfl, rfl, .cells (ρ x).cells e, fun w => ?_, fun m' r hm => ?_, fun m' r hr => .ptr r 0 hr⟩
        · simp only [Instr.box, newVar, Sem.run_bind, Result.andThen_ok, run_newRow, Sem.run_pure]
        · exact .closed _ _ _ _ (hr.mono hm).cells (cells_atom hr hn)
    · cases hv
  case buildSlice t len ps =>
    split at hv
    · rename_i e hu
      split at hv
      · rename_i i z l hi hz hl
        by_cases h00 : len * i.size = 0
        · rw [beq_true h00, sel_true] at hv
          split at hv
          · cases hls : Nat.blt len sent
            · rw [hls] at hv; cases hv
            · rw [hls, sel_true] at hv; cases hv
              rw [nblt, decide_eq_true_eq] at hls
              have hps := (evps_sound he hl)
              have ep : (ps.map fun x => (x.1, ρ x.2)).toList = [] := by
                have e1 : (ps.map fun x => (x.1, ρ x.2)).toList = ps.toList.map fun x => (x.1, ρ x.2) := by simp
                rw [e1]
                cases hq : ps.toList.map fun x => (x.1, ρ x.2) with
                | nil => rfl
                | cons a r => rw [hq] at hps; exact hps.elim
              refine ⟨rfl, rfl, .cells #[] e, fun w => ?_, fun m' r hm => .closed _ _ _ _ trivial (fun _ h => absurd h List.not_mem_nil), fun m' r hr => .sl r 0 len len hr hls⟩
              have h1 : ¬ ((0 : Nat) > 2 ^ 24) := by omega
              have h2 : (Array.map (fun x => (#[] : Array Value)[x % (#[] : Array Value).size]!) (Array.range 0)) = #[] := by simp
              simp only [Instr.buildSlice, Sem.run_bind, run_underlying hu, Result.andThen_ok, run_sizeOf' hi, h00, h1, if_true, if_false, Sem.run_pure, ep, Instr.fill, h2, run_newRow]
          · cases hv
        rw [beq_false h00, sel_false] at hv
        cases hb : (Nat.blt 0 (len * i.size) && Nat.ble (len * i.size) 16777216 && Nat.blt len sent && noTuple z)
        · rw [hb] at hv; cases hv
        · rw [hb, sel_true] at hv
          rw [Bool.and_eq_true, Bool.and_eq_true, Bool.and_eq_true, nblt, nble, nblt, decide_eq_true_eq, decide_eq_true_eq, decide_eq_true_eq] at hb
          obtain ⟨⟨⟨hb1, hb2⟩, hb3⟩, hb4⟩ := hb
          obtain ⟨hzf, hzr⟩ := zeroV_spec hz
          split at hv
          · rename_i cs hcs
            cases hv
            obtain ⟨hgz, hga⟩ := genZ_refl (m := m) hzf hb4 (len * i.size)
            obtain ⟨out, ho, hr, ha, _⟩ := fillL_sound hcs (evps_sound he hl) hgz hga
            refine ⟨rfl, rfl, .cells ⟨out⟩ e, fun w => ?_, fun m' r hm => .closed _ _ _ _ (hr.mono hm) ha, fun m' r hr => .sl r 0 len len hr hb3⟩
            have h1 : ¬ len * i.size > 2 ^ 24 := by omega
            have h2 : ¬ len * i.size = 0 := by omega
            have ep : (ps.map fun x => (x.1, ρ x.2)).toList = ps.toList.map fun x => (x.1, ρ x.2) := by simp
            simp only [Instr.buildSlice, Sem.run_bind, run_underlying hu, Result.andThen_ok, run_sizeOf' hi, h1, h2, if_false, hzr, Sem.run_pure, genZ_eq, ep, ho, run_newRow]
          · cases hv
      · cases hv
    · cases hv
  case makeMap t r =>
    cases r with
    | some x => cases hv
    | none =>
      simp only [Option.some.injEq, Prod.mk.injEq] at hv
      obtain ⟨rfl, rfl⟩ := hv
      exact ⟨rfl, rfl, .map #[] 0, fun w => by simp [Instr.makeMap, newObj, Sem.run], fun m' r hm => .map [] 0 #[] trivial, fun m' r hr => .map r hr⟩
  case makeSlice t ln cp =>
    split at hv
    · rename_i e hu
      split at hv
      · rename_i i z l c hi hz hl hc
        cases hb : (Nat.ble l c && Nat.ble (i.bytes * c) 1099511627776 && Nat.blt c 1099511627776 && noTuple z && Nat.blt 0 i.size)
        · rw [hb] at hv; cases hv
        · rw [hb, sel_true] at hv; cases hv
          rw [Bool.and_eq_true, Bool.and_eq_true, Bool.and_eq_true, Bool.and_eq_true, nble, nble, nblt, nblt, decide_eq_true_eq, decide_eq_true_eq, decide_eq_true_eq, decide_eq_true_eq] at hb
          obtain ⟨⟨⟨⟨hb1, hb2⟩, hb3⟩, hb4⟩, hb5⟩ := hb
          obtain ⟨hzf, hzr⟩ := zeroV_spec hz
          have e1 := (he _ _ hl).inv_int
          have e2 := (he _ _ hc).inv_int
          have hw1 : IntKind.i64.wrap (Int.ofNat l) = Int.ofNat l := wrap_small .i64 l (by simp only [half]; omega)
          have hw2 : IntKind.i64.wrap (Int.ofNat c) = Int.ofNat c := wrap_small .i64 c (by simp only [half]; omega)
          refine ⟨rfl, rfl, .cells ⟨sel (Nat.beq (c * i.size) 0) [] (genZ z.cells.toList (c * i.size))⟩ e, fun w => ?_, fun m' r hm => ?_, fun m' r hr => .sl r 0 l c hr (by unfold sent; omega)⟩
          · have t1 : ¬ ((i.bytes : Int) * Int.ofNat c > 2 ^ 48) := by
              have : ((i.bytes : Int) * Int.ofNat c) = ((i.bytes * c : Nat) : Int) := by simp
              rw [this]; omega
            have t2 : ¬ ((Int.ofNat c : Int) < 0) := by simp
            have t3 : ¬ ((Int.ofNat l : Int) < 0) := by simp
            have t4 : ¬ ((Int.ofNat l : Int) > Int.ofNat c) := by simp; omega
            have t5 : ¬ (c * i.bytes > roomBytes) := by
              have : c * i.bytes = i.bytes * c := Nat.mul_comm _ _
              rw [this]; unfold roomBytes; omega
            have hcond : ((decide ((Int.ofNat c : Int) < 0) || decide ((i.bytes : Int) * Int.ofNat c > 2 ^ 48) || decide ((Int.ofNat l : Int) < 0)) || decide ((Int.ofNat l : Int) > Int.ofNat c)) = false := by
              simp only [t1, t2, t3, t4, decide_false, Bool.or_false]
            have hto : (Int.ofNat c).toNat = c := rfl
            have hto2 : (Int.ofNat l).toNat = l := rfl
            by_cases h0 : c * i.size = 0
            · simp only [Instr.makeSlice, e1, e2, asInt, asIntOf, Sem.run_bind, run_underlying hu, Result.andThen_ok, Sem.run_pure, run_typeInfo' hi, hw1, hw2, hcond, Bool.false_eq_true, if_false, hto, hto2, askRoom, t5, run_sizeOf' hi, h0, if_true, run_newRow]
              rw [genZ_eq]; rfl
            · simp only [Instr.makeSlice, e1, e2, asInt, asIntOf, Sem.run_bind, run_underlying hu, Result.andThen_ok, Sem.run_pure, run_typeInfo' hi, hw1, hw2, hcond, Bool.false_eq_true, if_false, hto, hto2, askRoom, t5, run_sizeOf' hi, h0, hzr, genZ_eq, beq_false h0, sel_false, run_newRow]
          · by_cases h0 : c * i.size = 0
            · rw [beq_true h0, sel_true]; exact .closed _ _ _ _ trivial (fun _ h => by cases h)
            · rw [beq_false h0, sel_false]
              obtain ⟨hgz, hga⟩ := genZ_refl (m := m') hzf hb4 (c * i.size)
              exact .closed _ _ _ _ hgz hga
      · cases hv
    · cases hv
  all_goals cases hv

end
end Go.Ex

/- Operations that write. -/
namespace Go.Ex
noncomputable section

variable {P : Program} {m : Mp} {B : Bd} {w0 w w' : World} {n : Nat} {h : T AO} {X : Nat → Option AO}

/-- A heap over a frame. -/
def ov (h : T AO) (X : Nat → Option AO) : Nat → Option AO := fun b => match h.get b with | some o => some o | none => X b
theorem ov_some {b : Nat} {o : AO} (e : h.get b = some o) : ov h X b = some o := by unfold ov; rw [e]
theorem ov_none {b : Nat} (e : h.get b = none) : ov h X b = X b := by unfold ov; rw [e]

structure HR (B : Bd) (w0 : World) (m : Mp) (h : T AO) (X : Nat → Option AO) (n : Nat) (w : World) : Prop where
  lr : LR B w0 m (ov h X) n w
  apart : ∀ b o, X b = some o → h.get b = none

theorem HR.sub (_hr : HR B w0 m h X n w) : ∀ b o, h.get b = some o → ov h X b = some o := fun _ _ e => ov_some e

theorem ov_set {b : Nat} {o : AO} (_hX : X b = none ∨ ∃ o', h.get b = some o') : ∀ x, ov (T.set (some o) h b) X x = upd (ov h X) b o x := by
  intro x
  unfold ov upd
  rw [T.get_set]
  by_cases e : x = b <;> simp [e]

theorem HR.set (hr : HR B w0 m h X n w) {b : Nat} {o o' : AO} (hb : h.get b = some o) {m' : Mp} {n' : Nat} (hl : LR B w0 m' (upd (ov h X) b o') n' w') : HR B w0 m' (T.set (some o') h b) X n' w' where
  lr := hl.congr (ov_set (.inr ⟨o, hb⟩))
  apart := fun x y hx => by
    rw [T.get_set]
    have := hr.apart x y hx
    by_cases e : x = b
    · subst e; rw [hb] at this; cases this
    · rw [if_neg e]; exact this

theorem HR.fresh (hr : HR B w0 m h X n w) : h.get n = none ∧ X n = none ∧ ov h X n = none ∧ ¬ m.dom n := by
  have h0 : ov h X n = none := by
    cases e : ov h X n with
    | none => rfl
    | some o => exact absurd (hr.lr.lt n o e) (Nat.lt_irrefl n)
  have h1 : h.get n = none := by
    cases e : h.get n with
    | none => rfl
    | some o => rw [ov_some e] at h0; cases h0
  exact ⟨h1, by rw [ov_none h1] at h0; exact h0, h0, fun hd => absurd (hr.lr.dom n hd) (Nat.lt_irrefl n)⟩

theorem HR.new (hr : HR B w0 m h X n w) {o : AO} {m' : Mp} {n' : Nat} (hl : LR B w0 m' (upd (ov h X) n o) n' w') : HR B w0 m' (T.set (some o) h n) X n' w' where
  lr := hl.congr (ov_set (.inl hr.fresh.2.1))
  apart := fun x y hx => by
    rw [T.get_set]
    by_cases e : x = n
    · subst e; rw [hr.fresh.2.1] at hx; cases hx
    · rw [if_neg e]; exact hr.apart x y hx

theorem HR.same (hr : HR B w0 m h X n w) (k : Same w w') : HR B w0 m h X n w' := ⟨hr.lr.same k, hr.apart⟩

theorem HR.alloc (hr : HR B w0 m h X n w) (cap esz : Nat) {o : AO} {co : Obj} (hor : OR (m.ext n w.heap.size cap esz) n o co) :
    HR B w0 (m.ext n w.heap.size cap esz) (T.set (some o) h n) X (n + 1) (w.alloc co) :=
  hr.new (hr.lr.alloc hr.fresh.2.2.2 hr.fresh.2.2.1 (Nat.le_succ n) (Nat.lt_succ_self n) cap esz hor)

/-! ### Lists handed on when they are made -/
def forceN {β : Type} (n : Nat) (c : Nat → β) : β := Nat.rec (motive := fun _ => β) (c 0) (fun k _ => c (Nat.succ k)) n
theorem forceN_eq {β : Type} (n : Nat) (c : Nat → β) : forceN n c = c n := by cases n <;> rfl
def forceL {α β : Type} (l : List α) : (List α → β) → β := List.rec (motive := fun _ => (List α → β) → β) (fun c => c []) (fun a _ ih c => ih fun r => c (a :: r)) l
theorem forceL_eq {α β : Type} (l : List α) : ∀ c : List α → β, forceL l c = c l := by
  induction l with
  | nil => intro c; rfl
  | cons a l ih => intro c; exact ih _

/-! ### Cells -/
theorem oneCell_atom (v : Value) : v.oneCell' = atom v := by cases v <;> rfl

theorem upd_setRow {g : Nat} {cur new : Array Value} {t : TypeId} (hg : w.heap[g]? = some (.cells cur t (0, 0))) : Upd w (w.setRow g new) g (.cells new t (0, 0)) where
  at_ := setRow_heap w g cur new t _ hg
  other := fun j hj => setRow_other w g j new hj
  size := by simp
  os := rfl
  tape := rfl
  output := rfl

theorem HR.write (hr : HR B w0 m h X n w) {b fl : Nat} {c vs vs' : List Value} {e : TypeId} {z o : Nat} (hb : h.get b = some (.cells fl c e z)) (hf : fl < 2) (hv : VRs m vs vs') (ha : ∀ v ∈ vs, atom v = true)
    (hlen : o + vs.length ≤ c.length) : ∃ w', (storeCells ⟨m.mu b, o, none⟩ vs').run P w = .ok () w' ∧ HR B w0 m (T.set (some (.cells fl (splice c o vs) e z)) h b) X n w' := by
  have hb' := ov_some (X := X) hb
  obtain ⟨hd, co, hco, hor⟩ := hr.lr.ok b _ hb' rfl
  have hl := hv.length
  have hat : ∀ v ∈ vs', v.oneCell' = true := fun v hv' => by
    obtain ⟨i, hi⟩ := List.getElem?_of_mem hv'
    have : ∃ u, vs[i]? = some u := by
      have hlt := (List.getElem?_eq_some_iff.1 hi).1
      exact ⟨_, List.getElem?_eq_getElem (by omega)⟩
    obtain ⟨u, hu⟩ := this
    rw [oneCell_atom, (hv.get2 hu hi).atom_eq]
    exact ha u (List.mem_of_getElem? hu)
  have hspl : ∀ v ∈ splice c o vs, v ∈ c ∨ v ∈ vs := fun v hv' => by
    simp only [splice, List.mem_append] at hv'
    rcases hv' with hv' | hv' | hv'
    · exact .inl (List.mem_of_mem_take hv')
    · exact .inr hv'
    · exact .inl (List.mem_of_mem_drop hv')
  cases hor with
  | closed _ _ _ cs hcs hac =>
    have hcl := hcs.length
    have hst := run_storeCells_at P (m.mu b) o e vs' 0 cs w hco (by simp at hcl; omega) hat
    refine ⟨_, hst, hr.set hb (hr.lr.upd hb' rfl (by simp [AO.rw]) (upd_setRow hco) ?_)⟩
    refine .closed _ _ _ _ ?_ (fun v hv' => (hspl v hv').elim (hac v) (ha v))
    have := hcs.splice (off := o) hv
    simpa [splice] using this
  | full => exact absurd hf (by omega)
  | opr => exact absurd hf (by omega)
  | opn _ _ cs hcs hle hcap hez hac hca =>
    have hst := run_storeCells_at P (m.mu b) o e vs' 0 cs w hco (by omega) hat
    refine ⟨_, hst, hr.set hb (hr.lr.upd hb' rfl (by simp [AO.rw]) (upd_setRow hco) ?_)⟩
    have hlsp : (splice c o vs).length = c.length := by simp [splice]; omega
    refine .opn _ _ _ ?_ ?_ ?_ hez (fun v hv' => (hspl v hv').elim (hac v) (ha v)) ?_
    · rw [hlsp]
      have := hcs.splice (off := o) hv
      have e2 : splice (cs.toList.take c.length) o vs' = (cs.toList.take (o + 0) ++ vs' ++ cs.toList.drop (o + 0 + vs'.length)).take c.length := by
        apply List.ext_getElem?
        intro i
        simp only [splice, Nat.add_zero, List.getElem?_append, List.length_take, Array.length_toList, List.getElem?_take, List.getElem?_drop, List.length_append]
        rw [← hl]
        by_cases h1 : i < o
        · have a1 : i < min o (min c.length cs.size) := by omega
          have a2 : i < min o cs.size := by omega
          have a3 : i < c.length := by omega
          simp [a1, a2, a3, h1]
          intro; omega
        · by_cases h2 : i < o + vs.length
          · have a1 : ¬ i < min o (min c.length cs.size) := by omega
            have a2 : ¬ i < min o cs.size := by omega
            have a3 : i < c.length := by omega
            have a4 : min o (min c.length cs.size) = o := by omega
            have a5 : min o cs.size = o := by omega
            have a6 : i - o < vs.length := by omega
            have a7 : i < o + vs.length := h2
            simp [a3, a4, a5, a6, a7, h1]
          · have a4 : min o (min c.length cs.size) = o := by omega
            have a5 : min o cs.size = o := by omega
            have a6 : ¬ i - o < vs.length := by omega
            have a7 : ¬ i < o + vs.length := h2
            have a8 : o + vs.length + (i - o - vs.length) = i := by omega
            have a9 : o + vs.length + (i - (o + vs.length)) = i := by omega
            simp [a4, a5, a6, a7, a8, a9, h1]
      rw [← e2]; exact this
    · rw [hlsp]; simp; omega
    · simp; omega
    · intro v hv'
      have hv2 : v ∈ cs.toList.take (o + 0) ++ vs' ++ cs.toList.drop (o + 0 + vs'.length) := by simpa using hv'
      simp only [List.mem_append] at hv2
      rcases hv2 with (h1 | h1) | h1
      · exact hca v (List.mem_of_mem_take h1)
      · rw [← oneCell_atom]; exact hat v h1
      · exact hca v (List.mem_of_mem_drop h1)
  | ro => omega

/-! ### What an operation that writes comes to -/
/-- The operation comes to a value (or to none: then to 'undef'). -/
def Ran (P : Program) (s : Sem Next) (w : World) (v : Value) (w' : World) : Prop := s.run P w = .ok (.value v) w' ∨ (s.run P w = .ok .skip w' ∧ v = undef)

/-- What is known behind an operation: the abstract one was handed on, and the model's run is met. -/
def Eff (P : Program) (B : Bd) (w0 : World) (X : Nat → Option AO) (m : Mp) (s : Sem Next) (w : World) (k : Value → T AO → Nat → Bool) : Prop :=
  ∃ v v' m' h' n' w', Ran P s w v' w' ∧ m.le m' ∧ VR m' v v' ∧ HR B w0 m' h' X n' w' ∧ k v h' n' = true

def undefA : Value := .tuple ⟨[]⟩

theorem Eff.skip {s : Sem Unit} {k : Value → T AO → Nat → Bool} {h' : T AO} (hs : s.run P w = .ok () w') (hh : HR B w0 m h' X n w') (hk : k undefA h' n = true) :
    Eff P B w0 X m (s >>= fun _ => (Pure.pure Next.skip : Sem Next)) w k :=
  ⟨undefA, undef, m, h', n, w', .inr ⟨by rw [Sem.run_bind, hs]; rfl, rfl⟩, m.le_refl, .tuple' VRs.nil, hh, hk⟩
theorem Eff.value {s : Sem Value} {k : Value → T AO → Nat → Bool} {h' : T AO} {v v' : Value} {m' : Mp} {n' : Nat} (hs : s.run P w = .ok v' w') (hm : m.le m') (hv : VR m' v v') (hh : HR B w0 m' h' X n' w') (hk : k v h' n' = true) :
    Eff P B w0 X m (s >>= fun u => (Pure.pure (Next.value u) : Sem Next)) w k :=
  ⟨v, v', m', h', n', w', .inl (by rw [Sem.run_bind, hs]; rfl), hm, hv, hh, hk⟩

/-! ### A store -/
def storeK (P : Program) (h : T AO) (n : Nat) (t : TypeId) (a v : Value) (k : Value → T AO → Nat → Bool) : Bool :=
  match a with
  | .pointer (some ⟨b, o, none⟩) => match h.get b with
    | some (.cells fl c e z) => match P.info? t with
      | some i => sel (Nat.blt fl 2 && Nat.beq i.size v.cells.toList.length && noTuple v && Nat.ble (o + i.size) c.length)
          (forceL (splice c o v.cells.toList) fun c' => T.setK (some (.cells fl c' e z)) h b fun h' => k undefA h' n) false
      | none => false
    | _ => false
  | _ => false
theorem storeK_sound (hr : HR B w0 m h X n w) {t : TypeId} {a v a' v' : Value} {k : Value → T AO → Nat → Bool} (hk : storeK P h n t a v k = true) (ha : VR m a a') (hv : VR m v v') :
    Eff P B w0 X m (Instr.storeAt t a' v' >>= fun _ => (Pure.pure Next.skip : Sem Next)) w k := by
  unfold storeK at hk
  split at hk
  · rename_i b o
    obtain ⟨rfl, hd⟩ := ha.inv_ptr
    split at hk
    · rename_i fl c e z hb
      split at hk
      · rename_i i hi
        cases hc : (Nat.blt fl 2 && Nat.beq i.size v.cells.toList.length && noTuple v && Nat.ble (o + i.size) c.length)
        · rw [hc] at hk; cases hk
        · rw [hc, sel_true, forceL_eq, T.setK_eq] at hk
          rw [Bool.and_eq_true, Bool.and_eq_true, Bool.and_eq_true, nblt, nbeq, nble, decide_eq_true_eq, decide_eq_true_eq, decide_eq_true_eq] at hc
          obtain ⟨⟨⟨h1, h2⟩, h3⟩, h4⟩ := hc
          obtain ⟨w', hs, hh⟩ := hr.write (P := P) (o := o) hb h1 hv.cells (cells_atom hv h3) (by omega)
          refine Eff.skip (w' := w') ?_ hh hk
          have hl := hv.cells.length
          have hne : ¬ (v'.cells.size ≠ i.size) := by simp at hl h2; omega
          simp only [Instr.storeAt, Instr.sureAddr, Sem.run_bind, Sem.run_pure, Result.andThen_ok, storeVar, run_sizeOf' hi, hne, if_false]
          exact hs
      · cases hk
    · cases hk
  · cases hk

/-! ### Maps -/
def setE (v : Value) : Nat → List (Value × Value × Nat) → List (Value × Value × Nat)
  | _, [] => []
  | 0, e :: l => (e.1, v, e.2.2) :: l
  | i + 1, e :: l => e :: setE v i l

theorem findNow_key {d : TypeDesc} {key : Value} : ∀ {es : List MapEntry} {i j : Nat} {u : Value}, Instr.findNow d key es i = some (some (j, u)) → i ≤ j ∧ ∃ e, es[j - i]? = some e ∧ Instr.sameNow d key e.key = some true
  | [], i, j, u, h => by simp [Instr.findNow] at h
  | e :: es, i, j, u, h => by
    simp only [Instr.findNow] at h
    split at h
    · rename_i hs
      simp only [Option.some.injEq, Prod.mk.injEq] at h
      obtain ⟨rfl, rfl⟩ := h
      exact ⟨Nat.le_refl _, e, by simp, hs⟩
    · obtain ⟨h1, e', h2, h3⟩ := findNow_key h
      refine ⟨by omega, e', ?_, h3⟩
      have : j - i = (j - (i + 1)) + 1 := by omega
      rw [this]; simpa using h2
    · cases h

theorem ERs.setE {v v' : Value} (hv : VR m v v') : ∀ {es : List (Value × Value × Nat)} {es' : List MapEntry} (i : Nat) (key : Value), ERs m es es' → (∀ e, es'[i]? = some e → key = e.key) →
    ERs m (Ex.setE v i es) (es'.modify i fun e => { e with key, val := v' })
  | [], [], i, key, _, _ => by cases i <;> trivial
  | e :: es, e' :: es', 0, key, h, hk => by
    obtain ⟨⟨h1, h2, h3, h4⟩, hr⟩ := h
    have := hk e' (by simp)
    simp only [List.modify_zero_cons]
    exact ⟨⟨by rw [this]; exact h1, h2, hv, h4⟩, hr⟩
  | e :: es, e' :: es', i + 1, key, h, hk => by
    obtain ⟨h0, hr⟩ := h
    simp only [List.modify_succ_cons]
    exact ⟨h0, ERs.setE hv i key hr fun x hx => hk x (by simpa using hx)⟩

theorem ERs.push {k v v' : Value} {cl : Nat} (hk : flat 8 k = true) (hv : VR m v v') : ∀ {es : List (Value × Value × Nat)} {es' : List MapEntry}, ERs m es es' → ERs m (es ++ [(k, v, cl)]) (es' ++ [{ key := k, val := v', born := cl }])
  | [], [], _ => ⟨⟨rfl, hk, hv, rfl⟩, trivial⟩
  | _ :: _, _ :: _, h => ⟨h.1, ERs.push hk hv h.2⟩

theorem ERs.eraseIdx : ∀ {es : List (Value × Value × Nat)} {es' : List MapEntry} (i : Nat), ERs m es es' → ERs m (es.eraseIdx i) (es'.eraseIdx i)
  | [], [], _, _ => by simp [ERs]
  | _ :: _, _ :: _, 0, h => by simpa using h.2
  | _ :: _, _ :: _, i + 1, h => by simpa [ERs] using ⟨h.1, ERs.eraseIdx i h.2⟩

def mapUpdateK0 (P : Program) (h : T AO) (n : Nat) (t : TypeId) (x key v : Value) (k : Value → T AO → Nat → Bool) : Bool :=
  match P.underlying t with
  | some (.map kt _) => match keyOk P kt key with
    | some d => match x with
      | .map (some r) => match h.get r with
        | some (.map es cl) => match findL d key es 0 with
          | some (some (i, _)) => forceL (setE v i es) fun es' => T.setK (some (.map es' cl)) h r fun h' => k undefA h' n
          | some none => forceL (es ++ [(key, v, cl)]) fun es' => forceN (cl + 1) fun cl' => T.setK (some (.map es' cl')) h r fun h' => k undefA h' n
          | none => false
        | _ => false
      | _ => false
    | none => false
  | _ => false

theorem upd_setObj {r : Nat} {o o' : Obj} (ho : w.heap[r]? = some o) : Upd w { w with heap := w.heap.setIfInBounds r o' } r o' where
  at_ := by
    have hlt := (Array.getElem?_eq_some_iff.1 ho).1
    simp [hlt]
  other := fun j hj => by simp [Array.getElem?_setIfInBounds_ne (Ne.symm hj)]
  size := by simp
  os := rfl
  tape := rfl
  output := rfl

theorem sameNow_bits {d : TypeDesc} {a b : Value} (h : Instr.sameNow d a b = some true) : a = b ∧ Instr.sameBits 10000 b a = true := by
  unfold Instr.sameNow at h
  split at h
  · rename_i k a k' b
    split at h
    · rename_i hk
      subst hk
      simp only [Option.some.injEq, beq_iff_eq] at h
      subst h
      exact ⟨rfl, by show (k == k && a == a) = true; simp⟩
    · cases h
  · rename_i a b
    simp only [Option.some.injEq] at h
    have e : (a == b) = (a.data == b.data) := by cases a; cases b; rfl
    rw [e, beq_iff_eq] at h
    have : a = b := by cases a; cases b; simpa using h
    subst this
    refine ⟨rfl, ?_⟩
    show (a == a) = true
    have e : (a == a) = (a.data == a.data) := by cases a; rfl
    rw [e, beq_iff_eq]
  · rename_i a b
    simp only [Option.some.injEq, beq_iff_eq] at h
    subst h
    exact ⟨rfl, by show (a == a) = true; simp⟩
  · cases h

theorem mapUpdateK0_sound (hr : HR B w0 m h X n w) {t : TypeId} {x key v x' key' v' : Value} {k : Value → T AO → Nat → Bool} (hk : mapUpdateK0 P h n t x key v k = true) (hx : VR m x x') (hkey : VR m key key') (hv : VR m v v') :
    Eff P B w0 X m (Instr.mapUpdate t x' key' v' >>= fun _ => (Pure.pure Next.skip : Sem Next)) w k := by
  unfold mapUpdateK0 at hk
  split at hk
  · rename_i kt et hu
    split at hk
    · rename_i d hd
      obtain ⟨hud, hkf, hck⟩ := keyOk_spec hd
      obtain rfl := (flat_eq m 8 key hkf key' hkey).symm
      split at hk
      · rename_i r
        obtain ⟨rfl, hdr⟩ := hx.inv_map
        split at hk
        · rename_i es cl hb
          have hb' := ov_some (X := X) hb
          obtain ⟨_, es', hco, hes⟩ := hr.lr.map hb'
          have hget : (getObj (m.mu r)).run P w = .ok (.map es' cl) w := by simp [getObj, Sem.run, hco]
          have hset : ∀ o, (setObj (m.mu r) o).run P w = .ok () { w with heap := w.heap.setIfInBounds (m.mu r) o } := fun o => by simp [setObj, Sem.run, hco]
          split at hk
          · rename_i i u hf
            rw [forceL_eq, T.setK_eq] at hk
            obtain ⟨r', hf', hm⟩ := findL_spec hes hf
            cases r' with
            | none => exact hm.elim
            | some q =>
              obtain ⟨j', u'⟩ := q
              obtain ⟨rfl, hu'⟩ := hm
              obtain ⟨_, e, he, hs⟩ := findNow_key hf'
              obtain ⟨hke, hbits⟩ := sameNow_bits hs
              simp only [Nat.sub_zero] at he
              have hea : es'[j']? = some e := by simpa using he
              refine Eff.skip (h' := T.set (some (.map (setE v j' es) cl)) h r) (w' := { w with heap := w.heap.setIfInBounds (m.mu r) (.map (es'.modify j' fun e => { e with key, val := v' }) cl) }) ?_ ?_ hk
              · simp only [Instr.mapUpdate, Sem.run_bind, run_underlying hu, Result.andThen_ok, hget, hck, Instr.findKey, run_underlying hud, hf', Sem.run_pure, hea, Option.map_some, Option.getD_some, Instr.keyThatStays, hbits, if_true, hset]
              · refine hr.set hb (hr.lr.upd hb' rfl rfl (upd_setObj hco) ?_)
                refine .map _ _ _ ?_
                have := hes.setE hv j' key (fun x hx => by rw [he] at hx; cases hx; exact hke)
                simpa using this
          · rename_i hf
            rw [forceL_eq, forceN_eq, T.setK_eq] at hk
            obtain ⟨r', hf', hm⟩ := findL_spec hes hf
            cases r' with
            | some q => exact hm.elim
            | none =>
              refine Eff.skip (h' := T.set (some (.map (es ++ [(key, v, cl)]) (cl + 1))) h r) (w' := { w with heap := w.heap.setIfInBounds (m.mu r) (.map (es'.push { key, val := v', born := cl }) (cl + 1)) }) ?_ ?_ hk
              · simp only [Instr.mapUpdate, Sem.run_bind, run_underlying hu, Result.andThen_ok, hget, hck, Instr.findKey, run_underlying hud, hf', Sem.run_pure, hset]
              · refine hr.set hb (hr.lr.upd hb' rfl rfl (upd_setObj hco) ?_)
                refine .map _ _ _ ?_
                have := hes.push (cl := cl) hkf hv
                simpa using this
          · cases hk
        · cases hk
      · cases hk
    · cases hk
  · cases hk

/-- An entry more of a key of which nothing is told, in an empty map: the map is forgotten. -/
def mapUpdateK (P : Program) (h : T AO) (n : Nat) (t : TypeId) (x key v : Value) (k : Value → T AO → Nat → Bool) : Bool :=
  match P.underlying t with
  | some (.map kt _) => match keyOk P kt key with
    | some _ => mapUpdateK0 P h n t x key v k
    | none => match unkKey P kt key with
      | some _ => match x with
        | .map (some r) => sel (emptyM h x) (T.setK (some .dead) h r fun h' => k undefA h' n) false
        | _ => false
      | none => false
  | _ => false

theorem mapUpdateK_sound (hr : HR B w0 m h X n w) {t : TypeId} {x key v x' key' v' : Value} {k : Value → T AO → Nat → Bool} (hk : mapUpdateK P h n t x key v k = true) (hx : VR m x x') (hkey : VR m key key') (hv : VR m v v') :
    Eff P B w0 X m (Instr.mapUpdate t x' key' v' >>= fun _ => (Pure.pure Next.skip : Sem Next)) w k := by
  unfold mapUpdateK at hk
  split at hk
  case h_2 => cases hk
  rename_i kt et hu
  split at hk
  · exact mapUpdateK0_sound hr hk hx hkey hv
  split at hk
  case h_2 => cases hk
  rename_i ik hik
  split at hk
  case h_2 => cases hk
  rename_i r0
  cases hc : emptyM h (.map (some r0))
  · rw [hc] at hk; cases hk
  rw [hc, sel_true, T.setK_eq] at hk
  obtain ⟨r, cl, h1, rfl, hb, hco⟩ := emptyM_spec hr.sub hr.lr hc hx
  cases h1
  obtain ⟨hud, ⟨i, rfl⟩, hck⟩ := unkKey_spec hik hkey
  have hb' := ov_some (X := X) hb
  have hget : (getObj (m.mu r0)).run P w = .ok (.map #[] cl) w := by simp [getObj, Sem.run, hco]
  have hset : ∀ o, (setObj (m.mu r0) o).run P w = .ok () { w with heap := w.heap.setIfInBounds (m.mu r0) o } := fun o => by simp [setObj, Sem.run, hco]
  refine Eff.skip (h' := T.set (some .dead) h r0) (w' := { w with heap := w.heap.setIfInBounds (m.mu r0) (.map #[{ key := .int ik i, val := v', born := cl }] (cl + 1)) }) ?_ ?_ hk
  · simp only [Instr.mapUpdate, Sem.run_bind, run_underlying hu, Result.andThen_ok, hget, hck, Instr.findKey, run_underlying hud, Instr.findNow, Sem.run_pure, hset]
    rfl
  · exact hr.set hb (hr.lr.updDead hb' rfl rfl (upd_setObj hco))

def deleteK (P : Program) (h : T AO) (n : Nat) (t : TypeId) (x key : Value) (k : Value → T AO → Nat → Bool) : Bool :=
  match P.underlying t with
  | some (.map kt _) => match keyOk P kt key with
    | some d => match x with
      | .map (some r) => match h.get r with
        | some (.map es cl) => match findL d key es 0 with
          | some (some (i, _)) => forceL (es.eraseIdx i) fun es' => T.setK (some (.map es' cl)) h r fun h' => k undefA h' n
          | some none => k undefA h n
          | none => false
        | _ => false
      | _ => false
    | none => false
  | _ => false

theorem deleteK_sound (hr : HR B w0 m h X n w) {t ty : TypeId} {x key x' key' : Value} {k : Value → T AO → Nat → Bool} (hk : deleteK P h n t x key k = true) (hx : VR m x x') (hkey : VR m key key') :
    Eff P B w0 X m (Builtin.delete_ #[t] ty #[x', key'] >>= fun u => (Pure.pure (Next.value u) : Sem Next)) w k := by
  unfold deleteK at hk
  split at hk
  · rename_i kt et hu
    split at hk
    · rename_i d hd
      obtain ⟨hud, hkf, hck⟩ := keyOk_spec hd
      obtain rfl := (flat_eq m 8 key hkf key' hkey).symm
      split at hk
      · rename_i r
        obtain ⟨rfl, hdr⟩ := hx.inv_map
        split at hk
        · rename_i es cl hb
          have hb' := ov_some (X := X) hb
          obtain ⟨_, es', hco, hes⟩ := hr.lr.map hb'
          have hget : (getObj (m.mu r)).run P w = .ok (.map es' cl) w := by simp [getObj, Sem.run, hco]
          have hset : ∀ o, (setObj (m.mu r) o).run P w = .ok () { w with heap := w.heap.setIfInBounds (m.mu r) o } := fun o => by simp [setObj, Sem.run, hco]
          split at hk
          · rename_i i u hf
            rw [forceL_eq, T.setK_eq] at hk
            obtain ⟨r', hf', hm⟩ := findL_spec hes hf
            cases r' with
            | none => exact hm.elim
            | some q =>
              obtain ⟨j', u'⟩ := q
              obtain ⟨rfl, hu'⟩ := hm
              refine Eff.value (v' := .tuple #[]) (h' := T.set (some (.map (es.eraseIdx j') cl)) h r) (w' := { w with heap := w.heap.setIfInBounds (m.mu r) (.map (es'.eraseIdxIfInBounds j') cl) }) ?_ m.le_refl (.tuple' VRs.nil) ?_ hk
              · simp [Builtin.delete_, run_underlying hu, hget, hck, Instr.findKey, run_underlying hud, hf', hset]
              · refine hr.set hb (hr.lr.upd hb' rfl rfl (upd_setObj hco) ?_)
                refine .map _ _ _ ?_
                have := hes.eraseIdx j'
                have e : (es'.eraseIdxIfInBounds j').toList = es'.toList.eraseIdx j' := by
                  unfold Array.eraseIdxIfInBounds
                  split
                  · simp
                  · rename_i hlt; rw [List.eraseIdx_of_length_le (by simpa using Nat.le_of_not_lt hlt)]
                rw [e]; exact this
          · rename_i hf
            obtain ⟨r', hf', hm⟩ := findL_spec hes hf
            cases r' with
            | some q => exact hm.elim
            | none =>
              refine Eff.value (v' := .tuple #[]) (h' := h) (w' := { w with heap := w.heap.setIfInBounds (m.mu r) (.map es' cl) }) ?_ m.le_refl (.tuple' VRs.nil) ?_ hk
              · simp [Builtin.delete_, run_underlying hu, hget, hck, Instr.findKey, run_underlying hud, hf', hset]
              · have e : ({ w with heap := w.heap.setIfInBounds (m.mu r) (.map es' cl) } : World) = w := by
                  have : w.heap.setIfInBounds (m.mu r) (.map es' cl) = w.heap := by
                    apply Array.ext_getElem?
                    intro i
                    rw [Array.getElem?_setIfInBounds]
                    split
                    · rename_i hi; subst hi; split
                      · exact hco.symm
                      · rename_i hlt; simp [Array.getElem?_eq_none (Nat.le_of_not_lt hlt)]
                    · rfl
                  rw [this]
                rw [e]; exact hr
          · cases hk
        · cases hk
      · cases hk
    · cases hk
  · cases hk

end
end Go.Ex

/- append, copy, clear. -/
namespace Go.Ex
noncomputable section

variable {P : Program} {m : Mp} {B : Bd} {w0 w w' : World} {n : Nat} {h : T AO} {X : Nat → Option AO}

/-! ### Where cells come from -/
def bytesV (l : List UInt8) : List Value := l.map fun b => .int .u8 (b.toNat : Int)
/-- The first elements of a slice or a string. -/
def srcA (h : T AO) (size : Nat) (x : Value) (cnt : Nat) : Option (List Value) :=
  match x with
  | .slice none _ _ => sel (Nat.beq cnt 0) (some []) none
  | .slice (some ⟨b, o, none⟩) _ _ => sel (Nat.beq (cnt * size) 0) (some []) (match h.get b with
    | some (.cells _ c _ _) => sel (Nat.blt o sent && Nat.ble (o + cnt * size) c.length) (some (cellsAt c o (cnt * size))) none
    | _ => none)
  | .slice (some ⟨b, 0, some 0⟩) _ _ => sel (Nat.beq (cnt * size) 0) (some []) (match h.get b with
    | some (.win c) => sel (Nat.ble (cnt * size) c.length) (some (c.take (cnt * size))) none
    | _ => none)
  | .string s => sel (Nat.ble cnt s.data.toList.length && Nat.beq size 1) (some (bytesV (s.data.toList.take cnt))) none
  | _ => none

theorem heap_cell {w' : World} (e : w'.heap = w.heap) (a : Addr) : w'.cell? a = w.cell? a := by unfold World.cell?; rw [e]

theorem srcA_sound (hr : HR B w0 m h X n w) {size cnt : Nat} {x x' : Value} {news : List Value} (hs : srcA h size x cnt = some news) (hx : VR m x x') :
    news.length = cnt * size ∧ (∀ v ∈ news, atom v = true) ∧ ∃ news', VRs m news news' ∧ ∀ w', w'.heap = w.heap → (Builtin.firstCells size cnt x').run P w' = .ok ⟨news'⟩ w' := by
  unfold srcA at hs
  split at hs
  · cases hx
    cases hc : Nat.beq cnt 0
    · rw [hc] at hs; cases hs
    · rw [hc] at hs; cases hs
      rw [nbeq, decide_eq_true_eq] at hc
      subst hc
      exact ⟨by simp, (fun v hv => absurd hv List.not_mem_nil), [], trivial, fun w' _ => rfl⟩
  · rename_i b o len cap
    cases hz : Nat.beq (cnt * size) 0
    · rw [hz, sel_false] at hs
      split at hs
      · rename_i fl c e z hb
        cases hc : (Nat.blt o sent && Nat.ble (o + cnt * size) c.length)
        · rw [hc] at hs; cases hs
        · rw [hc, sel_true] at hs; cases hs
          rw [Bool.and_eq_true, nblt, nble, decide_eq_true_eq, decide_eq_true_eq] at hc
          obtain ⟨hd, cap', rfl, _, _⟩ := inv_slice hx hc.1
          obtain ⟨_, cs, _, fz, hco, h1, h2, h3, _⟩ := hr.lr.cells (ov_some (X := X) hb)
          have hlen : (cellsAt (cs.toList.take c.length) o (cnt * size)).length = cnt * size := by
            unfold cellsAt; simp; omega
          refine ⟨by unfold cellsAt; simp; omega, fun v hv => h3 v (List.mem_of_mem_drop (List.mem_of_mem_take hv)), cellsAt (cs.toList.take c.length) o (cnt * size), (h2.drop o).take _, fun w' hw' => ?_⟩
          have hcell : ∀ (j : Nat) u, (cellsAt (cs.toList.take c.length) o (cnt * size))[j]? = some u → w'.cell? ((⟨m.mu b, o, none⟩ : Addr).add j) = some u := fun j u hu => by
            rw [addr_add, heap_cell hw']
            unfold cellsAt at hu
            rw [List.getElem?_take] at hu
            split at hu
            · rw [List.getElem?_drop, List.getElem?_take] at hu
              split at hu
              · simp only [World.cell?, hco]; simpa using hu
              · cases hu
            · cases hu
          exact run_firstCells_some (P := P) w' size cnt ⟨m.mu b, o, none⟩ len cap' _ hlen hcell
      · cases hs
    · rw [hz] at hs; cases hs
      rw [nbeq, decide_eq_true_eq] at hz
      refine ⟨by simpa using hz.symm, (fun v hv => absurd hv List.not_mem_nil), [], trivial, fun w' _ => ?_⟩
      have key : ∀ a l c, (Builtin.firstCells size cnt (.slice (some a) l c)).run P w' = .ok #[] w' := fun a l c => by
        simp only [Builtin.firstCells, hz]; rfl
      cases hx <;> exact key _ _ _
  · rename_i b len cap
    cases hz : Nat.beq (cnt * size) 0
    · rw [hz, sel_false] at hs
      split at hs
      · rename_i c hb
        cases hc : Nat.ble (cnt * size) c.length
        · rw [hc] at hs; cases hs
        · rw [hc, sel_true] at hs; cases hs
          rw [nble, decide_eq_true_eq] at hc
          obtain ⟨hd, co, hco, hor⟩ := hr.lr.ok b _ (ov_some (X := X) hb) rfl
          cases hx with
          | slw _ _ _ _ cap' hd' hcap =>
          cases hor with
          | win _ cs e fz hcs ha =>
            have hl := hcs.length
            have hlen : (((cs.toList.drop (m.cap b)).take c.length).take (cnt * size)).length = cnt * size := by
              rw [List.length_take, ← hl]; omega
            refine ⟨by rw [List.length_take]; omega, fun v hv => ha v (List.mem_of_mem_take hv), ((cs.toList.drop (m.cap b)).take c.length).take (cnt * size), hcs.take _, fun w' hw' => ?_⟩
            have hcell : ∀ (j : Nat) u, (((cs.toList.drop (m.cap b)).take c.length).take (cnt * size))[j]? = some u → w'.cell? ((⟨m.mu b, m.cap b, none⟩ : Addr).add j) = some u := fun j u hu => by
              rw [addr_add, heap_cell hw']
              rw [List.getElem?_take] at hu
              split at hu
              · rw [List.getElem?_take] at hu
                split at hu
                · rw [List.getElem?_drop] at hu
                  simp only [World.cell?, hco]; simpa using hu
                · cases hu
              · cases hu
            exact run_firstCells_some (P := P) w' size cnt ⟨m.mu b, m.cap b, none⟩ len cap' _ hlen hcell
      · cases hs
    · rw [hz] at hs; cases hs
      rw [nbeq, decide_eq_true_eq] at hz
      refine ⟨by simpa using hz.symm, (fun v hv => absurd hv List.not_mem_nil), [], trivial, fun w' _ => ?_⟩
      have key : ∀ a l c, (Builtin.firstCells size cnt (.slice (some a) l c)).run P w' = .ok #[] w' := fun a l c => by
        simp only [Builtin.firstCells, hz]; rfl
      cases hx <;> exact key _ _ _
  · rename_i s
    cases hx
    cases hc : (Nat.ble cnt s.data.toList.length && Nat.beq size 1)
    · rw [hc] at hs; cases hs
    · rw [hc, sel_true] at hs; cases hs
      rw [Bool.and_eq_true, nble, nbeq, decide_eq_true_eq, decide_eq_true_eq] at hc
      obtain ⟨h1, rfl⟩ := hc
      have href : ∀ l : List UInt8, VRs m (bytesV l) (bytesV l) := fun l => VRs.refl_of fun v hv => by
        simp only [bytesV, List.mem_map] at hv
        obtain ⟨b, _, rfl⟩ := hv
        exact .int _ _
      refine ⟨by simp [bytesV]; simp at h1; omega, fun v hv => ?_, bytesV (s.data.toList.take cnt), href _, fun w' _ => ?_⟩
      · simp only [bytesV, List.mem_map] at hv
        obtain ⟨b, _, rfl⟩ := hv
        rfl
      · simp only [Builtin.firstCells, Sem.run_pure]
        congr 1
        apply Array.ext'
        simp [bytesV, ByteArray.data_extract]
  · cases hs

def lenA (x : Value) : Option Nat :=
  match x with
  | .slice _ l _ => some l
  | .string s => some s.data.toList.length
  | _ => none
theorem lenA_sound {x x' : Value} {l : Nat} (hl : lenA x = some l) (hx : VR m x x') (w : World) : (Builtin.lenOf x').run P w = .ok l w := by
  unfold lenA at hl
  split at hl
  · cases hl
    obtain ⟨a', c', rfl⟩ := slice_len hx
    rfl
  · rename_i s
    cases hl; cases hx
    show Result.ok s.size w = _
    simp
  · cases hl

/-! ### The two roads of append -/
theorem append_room {sT xT ty e : TypeId} {i : TypeInfo} {b : Addr} {sLen sCap cnt : Nat} {x : Value} {news : List Value} {dx : TypeDesc}
    (hu : P.underlying sT = some (.slice e)) (hi : P.info? e = some i) (hdx : P.underlying xT = some dx) (hni : ∀ k, dx ≠ .int k)
    (hlen : ∀ w, (Builtin.lenOf x).run P w = .ok cnt w) (hfirst : (Builtin.firstCells i.size cnt x).run P w = .ok ⟨news⟩ w) (hroom : sLen + cnt ≤ sCap)
    (hst : (storeCells (b.add (sLen * i.size)) news).run P w = .ok () w') :
    (Builtin.append_ #[sT, xT] ty #[.slice (some b) sLen sCap, x]).run P w = .ok (.slice (some b) (sLen + cnt) sCap) w' := by
  have hz : (match dx with | .int _ => true | _ => false) = false := by cases dx <;> first | rfl | exact absurd rfl (hni _)
  simp [Builtin.append_, run_underlying hu, run_underlying hdx, run_sizeOf' hi, hlen, hroom, hfirst, hst]

theorem append_room_nil {sT xT ty e : TypeId} {i : TypeInfo} {sLen sCap cnt : Nat} {x : Value} {news : List Value} {dx : TypeDesc}
    (hu : P.underlying sT = some (.slice e)) (hi : P.info? e = some i) (hdx : P.underlying xT = some dx) (hni : ∀ k, dx ≠ .int k)
    (hlen : ∀ w, (Builtin.lenOf x).run P w = .ok cnt w) (hfirst : (Builtin.firstCells i.size cnt x).run P w = .ok ⟨news⟩ w) (hroom : sLen + cnt ≤ sCap) :
    (Builtin.append_ #[sT, xT] ty #[.slice none sLen sCap, x]).run P w = .ok (.slice none (sLen + cnt) sCap) w := by
  have hz : (match dx with | .int _ => true | _ => false) = false := by cases dx <;> first | rfl | exact absurd rfl (hni _)
  simp [Builtin.append_, run_underlying hu, run_underlying hdx, run_sizeOf' hi, hlen, hroom, hfirst]

theorem append_grow {sT xT ty e : TypeId} {i : TypeInfo} {z : Value} {a : Option Addr} {sLen sCap cnt : Nat} {x : Value} {olds news : List Value} {dx : TypeDesc}
    (hu : P.underlying sT = some (.slice e)) (hi : P.info? e = some i) (hz0 : ∀ w, (zeroValue e).run P w = .ok z w) (hdx : P.underlying xT = some dx) (hni : ∀ k, dx ≠ .int k)
    (hlen : ∀ w, (Builtin.lenOf x).run P w = .ok cnt w) (hold : ∀ w', w'.heap = w.heap → (Builtin.firstCells i.size sLen (.slice a sLen sCap)).run P w' = .ok ⟨olds⟩ w')
    (hfirst : ∀ w', w'.heap = w.heap → (Builtin.firstCells i.size cnt x).run P w' = .ok ⟨news⟩ w') (hroom : sCap < sLen + cnt) (hsmall : sLen + cnt < 1099511627776) (hb : (sLen + cnt) * i.bytes ≤ 140737488355328) :
    (Builtin.append_ #[sT, xT] ty #[.slice a sLen sCap, x]).run P w =
      .ok (.slice (some ⟨w.heap.size, 0, none⟩) (sLen + cnt) (grownCap w (sLen + cnt) sCap e))
        (w.drew.alloc (.cells ⟨olds ++ news ++ genZ z.cells.toList ((grownCap w (sLen + cnt) sCap e - (sLen + cnt)) * z.cells.size)⟩ e)) := by
  have hz : (match dx with | .int _ => true | _ => false) = false := by cases dx <;> first | rfl | exact absurd rfl (hni _)
  have hn : ¬ (sLen + cnt ≤ sCap) := by omega
  have h63' : ¬ (9223372036854775807 < ((sLen : Int) + (cnt : Int))) := by omega
  have h48' : ¬ (281474976710656 < Builtin.nextslicecap (sLen + cnt) sCap * i.bytes) := by have := growslice_fits (old := sCap) hroom hb; omega
  have hgz : ∀ k, Builtin.zeroCells z.cells k = ⟨genZ z.cells.toList (k * z.cells.size)⟩ := fun k => genZ_eq _ _
  have hq : ∀ need old (w : World), (choose (.appendCap need old e)).run P w = .ok (grownCap w need old e) w.drew := fun need old w => by
    simp [choose, Sem.run, Question.forced, grownCap]
  have hm : ∀ k (w : World), (askRoom k).run P w = .ok () w := fun k w => by
    unfold askRoom; split <;> rfl
  have hmx : ¬ (((sLen + cnt : Nat) : Int) > IntKind.i64.max) := by
    have : IntKind.i64.max = 9223372036854775807 := by decide
    rw [this]; omega
  have h48'' : ¬ (Builtin.nextslicecap (sLen + cnt) sCap * i.bytes > 2 ^ 48) := by omega
  simp only [Builtin.append_, List.getElem?_toArray, List.getElem?_cons_zero, List.getElem?_cons_succ, Sem.run_bind, run_underlying hu, Result.andThen_ok, run_sizeOf' hi, run_underlying hdx, Sem.run_pure, Bool.false_eq_true, if_false, hlen, hn, run_typeInfo' hi, false_or,
    hmx, false_and, h48'', hq, hm, hold _ (show w.drew.heap = w.heap from rfl), hfirst _ (show w.drew.heap = w.heap from rfl), Bool.not_false, if_true, hz0, hgz, run_newRow]
  congr 3
  simp

/-- The same, of so many zero values. -/
theorem append_growZ {sT xT ty e : TypeId} {i : TypeInfo} {z : Value} {a : Option Addr} {sLen sCap cnt : Nat} {olds : List Value} {k k' : IntKind}
    (hu : P.underlying sT = some (.slice e)) (hi : P.info? e = some i) (hz0 : ∀ w, (zeroValue e).run P w = .ok z w) (hdx : P.underlying xT = some (.int k))
    (hold : ∀ w', w'.heap = w.heap → (Builtin.firstCells i.size sLen (.slice a sLen sCap)).run P w' = .ok ⟨olds⟩ w') (hsz : cnt * i.size ≠ 0)
    (hroom : sCap < sLen + cnt) (hsmall : sLen + cnt < 1099511627776) (hb : (sLen + cnt) * i.bytes ≤ 140737488355328) :
    (Builtin.append_ #[sT, xT] ty #[.slice a sLen sCap, .int k' (Int.ofNat cnt)]).run P w =
      .ok (.slice (some ⟨w.heap.size, 0, none⟩) (sLen + cnt) (grownCap w (sLen + cnt) sCap e))
        (w.drew.alloc (.cells ⟨olds ++ genZ z.cells.toList (cnt * z.cells.size) ++ genZ z.cells.toList ((grownCap w (sLen + cnt) sCap e - (sLen + cnt)) * z.cells.size)⟩ e)) := by
  have hn : ¬ (sLen + cnt ≤ sCap) := by omega
  have h48' : ¬ (281474976710656 < Builtin.nextslicecap (sLen + cnt) sCap * i.bytes) := by have := growslice_fits (old := sCap) hroom hb; omega
  have hgz : ∀ k, Builtin.zeroCells z.cells k = ⟨genZ z.cells.toList (k * z.cells.size)⟩ := fun k => genZ_eq _ _
  have hq : ∀ need old (w : World), (choose (.appendCap need old e)).run P w = .ok (grownCap w need old e) w.drew := fun need old w => by
    simp [choose, Sem.run, Question.forced, grownCap]
  have hm : ∀ k (w : World), (askRoom k).run P w = .ok () w := fun k w => by
    unfold askRoom; split <;> rfl
  have hmx : ¬ (((sLen + cnt : Nat) : Int) > IntKind.i64.max) := by
    have : IntKind.i64.max = 9223372036854775807 := by decide
    rw [this]; omega
  have h48'' : ¬ (Builtin.nextslicecap (sLen + cnt) sCap * i.bytes > 2 ^ 48) := by omega
  have hwr : IntKind.i64.wrap (Int.ofNat cnt) = Int.ofNat cnt := wrap_small .i64 cnt (by simp only [half]; omega)
  have hneg : ¬ ((Int.ofNat cnt : Int) < 0) := by simp
  have hbig : ¬ ((Int.ofNat cnt : Int) * (i.bytes : Int) > 2 ^ 48) := by
    have e1 : (Int.ofNat cnt : Int) * (i.bytes : Int) = ((cnt * i.bytes : Nat) : Int) := by simp
    have e2 : cnt * i.bytes ≤ (sLen + cnt) * i.bytes := Nat.mul_le_mul_right _ (by omega)
    rw [e1]; omega
  have hto : (Int.ofNat cnt).toNat = cnt := rfl
  simp only [Builtin.append_, List.getElem?_toArray, List.getElem?_cons_zero, List.getElem?_cons_succ, Sem.run_bind, run_underlying hu, Result.andThen_ok, run_sizeOf' hi, run_underlying hdx, Sem.run_pure, if_true, asInt, asIntOf, hwr, hneg, hbig, if_false, hto, hn, run_typeInfo' hi, true_or,
    hmx, and_true, h48'', hq, hm, hold _ (show w.drew.heap = w.heap from rfl), hsz, Bool.not_true, Bool.false_eq_true, hz0, hgz, run_newRow]
  congr 3
  simp

end
end Go.Ex

/- append, copy, clear: the abstract ones. -/
namespace Go.Ex
noncomputable section

variable {P : Program} {m : Mp} {B : Bd} {w0 w w' : World} {n : Nat} {h : T AO} {X : Nat → Option AO}

/-- News go into the room that there is. -/
def inPlaceK (h : T AO) (n b o at_ : Nat) (news : List Value) (v : Value) (k : Value → T AO → Nat → Bool) : Bool :=
  match h.get b with
  | some (.cells fl cs e z) => sel (Nat.blt fl 2 && Nat.ble (o + at_ + news.length) cs.length)
      (forceL (splice cs (o + at_) news) fun c' => T.setK (some (.cells fl c' e z)) h b fun h' => k v h' n) false
  | _ => false

theorem inPlaceK_sound (hr : HR B w0 m h X n w) {b o at_ : Nat} {news news' : List Value} {v _v' : Value} {k : Value → T AO → Nat → Bool} (hk : inPlaceK h n b o at_ news v k = true) (hn : VRs m news news') (ha : ∀ v ∈ news, atom v = true) :
    ∃ w' h', (storeCells ((⟨m.mu b, o, none⟩ : Addr).add at_) news').run P w = .ok () w' ∧ HR B w0 m h' X n w' ∧ k v h' n = true := by
  unfold inPlaceK at hk
  split at hk
  · rename_i fl cs e z hb
    cases hc : (Nat.blt fl 2 && Nat.ble (o + at_ + news.length) cs.length)
    · rw [hc] at hk; cases hk
    · rw [hc, sel_true, forceL_eq, T.setK_eq] at hk
      rw [Bool.and_eq_true, nblt, nble, decide_eq_true_eq, decide_eq_true_eq] at hc
      obtain ⟨w', hs, hh⟩ := hr.write (P := P) (o := o + at_) hb hc.1 hn ha hc.2
      exact ⟨w', _, by rw [addr_add]; exact hs, hh, hk⟩
  · cases hk

/-- A new block with what there was and the news. -/
def growK (h : T AO) (n : Nat) (e esz need bytes : Nat) (content : List Value) (k : Value → T AO → Nat → Bool) : Bool :=
  sel (Nat.blt need 1099511627776 && Nat.ble (need * bytes) 140737488355328)
    (forceL content fun c' => T.setK (some (.cells 1 c' e esz)) h n fun h' => forceN need fun need' => forceN (n + 1) fun n' => k (.slice (some ⟨n, 0, none⟩) need' (sent + esz)) h' n') false

theorem genZ_length (zc : List Value) (k : Nat) : (genZ zc k).length = k := by simp [genZ]

theorem grow_known (hr : HR B w0 m h X n w) {e esz need cap : Nat} {content content' rest : List Value} (hc : VRs m content content') (ha : ∀ v ∈ content, atom v = true) (hl : content.length = need * esz) (hrest : rest.length = (cap - need) * esz) (hcap : need ≤ cap) (hz : 0 < esz) (hra : ∀ v ∈ rest, atom v = true) :
    ∃ m', m.le m' ∧ VR m' (.slice (some ⟨n, 0, none⟩) need (sent + esz)) (.slice (some ⟨w.heap.size, 0, none⟩) need cap) ∧
      HR B w0 m' (T.set (some (.cells 1 content e esz)) h n) X (n + 1) (w.drew.alloc (.cells ⟨content' ++ rest⟩ e)) := by
  have hle := Mp.le_ext (m := m) hr.fresh.2.2.2 w.heap.size (cap * esz) esz
  have hcl := hc.length
  have hsz : (content' ++ rest).length = cap * esz := by
    rw [List.length_append, ← hcl, hl, hrest, ← Nat.add_mul]; congr 1; omega
  have hor : OR (m.ext n w.heap.size (cap * esz) esz) n (.cells 1 content e esz) (.cells ⟨content' ++ rest⟩ e (0, 0)) := by
    have := OR.opn (m := m.ext n w.heap.size (cap * esz) esz) (b := n) content e ⟨content' ++ rest⟩ ?_ ?_ ?_ ?_ ha (fun v hv => (List.mem_append.1 hv).elim (VRs.atoms hc ha v) (hra v))
    · rw [Mp.ext_esz] at this; exact this
    · show VRs _ content ((content' ++ rest).take content.length)
      rw [hcl, List.take_left]; exact hc.mono hle
    · show content.length ≤ (content' ++ rest).length
      rw [List.length_append]; omega
    · rw [Mp.ext_cap]; exact hsz
    · rw [Mp.ext_esz]; exact hz
  refine ⟨_, hle, ?_, (hr.same (Same.drew w)).alloc (cap * esz) esz hor⟩
  have := VR.slo (m := m.ext n w.heap.size (cap * esz) esz) n 0 0 need cap (Mp.ext_dom _ _ _ _ _) (fun _ => ⟨rfl, by rw [Mp.ext_esz, Mp.ext_cap]; omega⟩) hcap
  rw [Mp.ext_esz, Mp.ext_mu] at this
  exact this

def retargetK (h : T AO) (n b e esz need : Nat) (content : List Value) (k : Value → T AO → Nat → Bool) : Bool :=
  T.setK (some .dead) h b fun h => forceL content fun c' => T.setK (some (.cells 1 c' e esz)) h n fun h' => forceN need fun need' => forceN (n + 1) fun n' => k (.slice (some ⟨n, 0, none⟩) need' (sent + esz)) h' n'

/-- The old one is forgotten. -/
theorem HR.kill (hr : HR B w0 m h X n w) {b : Nat} {o : AO} (hb : h.get b = some o) : HR B w0 m (T.set (some .dead) h b) X n w :=
  hr.set hb (hr.lr.kill (hr.lr.lt b o (ov_some hb)))

theorem HR.set2 (hr : HR B w0 m h X n w) {b : Nat} {o o1 o2 : AO} (hb : h.get b = some o) {m' : Mp} {n' : Nat} (hl : LR B w0 m' (upd (upd (ov h X) b o1) n o2) n' w') : HR B w0 m' (T.set (some o2) (T.set (some o1) h b) n) X n' w' where
  lr := hl.congr fun x => by
    rw [ov_set (h := T.set (some o1) h b) (X := X) (.inl hr.fresh.2.1) x]
    unfold upd
    by_cases e : x = n
    · simp [e]
    · simp only [e, if_false]
      exact ov_set (.inr ⟨o, hb⟩) x
  apart := fun x y hx => by
    rw [T.get_set, T.get_set]
    have := hr.apart x y hx
    by_cases e : x = n
    · subst e; rw [hr.fresh.2.1] at hx; cases hx
    · rw [if_neg e]
      by_cases e2 : x = b
      · subst e2; rw [hb] at this; cases this
      · rw [if_neg e2]; exact this

/-- No room: what it is known by. -/
def noRoom (h : T AO) (size : Nat) (s : Value) (l c cnt : Nat) : Bool :=
  sel (Nat.blt c sent) (Nat.blt c (l + cnt))
    (match s with
    | .slice (some ⟨b, o, none⟩) _ _ => match h.get b with
      | some (.cells 3 cs _ z) => Nat.beq z size && Nat.blt o sent && Nat.blt cs.length (o + (l + cnt) * size)
      | _ => false
    | _ => false)

theorem noRoom_spec (hr : HR B w0 m h X n w) {size l c cnt : Nat} {a : Option Addr} {s' : Value} (hk : noRoom h size (.slice a l c) l c cnt = true) (hs : VR m (.slice a l c) s') : ∃ a' c', s' = .slice a' l c' ∧ c' < l + cnt := by
  unfold noRoom at hk
  cases hc : Nat.blt c sent
  · rw [hc, sel_false] at hk
    rw [nblt, decide_eq_false_iff_not] at hc
    split at hk
    case h_2 => cases hk
    rename_i b o l' c' he
    cases he
    split at hk
    case h_2 => cases hk
    rename_i cs e z hb
    simp only [Bool.and_eq_true, nbeq, nblt, decide_eq_true_eq] at hk
    obtain ⟨⟨h1, h2⟩, h3⟩ := hk
    obtain ⟨hd, c', rfl, _, hcase⟩ := inv_slice hs h2
    rcases hcase with ⟨hlt, _⟩ | ⟨he, hlc, hK⟩
    · omega
    refine ⟨_, c', rfl, ?_⟩
    obtain ⟨_, co, _, hor⟩ := hr.lr.ok b _ (ov_some (X := X) hb) rfl
    cases hor with
    | full _ _ cs' hv hcap hez _ =>
      have hl := hv.length
      rw [h1] at hK
      have h4 : o + c' * size < o + (l + cnt) * size := by
        rw [hK, ← hcap]
        simp at hl
        omega
      exact Nat.lt_of_mul_lt_mul_right (a := size) (by omega)
  · rw [hc, sel_true] at hk
    rw [nblt, decide_eq_true_eq] at hc hk
    obtain ⟨a', rfl⟩ := slice_cap hs hc
    exact ⟨a', c, rfl, hk⟩

def appendK (P : Program) (h : T AO) (n : Nat) (sT xT : TypeId) (s x : Value) (k : Value → T AO → Nat → Bool) : Bool :=
  match P.underlying sT with
  | some (.slice e) => match P.info? e, zeroV P e, P.underlying xT with
    | some i, some z, some dx => sel (noTuple z && Nat.blt 0 i.size && Nat.beq z.cells.toList.length i.size)
      (match dx with
      | .int _ => match s, x with
        | .slice a l c, .int _ (.ofNat cnt) => sel (noRoom h i.size (.slice a l c) l c cnt && Nat.blt 0 cnt)
            (match srcA h i.size (.slice a l c) l with
            | some olds => growK h n e i.size (l + cnt) i.bytes (olds ++ genZ z.cells.toList (cnt * i.size)) k
            | none => false) false
        | _, _ => false
      | _ => match lenA x with
        | none => false
        | some cnt => match srcA h i.size x cnt with
          | none => false
          | some news => match s with
            | .slice none l c => sel (Nat.ble (l + cnt) c) (k (.slice none (l + cnt) c) h n)
                (sel (Nat.beq l 0) (growK h n e i.size cnt i.bytes news k) false)
            | .slice (some ⟨b, o, none⟩) l c =>
              sel (Nat.beq cnt 0) (sel (Nat.blt c sent) (sel (Nat.ble l c) (k s h n) false) (k s h n))
                (sel (Nat.blt o sent)
                  (sel (Nat.blt c sent)
                    (sel (Nat.ble (l + cnt) c) (forceN (l + cnt) fun q => inPlaceK h n b o (l * i.size) news (.slice (some ⟨b, o, none⟩) q c) k)
                      (match srcA h i.size s l with
                      | some olds => growK h n e i.size (l + cnt) i.bytes (olds ++ news) k
                      | none => false))
                    (sel (Nat.beq c (sent + i.size)) (match h.get b with
                      | some (.cells 1 cs e2 z') => sel (Nat.ble (o + (l + cnt) * i.size) cs.length && Nat.beq z' i.size)
                          (forceN (l + cnt) fun q => inPlaceK h n b o (l * i.size) news (.slice (some ⟨b, o, none⟩) q c) k)
                          (sel (Nat.beq o 0 && Nat.ble (l * i.size) cs.length && Nat.blt (l + cnt) 1099511627776 && Nat.ble ((l + cnt) * i.bytes) 140737488355328 && Nat.beq z' i.size && Nat.beq e2 e)
                            (retargetK h n b e i.size (l + cnt) (cs.take (l * i.size) ++ news) k) false)
                      | _ => false) false)) false)
            | _ => false) false
    | _, _, _ => false
  | _ => false

theorem appendK_sound (hr : HR B w0 m h X n w) {sT xT ty : TypeId} {s x s' x' : Value} {k : Value → T AO → Nat → Bool} (hk : appendK P h n sT xT s x k = true) (hs : VR m s s') (hx : VR m x x') :
    Eff P B w0 X m (Builtin.append_ #[sT, xT] ty #[s', x'] >>= fun u => (Pure.pure (Next.value u) : Sem Next)) w k := by
  unfold appendK at hk
  split at hk
  case h_2 => cases hk
  rename_i e hu
  split at hk
  case h_2 => cases hk
  rename_i i z dx hi hz hdx
  obtain ⟨hzf, hzr⟩ := zeroV_spec hz
  cases hc0 : (noTuple z && Nat.blt 0 i.size && Nat.beq z.cells.toList.length i.size)
  · rw [hc0] at hk; cases hk
  rw [hc0, sel_true] at hk
  rw [Bool.and_eq_true, Bool.and_eq_true, nblt, nbeq, decide_eq_true_eq, decide_eq_true_eq] at hc0
  obtain ⟨⟨hnt, hsz⟩, hzl⟩ := hc0
  have hzs : z.cells.size = i.size := by simpa using hzl
  -- what a growing one comes to
  have grow : ∀ {olds olds' news news' : List Value} {l cnt c : Nat} {s'' : Sem Value}, VRs m olds olds' → VRs m news news' → (∀ v ∈ olds, atom v = true) → (∀ v ∈ news, atom v = true) → olds.length = l * i.size → news.length = cnt * i.size →
      growK h n e i.size (l + cnt) i.bytes (olds ++ news) k = true → c < l + cnt →
      (∀ (_ : l + cnt < 1099511627776) (_ : (l + cnt) * i.bytes ≤ 140737488355328), s''.run P w = .ok (.slice (some ⟨w.heap.size, 0, none⟩) (l + cnt) (grownCap w (l + cnt) c e))
        (w.drew.alloc (.cells ⟨olds' ++ news' ++ genZ z.cells.toList ((grownCap w (l + cnt) c e - (l + cnt)) * z.cells.size)⟩ e))) →
      Eff P B w0 X m (s'' >>= fun u => (Pure.pure (Next.value u) : Sem Next)) w k := fun {olds olds' news news' l cnt c s''} h1 h2 h3 h4 h5 h6 hg hcc hrun => by
    unfold growK at hg
    cases hc : (Nat.blt (l + cnt) 1099511627776 && Nat.ble ((l + cnt) * i.bytes) 140737488355328)
    · rw [hc] at hg; cases hg
    · rw [hc, sel_true, forceL_eq, T.setK_eq, forceN_eq, forceN_eq] at hg
      rw [Bool.and_eq_true, nblt, nble, decide_eq_true_eq, decide_eq_true_eq] at hc
      obtain ⟨m', hm, hv, hh⟩ := grow_known hr (e := e) (esz := i.size) (need := l + cnt) (cap := grownCap w (l + cnt) c e) (rest := genZ z.cells.toList ((grownCap w (l + cnt) c e - (l + cnt)) * z.cells.size)) (h1.append h2)
        (fun v hv => (List.mem_append.1 hv).elim (h3 v) (h4 v)) (by rw [List.length_append, h5, h6, Nat.add_mul]) (by rw [genZ_length, hzs]) (grownCap_ge _ _ _ _) hsz (genZ_refl (m := m) hzf hnt _).2
      exact Eff.value (hrun hc.1 hc.2) hm hv hh hg
  split at hk
  · -- so many zero values
    rename_i kk
    split at hk
    case h_2 => cases hk
    rename_i a l c kx cnt
    cases hc1 : (noRoom h i.size (.slice a l c) l c cnt && Nat.blt 0 cnt)
    · rw [hc1] at hk; cases hk
    rw [hc1, sel_true] at hk
    rw [Bool.and_eq_true, nblt, decide_eq_true_eq] at hc1
    obtain ⟨hc1, hc3⟩ := hc1
    split at hk
    case h_2 => cases hk
    rename_i olds hold
    obtain ⟨a', c', rfl, hc2⟩ := noRoom_spec hr hc1 hs
    cases hx
    obtain ⟨ho1, ho2, olds', ho3, ho4⟩ := srcA_sound (P := P) hr hold hs
    obtain ⟨hgz, hga⟩ := genZ_refl (m := m) hzf hnt (cnt * i.size)
    refine grow ho3 hgz ho2 hga ho1 (genZ_length _ _) hk hc2 fun q1 q2 => ?_
    have := append_growZ (P := P) (w := w) (ty := ty) (k' := kx) hu hi hzr hdx ho4 (Nat.mul_ne_zero (by omega) (by omega)) hc2 q1 q2
    rw [this, hzs]
  · rename_i hni
    split at hk
    case h_1 => cases hk
    rename_i cnt hcnt
    split at hk
    case h_1 => cases hk
    rename_i news hnews
    obtain ⟨hn1, hn2, news', hn3, hn4⟩ := srcA_sound (P := P) hr hnews hx
    have hlen := fun w => lenA_sound (P := P) hcnt hx w
    split at hk
    · -- nil
      rename_i l c
      cases hs
      by_cases hroom : l + cnt ≤ c
      · have e1 : Nat.ble (l + cnt) c = true := by rw [nble]; exact decide_eq_true hroom
        rw [e1, sel_true] at hk
        exact Eff.value (append_room_nil hu hi hdx hni hlen (hn4 w rfl) hroom) m.le_refl (.slN _ _) hr hk
      · have e1 : Nat.ble (l + cnt) c = false := by rw [nble]; exact decide_eq_false hroom
        rw [e1, sel_false] at hk
        cases hl : Nat.beq l 0
        · rw [hl] at hk; cases hk
        · rw [hl, sel_true] at hk
          rw [nbeq, decide_eq_true_eq] at hl
          subst hl
          have hk' : growK h n e i.size (0 + cnt) i.bytes ([] ++ news) k = true := by simpa using hk
          refine grow (olds := []) (olds' := []) (c := c) VRs.nil hn3 (fun v hv => absurd hv List.not_mem_nil) hn2 (by simp) hn1 hk' (by omega) fun q1 q2 => ?_
          exact append_grow (sLen := 0) (sCap := c) hu hi hzr hdx hni hlen (fun w' _ => rfl) hn4 (by omega) q1 q2
    · -- at an address
      rename_i b o l c
      by_cases hc00 : cnt = 0
      · subst hc00
        rw [beq_true rfl, sel_true] at hk
        have hnil : news' = [] := by
          have := hn3.length; rw [hn1] at this; exact List.eq_nil_of_length_eq_zero (by omega)
        have done : ∀ (s' : Value) (hs : VR m (.slice (some ⟨b, o, none⟩) l c) s') (hkk : k (.slice (some ⟨b, o, none⟩) l c) h n = true), (∃ a' c', s' = .slice (some a') l c' ∧ l ≤ c') →
            Eff P B w0 X m (Builtin.append_ #[sT, xT] ty #[s', x'] >>= fun u => (Pure.pure (Next.value u) : Sem Next)) w k := fun s' hs hkk ⟨a', c', he, hle⟩ => by
          subst he
          have hst : (storeCells (a'.add (l * i.size)) news').run P w = .ok () w := by rw [hnil]; rfl
          exact Eff.value (append_room hu hi hdx hni hlen (hn4 w rfl) (by omega) hst) m.le_refl hs hr hkk
        cases hcs : Nat.blt c sent
        · rw [hcs, sel_false] at hk
          rw [nblt, decide_eq_false_iff_not] at hcs
          refine done s' hs hk ?_
          cases hs with
          | sl => omega
          | slo _ _ o' _ c' _ _ hl => exact ⟨_, _, rfl, hl⟩
        · rw [hcs, sel_true] at hk
          cases hlc : Nat.ble l c
          · rw [hlc] at hk; cases hk
          · rw [hlc, sel_true] at hk
            rw [nblt, decide_eq_true_eq] at hcs
            rw [nble, decide_eq_true_eq] at hlc
            refine done s' hs hk ?_
            cases hs with
            | sl => exact ⟨_, _, rfl, hlc⟩
            | slo => omega
      · rw [beq_false hc00, sel_false] at hk
        cases hob : Nat.blt o sent
        · rw [hob] at hk; cases hk
        rw [hob, sel_true] at hk
        rw [nblt, decide_eq_true_eq] at hob
        obtain ⟨hd, c', rfl, _, hcase⟩ := inv_slice hs hob
        cases hcs : Nat.blt c sent
        · rw [hcs, sel_false] at hk
          rw [nblt, decide_eq_false_iff_not] at hcs
          rcases hcase with ⟨hlt, _⟩ | ⟨he, hlc, hK⟩
          · exact absurd hlt hcs
          cases hce : Nat.beq c (sent + i.size)
          · rw [hce] at hk; cases hk
          rw [hce, sel_true] at hk
          rw [nbeq, decide_eq_true_eq] at hce
          have hes : m.esz b = i.size := by omega
          split at hk
          case h_2 => cases hk
          rename_i cs e2 z' hb
          obtain ⟨_, co, hco, hor⟩ := hr.lr.ok b _ (ov_some (X := X) hb) rfl
          by_cases hfit : o + (l + cnt) * i.size ≤ cs.length ∧ z' = i.size
          · have e1 : (Nat.ble (o + (l + cnt) * i.size) cs.length && Nat.beq z' i.size) = true := by
              rw [nble, nbeq, decide_eq_true hfit.1, decide_eq_true hfit.2]; rfl
            rw [e1, sel_true, forceN_eq] at hk
            obtain ⟨w', h', hst, hh, hkk⟩ := inPlaceK_sound (P := P) (_v' := .nilIface) hr hk hn3 hn2
            have hroom : l + cnt ≤ c' := by
              cases hor with
              | opn _ _ cs' _ hle hcap hez _ _ =>
                have h1 : (l + cnt) * i.size ≤ c' * i.size := by rw [hes] at hK; omega
                exact Nat.le_of_mul_le_mul_right h1 hsz
            refine Eff.value (append_room hu hi hdx hni hlen (hn4 w rfl) hroom hst) m.le_refl ?_ hh hkk
            rw [he]
            exact .slo b o o _ c' hd (fun _ => ⟨rfl, hK⟩) hroom
          · have e1 : (Nat.ble (o + (l + cnt) * i.size) cs.length && Nat.beq z' i.size) = false := by
              rw [nble, nbeq, Bool.and_eq_false_iff, decide_eq_false_iff_not, decide_eq_false_iff_not]; omega
            rw [e1, sel_false] at hk
            cases hq : (Nat.beq o 0 && Nat.ble (l * i.size) cs.length && Nat.blt (l + cnt) 1099511627776 && Nat.ble ((l + cnt) * i.bytes) 140737488355328 && Nat.beq z' i.size && Nat.beq e2 e)
            · rw [hq] at hk; cases hk
            rw [hq, sel_true] at hk
            rw [Bool.and_eq_true, Bool.and_eq_true, Bool.and_eq_true, Bool.and_eq_true, Bool.and_eq_true, nbeq, nble, nblt, nble, nbeq, nbeq, decide_eq_true_eq, decide_eq_true_eq, decide_eq_true_eq, decide_eq_true_eq, decide_eq_true_eq, decide_eq_true_eq] at hq
            obtain ⟨⟨⟨⟨⟨ho0, hl1⟩, hsm⟩, hby⟩, hz'⟩, he2⟩ := hq
            subst ho0
            subst he2
            unfold retargetK at hk
            rw [T.setK_eq, forceL_eq, T.setK_eq, forceN_eq, forceN_eq] at hk
            cases hor with
            | opn _ _ cs' hcs' hle hcap hez hat hca =>
              have htake : VRs m (cs.take (l * i.size)) (cs'.toList.take (l * i.size)) := by
                have := hcs'.take (l * i.size)
                rwa [List.take_take, Nat.min_eq_left hl1] at this
              have hatk : ∀ v ∈ cs.take (l * i.size), atom v = true := fun v hv => hat v (List.mem_of_mem_take hv)
              have hnl := hn3.length
              by_cases hroom : l + cnt ≤ c'
              · -- there is room after all
                have hfit2 : 0 + l * i.size + news'.length ≤ cs'.size := by
                  rw [← hnl, hn1, hcap, ← hK, hes]
                  have := Nat.mul_le_mul_right i.size hroom
                  rw [Nat.add_mul] at this
                  omega
                have hat' : ∀ v ∈ news', v.oneCell' = true := fun v hv' => by
                  obtain ⟨j, hj⟩ := List.getElem?_of_mem hv'
                  have hlt := (List.getElem?_eq_some_iff.1 hj).1
                  have : ∃ u, news[j]? = some u := ⟨_, List.getElem?_eq_getElem (by omega)⟩
                  obtain ⟨u, hu'⟩ := this
                  rw [oneCell_atom, (hn3.get2 hu' hj).atom_eq]
                  exact hn2 u (List.mem_of_getElem? hu')
                have hst := run_storeCells_at P (m.mu b) (0 + l * i.size) e2 news' 0 cs' w hco (by simpa using hfit2) hat'
                have hst' := hst
                rw [← addr_add (m.mu b) 0 (l * i.size)] at hst'
                have hle' := Mp.le_ext (m := m) hr.fresh.2.2.2 (m.mu b) (m.cap b) i.size
                have hrun := append_room (ty := ty) hu hi hdx hni hlen (hn4 w rfl) hroom hst'
                have hfr := hr.fresh
                refine Eff.value (m' := m.ext n (m.mu b) (m.cap b) i.size) hrun hle' ?_ ?_ hk
                · have := VR.slo (m := m.ext n (m.mu b) (m.cap b) i.size) n 0 0 (l + cnt) c' (Mp.ext_dom _ _ _ _ _) (fun _ => ⟨rfl, by rw [Mp.ext_esz, Mp.ext_cap, ← hes]; exact hK⟩) hroom
                  rw [Mp.ext_esz, Mp.ext_mu] at this
                  exact this
                · refine hr.set2 hb (hr.lr.retarget (ov_some hb) rfl rfl hfr.2.2.2 hfr.2.2.1 (Nat.lt_succ_self n) (m.cap b) i.size (upd_setRow hco) ?_)
                  have hcl : (cs.take (l * i.size) ++ news).length = l * i.size + cnt * i.size := by
                    rw [List.length_append, List.length_take, Nat.min_eq_left hl1, hn1]
                  have := OR.opn (m := m.ext n (m.mu b) (m.cap b) i.size) (b := n) (cs.take (l * i.size) ++ news) e2 (cs'.toList.take (0 + l * i.size + 0) ++ news' ++ cs'.toList.drop (0 + l * i.size + 0 + news'.length)).toArray ?_ ?_ ?_ ?_
                    (fun v hv => (List.mem_append.1 hv).elim (hatk v) (hn2 v)) (fun v hv => by
                      simp only [List.mem_append] at hv
                      rcases hv with (h1 | h1) | h1
                      · exact hca v (List.mem_of_mem_take h1)
                      · rw [← oneCell_atom]; exact hat' v h1
                      · exact hca v (List.mem_of_mem_drop h1))
                  · rw [Mp.ext_esz] at this; exact this
                  · show VRs _ (cs.take (l * i.size) ++ news) ((cs'.toList.take (0 + l * i.size + 0) ++ news' ++ cs'.toList.drop (0 + l * i.size + 0 + news'.length)).take _)
                    have e3 : (cs.take (l * i.size) ++ news).length = (cs'.toList.take (0 + l * i.size + 0) ++ news').length := by
                      have := (htake.append hn3).length
                      simpa using this
                    rw [e3, List.take_left]
                    have := (htake.append hn3).mono hle'
                    simpa using this
                  · rw [hcl]; simp; omega
                  · rw [Mp.ext_cap, ← hcap]; simp; omega
                  · rw [Mp.ext_esz]; exact hsz
              · -- it grows
                have hl2 : (cs'.toList.take (l * i.size)).length = l * i.size := by simp; omega
                have hold : ∀ w', w'.heap = w.heap → (Builtin.firstCells i.size l (.slice (some ⟨m.mu b, 0, none⟩) l c')).run P w' = .ok ⟨cs'.toList.take (l * i.size)⟩ w' := fun w' hw' => by
                  refine run_firstCells_some (P := P) w' i.size l ⟨m.mu b, 0, none⟩ l c' _ hl2 fun j u hu => ?_
                  rw [addr_add, heap_cell hw']
                  rw [List.getElem?_take] at hu
                  split at hu
                  · simp only [World.cell?, hco]; simpa using hu
                  · cases hu
                have hrun := append_grow (P := P) (w := w) (ty := ty) hu hi hzr hdx hni hlen hold hn4 (by omega) hsm hby
                have hcl : (cs.take (l * i.size) ++ news).length = (l + cnt) * i.size := by
                  rw [List.length_append, List.length_take, Nat.min_eq_left hl1, hn1, Nat.add_mul]
                obtain ⟨m', hm, hv, hh⟩ := grow_known (hr.kill hb) (e := e2) (esz := i.size) (need := l + cnt) (cap := grownCap w (l + cnt) c' e2) (rest := genZ z.cells.toList ((grownCap w (l + cnt) c' e2 - (l + cnt)) * z.cells.size)) (htake.append hn3)
                  (fun v hv => (List.mem_append.1 hv).elim (hatk v) (hn2 v)) hcl (by rw [genZ_length, hzs]) (grownCap_ge _ _ _ _) hsz (genZ_refl (m := m) hzf hnt _).2
                exact Eff.value hrun hm hv hh hk
        · rw [hcs, sel_true] at hk
          rw [nblt, decide_eq_true_eq] at hcs
          rcases hcase with ⟨_, rfl⟩ | ⟨he, _, _⟩
          case inr => omega
          by_cases hroom : l + cnt ≤ c'
          · have e1 : Nat.ble (l + cnt) c' = true := by rw [nble]; exact decide_eq_true hroom
            rw [e1, sel_true, forceN_eq] at hk
            obtain ⟨w', h', hst, hh, hkk⟩ := inPlaceK_sound (P := P) (_v' := .nilIface) hr hk hn3 hn2
            exact Eff.value (append_room hu hi hdx hni hlen (hn4 w rfl) hroom hst) m.le_refl (.sl b o _ _ hd hcs) hh hkk
          · have e1 : Nat.ble (l + cnt) c' = false := by rw [nble]; exact decide_eq_false hroom
            rw [e1, sel_false] at hk
            split at hk
            case h_2 => cases hk
            rename_i olds hold
            obtain ⟨ho1, ho2, olds', ho3, ho4⟩ := srcA_sound (P := P) hr hold hs
            exact grow ho3 hn3 ho2 hn2 ho1 hn1 hk (by omega) fun q1 q2 => append_grow hu hi hzr hdx hni hlen ho4 hn4 (by omega) q1 q2
    · cases hk

end
end Go.Ex

/- Going through a map: where no order is left open (at most one entry is still to come). -/
namespace Go.Ex
noncomputable section

variable {P : Program} {m : Mp} {B : Bd} {w0 w w' : World} {n : Nat} {h : T AO} {X : Nat → Option AO}

def inL (x : Nat) : List Nat → Bool
  | [] => false
  | y :: l => Nat.beq y x || inL x l
theorem inL_eq (x : Nat) : ∀ l : List Nat, inL x l = (⟨l⟩ : Array Nat).contains x
  | [] => by simp [inL]
  | y :: l => by
    have ih := inL_eq x l
    simp only [inL, ih, nbeq]
    simp only [List.contains_toArray, List.contains_cons]
    congr 1
    by_cases e : y = x
    · subst e; simp
    · have e2 : ¬ x = y := fun h => e h.symm
      rw [decide_eq_false e]
      exact (beq_eq_false_iff_ne.2 e2).symm

/-- Entries that an iterator has still to tell: those that were there ahead of it; those that came since. -/
def oldL (since : Nat) (seen : List Nat) (es : List (Value × Value × Nat)) : List (Value × Value × Nat) := es.filter fun e => !inL e.2.2 seen && Nat.blt e.2.2 since
def newL (since : Nat) (seen : List Nat) (es : List (Value × Value × Nat)) : List (Value × Value × Nat) := es.filter fun e => !inL e.2.2 seen && Nat.ble since e.2.2
def overV : Value := .tuple ⟨[.bool false]⟩

theorem ERs.filter {p : Nat → Bool} {q : MapEntry → Bool} (hq : ∀ e, q e = p e.born) : ∀ {es : List (Value × Value × Nat)} {es' : List MapEntry}, ERs m es es' → ERs m (es.filter fun e => p e.2.2) (es'.filter q)
  | [], [], _ => trivial
  | a :: l, e :: r, h => by
    have h4 := h.1.2.2.2
    rw [List.filter_cons, List.filter_cons, hq e, h4]
    split
    · exact ⟨h.1, ERs.filter hq h.2⟩
    · exact ERs.filter hq h.2
theorem ERs.all {p : Nat → Bool} {q : MapEntry → Bool} (hq : ∀ e, q e = p e.born) : ∀ {es : List (Value × Value × Nat)} {es' : List MapEntry}, ERs m es es' → es'.all q = es.all fun e => p e.2.2
  | [], [], _ => rfl
  | a :: l, e :: r, h => by
    have h4 := h.1.2.2.2
    rw [List.all_cons, List.all_cons, hq e, h4, ERs.all hq h.2]

def rangeK (P : Program) (h : T AO) (n : Nat) (t : TypeId) (x : Value) (k : Value → T AO → Nat → Bool) : Bool :=
  match P.underlying t with
  | some (.map _ _) => match x with
    | .map none => T.setK (some (.miter none 0 [] 0)) h n fun h => forceN (n + 1) fun n' => k (.pointer (some ⟨n, 0, none⟩)) h n'
    | .map (some r) => match h.get r with
      | some (.map _ cl) => T.setK (some (.miter (some r) cl [] cl)) h n fun h => forceN (n + 1) fun n' => k (.pointer (some ⟨n, 0, none⟩)) h n'
      | _ => false
    | _ => false
  | _ => false
theorem run_newObj (o : Obj) (w : World) : (newObj o).run P w = .ok w.heap.size (w.alloc o) := by simp [newObj, Sem.run]
theorem rangeK_sound (hr : HR B w0 m h X n w) {t : TypeId} {x x' : Value} {k : Value → T AO → Nat → Bool} (hk : rangeK P h n t x k = true) (hx : VR m x x') :
    Eff P B w0 X m (Instr.range t x' >>= fun u => (Pure.pure (Next.value u) : Sem Next)) w k := by
  unfold rangeK at hk
  have hle := Mp.le_ext (m := m) hr.fresh.2.2.2 w.heap.size 0 0
  have hp : VR (m.ext n w.heap.size 0 0) (.pointer (some ⟨n, 0, none⟩)) (.pointer (some ⟨w.heap.size, 0, none⟩)) := by
    have := VR.ptr (m := m.ext n w.heap.size 0 0) n 0 (Mp.ext_dom _ _ _ _ _)
    rwa [Mp.ext_mu] at this
  split at hk
  · rename_i kt et hu
    split at hk
    · rw [T.setK_eq, forceN_eq] at hk
      cases hx
      refine Eff.value (w' := w.alloc (.mapIter none 0 #[] 0)) ?_ hle hp (hr.alloc 0 0 (.miterN 0 [] 0)) hk
      simp only [Instr.range, Sem.run_bind, run_underlying hu, Result.andThen_ok, Sem.run_pure, run_newObj]
    · rename_i r
      split at hk
      · rename_i es cl hm
        rw [T.setK_eq, forceN_eq] at hk
        obtain ⟨rfl, hd⟩ := hx.inv_map
        obtain ⟨_, co, hco, hor⟩ := hr.lr.ok _ _ (ov_some (X := X) hm) rfl
        cases hor with
        | map _ _ es' he =>
          refine Eff.value (w' := w.alloc (.mapIter (some (m.mu r)) cl #[] cl)) ?_ hle hp (hr.alloc 0 0 ?_) hk
          · simp only [Instr.range, Sem.run_bind, run_underlying hu, Result.andThen_ok, run_getObj hco rfl, Sem.run_pure, run_newObj]
          · have := OR.miter (m := m.ext n w.heap.size 0 0) (b := n) r cl [] cl (hle r hd).1
            rwa [(hle r hd).2.1] at this
      · cases hk
    · cases hk
  · cases hk

def nextK (h : T AO) (n : Nat) (it : Value) (isString : Bool) (k : Value → T AO → Nat → Bool) : Bool :=
  match it, isString with
  | .pointer (some ⟨b, 0, none⟩), false => match h.get b with
    | some (.miter none _ _ _) => k overV h n
    | some (.miter (some r) since seen last) => match h.get r with
      | some (.map es cl) => sel (!seen.isEmpty && !es.isEmpty && es.all fun e => Nat.ble last e.2.2) false (match oldL since seen es, newL since seen es with
        | [], [] => k overV h n
        | [e], [] => forceL (seen ++ [e.2.2]) fun seen' => T.setK (some (.miter (some r) since seen' cl)) h b fun h => k (.tuple ⟨[.bool true, e.1, e.2.1]⟩) h n
        | _, _ => false)
      | _ => false
    | _ => false
  | _, _ => false

theorem nextK_sound (hr : HR B w0 m h X n w) {it it' : Value} {s : Bool} {ty : TypeId} {k : Value → T AO → Nat → Bool} (hk : nextK h n it s k = true) (hi : VR m it it') :
    Eff P B w0 X m (Instr.next it' s ty >>= fun u => (Pure.pure (Next.value u) : Sem Next)) w k := by
  unfold nextK at hk
  split at hk
  · rename_i b
    obtain ⟨rfl, hd⟩ := hi.inv_ptr
    have hov : VR m overV (.tuple #[.bool false]) := .tuple' ⟨.bool false, trivial⟩
    split at hk
    · rename_i a1 a2 a3 hb
      obtain ⟨_, co, hco, hor⟩ := hr.lr.ok _ _ (ov_some (X := X) hb) rfl
      cases hor with
      | miterN s l t =>
        refine Eff.value (w' := w) ?_ m.le_refl hov hr hk
        simp only [Instr.next, Sem.run_bind, run_getObj hco rfl, Result.andThen_ok, Sem.run_pure]
    · rename_i r since seen last hb
      split at hk
      · rename_i es cl hm
        cases hst : (!seen.isEmpty && !es.isEmpty && es.all fun e => Nat.ble last e.2.2)
        · rw [hst, sel_false] at hk
          obtain ⟨_, co, hco, hor⟩ := hr.lr.ok _ _ (ov_some (X := X) hb) rfl
          obtain ⟨_, co2, hco2, hor2⟩ := hr.lr.ok _ _ (ov_some (X := X) hm) rfl
          cases hor with
          | miter _ _ _ _ hdr =>
            cases hor2 with
            | map _ _ es' he =>
              have hguard : (!(⟨seen⟩ : Array Nat).isEmpty && !es'.isEmpty && es'.all (fun e => decide (e.born ≥ last))) = false := by
                have e1 : es'.isEmpty = es.isEmpty := by
                  have := he.length
                  rw [Bool.eq_iff_iff]
                  simp only [Array.isEmpty_iff, List.isEmpty_iff]
                  rw [← Array.toList_eq_nil_iff, ← List.length_eq_zero_iff, ← List.length_eq_zero_iff, this]
                have e2 : (es'.all fun e => decide (e.born ≥ last)) = es.all fun e => Nat.ble last e.2.2 := by
                  rw [← Array.all_toList]
                  exact ERs.all (p := fun x => Nat.ble last x) (fun e => by simp [nble]) he
                have e3 : (⟨seen⟩ : Array Nat).isEmpty = seen.isEmpty := by cases seen <;> rfl
                rw [e1, e2, e3]; exact hst
              have hold : ERs m (oldL since seen es) (((es'.filter fun e => !(⟨seen⟩ : Array Nat).contains e.born).filter (·.born < since)).toList) := by
                rw [Array.toList_filter, Array.toList_filter, List.filter_filter]
                exact ERs.filter (p := fun x => !inL x seen && Nat.blt x since) (fun e => by simp only [inL_eq, nblt]; rw [Bool.and_comm]) he
              have hnew : ERs m (newL since seen es) (((es'.filter fun e => !(⟨seen⟩ : Array Nat).contains e.born).filter (·.born ≥ since)).toList) := by
                rw [Array.toList_filter, Array.toList_filter, List.filter_filter]
                exact ERs.filter (p := fun x => !inL x seen && Nat.ble since x) (fun e => by simp only [inL_eq, nble, ge_iff_le]; rw [Bool.and_comm]) he
              generalize ho : ((es'.filter fun e => !(⟨seen⟩ : Array Nat).contains e.born).filter (·.born < since)) = old' at hold
              generalize hn : ((es'.filter fun e => !(⟨seen⟩ : Array Nat).contains e.born).filter (·.born ≥ since)) = new' at hnew
              have hq1 : (Question.mapNext 1).forced = true := rfl
              split at hk
              · rename_i h1 h2
                rw [h1] at hold; rw [h2] at hnew
                have e1 : old' = #[] := by
                  cases hl : old'.toList with
                  | nil => exact Array.ext' (by simpa using hl)
                  | cons _ _ => rw [hl] at hold; exact hold.elim
                have e2 : new' = #[] := by
                  cases hl : new'.toList with
                  | nil => exact Array.ext' (by simpa using hl)
                  | cons _ _ => rw [hl] at hnew; exact hnew.elim
                subst e1 e2
                refine Eff.value (w' := w) ?_ m.le_refl hov hr hk
                simp only [Instr.next, Sem.run_bind, run_getObj hco rfl, Result.andThen_ok, run_getObj hco2 rfl, hguard, Bool.false_eq_true, if_false, ho, hn]
                simp [hq1]
              · rename_i e h1 h2
                rw [h1] at hold; rw [h2] at hnew
                rw [forceL_eq, T.setK_eq] at hk
                obtain ⟨x, e1, hx⟩ : ∃ x, old' = #[x] ∧ (x.key = e.1 ∧ flat 8 e.1 = true ∧ VR m e.2.1 x.val ∧ x.born = e.2.2) := by
                  cases hl : old'.toList with
                  | nil => rw [hl] at hold; exact hold.elim
                  | cons x l =>
                    rw [hl] at hold
                    cases l with
                    | nil => exact ⟨x, Array.ext' (by simpa using hl), hold.1⟩
                    | cons _ _ => exact hold.2.elim
                have e2 : new' = #[] := by
                  cases hl : new'.toList with
                  | nil => exact Array.ext' (by simpa using hl)
                  | cons _ _ => rw [hl] at hnew; exact hnew.elim
                subst e1 e2
                obtain ⟨hx1, hx2, hx3, hx4⟩ := hx
                have hor3 : OR m b (.miter (some r) since (seen ++ [e.2.2]) cl) (.mapIter (some (m.mu r)) since ((⟨seen⟩ : Array Nat).push x.born) cl) := by
                  have := OR.miter (m := m) (b := b) r since (seen ++ [e.2.2]) cl hdr
                  have e3 : ((⟨seen⟩ : Array Nat).push x.born) = ⟨seen ++ [e.2.2]⟩ := by apply Array.ext'; simp [hx4]
                  rw [e3]; exact this
                refine Eff.value (v' := .tuple #[.bool true, x.key, x.val]) (w' := { w with heap := w.heap.setIfInBounds (m.mu b) (.mapIter (some (m.mu r)) since ((⟨seen⟩ : Array Nat).push x.born) cl) }) ?_ m.le_refl ?_ (hr.set hb (hr.lr.upd (ov_some (X := X) hb) rfl rfl (upd_setObj hco) hor3)) hk
                · simp only [Instr.next, Sem.run_bind, run_getObj hco rfl, Result.andThen_ok, run_getObj hco2 rfl, hguard, Bool.false_eq_true, if_false, ho, hn]
                  have hset : ∀ o, (setObj (m.mu b) o).run P w = .ok () { w with heap := w.heap.setIfInBounds (m.mu b) o } := fun o => by simp [setObj, Sem.run, hco]
                  simp [hq1, hset]
                · rw [hx1]
                  exact .tuple' ⟨.bool true, flat_refl m 8 _ hx2, hx3, trivial⟩
              · cases hk
        · rw [hst] at hk; cases hk
      · cases hk
    · cases hk
  · cases hk

/-- Births below the clock, none twice. -/
def bornOk : List (Value × Value × Nat) → Nat → Bool
  | [], _ => true
  | e :: l, cl => Nat.blt e.2.2 cl && l.all (fun x => !Nat.beq x.2.2 e.2.2) && bornOk l cl
theorem bornOk_spec : ∀ {l : List (Value × Value × Nat)} {cl : Nat}, bornOk l cl = true → (∀ e ∈ l, e.2.2 < cl) ∧ (l.map (·.2.2)).Nodup
  | [], _, _ => ⟨by simp, by simp⟩
  | e :: l, cl, h => by
    simp only [bornOk, Bool.and_eq_true, List.all_eq_true, nblt, decide_eq_true_eq, Bool.not_eq_true', nbeq, decide_eq_false_iff_not] at h
    obtain ⟨h3, h4⟩ := bornOk_spec h.2
    refine ⟨fun x hx => ?_, ?_⟩
    · rcases List.mem_cons.1 hx with rfl | hx
      · exact h.1.1
      · exact h3 x hx
    · rw [List.map_cons, List.nodup_cons]
      refine ⟨fun hm => ?_, h4⟩
      obtain ⟨x, hx, he⟩ := List.mem_map.1 hm
      exact h.1.2 x hx he

theorem ERs.map_born {es : List (Value × Value × Nat)} {es' : List MapEntry} (h : ERs m es es') : es'.map (·.born) = es.map (·.2.2) := by
  induction es generalizing es' with
  | nil => cases es' <;> first | rfl | exact h.elim
  | cons a l ih =>
    cases es' with
    | nil => exact h.elim
    | cons e r => simp [ih h.2, h.1.2.2.2]

end
end Go.Ex

/- copy, clear; what writes, by its operation. -/
namespace Go.Ex
noncomputable section

variable {P : Program} {m : Mp} {B : Bd} {w0 w w' : World} {n : Nat} {h : T AO} {X : Nat → Option AO}

def copyK (P : Program) (h : T AO) (n : Nat) (dT : TypeId) (d x : Value) (k : Value → T AO → Nat → Bool) : Bool :=
  match P.underlying dT with
  | some (.slice e) => match P.info? e, lenA x with
    | some i, some xl => match d with
      | .slice a dl _ => forceN (Nat.min xl dl) fun q => match srcA h i.size x q with
        | some news => match a with
          | none => k (.int .i64 (.ofNat q)) h n
          | some ⟨b, o, none⟩ => sel (Nat.beq q 0) (k (.int .i64 (.ofNat q)) h n) (sel (Nat.blt o sent) (inPlaceK h n b o 0 news (.int .i64 (.ofNat q)) k) false)
          | _ => false
        | none => false
      | _ => false
    | _, _ => false
  | _ => false

theorem copyK_sound (hr : HR B w0 m h X n w) {dT sT ty : TypeId} {d x d' x' : Value} {k : Value → T AO → Nat → Bool} (hk : copyK P h n dT d x k = true) (hd : VR m d d') (hx : VR m x x') :
    Eff P B w0 X m (Builtin.copy_ #[dT, sT] ty #[d', x'] >>= fun u => (Pure.pure (Next.value u) : Sem Next)) w k := by
  unfold copyK at hk
  split at hk
  case h_2 => cases hk
  rename_i e hu
  split at hk
  case h_2 => cases hk
  rename_i i xl hi hxl
  split at hk
  case h_2 => cases hk
  rename_i a dl dc
  rw [forceN_eq] at hk
  split at hk
  case h_2 => cases hk
  rename_i news hnews
  obtain ⟨hn1, hn2, news', hn3, hn4⟩ := srcA_sound (P := P) hr hnews hx
  have hlen := fun w => lenA_sound (P := P) hxl hx w
  split at hk
  · cases hd
    refine Eff.value (v' := .int .i64 (.ofNat (Nat.min xl dl))) ?_ m.le_refl (.int _ _) hr hk
    simp only [Builtin.copy_, List.getElem?_toArray, List.getElem?_cons_zero, List.getElem?_cons_succ, Sem.run_bind, run_underlying hu, Result.andThen_ok, hlen, run_sizeOf' hi, hn4 w rfl, Sem.run_pure]
    rfl
  · rename_i b o
    by_cases hq : Nat.min xl dl = 0
    · rw [beq_true hq, sel_true] at hk
      have hnil : news' = [] := by
        have := hn3.length; rw [hn1, hq] at this; exact List.eq_nil_of_length_eq_zero (by omega)
      obtain ⟨a', c', he⟩ : ∃ a' c', d' = .slice (some a') dl c' := by cases hd <;> exact ⟨_, _, rfl⟩
      subst he
      refine Eff.value (v' := .int .i64 (.ofNat (Nat.min xl dl))) ?_ m.le_refl (.int _ _) hr hk
      simp only [Builtin.copy_, List.getElem?_toArray, List.getElem?_cons_zero, List.getElem?_cons_succ, Sem.run_bind, run_underlying hu, Result.andThen_ok, hlen, run_sizeOf' hi, hn4 w rfl, Sem.run_pure, hnil, storeCells]
      rfl
    · rw [beq_false hq, sel_false] at hk
      cases ho : Nat.blt o sent
      · rw [ho] at hk; cases hk
      rw [ho, sel_true] at hk
      rw [nblt, decide_eq_true_eq] at ho
      obtain ⟨hdm, c', rfl, _, _⟩ := inv_slice hd ho
      obtain ⟨w', h', hst, hh, hkk⟩ := inPlaceK_sound (P := P) (_v' := .nilIface) hr hk hn3 hn2
      refine Eff.value (v' := .int .i64 (.ofNat (Nat.min xl dl))) ?_ m.le_refl (.int _ _) hh hkk
      have hst' : (storeCells ⟨m.mu b, o, none⟩ news').run P w = .ok () w' := by
        rw [addr_add] at hst; exact hst
      simp only [Builtin.copy_, List.getElem?_toArray, List.getElem?_cons_zero, List.getElem?_cons_succ, Sem.run_bind, run_underlying hu, Result.andThen_ok, hlen, run_sizeOf' hi, hn4 w rfl, Sem.run_pure, hst']
      rfl
  · cases hk

def clearK (P : Program) (h : T AO) (n : Nat) (t : TypeId) (x : Value) (k : Value → T AO → Nat → Bool) : Bool :=
  match P.underlying t with
  | some (.slice e) => match P.info? e, zeroV P e with
    | some i, some z => sel (noTuple z && Nat.beq z.cells.toList.length i.size) (match x with
      | .slice none _ _ => k undefA h n
      | .slice (some ⟨b, o, none⟩) l _ => sel (Nat.beq l 0) (k undefA h n) (sel (Nat.blt o sent) (inPlaceK h n b o 0 (genZ z.cells.toList (l * i.size)) undefA k) false)
      | _ => false) false
    | _, _ => false
  | some (.map _ _) => match x with
    | .map none => k undefA h n
    | .map (some r) => match h.get r with
      | some (.map _ cl) => T.setK (some (.map [] cl)) h r fun h' => k undefA h' n
      | _ => false
    | _ => false
  | _ => false

theorem clearK_sound (hr : HR B w0 m h X n w) {t ty : TypeId} {x x' : Value} {k : Value → T AO → Nat → Bool} (hk : clearK P h n t x k = true) (hx : VR m x x') :
    Eff P B w0 X m (Builtin.clear_ #[t] ty #[x'] >>= fun u => (Pure.pure (Next.value u) : Sem Next)) w k := by
  unfold clearK at hk
  split at hk
  · rename_i e hu
    split at hk
    case h_2 => cases hk
    rename_i i z hi hz
    obtain ⟨hzf, hzr⟩ := zeroV_spec hz
    cases hc0 : (noTuple z && Nat.beq z.cells.toList.length i.size)
    · rw [hc0] at hk; cases hk
    rw [hc0, sel_true] at hk
    rw [Bool.and_eq_true, nbeq, decide_eq_true_eq] at hc0
    obtain ⟨hnt, hzl⟩ := hc0
    have hzs : z.cells.size = i.size := by simpa using hzl
    split at hk
    · cases hx
      refine Eff.value (v' := .tuple #[]) ?_ m.le_refl (.tuple' VRs.nil) hr hk
      simp [Builtin.clear_, run_underlying hu]
    · rename_i b o l c
      by_cases hl : l = 0
      · subst hl
        rw [beq_true rfl, sel_true] at hk
        obtain ⟨a', c', he⟩ : ∃ a' c', x' = .slice (some a') 0 c' := by cases hx <;> exact ⟨_, _, rfl⟩
        subst he
        refine Eff.value (v' := .tuple #[]) ?_ m.le_refl (.tuple' VRs.nil) hr hk
        simp [Builtin.clear_, run_underlying hu]
      · rw [beq_false hl, sel_false] at hk
        cases ho : Nat.blt o sent
        · rw [ho] at hk; cases hk
        rw [ho, sel_true] at hk
        rw [nblt, decide_eq_true_eq] at ho
        obtain ⟨hdm, c', rfl, _, _⟩ := inv_slice hx ho
        obtain ⟨hgz, hga⟩ := genZ_refl (m := m) hzf hnt (l * i.size)
        obtain ⟨w', h', hst, hh, hkk⟩ := inPlaceK_sound (P := P) (_v' := .nilIface) hr hk hgz hga
        refine Eff.value (v' := .tuple #[]) (w' := w') ?_ m.le_refl (.tuple' VRs.nil) hh hkk
        have hst' : (storeCells ⟨m.mu b, o, none⟩ (Builtin.zeroCells z.cells l).toList).run P w = .ok () w' := by
          have e1 : (Builtin.zeroCells z.cells l).toList = genZ z.cells.toList (l * i.size) := by
            rw [← hzs]; exact congrArg Array.toList (genZ_eq z.cells (l * z.cells.size))
          rw [e1]; rw [addr_add] at hst; exact hst
        obtain ⟨q, rfl⟩ : ∃ q, l = q + 1 := ⟨l - 1, by omega⟩
        simp [Builtin.clear_, run_underlying hu, hzr, hst']
    · cases hk
  · rename_i kt et hu
    split at hk
    · cases hx
      refine Eff.value (v' := .tuple #[]) ?_ m.le_refl (.tuple' VRs.nil) hr hk
      simp [Builtin.clear_, run_underlying hu]
    · rename_i r
      obtain ⟨rfl, hdr⟩ := hx.inv_map
      split at hk
      · rename_i es cl hb
        rw [T.setK_eq] at hk
        have hb' := ov_some (X := X) hb
        obtain ⟨_, es', hco, hes⟩ := hr.lr.map hb'
        have hget : (getObj (m.mu r)).run P w = .ok (.map es' cl) w := by simp [getObj, Sem.run, hco]
        have hset : ∀ o, (setObj (m.mu r) o).run P w = .ok () { w with heap := w.heap.setIfInBounds (m.mu r) o } := fun o => by simp [setObj, Sem.run, hco]
        refine Eff.value (v' := .tuple #[]) (w' := { w with heap := w.heap.setIfInBounds (m.mu r) (.map #[] cl) }) ?_ m.le_refl (.tuple' VRs.nil) ?_ hk
        · simp [Builtin.clear_, run_underlying hu, hget, hset]
        · exact hr.set hb (hr.lr.upd hb' rfl rfl (upd_setObj hco) (.map _ _ _ trivial))
      · cases hk
    · cases hk
  · cases hk

/-- What writes (calls apart). -/
def effK (P : Program) (h : T AO) (n : Nat) (ev : Operand → Option Value) (o : Oper) (k : Value → T AO → Nat → Bool) : Bool :=
  match o.op with
  | .store t a x => match ev a, ev x with
    | some a, some v => storeK P h n t a v k
    | _, _ => false
  | .mapUpdate t x i v => match ev x, ev i, ev v with
    | some x, some i, some v => mapUpdateK P h n t x i v k
    | _, _, _ => false
  | .insert t x i v => match ev x, ev i, ev v with
    | some x, some i, some v => mapUpdateK P h n t x i v k
    | _, _, _ => false
  | .call c => match c.callee with
    | .builtin .append => match c.argTypes.toList, c.args.toList with
      | [sT, xT], [s, x] => match ev s, ev x with
        | some s, some x => appendK P h n sT xT s x k
        | _, _ => false
      | _, _ => false
    | .builtin .copy => match c.argTypes.toList, c.args.toList with
      | [dT, _], [d, x] => match ev d, ev x with
        | some d, some x => copyK P h n dT d x k
        | _, _ => false
      | _, _ => false
    | .builtin .delete => match c.argTypes.toList, c.args.toList with
      | t :: _, [x, i] => match ev x, ev i with
        | some x, some i => deleteK P h n t x i k
        | _, _ => false
      | _, _ => false
    | .builtin .clear => match c.argTypes.toList, c.args.toList with
      | [t], [x] => match ev x with
        | some x => clearK P h n t x k
        | none => false
      | _, _ => false
    | _ => false
  | .range t x => match ev x with
    | some x => rangeK P h n t x k
    | none => false
  | .next it s => match ev it with
    | some v => nextK h n v s k
    | none => false
  | _ => false

theorem deleteK_sound' (hr : HR B w0 m h X n w) {t ty : TypeId} {ts : List TypeId} {x key x' key' : Value} {k : Value → T AO → Nat → Bool} (hk : deleteK P h n t x key k = true) (hx : VR m x x') (hkey : VR m key key') :
    Eff P B w0 X m (Builtin.delete_ ⟨t :: ts⟩ ty #[x', key'] >>= fun u => (Pure.pure (Next.value u) : Sem Next)) w k := by
  have := deleteK_sound (ty := ty) hr hk hx hkey
  have e : Builtin.delete_ ⟨t :: ts⟩ ty #[x', key'] = Builtin.delete_ #[t] ty #[x', key'] := by simp [Builtin.delete_]
  rw [e]; exact this

theorem effK_sound (hr : HR B w0 m h X n w) {ev : Operand → Option Value} {ρ : Operand → Value} (he : EvR m ev ρ) {o : Oper} {k : Value → T AO → Nat → Bool} (hk : effK P h n ev o k = true) :
    Eff P B w0 X m (execOp ρ o) w k := by
  obtain ⟨dst, op, ty, pos, after, guard⟩ := o
  cases op <;> simp only [effK] at hk <;> simp only [execOp]
  case store t a x =>
    split at hk
    · rename_i a' v ha hv; exact storeK_sound hr hk (he _ _ ha) (he _ _ hv)
    · cases hk
  case mapUpdate t x i v =>
    split at hk
    · rename_i x' i' v' hx hi hv; exact mapUpdateK_sound hr hk (he _ _ hx) (he _ _ hi) (he _ _ hv)
    · cases hk
  case insert t x i v =>
    split at hk
    · rename_i x' i' v' hx hi hv; exact mapUpdateK_sound hr hk (he _ _ hx) (he _ _ hi) (he _ _ hv)
    · cases hk
  case range t x =>
    split at hk
    · rename_i v hv; exact rangeK_sound hr hk (he _ _ hv)
    · cases hk
  case next it s =>
    split at hk
    · rename_i v hv; exact nextK_sound hr hk (he _ _ hv)
    · cases hk
  case call c =>
    have inv : ∀ (b : Builtin) (s : Array TypeId → TypeId → Array Value → Sem Value), c.callee = .builtin b → (∀ at_ ty cs args, builtin b at_ ty cs args = (do pure (.value (← s at_ ty args)))) →
        (do let d ← resolve ρ c ty; invoke d.target d.args : Sem Next) = (do pure (.value (← s c.argTypes ty (c.args.map ρ)))) := fun b s hc hs => by
      rw [resolve_builtin ρ c ty b hc, pure_bind]
      exact hs _ _ _ _
    split at hk
    · rename_i hc
      rw [inv .append (Builtin.append_) hc (fun _ _ _ _ => rfl)]
      split at hk
      · rename_i sT xT s x ht hx
        split at hk
        · rename_i s' x' hs' hx'
          have e : c.argTypes = #[sT, xT] := by apply Array.ext'; simpa using ht
          have e2 : c.args.map ρ = #[ρ s, ρ x] := by apply Array.ext'; simp [hx]
          rw [e, e2]
          exact appendK_sound hr hk (he _ _ hs') (he _ _ hx')
        · cases hk
      · cases hk
    · rename_i hc
      rw [inv .copy (Builtin.copy_) hc (fun _ _ _ _ => rfl)]
      split at hk
      · rename_i dT sT d x ht hx
        split at hk
        · rename_i d' x' hd' hx'
          have e : c.argTypes = #[dT, sT] := by apply Array.ext'; simpa using ht
          have e2 : c.args.map ρ = #[ρ d, ρ x] := by apply Array.ext'; simp [hx]
          rw [e, e2]
          exact copyK_sound hr hk (he _ _ hd') (he _ _ hx')
        · cases hk
      · cases hk
    · rename_i hc
      rw [inv .delete (Builtin.delete_) hc (fun _ _ _ _ => rfl)]
      split at hk
      · rename_i t ts x i ht hx
        split at hk
        · rename_i x' i' hx' hi'
          have e : c.argTypes = ⟨t :: ts⟩ := by apply Array.ext'; simpa using ht
          have e2 : c.args.map ρ = #[ρ x, ρ i] := by apply Array.ext'; simp [hx]
          rw [e, e2]
          exact deleteK_sound' hr hk (he _ _ hx') (he _ _ hi')
        · cases hk
      · cases hk
    · rename_i hc
      rw [inv .clear (Builtin.clear_) hc (fun _ _ _ _ => rfl)]
      split at hk
      · rename_i t x ht hx
        split at hk
        · rename_i x' hx'
          have e : c.argTypes = #[t] := by apply Array.ext'; simpa using ht
          have e2 : c.args.map ρ = #[ρ x] := by apply Array.ext'; simp [hx]
          rw [e, e2]
          exact clearK_sound hr hk (he _ _ hx')
        · cases hk
      · cases hk
    · cases hk
  all_goals cases hk

end
end Go.Ex

/- One operation; calls. -/
namespace Go.Ex
noncomputable section

variable {P : Program} {m : Mp} {B : Bd} {w0 w w' : World} {n : Nat} {h : T AO} {X : Nat → Option AO}

/-! ### Values handed on when they are made -/
def forceI {β : Type} (n : Int) (c : Int → β) : β :=
  match n with
  | .ofNat a => forceN a fun a => c (.ofNat a)
  | .negSucc a => forceN a fun a => c (.negSucc a)
theorem forceI_eq {β : Type} (n : Int) (c : Int → β) : forceI n c = c n := by
  cases n with
  | ofNat a => exact forceN_eq a fun a => c (.ofNat a)
  | negSucc a => exact forceN_eq a fun a => c (.negSucc a)
def forceB {β : Type} (l : List UInt8) : (List UInt8 → β) → β := List.rec (motive := fun _ => (List UInt8 → β) → β) (fun c => c []) (fun a _ ih c => forceN a.toNat fun n => ih fun r => c (UInt8.ofNat n :: r)) l
theorem forceB_eq {β : Type} (l : List UInt8) : ∀ c : List UInt8 → β, forceB l c = c l := by
  induction l with
  | nil => intro c; rfl
  | cons a l ih =>
    intro c
    show forceN a.toNat (fun n => forceB l fun r => c (UInt8.ofNat n :: r)) = _
    rw [forceN_eq, ih, UInt8.ofNat_toNat]
def forceA {β : Type} (a : Option Addr) (c : Option Addr → β) : β :=
  Option.rec (motive := fun _ => β) (c none) (fun a => Addr.rec (motive := fun _ => β) (fun b o sp => forceN b fun b => forceN o fun o => c (some ⟨b, o, sp⟩)) a) a
theorem forceA_eq {β : Type} (a : Option Addr) (c : Option Addr → β) : forceA a c = c a := by
  cases a with
  | none => rfl
  | some a =>
    obtain ⟨b, o, sp⟩ := a
    show forceN b (fun b => forceN o fun o => c (some ⟨b, o, sp⟩)) = _
    rw [forceN_eq, forceN_eq]
def forceV {β : Type} (v : Value) (c : Value → β) : β :=
  Value.casesOn (motive_1 := fun _ => β) v (fun b => Bool.rec (motive := fun _ => β) (c (.bool false)) (c (.bool true)) b) (fun k n => forceI n fun n => c (.int k n)) (fun _ _ => c v) (fun _ _ _ => c v)
    (fun s => forceB s.data.toList fun l => c (.string ⟨⟨l⟩⟩)) (fun a => forceA a fun a => c (.pointer a)) (fun a l q => forceA a fun a => forceN l fun l => forceN q fun q => c (.slice a l q))
    (fun _ => c v) (fun _ => c v) (fun _ _ _ => c v) (c v) (fun _ _ => c v) (c v)
    (fun a => Array.rec (motive := fun _ => β) (fun l => forceL l fun l => c (.agg ⟨l⟩)) a) (fun a => Array.rec (motive := fun _ => β) (fun l => forceL l fun l => c (.tuple ⟨l⟩)) a)
theorem forceV_eq {β : Type} (v : Value) (c : Value → β) : forceV v c = c v := by
  cases v with
  | bool b => cases b <;> rfl
  | int k n => exact forceI_eq n fun n => c (.int k n)
  | string s => exact forceB_eq s.data.toList fun l => c (.string ⟨⟨l⟩⟩)
  | pointer a => exact forceA_eq a fun a => c (.pointer a)
  | slice a l q =>
    show forceA a (fun a => forceN l fun l => forceN q fun q => c (.slice a l q)) = _
    rw [forceA_eq, forceN_eq, forceN_eq]
  | agg a => obtain ⟨l⟩ := a; exact forceL_eq l fun l => c (.agg ⟨l⟩)
  | tuple a => obtain ⟨l⟩ := a; exact forceL_eq l fun l => c (.tuple ⟨l⟩)
  | _ => rfl
def forceAO {β : Type} (o : AO) (c : AO → β) : β :=
  match o with
  | .cells fl l e z => forceL l fun l => c (.cells fl l e z)
  | o => c o
theorem forceAO_eq {β : Type} (o : AO) (c : AO → β) : forceAO o c = c o := by
  unfold forceAO; split
  · rw [forceL_eq]
  · rfl

/-! ### Frames -/
/-- The temporaries, and the model's. -/
def TR (m : Mp) (f : Nat → Option Value) (z : Nat) (a : Act) : Prop := z ≤ a.tmps.size ∧ ∀ i v, f i = some v → VR m v (a.tmps.getD i undef)
theorem TR.mono {m m' : Mp} (hm : m.le m') {f : Nat → Option Value} {z : Nat} {a : Act} (h : TR m f z a) : TR m' f z a := ⟨h.1, fun i v hv => (h.2 i v hv).mono hm⟩

/-- The package's variables. -/
def GR (m : Mp) (G : Nat) : Prop := ∀ g, g < G → m.dom g ∧ m.mu g = g
theorem GR.mono {m m' : Mp} (hm : m.le m') {G : Nat} (h : GR m G) : GR m' G := fun g hg =>
  let ⟨h1, h2⟩ := h g hg
  let ⟨k1, k2, _, _⟩ := hm g h1
  ⟨k1, k2.trans h2⟩

def evF (G : Nat) (f : Nat → Option Value) (x : Operand) : Option Value :=
  match x with
  | .tmp i => f i
  | .const v => sel (flat 8 v) (some v) none
  | .global g => sel (Nat.blt g G) (some (.pointer (some ⟨g, 0, none⟩))) none
  | .func f => some (.func (.func f) ⟨[]⟩ ⟨[]⟩)

theorem evF_sound {G : Nat} (hG : GR m G) {f : Nat → Option Value} {z : Nat} {a : Act} (h : TR m f z a) : EvR m (evF G f) a.eval := by
  intro x v hv
  cases x with
  | tmp i => exact h.2 i v hv
  | const u =>
    simp only [evF] at hv
    cases hf : flat 8 u
    · rw [hf] at hv; cases hv
    · rw [hf, sel_true] at hv; cases hv; exact flat_refl m 8 _ hf
  | global g =>
    simp only [evF] at hv
    cases hf : Nat.blt g G
    · rw [hf] at hv; cases hv
    · rw [hf, sel_true] at hv; cases hv
      rw [nblt, decide_eq_true_eq] at hf
      obtain ⟨hd, hm⟩ := hG g hf
      have := VR.ptr (m := m) g 0 hd
      rw [hm] at this
      exact this
  | func f => cases hv; exact .func' rfl VRs.nil VRs.nil

/-! ### Panics -/
/-- A panic's value, handed on as an operation's. -/
def pan (v : Value) : Value := .tuple ⟨[.chan (some 0), v]⟩
def unpan (v : Value) : Option Value :=
  match v with
  | .tuple ⟨[.chan (some _), u]⟩ => some u
  | _ => none
theorem unpan_pan (v : Value) : unpan (pan v) = some v := rfl
theorem VR.unpan {m : Mp} {v v' : Value} (h : VR m v v') : unpan v = none := by
  unfold Ex.unpan
  split
  · obtain ⟨r, _, hr⟩ := h.inv_tuple
    cases r with
    | nil => exact hr.elim
    | cons a r => cases hr.1
  · rfl

/-- A panic's chain: its value ahead; behind it such as were recovered. -/
def PR (m : Mp) (v : Value) (ch : List PanicEntry) : Prop := ∃ v' older, VR m v v' ∧ ch = { v := v', recovered := false, goexit := false } :: older ∧ ∀ e ∈ older, e.goexit = false
theorem PR.mono {m m' : Mp} (hm : m.le m') {v : Value} {ch : List PanicEntry} (h : PR m v ch) : PR m' v ch :=
  let ⟨v', l, h1, h2⟩ := h
  ⟨v', l, h1.mono hm, h2⟩

/-- What is known behind an operation, for what follows. -/
def OpWp (P : Program) (B : Bd) (w0 : World) (X : Nat → Option AO) (m : Mp) (o : Oper) (a : Act) (w : World) (k : Value → T AO → Nat → Bool) : Prop :=
  ∀ (next : Act → World → Prop) (Q : Exit → Act → World → Prop), (∀ v v' m' h' n' w', m.le m' → VR m' v v' → HR B w0 m' h' X n' w' → k v h' n' = true → next (a.put o.dst v') w') →
    (∀ v ch m' h' n' w', m.le m' → PR m' v ch → HR B w0 m' h' X n' w' → k (pan v) h' n' = true → Q (.panic ch) a w') → o.wp P a w next Q

theorem OpWp.of_eff {o : Oper} {a : Act} {k : Value → T AO → Nat → Bool} (he : Eff P B w0 X m (execOp a.eval o) w k) : OpWp P B w0 X m o a w k := by
  intro next Q hn _
  obtain ⟨v, v', m', h', n', w', hr, hm, hv, hh, hk⟩ := he
  have := hn v v' m' h' n' w' hm hv hh hk
  unfold Oper.wp
  rcases hr with hr | ⟨hr, rfl⟩
  · rw [hr]; exact this
  · rw [hr]; exact this

/-- Which road an operation takes: 0 values, 1 reads, 2 makes, 3 writes, 4 calls. -/
def opClass (o : Op) : Nat :=
  match o with
  | .load _ _ => 1
  | .lookup _ _ _ _ => 1
  | .entry _ => 1
  | .alloc _ => 2
  | .box _ _ => 2
  | .buildSlice _ _ _ => 2
  | .makeMap _ _ => 2
  | .makeSlice _ _ _ => 2
  | .store _ _ _ => 3
  | .mapUpdate _ _ _ _ => 3
  | .insert _ _ _ _ => 3
  | .range _ _ => 3
  | .next _ _ => 3
  | .panic _ => 4
  | .call c => match c.callee with
    | .builtin .append => 3
    | .builtin .copy => 3
    | .builtin .delete => 3
    | .builtin .clear => 3
    | .builtin _ => 0
    | _ => 4
  | _ => 0

/-- A string, turned into bytes: a block of the tape's capacity that is only read. -/
def bytesK (P : Program) (h : T AO) (n : Nat) (ev : Operand → Option Value) (o : Oper) (k : Value → T AO → Nat → Bool) : Bool :=
  match o.op with
  | .convert src dst x => match ev x with
    | some (.string s) => match P.underlying src with
      | some .string => match P.underlying dst with
        | some (.slice e) => match P.underlying e with
          | some (.int .u8) => forceL (s.data.toList.map fun b => Value.int .u8 (.ofNat b.toNat)) fun c => forceN c.length fun l =>
              T.setK (some (.cells 6 c e 1)) h n fun h' => forceN (n + 1) fun n' => k (.slice (some ⟨n, 0, none⟩) l (sent + 1)) h' n'
          | _ => false
        | _ => false
      | _ => false
    | _ => false
  | _ => false

theorem bytesK_sound (hr : HR B w0 m h X n w) {ev : Operand → Option Value} {ρ : Operand → Value} (he : EvR m ev ρ) {o : Oper} {k : Value → T AO → Nat → Bool} (hk : bytesK P h n ev o k = true) :
    Eff P B w0 X m (execOp ρ o) w k := by
  obtain ⟨dst, op, ty, pos, after, guard⟩ := o
  cases op <;> simp only [bytesK] at hk
  case convert src dst x =>
    split at hk
    case h_2 => cases hk
    rename_i s hx
    split at hk
    case h_2 => cases hk
    rename_i hs
    split at hk
    case h_2 => cases hk
    rename_i e hd
    split at hk
    case h_2 => cases hk
    rename_i hu
    rw [forceL_eq, forceN_eq, T.setK_eq, forceN_eq, List.length_map] at hk
    have hx' := he _ _ hx
    have hxs : ρ x = .string s := by generalize ρ x = q at hx'; cases hx'; rfl
    have hge := grownCap_ge w s.size 0 e
    have hsz : s.data.toList.length = s.size := Array.length_toList
    have hbs : (bytesRow s (grownCap w s.size 0 e)).size = grownCap w s.size 0 e := by
      rw [bytesRow, Array.size_append, Array.size_map, Array.size_replicate]
      show s.size + (grownCap w s.size 0 e - s.size) = _
      omega
    have hle := Mp.le_ext (m := m) hr.fresh.2.2.2 w.heap.size (grownCap w s.size 0 e) 1
    have hor : OR (m.ext n w.heap.size (grownCap w s.size 0 e) 1) n (.cells 6 (s.data.toList.map fun b => Value.int .u8 (.ofNat b.toNat)) e 1)
        (.cells (bytesRow s (grownCap w s.size 0 e)) e ((bytesRow s (grownCap w s.size 0 e)).size, (bytesRow s (grownCap w s.size 0 e)).size + 1)) := by
      have := OR.opr (m := m.ext n w.heap.size (grownCap w s.size 0 e) 1) (b := n) (s.data.toList.map fun b => Value.int .u8 (.ofNat b.toNat)) e (bytesRow s (grownCap w s.size 0 e))
        ((bytesRow s (grownCap w s.size 0 e)).size, (bytesRow s (grownCap w s.size 0 e)).size + 1) (by
          have e1 : (bytesRow s (grownCap w s.size 0 e)).toList = (s.data.toList.map fun b => Value.int .u8 (.ofNat b.toNat)) ++ List.replicate (grownCap w s.size 0 e - s.size) (.int .u8 0) := by
            simp [bytesRow]
          rw [e1, List.take_left']
          · exact VRs.refl_of fun v hv => by
              obtain ⟨b, _, rfl⟩ := List.mem_map.1 hv
              exact .int _ _
          · rfl) (by rw [List.length_map, hbs, hsz]; exact hge) (by rw [Mp.ext_cap, hbs]) (by rw [Mp.ext_esz]; omega) (fun v hv => by
          obtain ⟨b, _, rfl⟩ := List.mem_map.1 hv
          rfl)
      rwa [Mp.ext_esz] at this
    have hval := VR.slo (m := m.ext n w.heap.size (grownCap w s.size 0 e) 1) n 0 0 s.size (grownCap w s.size 0 e) (Mp.ext_dom _ _ _ _ _) (fun _ => ⟨rfl, by rw [Mp.ext_esz, Mp.ext_cap]; omega⟩) hge
    rw [Mp.ext_mu, Mp.ext_esz] at hval
    rw [hsz] at hk
    have hh := (hr.same (Same.drew w)).alloc (grownCap w s.size 0 e) 1 hor
    refine ⟨_, _, _, _, n + 1, _, .inl ?_, hle, hval, hh, hk⟩
    show ((convert src dst (ρ x)) >>= fun u => (Pure.pure (Next.value u) : Sem Next)).run P w = _
    rw [hxs, Sem.run_bind, run_bytes_of_string w src dst e s hs hd hu]
    rfl
  all_goals cases hk

def valK (P : Program) (h : T AO) (n : Nat) (ev : Operand → Option Value) (o : Oper) (k : Value → T AO → Nat → Bool) : Bool :=
  match pureV P ev o with
  | some v => forceV v fun v => k v h n
  | none => match readV P h ev o with
    | some v => forceV v fun v => k v h n
    | none => bytesK P h n ev o k
def readK (P : Program) (h : T AO) (n : Nat) (ev : Operand → Option Value) (o : Oper) (k : Value → T AO → Nat → Bool) : Bool :=
  match readV P h ev o with
  | some v => forceV v fun v => k v h n
  | none => false
def allocK (P : Program) (h : T AO) (n : Nat) (ev : Operand → Option Value) (o : Oper) (k : Value → T AO → Nat → Bool) : Bool :=
  match allocV P ev o with
  | some (ao, f) => forceAO ao fun ao => T.setK (some ao) h n fun h' => forceN (n + 1) fun n' => k (f n) h' n'
  | none => false

def opBase (P : Program) (h : T AO) (n : Nat) (ev : Operand → Option Value) (o : Oper) (k : Value → T AO → Nat → Bool) : Bool :=
  match opClass o.op with
  | 0 => valK P h n ev o k
  | 1 => readK P h n ev o k
  | 2 => allocK P h n ev o k
  | _ => effK P h n ev o k

theorem opBase_sound (hr : HR B w0 m h X n w) {ev : Operand → Option Value} {a : Act} (he : EvR m ev a.eval) {o : Oper} {k : Value → T AO → Nat → Bool} (hk : opBase P h n ev o k = true) : OpWp P B w0 X m o a w k := by
  refine .of_eff ?_
  have hp : ∀ {v : Value}, pureV P ev o = some v → k v h n = true → Eff P B w0 X m (execOp a.eval o) w k := fun {v} hv hk => by
    obtain ⟨v', hvr, hrun⟩ := pureV_sound he hv
    exact ⟨v, v', m, h, n, w, .inl (hrun w), m.le_refl, hvr, hr, hk⟩
  have hrd : ∀ {v : Value}, readV P h ev o = some v → k v h n = true → Eff P B w0 X m (execOp a.eval o) w k := fun {v} hv hk => by
    obtain ⟨v', hvr, hrun⟩ := readV_sound hr.sub hr.lr he hv
    exact ⟨v, v', m, h, n, w, .inl hrun, m.le_refl, hvr, hr, hk⟩
  unfold opBase at hk
  split at hk
  · unfold valK at hk
    split at hk
    · rename_i v hv; rw [forceV_eq] at hk; exact hp hv hk
    · split at hk
      · rename_i v hv; rw [forceV_eq] at hk; exact hrd hv hk
      · exact bytesK_sound hr he hk
  · unfold readK at hk
    split at hk
    · rename_i v hv; rw [forceV_eq] at hk; exact hrd hv hk
    · cases hk
  · unfold allocK at hk
    split at hk
    · rename_i ao f hv
      rw [forceAO_eq, T.setK_eq, forceN_eq] at hk
      obtain ⟨hl, hrw, co, hrun, hor, hvr⟩ := allocV_sound he hv
      have hle := Mp.le_ext (m := m) hr.fresh.2.2.2 w.heap.size 0 0
      refine ⟨f n, f w.heap.size, m.ext n w.heap.size 0 0, _, n + 1, w.alloc co, .inl (hrun w), hle, ?_, hr.alloc 0 0 (hor _ _ hle), hk⟩
      have := hvr (m.ext n w.heap.size 0 0) n (Mp.ext_dom _ _ _ _ _)
      rwa [Mp.ext_mu] at this
    · cases hk
  · exact effK_sound hr he hk

/-! ### Results -/
def resV (P : Program) (h : T AO) (f : Nat → Option Value) : List ResultVar → Option (List Value)
  | [] => some []
  | .tmp i :: l => match f i, resV P h f l with
    | some v, some r => some (v :: r)
    | _, _ => none
  | .cell i ty :: l => match f i with
    | some a => match loadV P h ty a, resV P h f l with
      | some v, some r => some (v :: r)
      | _, _ => none
    | none => none
def oneOf : List Value → Value
  | [v] => v
  | l => .tuple ⟨l⟩

/-- A result variable's value. -/
def resF (tmps : Array Value) (r : ResultVar) : Sem Value :=
  match r with
  | .tmp t => Pure.pure (tmps.getD t undef)
  | .cell x t => asAddr (tmps.getD x undef) >>= fun p => loadVar t p

theorem resV_sound (hr : HR B w0 m h X n w) {f : Nat → Option Value} {z : Nat} {a : Act} (ht : TR m f z a) : ∀ {l : List ResultVar} {r : List Value}, resV P h f l = some r →
    ∃ r', VRs m r r' ∧ (l.mapM (resF a.tmps)).run P w = .ok r' w
  | [], r, hr' => by cases hr'; exact ⟨[], trivial, rfl⟩
  | .tmp i :: l, r, hr' => by
    simp only [resV] at hr'
    split at hr'
    · rename_i v r1 hv hr1
      cases hr'
      obtain ⟨r', h1, h2⟩ := resV_sound hr ht hr1
      refine ⟨_ :: r', ⟨ht.2 i v hv, h1⟩, ?_⟩
      rw [List.mapM_cons, Sem.run_bind]
      simp only [resF, Sem.run_pure, Result.andThen_ok, Sem.run_bind, h2]
    · cases hr'
  | .cell i ty :: l, r, hr' => by
    simp only [resV] at hr'
    split at hr'
    · rename_i av hav
      split at hr'
      · rename_i v r1 hv hr1
        cases hr'
        obtain ⟨r', h1, h2⟩ := resV_sound hr ht hr1
        obtain ⟨v', hvr, hrun⟩ := loadV_sound hr.sub hr.lr hv (ht.2 i av hav)
        refine ⟨v' :: r', ⟨hvr, h1⟩, ?_⟩
        have hload : (resF a.tmps (.cell i ty)).run P w = .ok v' w := by
          show (asAddr (a.tmps.getD i undef) >>= fun x => loadVar ty x).run P w = .ok v' w
          revert hrun
          generalize a.tmps.getD i undef = q
          intro hrun
          cases q with
          | pointer p =>
            cases p with
            | none => simp [Instr.loadAt, Instr.sureAddr, stuck, Sem.run] at hrun
            | some p => simpa [Instr.loadAt, Instr.sureAddr, asAddr] using hrun
          | _ => simp [Instr.loadAt, Instr.sureAddr, stuck, Sem.run] at hrun
        rw [List.mapM_cons, Sem.run_bind, hload]
        simp only [Sem.run_pure, Result.andThen_ok, Sem.run_bind, h2]
      · cases hr'
    · cases hr'

theorem results_run (hr : HR B w0 m h X n w) {f : Nat → Option Value} {z : Nat} {a : Act} (ht : TR m f z a) {fn : Func} {r : List Value} (hv : resV P h f fn.results.toList = some r) :
    ∃ v', VR m (oneOf r) v' ∧ (results fn a.tmps).run P w = .ok v' w := by
  obtain ⟨r', h1, h2⟩ := resV_sound hr ht hv
  have hm : (fn.results.mapM (resF a.tmps)).run P w = .ok r'.toArray w := by
    rw [Array.mapM_eq_mapM_toList, Sem.run_map]
    rw [h2]; rfl
  have e : results fn a.tmps = (fn.results.mapM (resF a.tmps) >>= fun vs => Pure.pure (if h : vs.size = 1 then vs[0] else .tuple vs)) := rfl
  refine ⟨oneOf r', ?_, ?_⟩
  · match r, r', h1 with
    | [], [], _ => exact .tuple' VRs.nil
    | [a], [b], h1 => exact h1.1
    | a :: b :: l, c :: d :: q, h1 => exact .tuple' h1
  · rw [e, Sem.run_bind, hm]
    simp only [Result.andThen_ok, Sem.run_pure]
    congr 1
    match r' with
    | [] => rfl
    | [a] => rfl
    | a :: b :: l => rfl

end
end Go.Ex

/- Entries of the model for internal/reflectlite, on the abstract heap: what errors.As asks. -/
namespace Go.Ex
open Go.Extern
noncomputable section

variable {P : Program} {m : Mp} {B : Bd} {w0 w w' : World} {n : Nat} {h : T AO} {X : Nat → Option AO} {G : Nat}

/-! ### Blocks laid, one by one -/
def setL : List (Nat × AO) → T AO → T AO
  | [], h => h
  | x :: l, h => setL l (T.set (some x.2) h x.1)
def setLK {β : Type} : List (Nat × AO) → T AO → (T AO → β) → β
  | [], h, c => c h
  | x :: l, h, c => forceN x.1 fun b => forceAO x.2 fun o => T.setK (some o) h b fun h => setLK l h c
theorem setLK_eq {β : Type} : ∀ (l : List (Nat × AO)) (h : T AO) (c : T AO → β), setLK l h c = c (setL l h)
  | [], _, _ => rfl
  | x :: l, h, c => by
    show forceN x.1 (fun b => forceAO x.2 fun o => T.setK (some o) h b fun h => setLK l h c) = _
    rw [forceN_eq, forceAO_eq, T.setK_eq, setLK_eq l]; rfl

/-- What a call comes to: a value, the blocks that are laid, the next number. -/
abbrev Out := Option (Value × List (Nat × AO) × Nat)
def Outs (_P : Program) (B : Bd) (w0 : World) (X : Nat → Option AO) (m : Mp) (h : T AO) (v : Value) (l : List (Nat × AO)) (n' : Nat) (v' : Value) (w' : World) : Prop :=
  ∃ m', m.le m' ∧ VR m' v v' ∧ HR B w0 m' (setL l h) X n' w'

def NatOk (P : Program) (G : Nat) (run : List Value → T AO → Nat → Out) (s : Array Value → Sem Value) : Prop :=
  ∀ {args : List Value} {h : T AO} {n : Nat} {v : Value} {l : List (Nat × AO)} {n' : Nat}, run args h n = some (v, l, n') →
    ∀ {B : Bd} {w0 : World} {m : Mp} {X : Nat → Option AO} {w : World} {args' : List Value}, GR m G → HR B w0 m h X n w → VRs m args args' →
      ∃ v' w', (s ⟨args'⟩).run P w = .ok v' w' ∧ Outs P B w0 X m h v l n' v' w'

/-! ### Types' handles -/
def hnd (P : Program) (G : Nat) (v : Value) : Option TypeId :=
  match v with
  | .pointer (some ⟨b, o, none⟩) => sel (Nat.beq b P.globals.size && Nat.blt b G) (some o) none
  | _ => none
theorem hnd_spec (hG : GR m G) {v v' : Value} {t : TypeId} (hv : hnd P G v = some t) (hr : VR m v v') : v' = .pointer (some ⟨P.globals.size, t, none⟩) := by
  unfold hnd at hv
  split at hv
  · rename_i b o
    cases hb : (Nat.beq b P.globals.size && Nat.blt b G)
    · rw [hb] at hv; cases hv
    · rw [hb, sel_true] at hv
      cases hv
      rw [Bool.and_eq_true, nbeq, nblt, decide_eq_true_eq, decide_eq_true_eq] at hb
      obtain ⟨rfl, hd⟩ := hr.inv_ptr
      rw [(hG b hb.2).2, hb.1]
  · cases hv
def hndV (P : Program) (G : Nat) (t : TypeId) : Option Value := sel (Nat.blt P.globals.size G) (some (.pointer (some ⟨P.globals.size, t, none⟩))) none
theorem hndV_spec (hG : GR m G) {v : Value} {t : TypeId} (hv : hndV P G t = some v) : VR m v (typeHandle P t) ∧ v = typeHandle P t := by
  unfold hndV at hv
  cases hb : Nat.blt P.globals.size G
  · rw [hb] at hv; cases hv
  · rw [hb, sel_true] at hv
    cases hv
    rw [nblt, decide_eq_true_eq] at hb
    refine ⟨?_, rfl⟩
    have := VR.ptr (m := m) P.globals.size t (hG _ hb).1
    rwa [(hG _ hb).2] at this
theorem run_handle (t : TypeId) (w : World) : (Rtype.handle t).run P w = .ok (typeHandle P t) w := rfl
theorem run_ofHandle (t : TypeId) (w : World) : (Rtype.ofHandle (.pointer (some ⟨P.globals.size, t, none⟩))).run P w = .ok t w := by
  simp [Rtype.ofHandle, program, Sem.run, handleType]
theorem handle_atom (t : TypeId) : atom (typeHandle P t) = true := rfl
theorem hndV_atom {v : Value} {t : TypeId} (hv : hndV P G t = some v) : atom v = true := by
  unfold hndV at hv
  cases hb : Nat.blt P.globals.size G <;> rw [hb] at hv <;> cases hv
  rfl

def rtV (P : Program) (G : Nat) (t : TypeId) : Option Value :=
  match pr P (cutType "internal/reflectlite.rtype"), hndV P G t with
  | some rt, some hv => some (.iface rt (.agg ⟨[hv]⟩))
  | _, _ => none
theorem rtV_spec (hG : GR m G) {v : Value} {t : TypeId} (hv : rtV P G t = some v) : ∃ v', VR m v v' ∧ ∀ w, (ReflectliteType.toType t).run P w = .ok v' w := by
  unfold rtV at hv
  split at hv
  · rename_i rt hv1 h1 h2
    cases hv
    obtain ⟨h3, h4⟩ := hndV_spec hG h2
    refine ⟨.iface rt (.agg ⟨[typeHandle P t]⟩), .iface _ _ _ (.agg' (fun u hu => ?_) ⟨h3, trivial⟩), fun w => ?_⟩
    · simp only [List.mem_cons, List.not_mem_nil, or_false] at hu; subst hu; exact hndV_atom h2
    · simp only [ReflectliteType.toType, Sem.run_bind, pr_sound _ h1, Result.andThen_ok, run_handle, Sem.run_pure]
  · cases hv

theorem vrs1 {a : Value} {r : List Value} (h : VRs m [a] r) : ∃ a', r = [a'] ∧ VR m a a' := by
  match r, h with
  | [b], h => exact ⟨b, rfl, h.1⟩
  | _ :: _ :: _, h => exact h.2.elim
theorem vrs2 {a b : Value} {r : List Value} (h : VRs m [a, b] r) : ∃ a' b', r = [a', b'] ∧ VR m a a' ∧ VR m b b' := by
  match r, h with
  | [c, d], h => exact ⟨c, d, rfl, h.1, h.2.1⟩
  | [_], h => exact h.2.elim
  | _ :: _ :: _ :: _, h => exact h.2.2.elim
theorem vrs3 {a b c : Value} {r : List Value} (h : VRs m [a, b, c] r) : ∃ a' b' c', r = [a', b', c'] ∧ VR m a a' ∧ VR m b b' ∧ VR m c c' := by
  match r, h with
  | [x, y, z], h => exact ⟨x, y, z, rfl, h.1, h.2.1, h.2.2.1⟩
  | [_], h => exact h.2.elim
  | [_, _], h => exact h.2.2.elim
  | _ :: _ :: _ :: _ :: _, h => exact h.2.2.2.elim

/-! ### Values of reflectlite -/
/-- Type, variable, flags. -/
def rval (P : Program) (G : Nat) (v : Value) : Option (TypeId × Value × Nat) :=
  match v with
  | .agg ⟨[x, .pointer (some ⟨b, o, none⟩), .int .u64 (.ofNat f)]⟩ => match hnd P G x, f with
    | some t, f + 1 => sel (P.packed t) none (some (t, .pointer (some ⟨b, o, none⟩), f + 1))
    | _, _ => none
  | _ => none
theorem rval_spec (hG : GR m G) {v v' : Value} {t : TypeId} {a : Value} {f : Nat} (hv : rval P G v = some (t, a, f)) (hr : VR m v v') :
    ∃ p : Addr, VR m a (.pointer (some p)) ∧ (∀ w, (ReflectliteValue.parts v').run P w = .ok (some (t, p, f)) w) ∧ (∀ w, (ReflectliteValue.partsAny v').run P w = .ok (some (t, p, f)) w) := by
  unfold rval at hv
  split at hv
  · rename_i x b o f'
    split at hv
    · rename_i t' f2 hx
      cases hp : P.packed t'
      · rw [hp, sel_false] at hv
        simp only [Option.some.injEq, Prod.mk.injEq] at hv
        obtain ⟨rfl, rfl, rfl⟩ := hv
        obtain ⟨r, rfl, hrs, _⟩ := hr.inv_agg
        obtain ⟨x', p', i', rfl, h1, h2, h3⟩ := vrs3 hrs
        have e1 := hnd_spec hG hx h1
        obtain ⟨e2, _⟩ := h2.inv_ptr
        have e3 := h3.inv_int
        subst e1 e2 e3
        have hany : ∀ w, (ReflectliteValue.partsAny (.agg ⟨[.pointer (some ⟨P.globals.size, t', none⟩), .pointer (some ⟨m.mu b, o, none⟩), .int .u64 (Int.ofNat (f2 + 1))]⟩)).run P w = .ok (some (t', ⟨m.mu b, o, none⟩, f2 + 1)) w := fun w => by
          show ((Rtype.ofHandle (.pointer (some ⟨P.globals.size, t', none⟩))) >>= fun u => (Pure.pure (some (u, (⟨m.mu b, o, none⟩ : Addr), (Int.ofNat (f2 + 1)).toNat)) : Sem _)).run P w = _
          rw [Sem.run_bind, run_ofHandle]
          rfl
        refine ⟨_, h2, fun w => ?_, hany⟩
        simp only [ReflectliteValue.parts, Sem.run_bind, hany, Result.andThen_ok, Rtype.noPack, program, Sem.run, hp, Bool.false_eq_true, if_false, Sem.run_pure]
      · rw [hp] at hv; cases hv
    · cases hv
  · cases hv

def mkV (P : Program) (G : Nat) (t : TypeId) (p : Value) (flags : Nat) : Option Value :=
  match pr P (Rtype.kind t), hndV P G t with
  | some k, some hv => some (.agg ⟨[hv, p, .int .u64 (Int.ofNat (k + ReflectliteValue.flagIndir + flags))]⟩)
  | _, _ => none
theorem mkV_spec (hG : GR m G) {v p : Value} {t : TypeId} {a : Addr} {fl : Nat} (hv : mkV P G t p fl = some v) (hp : VR m p (.pointer (some a))) : ∃ v', VR m v v' ∧ ∀ w, (ReflectliteValue.mk t a fl).run P w = .ok v' w := by
  unfold mkV at hv
  split at hv
  · rename_i k hv1 h1 h2
    cases hv
    obtain ⟨h3, h4⟩ := hndV_spec hG h2
    refine ⟨.agg ⟨[typeHandle P t, .pointer (some a), .int .u64 (Int.ofNat (k + ReflectliteValue.flagIndir + fl))]⟩, .agg' (fun u hu => ?_) ⟨h3, hp, .int _ _, trivial⟩, fun w => ?_⟩
    · simp only [List.mem_cons, List.not_mem_nil, or_false] at hu
      rcases hu with rfl | rfl | rfl
      · exact hndV_atom h2
      · rw [← hp.atom_eq]; rfl
      · rfl
    · simp only [ReflectliteValue.mk, Sem.run_bind, pr_sound _ h1, Result.andThen_ok, run_handle, Sem.run_pure]
  · cases hv

/-- ValueOf. -/
def nValueOf (P : Program) (G : Nat) (args : List Value) (_h : T AO) (n : Nat) : Out :=
  match args with
  | [.iface t v] => sel (noTuple v) (match mkV P G t (.pointer (some ⟨n, 0, none⟩)) 0 with
    | some r => some (r, [(n, .cells 0 v.cells.toList t 0)], n + 1)
    | none => none) none
  | _ => none
theorem nValueOf_ok : NatOk P G (nValueOf P G) (fun args => ReflectliteValue.unpack (args.getD 0 (.tuple #[]))) := by
  intro args h n v l n' hv B w0 m X w args' hG hr ha
  unfold nValueOf at hv
  split at hv
  · rename_i t u
    cases hn : noTuple u
    · rw [hn] at hv; cases hv
    rw [hn, sel_true] at hv
    split at hv
    · rename_i r hmk
      simp only [Option.some.injEq, Prod.mk.injEq] at hv
      obtain ⟨rfl, rfl, rfl⟩ := hv
      obtain ⟨a', rfl, hai⟩ := vrs1 ha
      obtain ⟨u', rfl, hu⟩ := hai.inv_iface
      have hle := Mp.le_ext (m := m) hr.fresh.2.2.2 w.heap.size 0 0
      have hp : VR (m.ext n w.heap.size 0 0) (.pointer (some ⟨n, 0, none⟩)) (.pointer (some ⟨w.heap.size, 0, none⟩)) := by
        have := VR.ptr (m := m.ext n w.heap.size 0 0) n 0 (Mp.ext_dom _ _ _ _ _)
        rwa [Mp.ext_mu] at this
      obtain ⟨v', hvr, hrun⟩ := mkV_spec (hG.mono hle) hmk hp
      refine ⟨v', w.alloc (.cells u'.cells t), ?_, m.ext n w.heap.size 0 0, hle, hvr, hr.alloc 0 0 (.closed _ _ _ _ (hu.mono hle).cells (cells_atom hu hn))⟩
      show (newVar t u' >>= fun a => ReflectliteValue.mk t a 0).run P w = _
      rw [Sem.run_bind]
      simp only [newVar, run_newRow, Result.andThen_ok]
      exact hrun _
    · cases hv
  · cases hv

/-- (Value).Type. -/
def nType (P : Program) (G : Nat) (args : List Value) (_h : T AO) (n : Nat) : Out :=
  match args with
  | [v] => match rval P G v with
    | some (t, _, _) => match rtV P G t with
      | some r => some (r, [], n)
      | none => none
    | none => none
  | _ => none
theorem nType_ok (z : Sem Value) : NatOk P G (nType P G) (ReflectliteValue.methodAny z fun t _ _ _ => ReflectliteType.toType t) := by
  intro args h n v l n' hv B w0 m X w args' hG hr ha
  unfold nType at hv
  split at hv
  · rename_i u
    split at hv
    · rename_i t a f hu
      split at hv
      · rename_i r hrt
        simp only [Option.some.injEq, Prod.mk.injEq] at hv
        obtain ⟨rfl, rfl, rfl⟩ := hv
        obtain ⟨u', rfl, hur⟩ := vrs1 ha
        obtain ⟨p, _, _, hany⟩ := rval_spec hG hu hur
        obtain ⟨v', hvr, hrun⟩ := rtV_spec hG hrt
        refine ⟨v', w, ?_, m, m.le_refl, hvr, hr⟩
        show (ReflectliteValue.partsAny u' >>= _).run P w = _
        rw [Sem.run_bind, hany]
        exact hrun w
      · cases hv
    · cases hv
  · cases hv

/-- (Value).IsNil. -/
def nilIs (v : Value) : Option Bool :=
  match v with
  | .chan none => some true
  | .nilFunc => some true
  | .nilIface => some true
  | .map none => some true
  | .pointer none => some true
  | .slice none _ _ => some true
  | .pointer (some _) => some false
  | .iface _ _ => some false
  | .map (some _) => some false
  | .slice (some _) _ _ => some false
  | .func _ _ _ => some false
  | _ => none
def nIsNil (P : Program) (G : Nat) (args : List Value) (h : T AO) (n : Nat) : Out :=
  match args with
  | [v] => match rval P G v with
    | some (t, a, f) => sel ([18, 19, 20, 21, 22, 23, 26].contains (f % 32)) (match loadV P h t a with
      | some u => match nilIs u with
        | some b => some (.bool b, [], n)
        | none => none
      | none => none) none
    | none => none
  | _ => none
theorem loadVar_run (hr : HR B w0 m h X n w) {t : TypeId} {a v : Value} (hv : loadV P h t a = some v) {p : Addr} (ha : VR m a (.pointer (some p))) : ∃ v', VR m v v' ∧ (loadVar t p).run P w = .ok v' w := by
  obtain ⟨v', h1, h2⟩ := loadV_sound hr.sub hr.lr hv ha
  exact ⟨v', h1, by simpa [Instr.loadAt, Instr.sureAddr] using h2⟩
theorem nIsNil_ok (z : Sem Value) : NatOk P G (nIsNil P G) (ReflectliteValue.method z ReflectliteValue.isNil) := by
  intro args h n v l n' hv B w0 m X w args' hG hr ha
  unfold nIsNil at hv
  split at hv
  · rename_i u
    split at hv
    · rename_i t a f hu
      cases hc : [18, 19, 20, 21, 22, 23, 26].contains (f % 32)
      · rw [hc] at hv; cases hv
      rw [hc, sel_true] at hv
      split at hv
      · rename_i x hx
        split at hv
        · rename_i b hb
          simp only [Option.some.injEq, Prod.mk.injEq] at hv
          obtain ⟨rfl, rfl, rfl⟩ := hv
          obtain ⟨u', rfl, hur⟩ := vrs1 ha
          obtain ⟨p, hp, hparts, _⟩ := rval_spec hG hu hur
          obtain ⟨x', hxr, hload⟩ := loadVar_run hr hx hp
          refine ⟨.bool b, w, ?_, m, m.le_refl, .bool b, hr⟩
          show (ReflectliteValue.parts u' >>= _).run P w = _
          rw [Sem.run_bind, hparts]
          simp only [Result.andThen_ok, ReflectliteValue.isNil, hc, Bool.not_true, Bool.false_eq_true, if_false, Sem.run_bind, hload]
          cases hxr <;> simp [nilIs] at hb <;> subst hb <;> rfl
        · cases hv
      · cases hv
    · cases hv
  · cases hv

/-- (Value).Elem of a pointer. -/
def nElemV (P : Program) (G : Nat) (args : List Value) (h : T AO) (n : Nat) : Out :=
  match args with
  | [v] => match rval P G v with
    | some (t, a, f) => sel (Nat.beq (f % 32) 22) (match loadV P h t a, pr P (Rtype.elem? t) with
      | some (.pointer (some ⟨b, o, none⟩)), some (some e) => match mkV P G e (.pointer (some ⟨b, o, none⟩)) ReflectliteValue.flagAddr with
        | some r => some (r, [], n)
        | none => none
      | _, _ => none) none
    | none => none
  | _ => none
theorem nElemV_ok (z : Sem Value) : NatOk P G (nElemV P G) (ReflectliteValue.method z ReflectliteValue.elem) := by
  intro args h n v l n' hv B w0 m X w args' hG hr ha
  unfold nElemV at hv
  split at hv
  · rename_i u
    split at hv
    · rename_i t a f hu
      cases hc : Nat.beq (f % 32) 22
      · rw [hc] at hv; cases hv
      rw [hc, sel_true] at hv
      rw [nbeq, decide_eq_true_eq] at hc
      split at hv
      · rename_i b o e hx he
        split at hv
        · rename_i r hmk
          simp only [Option.some.injEq, Prod.mk.injEq] at hv
          obtain ⟨rfl, rfl, rfl⟩ := hv
          obtain ⟨u', rfl, hur⟩ := vrs1 ha
          obtain ⟨p, hp, hparts, _⟩ := rval_spec hG hu hur
          obtain ⟨x', hxr, hload⟩ := loadVar_run hr hx hp
          have hxe := hxr.inv_ptr
          obtain ⟨rfl, hd⟩ := hxe
          obtain ⟨v', hvr, hrun⟩ := mkV_spec hG hmk (.ptr b o hd)
          refine ⟨v', w, ?_, m, m.le_refl, hvr, hr⟩
          show (ReflectliteValue.parts u' >>= _).run P w = _
          rw [Sem.run_bind, hparts]
          have e22 : ((22 : Nat) != 20 && (22 : Nat) != 22) = false := rfl
          simp only [Result.andThen_ok, ReflectliteValue.elem, hc, e22, Bool.false_eq_true, if_false, Sem.run_bind, hload, pr_sound _ he]
          exact hrun w
        · cases hv
      · cases hv
    · cases hv
  · cases hv

/-- (Value).Set. -/
def nSet (P : Program) (G : Nat) (args : List Value) (h : T AO) (n : Nat) : Out :=
  match args with
  | [v, x] => match rval P G v, rval P G x with
    | some (dst, a, fl), some (src, b, _) => sel (Nat.beq (fl / ReflectliteValue.flagAddr % 2) 0) none (match loadV P h src b, pr P (Rtype.directlyAssignable dst src) with
      | some val, some d => match sel d (some val) (match pr P (Rtype.implements dst src), pr P (Rtype.kind src) with
          | some true, some k => sel (Nat.beq k 20) (match val with
            | .iface t u => some (.iface t u)
            | _ => none) (some (.iface src val))
          | _, _ => none) with
        | some val => match a with
          | .pointer (some ⟨q, o, none⟩) => match h.get q with
            | some (.cells f c e z) => match P.info? dst with
              | some i => sel (Nat.blt f 2 && Nat.beq i.size val.cells.toList.length && noTuple val && Nat.ble (o + i.size) c.length)
                  (some (undefA, [(q, .cells f (splice c o val.cells.toList) e z)], n)) none
              | none => none
            | _ => none
          | _ => none
        | none => none
      | _, _ => none)
    | _, _ => none
  | _ => none
theorem rls (v x : Value) : ReflectliteValue.set #[v, x] = (do
    let (some (dst, a, fl), some (src, b, _)) := (← ReflectliteValue.parts v, ← ReflectliteValue.parts x)
      | unsupported (.noEntry "extern/(internal/reflectlite.Value).Set.zeroValue")
    if fl / ReflectliteValue.flagAddr % 2 == 0 then unsupported (.noEntry "extern/(internal/reflectlite.Value).Set.unaddressable")
    let val ← loadVar src b
    if ← Rtype.directlyAssignable dst src then storeVar dst a val
    else if ← Rtype.implements dst src then
      if (← Rtype.kind src) == 20 then
        match val with
        | .nilIface => unsupported (.noEntry "extern/reflectlite: a nil value of one interface type handed on as a value of another")
        | _ => storeVar dst a val
      else storeVar dst a (.iface src val)
    else panicString ("reflectlite.Set: value of type " ++ (← Rtype.spelt src) ++ " is not assignable to type " ++ (← Rtype.spelt dst))
    pure (.tuple #[])) := rfl
theorem nSet_ok : NatOk P G (nSet P G) ReflectliteValue.set := by
  intro args h n v l n' hv B w0 m X w args' hG hr ha
  unfold nSet at hv
  split at hv
  · rename_i u x
    split at hv
    · rename_i dst a fl src b _ hu hx
      cases hc : Nat.beq (fl / ReflectliteValue.flagAddr % 2) 0
      · rw [hc, sel_false] at hv
        rw [nbeq, decide_eq_false_iff_not] at hc
        obtain ⟨u', x', rfl, hur, hxr⟩ := vrs2 ha
        obtain ⟨p, hp, hparts, _⟩ := rval_spec hG hu hur
        obtain ⟨q, hq, hparts2, _⟩ := rval_spec hG hx hxr
        split at hv
        · rename_i val d hval hd
          obtain ⟨val', hvalr, hload⟩ := loadVar_run hr hval hq
          split at hv
          · rename_i val2 hval2
            have key : ∃ val2', VR m val2 val2' ∧ ∀ w2, (storeVar dst p val2').run P w = .ok () w2 → (ReflectliteValue.set ⟨[u', x']⟩).run P w = .ok (.tuple #[]) w2 := by
              have hc' : (fl / ReflectliteValue.flagAddr % 2 == 0) = false := by simpa using hc
              cases d with
              | true =>
                rw [sel_true] at hval2
                cases hval2
                refine ⟨val', hvalr, fun w2 hs => ?_⟩
                show (ReflectliteValue.set #[u', x']).run P w = _
                rw [rls]
                have hc2 : fl / ReflectliteValue.flagAddr % 2 = 1 := by omega
                simp [Sem.run_bind, hparts, hparts2, hc2, hload, pr_sound _ hd, hs]
              | false =>
                rw [sel_false] at hval2
                split at hval2
                · rename_i k hi hk
                  cases hk2 : Nat.beq k 20
                  · rw [hk2, sel_false] at hval2
                    cases hval2
                    rw [nbeq, decide_eq_false_iff_not] at hk2
                    have hk3 : (k == 20) = false := by simpa using hk2
                    refine ⟨.iface src val', .iface _ _ _ hvalr, fun w2 hs => ?_⟩
                    show (ReflectliteValue.set #[u', x']).run P w = _
                    rw [rls]
                    have hc2 : fl / ReflectliteValue.flagAddr % 2 = 1 := by omega
                    simp [Sem.run_bind, hparts, hparts2, hc2, hload, pr_sound _ hd, pr_sound _ hi, pr_sound _ hk, hk2, hs]
                  · rw [hk2, sel_true] at hval2
                    rw [nbeq, decide_eq_true_eq] at hk2
                    have hk3 : (k == 20) = true := by simpa using hk2
                    split at hval2
                    · rename_i t y
                      cases hval2
                      obtain ⟨y', rfl, hy⟩ := hvalr.inv_iface
                      refine ⟨.iface t y', .iface _ _ _ hy, fun w2 hs => ?_⟩
                      show (ReflectliteValue.set #[u', x']).run P w = _
                      rw [rls]
                      have hc2 : fl / ReflectliteValue.flagAddr % 2 = 1 := by omega
                      simp [Sem.run_bind, hparts, hparts2, hc2, hload, pr_sound _ hd, pr_sound _ hi, pr_sound _ hk, hk2, hs]
                    · cases hval2
                · cases hval2
            obtain ⟨val2', hv2r, hrun⟩ := key
            split at hv
            · rename_i qb o
              split at hv
              · rename_i f c e z hb
                split at hv
                · rename_i i hi
                  cases hcc : (Nat.blt f 2 && Nat.beq i.size val2.cells.toList.length && noTuple val2 && Nat.ble (o + i.size) c.length)
                  · rw [hcc] at hv; cases hv
                  · rw [hcc, sel_true] at hv
                    simp only [Option.some.injEq, Prod.mk.injEq] at hv
                    obtain ⟨rfl, rfl, rfl⟩ := hv
                    rw [Bool.and_eq_true, Bool.and_eq_true, Bool.and_eq_true, nblt, nbeq, nble, decide_eq_true_eq, decide_eq_true_eq, decide_eq_true_eq] at hcc
                    obtain ⟨⟨⟨h1, h2⟩, h3⟩, h4⟩ := hcc
                    obtain ⟨w', hs, hh⟩ := hr.write (P := P) (o := o) hb h1 hv2r.cells (cells_atom hv2r h3) (by omega)
                    have hpe := hp.inv_ptr.1
                    simp only [Value.pointer.injEq, Option.some.injEq] at hpe
                    subst hpe
                    refine ⟨.tuple #[], w', hrun w' ?_, m, m.le_refl, .tuple' VRs.nil, hh⟩
                    have hl := hv2r.cells.length
                    have hne : ¬ (val2'.cells.size ≠ i.size) := by simp at hl h2; omega
                    simp only [storeVar, Sem.run_bind, run_sizeOf' hi, Result.andThen_ok, hne, if_false]
                    exact hs
                · cases hv
              · cases hv
            · cases hv
          · cases hv
        · cases hv
      · rw [hc] at hv; cases hv
    · cases hv
  · cases hv

/-- TypeOf. -/
def nTypeOf (P : Program) (G : Nat) (args : List Value) (_h : T AO) (n : Nat) : Out :=
  match args with
  | [.nilIface] => some (.nilIface, [], n)
  | [.iface t _] => match rtV P G t with
    | some r => some (r, [], n)
    | none => none
  | _ => none
theorem nTypeOf_ok : NatOk P G (nTypeOf P G) ReflectliteType.typeOf := by
  intro args h n v l n' hv B w0 m X w args' hG hr ha
  unfold nTypeOf at hv
  split at hv
  · simp only [Option.some.injEq, Prod.mk.injEq] at hv
    obtain ⟨rfl, rfl, rfl⟩ := hv
    obtain ⟨u', rfl, hur⟩ := vrs1 ha
    cases hur
    exact ⟨.nilIface, w, rfl, m, m.le_refl, .nilIface, hr⟩
  · rename_i t u
    split at hv
    · rename_i r hrt
      simp only [Option.some.injEq, Prod.mk.injEq] at hv
      obtain ⟨rfl, rfl, rfl⟩ := hv
      obtain ⟨u', rfl, hur⟩ := vrs1 ha
      obtain ⟨y, rfl, hy⟩ := hur.inv_iface
      obtain ⟨v', hvr, hrun⟩ := rtV_spec hG hrt
      exact ⟨v', w, hrun w, m, m.le_refl, hvr, hr⟩
    · cases hv
  · cases hv

/-- A type's own value (rtype). -/
def rty (P : Program) (G : Nat) (v : Value) : Option TypeId :=
  match v with
  | .agg ⟨[x]⟩ => match hnd P G x with
    | some t => sel (P.packed t) none (some t)
    | none => none
  | _ => none
theorem rty_spec (hG : GR m G) {v v' : Value} {t : TypeId} (hv : rty P G v = some t) (hr : VR m v v') : ∀ w, (ReflectliteType.ofRtype v').run P w = .ok t w := by
  unfold rty at hv
  split at hv
  · rename_i x
    split at hv
    · rename_i t' hx
      cases hp : P.packed t'
      · rw [hp, sel_false] at hv
        cases hv
        obtain ⟨r, rfl, hrs, _⟩ := hr.inv_agg
        obtain ⟨x', rfl, h1⟩ := vrs1 hrs
        have e1 := hnd_spec hG hx h1
        subst e1
        intro w
        show (Rtype.ofHandle (.pointer (some ⟨P.globals.size, t, none⟩)) >>= fun t => Rtype.noPack "a Type asked or handed on" t >>= fun _ => (Pure.pure t : Sem TypeId)).run P w = _
        rw [Sem.run_bind, run_ofHandle]
        simp only [Result.andThen_ok, Sem.run_bind, Rtype.noPack, program, Sem.run, hp, Bool.false_eq_true, if_false, Sem.run_pure]
      · rw [hp] at hv; cases hv
    · cases hv
  · cases hv

/-- (rtype).Elem. -/
def nElemT (P : Program) (G : Nat) (args : List Value) (_h : T AO) (n : Nat) : Out :=
  match args with
  | [v] => match rty P G v with
    | some t => match pr P (Rtype.elem? t) with
      | some (some e) => match rtV P G e with
        | some r => some (r, [], n)
        | none => none
      | _ => none
    | none => none
  | _ => none
theorem nElemT_ok : NatOk P G (nElemT P G) (ReflectliteType.method ReflectliteType.elem) := by
  intro args h n v l n' hv B w0 m X w args' hG hr ha
  unfold nElemT at hv
  split at hv
  · rename_i u
    split at hv
    · rename_i t hu
      split at hv
      · rename_i e he
        split at hv
        · rename_i r hrt
          simp only [Option.some.injEq, Prod.mk.injEq] at hv
          obtain ⟨rfl, rfl, rfl⟩ := hv
          obtain ⟨u', rfl, hur⟩ := vrs1 ha
          obtain ⟨v', hvr, hrun⟩ := rtV_spec hG hrt
          refine ⟨v', w, ?_, m, m.le_refl, hvr, hr⟩
          show (ReflectliteType.ofRtype u' >>= ReflectliteType.elem).run P w = _
          rw [Sem.run_bind, rty_spec hG hu hur]
          simp only [Result.andThen_ok, ReflectliteType.elem, Sem.run_bind, pr_sound _ he]
          exact hrun w
        · cases hv
      · cases hv
    · cases hv
  · cases hv

/-- Implements, AssignableTo. -/
def nRel (P : Program) (G : Nat) (f : TypeId → TypeId → Sem Bool) (args : List Value) (_h : T AO) (n : Nat) : Out :=
  match args with
  | [r, .iface _ u] => match rty P G u, rty P G r with
    | some a, some b => match pr P (f a b) with
      | some c => some (.bool c, [], n)
      | none => none
    | _, _ => none
  | _ => none
theorem nRel_ok (what : String) (f : TypeId → TypeId → Sem Bool) : NatOk P G (nRel P G f) (ReflectliteType.relation what f) := by
  intro args h n v l n' hv B w0 m X w args' hG hr ha
  unfold nRel at hv
  split at hv
  · rename_i r t u
    split at hv
    · rename_i a b hu hrr
      split at hv
      · rename_i c hc
        simp only [Option.some.injEq, Prod.mk.injEq] at hv
        obtain ⟨rfl, rfl, rfl⟩ := hv
        obtain ⟨r', i', rfl, h1, h2⟩ := vrs2 ha
        obtain ⟨u', rfl, hy⟩ := h2.inv_iface
        refine ⟨.bool c, w, ?_, m, m.le_refl, .bool c, hr⟩
        show (ReflectliteType.ofRtype u' >>= fun x => ReflectliteType.ofRtype r' >>= fun y => f x y >>= fun b => (Pure.pure (.bool b) : Sem Value)).run P w = _
        rw [Sem.run_bind, rty_spec hG hu hy]
        simp only [Result.andThen_ok]
        rw [Sem.run_bind, rty_spec hG hrr h1]
        simp only [Result.andThen_ok]
        rw [Sem.run_bind, pr_sound _ hc]
        rfl
      · cases hv
    · cases hv
  · cases hv

/-- (*abi.Type).Kind. -/
def nKind (P : Program) (G : Nat) (args : List Value) (_h : T AO) (n : Nat) : Out :=
  match args with
  | [x] => match hnd P G x with
    | some t => sel (P.packed t) none (match pr P (Rtype.kind t) with
      | some k => some (.int .u8 (Int.ofNat k), [], n)
      | none => none)
    | none => none
  | _ => none
theorem nKind_ok : NatOk P G (nKind P G) (ReflectliteType.abiMethod fun t => (fun a : Nat => Value.int IntKind.u8 (a : Int)) <$> Rtype.kind t) := by
  intro args h n v l n' hv B w0 m X w args' hG hr ha
  unfold nKind at hv
  split at hv
  · rename_i x
    split at hv
    · rename_i t hx
      cases hp : P.packed t
      · rw [hp, sel_false] at hv
        split at hv
        · rename_i k hk
          simp only [Option.some.injEq, Prod.mk.injEq] at hv
          obtain ⟨rfl, rfl, rfl⟩ := hv
          obtain ⟨x', rfl, h1⟩ := vrs1 ha
          have e1 := hnd_spec hG hx h1
          subst e1
          refine ⟨.int .u8 (Int.ofNat k), w, ?_, m, m.le_refl, .int _ _, hr⟩
          show (Rtype.ofHandle (.pointer (some ⟨P.globals.size, t, none⟩)) >>= fun t => Rtype.noPack "a method of abi.Type" t >>= fun _ => ((fun a : Nat => Value.int IntKind.u8 (a : Int)) <$> Rtype.kind t : Sem Value)).run P w = _
          rw [Sem.run_bind, run_ofHandle]
          simp only [Result.andThen_ok, Sem.run_bind, Rtype.noPack, program, Sem.run, hp, Bool.false_eq_true, if_false, Sem.run_pure, Sem.run_map, pr_sound _ hk]
          rfl
        · cases hv
      · rw [hp] at hv; cases hv
    · cases hv
  · cases hv

end
end Go.Ex

/- slices.overlaps, on the abstract heap: of two blocks. -/
namespace Go.Ex
open Go.Extern
noncomputable section

variable {P : Program} {m : Mp} {B : Bd} {w0 w w' : World} {n : Nat} {h : T AO} {X : Nat → Option AO} {G : Nat}

def nOverlaps (P : Program) (t : TypeId) (args : List Value) (h : T AO) (n : Nat) : Out :=
  match args with
  | [.slice (some ⟨a, oa, none⟩) _ _, .slice (some ⟨b, ob, none⟩) _ _] =>
    match h.get a, h.get b, P.underlying t with
    | some (.cells fa _ _ _), some (.cells fb _ _ _), some (.slice e) => match P.info? e with
      | some _ => sel (Nat.blt fa 2 && Nat.blt fb 2 && !Nat.beq a b && Nat.blt oa sent && Nat.blt ob sent) (some (.bool false, [], n)) none
      | none => none
    | _, _, _ => none
  | _ => none

theorem cells_plain {r : Nat} {cs : Array Value} {e : TypeId} (hw : w.heap[r]? = some (.cells cs e (0, 0))) : (∀ i, w.frozen? ⟨r, i, none⟩ = false) ∧ w.shape? r = some (e, cs.size) := by
  refine ⟨fun i => ?_, ?_⟩
  · unfold World.frozen?
    simp [hw]
  · unfold World.shape?
    rw [hw]

theorem overlaps_run {ps rs : Array TypeId} {t e : TypeId} {i : TypeInfo} (hp : ps[0]? = some t) (hu : P.underlying t = some (.slice e)) (hi : P.info? e = some i) {a b oa ob la lb ca cb : Nat} (hne : a ≠ b) {cs ct : Array Value} {e1 e2 : TypeId}
    (ha : w.heap[a]? = some (.cells cs e1 (0, 0))) (hb : w.heap[b]? = some (.cells ct e2 (0, 0))) :
    (SlicesOverlaps.overlaps ps rs #[.slice (some ⟨a, oa, none⟩) la ca, .slice (some ⟨b, ob, none⟩) lb cb]).run P w = .ok (.bool false) w := by
  obtain ⟨fa, sa⟩ := cells_plain ha
  obtain ⟨fb, sb⟩ := cells_plain hb
  have hs : ∀ r, (shape r).run P w = .ok (w.shape? r) w := fun _ => rfl
  have hneb : (a != b) = true := by simpa using hne
  have heqb : (a == b) = false := by simpa using hne
  delta SlicesOverlaps.overlaps
  rw [hp]
  show Sem.run P (underlying t >>= _) w = _
  rw [Sem.run_bind, run_underlying hu, Result.andThen_ok]
  show Sem.run P (sizeOf e >>= _) w = _
  rw [Sem.run_bind, run_sizeOf' hi, Result.andThen_ok]
  dsimp only
  split
  · rfl
  · simp only [hneb, Sem.run_bind, run_frozen, fa, fb, Result.andThen_ok, noView, viewAt, mayBeOne, stringish, heqb]
    simp [Sem.run_bind, hs, sa, sb, fa, fb]

theorem nOverlaps_ok {ps rs : Array TypeId} {t : TypeId} (hp : ps[0]? = some t) : NatOk P G (nOverlaps P t) (SlicesOverlaps.overlaps ps rs) := by
  intro args h n v l n' hv B w0 m X w args' hG hr ha
  unfold nOverlaps at hv
  split at hv
  case h_2 => cases hv
  rename_i a oa la ca b ob lb cb
  split at hv
  case h_2 => cases hv
  rename_i fa c1 e1 z1 fb c2 e2 z2 e hga hgb hu
  split at hv
  case h_2 => cases hv
  rename_i i hi
  cases hc : (Nat.blt fa 2 && Nat.blt fb 2 && !Nat.beq a b && Nat.blt oa sent && Nat.blt ob sent)
  · rw [hc] at hv; cases hv
  rw [hc, sel_true] at hv
  simp only [Option.some.injEq, Prod.mk.injEq] at hv
  obtain ⟨rfl, rfl, rfl⟩ := hv
  simp only [Bool.and_eq_true, Bool.not_eq_true', nbeq, nblt, decide_eq_true_eq, decide_eq_false_iff_not] at hc
  obtain ⟨⟨⟨⟨h1, h2⟩, h3⟩, h4⟩, h5⟩ := hc
  obtain ⟨x', y', rfl, hx, hy⟩ := vrs2 ha
  obtain ⟨_, ca', rfl, _, _⟩ := inv_slice hx h4
  obtain ⟨_, cb', rfl, _, _⟩ := inv_slice hy h5
  have hla := ov_some (X := X) hga
  have hlb := ov_some (X := X) hgb
  obtain ⟨_, cs, e1', fz1, hca, _, _, _, hf1⟩ := hr.lr.cells hla
  obtain ⟨_, ct, e2', fz2, hcb, _, _, _, hf2⟩ := hr.lr.cells hlb
  obtain ⟨rfl, _⟩ := hf1 h1
  obtain ⟨rfl, _⟩ := hf2 h2
  have hne : m.mu a ≠ m.mu b := fun e => h3 (hr.lr.inj a b _ _ hla hlb rfl rfl e)
  exact ⟨.bool false, w, overlaps_run hp hu hi hne hca hcb, m, m.le_refl, .bool false, hr⟩

end
end Go.Ex

/- Calls: how code ends; what is known behind it; a function entered. -/
namespace Go.Ex
noncomputable section

variable {P : Program} {m : Mp} {B : Bd} {w0 w w' : World} {n : Nat} {h : T AO} {X : Nat → Option AO}

/-- How a piece of code ends. -/
inductive X1 where
  | normal
  | exit (id : Nat)
  | ret
  | panic (v : Value)

inductive XR (m : Mp) : X1 → Exit → Prop
  | normal : XR m .normal .normal
  | exit (id : Nat) : XR m (.exit id) (.exit id)
  | ret : XR m .ret .ret
  | panic (v : Value) (ch : List PanicEntry) (h : PR m v ch) : XR m (.panic v) (.panic ch)
theorem XR.mono {m m' : Mp} (hm : m.le m') {x : X1} {e : Exit} (h : XR m x e) : XR m' x e := by
  cases h with
  | normal => exact .normal
  | exit id => exact .exit id
  | ret => exact .ret
  | panic v ch h => exact .panic v ch (h.mono hm)

/-- What goes on behind a piece of code. -/
abbrev Kt := X1 → T Value → T AO → Nat → Bool
/-- Code, a frame's size, its temporaries, the heap, the next number. -/
abbrev Ex1 := Code → Nat → T Value → T AO → Nat → Kt → Bool

/-- What is known behind a piece of code. -/
def Post (B : Bd) (w0 : World) (X : Nat → Option AO) (m : Mp) (z : Nat) (D : List Deferred) (k : Kt) (e : Exit) (a : Act) (w : World) : Prop :=
  ∃ m' x t h n, m.le m' ∧ XR m' x e ∧ TR m' t.get z a ∧ a.defers = D ∧ HR B w0 m' h X n w ∧ k x t h n = true

def Sound (P : Program) (G : Nat) (ih : Ex1) : Prop :=
  ∀ (c : Code) (z : Nat) (t : T Value) (h : T AO) (n : Nat) (k : Kt), ih c z t h n k = true → ∀ (B : Bd) (w0 : World) (m : Mp) (X : Nat → Option AO) (D : List Deferred) (a : Act) (w : World),
    GR m G → TR m t.get z a → a.defers = D → HR B w0 m h X n w → c.wp P (Post B w0 X m z D k) a w

/-! ### Calls -/
/-- Arguments laid into the first temporaries. -/
def argsT : List Value → Nat → T Value → (T Value → Bool) → Bool
  | [], _, t, k => k t
  | v :: l, i, t, k => T.setK (some v) t i fun t => argsT l (i + 1) t k
def argsD : List Value → Nat → T Value → T Value
  | [], _, t => t
  | v :: l, i, t => argsD l (i + 1) (T.set (some v) t i)
theorem argsT_eq : ∀ (l : List Value) (i : Nat) (t : T Value) (k : T Value → Bool), argsT l i t k = k (argsD l i t)
  | [], _, _, _ => rfl
  | v :: l, i, t, k => by
    show T.setK (some v) t i (fun t => argsT l (i + 1) t k) = _
    rw [T.setK_eq, argsT_eq l]; rfl
theorem argsD_get : ∀ (l : List Value) (i : Nat) (t : T Value) (j : Nat), (argsD l i t).get j = if i ≤ j ∧ j < i + l.length then l[j - i]? else t.get j
  | [], i, t, j => by
    rw [if_neg (by simp only [List.length_nil]; omega)]; rfl
  | v :: l, i, t, j => by
    show (argsD l (i + 1) (T.set (some v) t i)).get j = _
    rw [argsD_get l, T.get_set]
    by_cases h1 : j = i
    · subst h1
      rw [if_neg (by omega), if_pos rfl, if_pos (by simp)]
      simp
    · by_cases h2 : i + 1 ≤ j ∧ j < i + 1 + l.length
      · rw [if_pos h2, if_pos (by simp; omega)]
        have : j - i = (j - (i + 1)) + 1 := by omega
        rw [this]; simp
      · rw [if_neg h2, if_neg h1, if_neg (by simp; omega)]

/-- A function that has a body, entered. -/
def bodyOf (P : Program) (f : FuncId) : Option (Func × Code) :=
  match P.funcs[f]? with
  | some fn => match fn.body with
    | some c => sel (fn.name == "runtime.NumGoroutine") none (some (fn, c))
    | none => none
  | none => none
theorem bodyOf_spec {f : FuncId} {fn : Func} {c : Code} (hb : bodyOf P f = some (fn, c)) : P.funcs[f]? = some fn ∧ fn.body = some c ∧ ∀ args w, (callFunc f args).run P w = .ok (.enter f args) w := by
  unfold bodyOf at hb
  split at hb
  · rename_i fn' hf
    split at hb
    · rename_i c' hc
      cases hn : fn'.name == "runtime.NumGoroutine"
      · rw [hn, sel_false] at hb
        simp only [Option.some.injEq, Prod.mk.injEq] at hb
        obtain ⟨rfl, rfl⟩ := hb
        refine ⟨hf, hc, fun args w => ?_⟩
        have hn' : ¬ fn'.name = "runtime.NumGoroutine" := by simpa using hn
        simp [callFunc, program, Sem.run, hf, hn', hc]
      · rw [hn] at hb; cases hb
    · cases hb
  · cases hb

/-- Functions that aren't entered: what a call of one comes to, by a contract that is proved of the program. -/
class Intr (P : Program) where
  run : Nat → FuncId → List Value → T AO → Nat → Out
  sound : ∀ {G : Nat} {f : FuncId} {args : List Value} {h : T AO} {n : Nat} {v : Value} {l : List (Nat × AO)} {n' : Nat}, run G f args h n = some (v, l, n') →
    ∀ {B : Bd} {w0 : World} {m : Mp} {X : Nat → Option AO} {w : World} {args' : List Value}, GR m G → HR B w0 m h X n w → VRs m args args' →
      (∃ v' w', (callFunc f ⟨args'⟩).run P w = .ok (.value v') w' ∧ Outs P B w0 X m h v l n' v' w') ∨
      ((callFunc f ⟨args'⟩).run P w = .ok (.enter f ⟨args'⟩) w ∧ Calls P f ⟨args'⟩ w fun e w' => ∃ v', e = .returned v' ∧ Outs P B w0 X m h v l n' v' w')

end
end Go.Ex
