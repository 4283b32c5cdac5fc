/- A verified executor of the model's code on an abstract heap, part 2: definitions and their soundness; nothing here names a program. -/
import Derived.Test.YtocjkllkjbehgaaGreatDoorEx1
import Derived.Laws.Cells
import Derived.Laws.CopyRow
import Derived.Laws.Append

/- Operations that look at the world and leave it. -/
namespace Go.Ex
noncomputable section

variable {P : Program} {m : Mp} {B : Nat} {w0 w : World} {L : Nat → Option AO} {n : Nat}

theorem OR.cells_inv {b fl : Nat} {c : List Value} {e : TypeId} {z : Nat} {co : Obj} (h : OR m b (.cells fl c e z) co) :
    ∃ cs fz, co = .cells cs e fz ∧ c.length ≤ cs.size ∧ VRs m c (cs.toList.take c.length) ∧ (∀ v ∈ c, atom v = true) ∧ (fl < 2 → fz = (0, 0)) := by
  cases h with
  | closed _ _ _ cs h ha => exact ⟨cs, _, rfl, by rw [h.length]; simp, by rw [h.length, List.take_of_length_le (Nat.le_refl _)]; exact h, ha, fun _ => rfl⟩
  | opn _ _ cs h hl hc he ha => exact ⟨cs, _, rfl, hl, h, ha, fun _ => rfl⟩
  | ro _ _ _ cs fz h ha => exact ⟨cs, fz, rfl, by rw [h.length]; simp, by rw [h.length, List.take_of_length_le (Nat.le_refl _)]; exact h, ha, fun h => absurd h (by omega)⟩

theorem LR.cells (h : LR B w0 m L n w) {b fl : Nat} {c : List Value} {e : TypeId} {z : Nat} (hb : L b = some (.cells fl c e z)) :
    m.dom b ∧ ∃ cs fz, w.heap[m.mu b]? = some (.cells cs e fz) ∧ c.length ≤ cs.size ∧ VRs m c (cs.toList.take c.length) ∧ (∀ v ∈ c, atom v = true) ∧ (fl < 2 → fz = (0, 0)) := by
  obtain ⟨hd, co, hco, ho⟩ := h.ok b _ hb rfl
  obtain ⟨cs, fz, rfl, h1, h2, h3, h4⟩ := ho.cells_inv
  exact ⟨hd, cs, fz, hco, h1, h2, h3, h4⟩

theorem LR.cell (h : LR B w0 m L n w) {b fl : Nat} {c : List Value} {e : TypeId} {z i : Nat} {v : Value} (hb : L b = some (.cells fl c e z)) (hv : c[i]? = some v) :
    ∃ v', w.cell? ⟨m.mu b, i, none⟩ = some v' ∧ VR m v v' := by
  obtain ⟨hd, cs, fz, hco, h1, h2, h3, h4⟩ := h.cells hb
  obtain ⟨v', hv', hr⟩ := h2.get hv
  refine ⟨v', ?_, hr⟩
  have hi : i < c.length := (List.getElem?_eq_some_iff.1 hv).1
  rw [List.getElem?_take, if_pos hi] at hv'
  simp only [World.cell?, hco]
  simpa using hv'

/-- A part of a block's cells. -/
def loadV (P : Program) (h : T AO) (t : TypeId) (a : Value) : Option Value :=
  match a with
  | .pointer (some ⟨b, o, none⟩) => match h.get b with
    | some (.cells _ c _ _) => match isAggT P t with
      | some true => match P.info? t with
        | some i => sel (Nat.ble (o + i.size) c.length) (some (.agg ⟨cellsAt c o i.size⟩)) none
        | none => none
      | some false => c[o]?
      | none => none
    | _ => none
  | _ => none

theorem loadV_sound {h : T AO} (hL : ∀ b o, h.get b = some o → L b = some o) (hr : LR B w0 m L n w) {t : TypeId} {a a' v : Value} (hv : loadV P h t a = some v) (ha : VR m a a') :
    ∃ v', VR m v v' ∧ (Instr.loadAt t a').run P w = .ok v' w := by
  unfold loadV at hv
  split at hv
  · rename_i b o
    obtain ⟨rfl, hd⟩ := ha.inv_ptr
    split at hv
    · rename_i fl c e z hb
      have hb' := hL _ _ hb
      split at hv
      · rename_i hg
        split at hv
        · rename_i i hi
          cases hc : Nat.ble (o + i.size) c.length
          · rw [hc] at hv; cases hv
          · rw [hc, sel_true] at hv; cases hv
            rw [nble, decide_eq_true_eq] at hc
            obtain ⟨_, cs, fz, hco, h1, h2, h3, _⟩ := hr.cells hb'
            have hp := (h2.drop o).take i.size
            have hlen : (cellsAt (cs.toList.take c.length) o i.size).length = i.size := by
              unfold cellsAt; simp; omega
            refine ⟨.agg ⟨cellsAt (cs.toList.take c.length) o i.size⟩, .agg' (fun u hu => h3 u (List.mem_of_mem_drop (List.mem_of_mem_take hu))) hp, ?_⟩
            have hcell : ∀ (j : Nat) u, (cellsAt (cs.toList.take c.length) o i.size)[j]? = some u → w.cell? ((⟨m.mu b, o, none⟩ : Addr).add j) = some u := fun j u hu => by
              rw [addr_add]
              unfold cellsAt at hu
              rw [List.getElem?_take] at hu
              split at hu
              · rw [List.getElem?_drop, List.getElem?_take] at hu
                split at hu
                · simp only [World.cell?, hco]; simpa using hu
                · cases hu
              · cases hu
            have := run_loadCells_list (P := P) (w := w) ⟨m.mu b, o, none⟩ _ hcell
            rw [hlen] at this
            simp only [Instr.loadAt, Instr.sureAddr, loadVar, Sem.run_bind, Sem.run_pure, Result.andThen_ok, isAggT_run hg, if_true, run_sizeOf' hi, this]
        · cases hv
      · rename_i hg
        obtain ⟨v', hv', hvr⟩ := hr.cell hb' hv
        refine ⟨v', hvr, ?_⟩
        simp only [Instr.loadAt, Instr.sureAddr, loadVar, Sem.run_bind, Sem.run_pure, Result.andThen_ok, isAggT_run hg, Bool.false_eq_true, if_false]
        simp only [load, Sem.run, hv']
      · cases hv
    · cases hv
  · cases hv

/-! ### Addresses held against one another -/
def plainB (h : T AO) (b : Nat) : Bool :=
  match h.get b with
  | some (.cells fl _ _ _) => Nat.blt fl 2
  | _ => false
def eqPtr (P : Program) (h : T AO) (t : TypeId) (a b : Value) : Option Bool :=
  match a, b with
  | .pointer (some ⟨b1, o1, none⟩), .pointer (some ⟨b2, o2, none⟩) => match P.underlying t with
    | some (.pointer e) => match P.info? e with
      | some i => sel (Nat.beq i.size 0) none (sel (plainB h b1 && plainB h b2) (some (Nat.beq b1 b2 && Nat.beq o1 o2)) none)
      | none => none
    | _ => none
  | _, _ => none

theorem frozen_plain (hr : LR B w0 m L n w) {b fl : Nat} {c : List Value} {e : TypeId} {z : Nat} (hb : L b = some (.cells fl c e z)) (hf : fl < 2) (o : Nat) :
    w.frozen? ⟨m.mu b, o, none⟩ = false ∧ ∃ k, w.shape? (m.mu b) = some (e, k) := by
  obtain ⟨_, cs, fz, hco, h1, h2, h3, h4⟩ := hr.cells hb
  have := h4 hf
  subst this
  exact ⟨by simp [World.frozen?, hco], cs.size, by simp [World.shape?, hco]⟩

theorem plainB_spec {h : T AO} (hL : ∀ b o, h.get b = some o → L b = some o) {b : Nat} (hp : plainB h b = true) : ∃ fl c e z, L b = some (.cells fl c e z) ∧ fl < 2 := by
  unfold plainB at hp
  split at hp
  · rename_i fl c e z hb
    rw [nblt, decide_eq_true_eq] at hp
    exact ⟨fl, c, e, z, hL _ _ hb, hp⟩
  · cases hp

theorem run_sameAddr {h : T AO} (hL : ∀ b o, h.get b = some o → L b = some o) (hr : LR B w0 m L n w) {b1 b2 o1 o2 : Nat} (h1 : plainB h b1 = true) (h2 : plainB h b2 = true) :
    (sameAddr ⟨m.mu b1, o1, none⟩ ⟨m.mu b2, o2, none⟩).run P w = .ok (Nat.beq b1 b2 && Nat.beq o1 o2) w := by
  obtain ⟨f1, c1, e1, z1, hb1, hf1⟩ := plainB_spec hL h1
  obtain ⟨f2, c2, e2, z2, hb2, hf2⟩ := plainB_spec hL h2
  by_cases hbb : b1 = b2
  · subst hbb
    simp only [sameAddr, beq_self_eq_true, if_true, Sem.run_pure, beq_true rfl, Bool.true_and]
    congr 1
    rw [nbeq, Bool.eq_iff_iff]
    simp
  · have hmu : m.mu b1 ≠ m.mu b2 := fun e => hbb (hr.inj _ _ _ _ hb1 hb2 rfl rfl e)
    have fz1 := fun o => (frozen_plain hr hb1 hf1 o).1
    have fz2 := fun o => (frozen_plain hr hb2 hf2 o).1
    obtain ⟨k1, hs1⟩ := (frozen_plain hr hb1 hf1 0).2
    obtain ⟨k2, hs2⟩ := (frozen_plain hr hb2 hf2 0).2
    have hne : (m.mu b1 == m.mu b2) = false := by simpa using hmu
    rw [beq_false hbb, Bool.false_and]
    simp [sameAddr, hne, frozen, Sem.run, fz1, fz2, noView, viewAt, shape, hs1, hs2, mayBeOne, stringish]

theorem eqPtr_sound {h : T AO} (hL : ∀ b o, h.get b = some o → L b = some o) (hr : LR B w0 m L n w) {t : TypeId} {a b a' b' : Value} {c : Bool} (hv : eqPtr P h t a b = some c) (ha : VR m a a') (hb : VR m b b') :
    (∀ d, (Op.equalIn (d + 1) t a' b').run P w = .ok c w) ∧ ∃ x y, a' = .pointer (some x) ∧ b' = .pointer (some y) := by
  unfold eqPtr at hv
  split at hv
  · rename_i b1 o1 b2 o2
    obtain ⟨rfl, hd1⟩ := ha.inv_ptr
    obtain ⟨rfl, hd2⟩ := hb.inv_ptr
    split at hv
    · rename_i e hu
      split at hv
      · rename_i i hi
        cases hz : Nat.beq i.size 0
        · rw [hz, sel_false] at hv
          rw [nbeq, decide_eq_false_iff_not] at hz
          cases hp : (plainB h b1 && plainB h b2)
          · rw [hp] at hv; cases hv
          · rw [hp, sel_true] at hv; cases hv
            rw [Bool.and_eq_true] at hp
            refine ⟨fun d => ?_, _, _, rfl, rfl⟩
            simp only [Op.equalIn, Sem.run_bind, run_underlying hu, Result.andThen_ok, run_sizeOf' hi, ne_eq, hz, not_false_eq_true, if_true, run_sameAddr hL hr hp.1 hp.2]
        · rw [hz] at hv; cases hv
      · cases hv
    · cases hv
  · cases hv

def eqAddr (P : Program) (h : T AO) (t : TypeId) (a b : Value) : Option Bool :=
  match a, b with
  | .iface x u, .iface y v => sel (isIfaceT P t && Nat.beq x y) (match P.info? x with
    | some i => sel i.comparable (eqPtr P h x u v) none
    | none => none) none
  | _, _ => eqPtr P h t a b

def eqOp (op : BinOp) (c : Bool) : Option Value :=
  match op with
  | .eql => some (.bool c)
  | .neq => some (.bool (!c))
  | _ => none

theorem eqAddr_sound {h : T AO} (hL : ∀ b o, h.get b = some o → L b = some o) (hr : LR B w0 m L n w) {t : TypeId} {a b a' b' v : Value} {c : Bool} {op : BinOp} (hv : eqAddr P h t a b = some c) (ho : eqOp op c = some v) (ha : VR m a a') (hb : VR m b b') (x y : Operand) :
    ∃ v', VR m v v' ∧ (do eqGuard op t x y a' b'; binOp op t a' b').run P w = .ok v' w := by
  have key : ∀ (hg : ∀ w, (eqGuard op t x y a' b').run P w = .ok () w) (he : (Op.equal t a' b').run P w = .ok c w)
      (h1 : binOp .eql t a' b' = (do pure (.bool (← Op.equal t a' b')))) (h2 : binOp .neq t a' b' = (do pure (.bool (!(← Op.equal t a' b'))))),
      ∃ v', VR m v v' ∧ (do eqGuard op t x y a' b'; binOp op t a' b').run P w = .ok v' w := fun hg he h1 h2 => by
    cases op <;> simp only [eqOp, reduceCtorEq, Option.some.injEq] at ho
    · subst ho
      exact ⟨_, .bool _, by rw [Sem.run_bind, hg, Result.andThen_ok, h1, Sem.run_bind, he]; rfl⟩
    · subst ho
      exact ⟨_, .bool _, by rw [Sem.run_bind, hg, Result.andThen_ok, h2, Sem.run_bind, he]; rfl⟩
  unfold eqAddr at hv
  split at hv
  · rename_i tx u ty u2
    cases hi : (isIfaceT P t && Nat.beq tx ty)
    · rw [hi] at hv; cases hv
    · rw [hi, sel_true] at hv
      rw [Bool.and_eq_true, nbeq, decide_eq_true_eq] at hi
      obtain ⟨ms, hu⟩ := isIfaceT_spec hi.1
      obtain ⟨rfl⟩ := hi.2
      split at hv
      · rename_i i hinf
        cases hcmp : i.comparable
        · rw [hcmp] at hv; cases hv
        · rw [hcmp, sel_true] at hv
          obtain ⟨r1, rfl, hr1⟩ := ha.inv_iface
          obtain ⟨r2, rfl, hr2⟩ := hb.inv_iface
          obtain ⟨hrun, _⟩ := eqPtr_sound hL hr hv hr1 hr2
          refine key (guard_other (fun h => by cases h) (fun _ _ h => by cases h)) ?_ rfl rfl
          show (Op.equalIn (9999 + 1) t _ _).run P w = _
          have hrun' : (Op.equalIn 9999 tx r1 r2).run P w = .ok c w := hrun 9998
          generalize 9999 = q at hrun' ⊢
          simp only [Op.equalIn, Sem.run_bind, run_underlying hu, Result.andThen_ok, ne_eq, not_true_eq_false, if_false, run_typeInfo' hinf, hcmp, Bool.not_true, Bool.false_eq_true]
          exact hrun'
      · cases hv
  · obtain ⟨hrun, p, q, rfl, rfl⟩ := eqPtr_sound hL hr hv ha hb
    exact key (guard_other (fun h => by cases h) (fun _ _ h => by cases h)) (hrun 9999) rfl rfl

/-! ### Maps -/
def sameKey : TypeDesc → Value → Value → Option Bool
  | .int _, .int k a, .int k' b => sel (kindEq k k') (some (ieq a b)) none
  | .string, .string a, .string b => some (bsEq a.data.toList b.data.toList)
  | _, _, _ => none
theorem sameKey_spec {d : TypeDesc} {a b : Value} {c : Bool} (h : sameKey d a b = some c) : Instr.sameNow d a b = some c := by
  unfold sameKey at h
  split at h
  · rename_i k a k' b
    cases hk : kindEq k k'
    · rw [hk] at h; cases h
    · rw [hk, sel_true] at h; cases h
      have := kindEq_eq hk
      subst this
      simp only [Instr.sameNow, if_true]
      rw [ieq_eq]; congr 1
  · rename_i a b
    cases h
    simp only [Instr.sameNow, bsEq_eq]
    congr 1
    have e : (a == b) = (a.data == b.data) := by cases a; cases b; rfl
    rw [e, Bool.eq_iff_iff, beq_iff_eq, beq_iff_eq]
    exact ⟨fun h => by rw [h], fun h => by cases a; cases b; simpa using h⟩
  · cases h
def findL (d : TypeDesc) (k : Value) : List (Value × Value × Nat) → Nat → Option (Option (Nat × Value))
  | [], _ => some none
  | e :: es, i => match sameKey d k e.1 with
    | some true => some (some (i, e.2.1))
    | some false => findL d k es (i + 1)
    | none => none
theorem findL_spec {d : TypeDesc} {k : Value} : ∀ {es : List (Value × Value × Nat)} {es' : List MapEntry} {i : Nat} {r : Option (Nat × Value)}, ERs m es es' → findL d k es i = some r →
    ∃ r', Instr.findNow d k es' i = some r' ∧ (match r, r' with | none, none => True | some (j, v), some (j', v') => j' = j ∧ VR m v v' | _, _ => False)
  | [], [], i, r, _, h => by cases h; exact ⟨none, rfl, trivial⟩
  | e :: es, e' :: es', i, r, hr, h => by
    obtain ⟨⟨h1, h2, h3, h4⟩, hr⟩ := hr
    simp only [findL] at h
    simp only [Instr.findNow, h1]
    split at h
    · rename_i hs
      rw [sameKey_spec hs]
      cases h
      exact ⟨_, rfl, rfl, h3⟩
    · rename_i hs
      rw [sameKey_spec hs]
      exact findL_spec hr h
    · cases h

/-- A key that is looked for. -/
def keyOk (P : Program) (kt : TypeId) (k : Value) : Option TypeDesc :=
  match P.underlying kt with
  | some (.int ik) => match k with
    | .int _ _ => some (.int ik)
    | _ => none
  | some .string => match k with
    | .string _ => some .string
    | _ => none
  | _ => none
theorem keyOk_spec {kt : TypeId} {k : Value} {d : TypeDesc} (h : keyOk P kt k = some d) : P.underlying kt = some d ∧ flat 8 k = true ∧ (∀ e w, (Instr.checkKey e 10000 kt k).run P w = .ok () w) := by
  have step : ∀ (dd : TypeDesc), P.underlying kt = some dd → (dd = .string ∨ ∃ ik, dd = .int ik) → ∀ e w, (Instr.checkKey e 10000 kt k).run P w = .ok () w := fun dd hu hd e w => by
    show (Instr.checkKey e (9999 + 1) kt k).run P w = _
    generalize 9999 = q
    rcases hd with rfl | ⟨ik, rfl⟩ <;> simp only [Instr.checkKey, Sem.run_bind, run_underlying hu, Result.andThen_ok] <;> rfl
  unfold keyOk at h
  split at h
  · rename_i ik hu
    split at h
    · cases h; exact ⟨hu, rfl, step _ hu (.inr ⟨ik, rfl⟩)⟩
    · cases h
  · rename_i hu
    split at h
    · cases h; exact ⟨hu, rfl, step _ hu (.inl rfl)⟩
    · cases h
  · cases h

theorem LR.map (h : LR B w0 m L n w) {b : Nat} {es : List (Value × Value × Nat)} {cl : Nat} (hb : L b = some (.map es cl)) : m.dom b ∧ ∃ es', w.heap[m.mu b]? = some (.map es' cl) ∧ ERs m es es'.toList := by
  obtain ⟨hd, co, hco, ho⟩ := h.ok b _ hb rfl
  cases ho with
  | map _ _ es' he => exact ⟨hd, es', hco, he⟩

def lookupV (P : Program) (h : T AO) (t : TypeId) (x k : Value) (ok : Bool) : Option Value :=
  match P.underlying t with
  | some (.map kt et) => match keyOk P kt k with
    | some d => match x with
      | .map none => match zeroV P et with
        | some z => some (sel ok (.tuple ⟨[z, .bool false]⟩) z)
        | none => none
      | .map (some r) => match h.get r with
        | some (.map es _) => match findL d k es 0 with
          | some (some (_, v)) => some (sel ok (.tuple ⟨[v, .bool true]⟩) v)
          | some none => match zeroV P et with
            | some z => some (sel ok (.tuple ⟨[z, .bool false]⟩) z)
            | none => none
          | none => none
        | _ => none
      | _ => none
    | none => none
  | _ => none

theorem lookupV_sound {h : T AO} (hL : ∀ b o, h.get b = some o → L b = some o) (hr : LR B w0 m L n w) {t : TypeId} {x k x' k' v : Value} {ok : Bool} (hv : lookupV P h t x k ok = some v) (hx : VR m x x') (hk : VR m k k') :
    ∃ v', VR m v v' ∧ (Instr.lookup t x' k' ok).run P w = .ok v' w := by
  unfold lookupV at hv
  split at hv
  · rename_i kt et hu
    split at hv
    · rename_i d hd
      obtain ⟨hud, hkf, hck⟩ := keyOk_spec hd
      have := flat_eq m 8 k hkf k' hk
      subst this
      split at hv
      · cases hx
        split at hv
        · rename_i z hz
          cases hv
          obtain ⟨hzf, hzr⟩ := zeroV_spec hz
          have hzv := flat_refl m 8 z hzf
          refine ⟨sel ok (.tuple ⟨[z, .bool false]⟩) z, ?_, ?_⟩
          · cases ok
            · exact hzv
            · exact .tuple' (.cons hzv (.cons (.bool false) .nil))
          · simp only [Instr.lookup, Sem.run_bind, run_underlying hu, Result.andThen_ok, Sem.run_pure, hck, Instr.findKey, run_underlying hud, Instr.findNow, hzr]
            cases ok <;> rfl
        · cases hv
      · rename_i r
        obtain ⟨rfl, hdr⟩ := hx.inv_map
        split at hv
        · rename_i es cl hb
          obtain ⟨_, es', hco, hes⟩ := hr.map (hL _ _ hb)
          have hget : (getObj (m.mu r)).run P w = .ok (.map es' cl) w := by simp [getObj, Sem.run, hco]
          split at hv
          · rename_i j u hf
            cases hv
            obtain ⟨r', hf', hm⟩ := findL_spec hes hf
            cases r' with
            | none => exact hm.elim
            | some q =>
              obtain ⟨j', u'⟩ := q
              obtain ⟨_, hu'⟩ := hm
              refine ⟨sel ok (.tuple ⟨[u', .bool true]⟩) u', ?_, ?_⟩
              · cases ok
                · exact hu'
                · exact .tuple' (.cons hu' (.cons (.bool true) .nil))
              · simp only [Instr.lookup, Sem.run_bind, run_underlying hu, Result.andThen_ok, hget, Sem.run_pure, hck, Instr.findKey, run_underlying hud, hf']
                cases ok <;> rfl
          · rename_i hf
            obtain ⟨r', hf', hm⟩ := findL_spec hes hf
            cases r' with
            | some q => exact hm.elim
            | none =>
              split at hv
              · rename_i z hz
                cases hv
                obtain ⟨hzf, hzr⟩ := zeroV_spec hz
                have hzv := flat_refl m 8 z hzf
                refine ⟨sel ok (.tuple ⟨[z, .bool false]⟩) z, ?_, ?_⟩
                · cases ok
                  · exact hzv
                  · exact .tuple' (.cons hzv (.cons (.bool false) .nil))
                · simp only [Instr.lookup, Sem.run_bind, run_underlying hu, Result.andThen_ok, hget, Sem.run_pure, hck, Instr.findKey, run_underlying hud, hf', hzr]
                  cases ok <;> rfl
              · cases hv
          · cases hv
        · cases hv
      · cases hv
    · cases hv
  · cases hv

def lenMapV (P : Program) (h : T AO) (t : TypeId) (x : Value) : Option Value :=
  match P.underlying t with
  | some (.map _ _) => match x with
    | .map none => some (.int .i64 (.ofNat 0))
    | .map (some r) => match h.get r with
      | some (.map es _) => some (.int .i64 (.ofNat es.length))
      | _ => none
    | _ => none
  | _ => none
theorem lenMapV_sound {h : T AO} (hL : ∀ b o, h.get b = some o → L b = some o) (hr : LR B w0 m L n w) {t ty : TypeId} {x x' v : Value} (hv : lenMapV P h t x = some v) (hx : VR m x x') :
    ∃ v', VR m v v' ∧ (Builtin.len_ #[t] ty #[x']).run P w = .ok v' w := by
  unfold lenMapV at hv
  split at hv
  · rename_i kt et hu
    split at hv
    · cases hx; cases hv
      exact ⟨_, .int _ _, by simp [Builtin.len_, run_underlying hu, goInt]⟩
    · rename_i r
      obtain ⟨rfl, hdr⟩ := hx.inv_map
      split at hv
      · rename_i es cl hb
        cases hv
        obtain ⟨_, es', hco, hes⟩ := hr.map (hL _ _ hb)
        have hget : (getObj (m.mu r)).run P w = .ok (.map es' cl) w := by simp [getObj, Sem.run, hco]
        refine ⟨_, .int _ _, ?_⟩
        have hl := hes.length
        simp [Builtin.len_, run_underlying hu, goInt, hget, hl]
      · cases hv
    · cases hv
  · cases hv

/-- A slice whose capacity the tape gave, sliced beyond its length: as far as its block's known cells. -/
def sliceRV (P : Program) (h : T AO) (t : TypeId) (x : Value) (lo hi mx : Option Value) : Option Value :=
  match P.underlying t with
  | some (.slice e) => match x, P.info? e, mx with
    | .slice (some ⟨b, o, none⟩) len cap, some inf, none => match h.get b with
      | some (.cells 1 c _ z) =>
        sel (Nat.beq cap (sent + inf.size) && Nat.blt o sent && Nat.blt 0 inf.size && Nat.beq z inf.size && Nat.ble (o + len * inf.size) c.length)
          (match bounds len ((c.length - o) / inf.size) lo hi none with
          | some (l, h, _) => some (.slice (some ⟨b, sel (Nat.beq l 0) o (sel (Nat.blt l ((c.length - o) / inf.size)) (o + l * inf.size) badOff), none⟩) (h - l) cap)
          | none => none) none
      | _ => none
    | _, _, _ => none
  | _ => none

theorem sliceRV_sound {h : T AO} (hL : ∀ b o, h.get b = some o → L b = some o) (hr : LR B w0 m L n w) {t : TypeId} {x x' v : Value} {lo hi mx lo' hi' mx' : Option Value} (hs : sliceRV P h t x lo hi mx = some v) (hx : VR m x x') (hlo : OVR m lo lo') (hhi : OVR m hi hi') (hmx : OVR m mx mx') :
    Yd P m v (Instr.sliceAt t x' lo' hi' mx') := by
  unfold sliceRV at hs
  split at hs
  · rename_i e hu
    split at hs
    · rename_i b o len cap inf hinf
      cases mx' with
      | some _ => exact hmx.elim
      | none =>
      split at hs
      · rename_i c e' z hb
        cases hk : (Nat.beq cap (sent + inf.size) && Nat.blt o sent && Nat.blt 0 inf.size && Nat.beq z inf.size && Nat.ble (o + len * inf.size) c.length)
        · rw [hk] at hs; cases hs
        · rw [hk, sel_true] at hs
          simp only [Bool.and_eq_true, nbeq, nblt, nble, decide_eq_true_eq] at hk
          obtain ⟨⟨⟨⟨hk1, hk2⟩, hk3⟩, hk4⟩, hk5⟩ := hk
          obtain ⟨hd, cap', rfl, _, hcase⟩ := inv_slice hx hk2
          rcases hcase with ⟨hlt, _⟩ | ⟨he, hlc, hK⟩
          · omega
          · have hes : m.esz b = inf.size := by omega
            have hcl : c.length ≤ m.cap b := by
              obtain ⟨_, co, _, hor⟩ := hr.ok b _ (hL _ _ hb) rfl
              cases hor with
              | opn _ _ cs _ hl hc _ _ => omega
            have hKc : (c.length - o) / inf.size ≤ cap' := by
              refine Nat.div_le_of_le_mul ?_
              rw [Nat.mul_comm]
              rw [hes] at hK
              omega
            split at hs
            · rename_i l h' q hbd
              cases hs
              obtain ⟨h1, h2, h3, h4, h5, h6⟩ := bounds_spec (P := P) (mx' := none) hbd hlo hhi trivial
              have hh' : h' ≤ cap' := by rcases h4 with h4 | h4 <;> omega
              have h6' : ∀ w, (Instr.sliceBounds true len cap' lo' hi' none).run P w = .ok (l, h', cap') w := fun w => by
                have := h6 cap' hKc true w
                simpa using this
              have hrun : ∀ w, (Instr.sliceAt t (.slice (some ⟨m.mu b, o, none⟩) len cap') lo' hi' none).run P w = .ok (.slice (some ⟨m.mu b, sel (Nat.beq cap' l) o (o + l * inf.size), none⟩) (h' - l) (cap' - l)) w := fun w => by
                simp only [Instr.sliceAt, Instr.slice, Sem.run_bind, run_underlying hu, Result.andThen_ok, h6', run_sizeOf' hinf, Sem.run_pure, sel_addr']
              refine ⟨_, ?_, hrun⟩
              rw [he]
              have hmul : o + l * inf.size + (cap' - l) * m.esz b = m.cap b := by
                have h7 : l * inf.size ≤ cap' * inf.size := Nat.mul_le_mul_right _ (by omega)
                have h8 := Nat.sub_mul cap' l inf.size
                rw [hes] at hK ⊢
                omega
              by_cases hl0 : l = 0
              · subst hl0
                rw [beq_true rfl, sel_true]
                have : sel (Nat.beq cap' 0) o (o + 0 * inf.size) = o := by cases Nat.beq cap' 0 <;> simp
                rw [this]
                exact .slo b o o _ _ hd (fun _ => ⟨rfl, by simpa using hK⟩) (by omega)
              · rw [beq_false hl0, sel_false]
                by_cases hll : l < (c.length - o) / inf.size
                · have e1 : Nat.blt l ((c.length - o) / inf.size) = true := by rw [nblt]; exact decide_eq_true hll
                  rw [e1, sel_true, beq_false (show cap' ≠ l by omega), sel_false]
                  exact .slo b _ _ _ _ hd (fun _ => ⟨rfl, hmul⟩) (by omega)
                · have e1 : Nat.blt l ((c.length - o) / inf.size) = false := by rw [nblt]; exact decide_eq_false hll
                  rw [e1, sel_false]
                  exact .slo b badOff _ _ _ hd (fun h => absurd rfl h) (by omega)
            · cases hs
      · cases hs
    · cases hs
  · cases hs

/-- An operation that looks at the world and leaves it. -/
def readV (P : Program) (h : T AO) (ev : Operand → Option Value) (o : Oper) : Option Value :=
  match o.op with
  | .load t x => match ev x with
    | some a => loadV P h t a
    | none => none
  | .binOp op xt x y _ => match ev x, ev y with
    | some a, some b => match eqAddr P h xt a b with
      | some c => eqOp op c
      | none => none
    | _, _ => none
  | .lookup t x i ok => match ev x, ev i with
    | some a, some b => lookupV P h t a b ok
    | _, _ => none
  | .slice t x lo hi mx => match ev x, evo ev lo, evo ev hi, evo ev mx with
    | some a, some l, some h', some q => sliceRV P h t a l h' q
    | _, _, _, _ => none
  | .call c => match c.callee with
    | .builtin .len => match c.argTypes.toList, c.args.toList with
      | [t], [x] => match ev x with
        | some a => lenMapV P h t a
        | none => none
      | _, _ => none
    | _ => none
  | _ => none

theorem readV_sound {h : T AO} (hL : ∀ b o, h.get b = some o → L b = some o) (hr : LR B w0 m L n w) {ev : Operand → Option Value} {ρ : Operand → Value} (he : EvR m ev ρ) {o : Oper} {v : Value} (hv : readV P h ev o = some v) :
    ∃ v', VR m v v' ∧ (execOp ρ o).run P w = .ok (.value v') w := by
  have val : ∀ {s : Sem Value}, (∃ v', VR m v v' ∧ s.run P w = .ok v' w) → ∃ v', VR m v v' ∧ (s >>= fun u => (Pure.pure (Next.value u) : Sem Next)).run P w = .ok (Next.value v') w := fun ⟨v', h1, h2⟩ =>
    ⟨v', h1, by rw [Sem.run_bind, h2]; rfl⟩
  obtain ⟨dst, op, ty, pos, after, guard⟩ := o
  cases op <;> simp only [readV] at hv <;> simp only [execOp]
  case load t x =>
    split at hv
    · rename_i a ha; exact val (loadV_sound hL hr hv (he _ _ ha))
    · cases hv
  case binOp op xt x y yt =>
    split at hv
    · rename_i a b ha hb
      split at hv
      · rename_i c hc
        exact val (eqAddr_sound hL hr hc hv (he _ _ ha) (he _ _ hb) x y)
      · cases hv
    · cases hv
  case lookup t x i ok =>
    split at hv
    · rename_i a b ha hb; exact val (lookupV_sound hL hr hv (he _ _ ha) (he _ _ hb))
    · cases hv
  case slice t x lo hi mx =>
    split at hv
    · rename_i a l h' q ha hl hh hq
      obtain ⟨v', h1, h2⟩ := sliceRV_sound hL hr hv (he _ _ ha) (evo_sound he hl) (evo_sound he hh) (evo_sound he hq)
      exact val ⟨v', h1, h2 w⟩
    · cases hv
  case call c =>
    split at hv
    · rename_i hc
      split at hv
      · rename_i t x ht hx
        split at hv
        · rename_i a ha
          have e : c.argTypes = #[t] := by apply Array.ext'; simpa using ht
          have e2 : c.args.map ρ = #[ρ x] := by apply Array.ext'; simp [hx]
          rw [resolve_builtin ρ c ty _ hc, pure_bind]
          show ∃ v', VR m v v' ∧ (Builtin.len_ c.argTypes ty (c.args.map ρ) >>= fun u => (Pure.pure (Next.value u) : Sem Next)).run P w = .ok (Next.value v') w
          rw [e, e2]
          exact val (lenMapV_sound hL hr hv (he _ _ ha))
        · cases hv
      · cases hv
    · cases hv
  all_goals cases hv

end
end Go.Ex

/- Operations that make a block. -/
namespace Go.Ex
noncomputable section

variable {P : Program} {m : Mp} {B : Nat} {w0 w : World} {L : Nat → Option AO} {n : Nat}

/-- The cells of many zero values. -/
def genZ (zc : List Value) (k : Nat) : List Value := (List.range k).map fun i => zc.getD (i % zc.length) default
theorem genZ_eq (z : Array Value) (k : Nat) : ((Array.range k).map (z[· % z.size]!)) = ⟨genZ z.toList k⟩ := by
  apply Array.ext'
  simp only [Array.toList_map, Array.toList_range, genZ]
  apply List.map_congr_left
  intro i _
  simp [getElem!_def, List.getD]
  rcases h : z[i % z.size]? with _ | v <;> simp
theorem genZ_refl {z : Value} (hf : flat 8 z = true) (hn : noTuple z = true) (k : Nat) : VRs m (genZ z.cells.toList k) (genZ z.cells.toList k) ∧ ∀ v ∈ genZ z.cells.toList k, atom v = true := by
  have hz : VRs m z.cells.toList z.cells.toList := (flat_refl m 8 z hf).cells
  have ha := flat_cells_atom hf hn
  have key : ∀ v ∈ genZ z.cells.toList k, VR m v v ∧ atom v = true := fun v hv => by
    simp only [genZ, List.mem_map] at hv
    obtain ⟨i, _, rfl⟩ := hv
    simp only [List.getD]
    rcases h : z.cells.toList[i % z.cells.toList.length]? with _ | u
    · exact ⟨.bool _, rfl⟩
    · exact ⟨hz.get2 h h, ha u (List.mem_of_getElem? h)⟩
  exact ⟨VRs.refl_of fun v hv => (key v hv).1, fun v hv => (key v hv).2⟩

/-- A new block and what is handed back. -/
def allocV (P : Program) (ev : Operand → Option Value) (o : Oper) : Option (AO × (Nat → Value)) :=
  match o.op with
  | .alloc e => match zeroV P e with
    | some z => sel (noTuple z) (some (.cells 0 z.cells.toList e 0, fun r => .pointer (some ⟨r, 0, none⟩))) none
    | none => none
  | .box e x => match ev x with
    | some v => sel (noTuple v) (some (.cells 0 v.cells.toList e 0, fun r => .pointer (some ⟨r, 0, none⟩))) none
    | none => none
  | .buildSlice t len ps => match P.underlying t with
    | some (.slice e) => match P.info? e, zeroV P e, evps ev ps.toList with
      | some i, some z, some l => sel (Nat.beq (len * i.size) 0) (match l with
        | [] => sel (Nat.blt len sent) (some (.cells 0 [] e 0, fun r => .slice (some ⟨r, 0, none⟩) len len)) none
        | _ => none) (sel (Nat.blt 0 (len * i.size) && Nat.ble (len * i.size) 16777216 && Nat.blt len sent && noTuple z)
          (match fillL (fun j => some (j * i.size, i.size)) l (genZ z.cells.toList (len * i.size)) with
          | some cs => some (.cells 0 cs e 0, fun r => .slice (some ⟨r, 0, none⟩) len len)
          | none => none) none)
      | _, _, _ => none
    | _ => none
  | .makeMap _ none => some (.map [] 0, fun r => .map (some r))
  | .makeSlice t ln cp => match P.underlying t with
    | some (.slice e) => match P.info? e, zeroV P e, ev ln, ev cp with
      | some i, some z, some (.int .i64 (.ofNat l)), some (.int .i64 (.ofNat c)) => sel (Nat.ble l c && Nat.ble (i.bytes * c) 1099511627776 && Nat.blt c 1099511627776 && noTuple z && Nat.blt 0 i.size)
          (some (.cells 0 (sel (Nat.beq (c * i.size) 0) [] (genZ z.cells.toList (c * i.size))) e 0, fun r => .slice (some ⟨r, 0, none⟩) l c)) none
      | _, _, _, _ => none
    | _ => none
  | _ => none

theorem run_newRow (e : TypeId) (cs : Array Value) (w : World) : (newRow e cs).run P w = .ok ⟨w.heap.size, 0, none⟩ (w.alloc (.cells cs e)) := by
  simp [newRow, newObj, Sem.run]

theorem allocV_sound {ev : Operand → Option Value} {ρ : Operand → Value} (he : EvR m ev ρ) {o : Oper} {ao : AO} {f : Nat → Value} (hv : allocV P ev o = some (ao, f)) :
    ao.live = true ∧ ao.rw = true ∧ ∃ co, (∀ w, (execOp ρ o).run P w = .ok (.value (f w.heap.size)) (w.alloc co)) ∧ (∀ m' r, m.le m' → OR m' r ao co) ∧ (∀ m' r, m'.dom r → VR m' (f r) (f (m'.mu r))) := by
  obtain ⟨dst, op, ty, pos, after, guard⟩ := o
  cases op <;> simp only [allocV] at hv <;> simp only [execOp]
  case alloc e =>
    split at hv
    · rename_i z hz
      obtain ⟨hzf, hzr⟩ := zeroV_spec hz
      cases hn : noTuple z
      · rw [hn] at hv; cases hv
      · rw [hn, sel_true] at hv; cases hv
        refine ⟨rfl, rfl, .cells z.cells e, fun w => ?_, fun m' r hm => ?_, fun m' r hr => .ptr r 0 hr⟩
        · simp only [Instr.alloc, newVar, Sem.run_bind, hzr, Result.andThen_ok, run_newRow, Sem.run_pure]
        · exact .closed _ _ _ _ ((flat_refl m' 8 z hzf).cells) (flat_cells_atom hzf hn)
    · cases hv
  case box e x =>
    split at hv
    · rename_i v hx
      cases hn : noTuple v
      · rw [hn] at hv; cases hv
      · rw [hn, sel_true] at hv; cases hv
        have hr := he _ _ hx
        refine ⟨rfl, rfl, .cells (ρ x).cells e, fun w => ?_, fun m' r hm => ?_, fun m' r hr => .ptr r 0 hr⟩
        · simp only [Instr.box, newVar, Sem.run_bind, Result.andThen_ok, run_newRow, Sem.run_pure]
        · exact .closed _ _ _ _ (hr.mono hm).cells (cells_atom hr hn)
    · cases hv
  case buildSlice t len ps =>
    split at hv
    · rename_i e hu
      split at hv
      · rename_i i z l hi hz hl
        by_cases h00 : len * i.size = 0
        · rw [beq_true h00, sel_true] at hv
          split at hv
          · cases hls : Nat.blt len sent
            · rw [hls] at hv; cases hv
            · rw [hls, sel_true] at hv; cases hv
              rw [nblt, decide_eq_true_eq] at hls
              have hps := (evps_sound he hl)
              have ep : (ps.map fun x => (x.1, ρ x.2)).toList = [] := by
                have e1 : (ps.map fun x => (x.1, ρ x.2)).toList = ps.toList.map fun x => (x.1, ρ x.2) := by simp
                rw [e1]
                cases hq : ps.toList.map fun x => (x.1, ρ x.2) with
                | nil => rfl
                | cons a r => rw [hq] at hps; exact hps.elim
              refine ⟨rfl, rfl, .cells #[] e, fun w => ?_, fun m' r hm => .closed _ _ _ _ trivial (fun _ h => absurd h List.not_mem_nil), fun m' r hr => .sl r 0 len len hr hls⟩
              have h1 : ¬ ((0 : Nat) > 2 ^ 24) := by omega
              have h2 : (Array.map (fun x => (#[] : Array Value)[x % (#[] : Array Value).size]!) (Array.range 0)) = #[] := by simp
              simp only [Instr.buildSlice, Sem.run_bind, run_underlying hu, Result.andThen_ok, run_sizeOf' hi, h00, h1, if_true, if_false, Sem.run_pure, ep, Instr.fill, h2, run_newRow]
          · cases hv
        rw [beq_false h00, sel_false] at hv
        cases hb : (Nat.blt 0 (len * i.size) && Nat.ble (len * i.size) 16777216 && Nat.blt len sent && noTuple z)
        · rw [hb] at hv; cases hv
        · rw [hb, sel_true] at hv
          rw [Bool.and_eq_true, Bool.and_eq_true, Bool.and_eq_true, nblt, nble, nblt, decide_eq_true_eq, decide_eq_true_eq, decide_eq_true_eq] at hb
          obtain ⟨⟨⟨hb1, hb2⟩, hb3⟩, hb4⟩ := hb
          obtain ⟨hzf, hzr⟩ := zeroV_spec hz
          split at hv
          · rename_i cs hcs
            cases hv
            obtain ⟨hgz, hga⟩ := genZ_refl (m := m) hzf hb4 (len * i.size)
            obtain ⟨out, ho, hr, ha, _⟩ := fillL_sound hcs (evps_sound he hl) hgz hga
            refine ⟨rfl, rfl, .cells ⟨out⟩ e, fun w => ?_, fun m' r hm => .closed _ _ _ _ (hr.mono hm) ha, fun m' r hr => .sl r 0 len len hr hb3⟩
            have h1 : ¬ len * i.size > 2 ^ 24 := by omega
            have h2 : ¬ len * i.size = 0 := by omega
            have ep : (ps.map fun x => (x.1, ρ x.2)).toList = ps.toList.map fun x => (x.1, ρ x.2) := by simp
            simp only [Instr.buildSlice, Sem.run_bind, run_underlying hu, Result.andThen_ok, run_sizeOf' hi, h1, h2, if_false, hzr, Sem.run_pure, genZ_eq, ep, ho, run_newRow]
          · cases hv
      · cases hv
    · cases hv
  case makeMap t r =>
    cases r with
    | some x => cases hv
    | none =>
      simp only [Option.some.injEq, Prod.mk.injEq] at hv
      obtain ⟨rfl, rfl⟩ := hv
      exact ⟨rfl, rfl, .map #[] 0, fun w => by simp [Instr.makeMap, newObj, Sem.run], fun m' r hm => .map [] 0 #[] trivial, fun m' r hr => .map r hr⟩
  case makeSlice t ln cp =>
    split at hv
    · rename_i e hu
      split at hv
      · rename_i i z l c hi hz hl hc
        cases hb : (Nat.ble l c && Nat.ble (i.bytes * c) 1099511627776 && Nat.blt c 1099511627776 && noTuple z && Nat.blt 0 i.size)
        · rw [hb] at hv; cases hv
        · rw [hb, sel_true] at hv; cases hv
          rw [Bool.and_eq_true, Bool.and_eq_true, Bool.and_eq_true, Bool.and_eq_true, nble, nble, nblt, nblt, decide_eq_true_eq, decide_eq_true_eq, decide_eq_true_eq, decide_eq_true_eq] at hb
          obtain ⟨⟨⟨⟨hb1, hb2⟩, hb3⟩, hb4⟩, hb5⟩ := hb
          obtain ⟨hzf, hzr⟩ := zeroV_spec hz
          have e1 := (he _ _ hl).inv_int
          have e2 := (he _ _ hc).inv_int
          have hw1 : IntKind.i64.wrap (Int.ofNat l) = Int.ofNat l := wrap_small .i64 l (by simp only [half]; omega)
          have hw2 : IntKind.i64.wrap (Int.ofNat c) = Int.ofNat c := wrap_small .i64 c (by simp only [half]; omega)
          refine ⟨rfl, rfl, .cells ⟨sel (Nat.beq (c * i.size) 0) [] (genZ z.cells.toList (c * i.size))⟩ e, fun w => ?_, fun m' r hm => ?_, fun m' r hr => .sl r 0 l c hr (by unfold sent; omega)⟩
          · have t1 : ¬ ((i.bytes : Int) * Int.ofNat c > 2 ^ 48) := by
              have : ((i.bytes : Int) * Int.ofNat c) = ((i.bytes * c : Nat) : Int) := by simp
              rw [this]; omega
            have t2 : ¬ ((Int.ofNat c : Int) < 0) := by simp
            have t3 : ¬ ((Int.ofNat l : Int) < 0) := by simp
            have t4 : ¬ ((Int.ofNat l : Int) > Int.ofNat c) := by simp; omega
            have t5 : ¬ (c * i.bytes > roomBytes) := by
              have : c * i.bytes = i.bytes * c := Nat.mul_comm _ _
              rw [this]; unfold roomBytes; omega
            have hcond : ((decide ((Int.ofNat c : Int) < 0) || decide ((i.bytes : Int) * Int.ofNat c > 2 ^ 48) || decide ((Int.ofNat l : Int) < 0)) || decide ((Int.ofNat l : Int) > Int.ofNat c)) = false := by
              simp only [t1, t2, t3, t4, decide_false, Bool.or_false]
            have hto : (Int.ofNat c).toNat = c := rfl
            have hto2 : (Int.ofNat l).toNat = l := rfl
            by_cases h0 : c * i.size = 0
            · simp only [Instr.makeSlice, e1, e2, asInt, asIntOf, Sem.run_bind, run_underlying hu, Result.andThen_ok, Sem.run_pure, run_typeInfo' hi, hw1, hw2, hcond, Bool.false_eq_true, if_false, hto, hto2, askRoom, t5, run_sizeOf' hi, h0, if_true, run_newRow]
              rw [genZ_eq]; rfl
            · simp only [Instr.makeSlice, e1, e2, asInt, asIntOf, Sem.run_bind, run_underlying hu, Result.andThen_ok, Sem.run_pure, run_typeInfo' hi, hw1, hw2, hcond, Bool.false_eq_true, if_false, hto, hto2, askRoom, t5, run_sizeOf' hi, h0, hzr, genZ_eq, beq_false h0, sel_false, run_newRow]
          · by_cases h0 : c * i.size = 0
            · rw [beq_true h0, sel_true]; exact .closed _ _ _ _ trivial (fun _ h => by cases h)
            · rw [beq_false h0, sel_false]
              obtain ⟨hgz, hga⟩ := genZ_refl (m := m') hzf hb4 (c * i.size)
              exact .closed _ _ _ _ hgz hga
      · cases hv
    · cases hv
  all_goals cases hv

end
end Go.Ex

/- Operations that write. -/
namespace Go.Ex
noncomputable section

variable {P : Program} {m : Mp} {B : Nat} {w0 w w' : World} {n : Nat} {h : T AO} {X : Nat → Option AO}

/-- A heap over a frame. -/
def ov (h : T AO) (X : Nat → Option AO) : Nat → Option AO := fun b => match h.get b with | some o => some o | none => X b
theorem ov_some {b : Nat} {o : AO} (e : h.get b = some o) : ov h X b = some o := by unfold ov; rw [e]
theorem ov_none {b : Nat} (e : h.get b = none) : ov h X b = X b := by unfold ov; rw [e]

structure HR (B : Nat) (w0 : World) (m : Mp) (h : T AO) (X : Nat → Option AO) (n : Nat) (w : World) : Prop where
  lr : LR B w0 m (ov h X) n w
  apart : ∀ b o, X b = some o → h.get b = none

theorem HR.sub (_hr : HR B w0 m h X n w) : ∀ b o, h.get b = some o → ov h X b = some o := fun _ _ e => ov_some e

theorem ov_set {b : Nat} {o : AO} (hX : X b = none ∨ ∃ o', h.get b = some o') : ∀ x, ov (T.set (some o) h b) X x = upd (ov h X) b o x := by
  intro x
  unfold ov upd
  rw [T.get_set]
  by_cases e : x = b <;> simp [e]

theorem HR.set (hr : HR B w0 m h X n w) {b : Nat} {o o' : AO} (hb : h.get b = some o) {m' : Mp} {n' : Nat} (hl : LR B w0 m' (upd (ov h X) b o') n' w') : HR B w0 m' (T.set (some o') h b) X n' w' where
  lr := hl.congr (ov_set (.inr ⟨o, hb⟩))
  apart := fun x y hx => by
    rw [T.get_set]
    have := hr.apart x y hx
    by_cases e : x = b
    · subst e; rw [hb] at this; cases this
    · rw [if_neg e]; exact this

theorem HR.fresh (hr : HR B w0 m h X n w) : h.get n = none ∧ X n = none ∧ ov h X n = none ∧ ¬ m.dom n := by
  have h0 : ov h X n = none := by
    cases e : ov h X n with
    | none => rfl
    | some o => exact absurd (hr.lr.lt n o e) (Nat.lt_irrefl n)
  have h1 : h.get n = none := by
    cases e : h.get n with
    | none => rfl
    | some o => rw [ov_some e] at h0; cases h0
  exact ⟨h1, by rw [ov_none h1] at h0; exact h0, h0, fun hd => absurd (hr.lr.dom n hd) (Nat.lt_irrefl n)⟩

theorem HR.new (hr : HR B w0 m h X n w) {o : AO} {m' : Mp} {n' : Nat} (hl : LR B w0 m' (upd (ov h X) n o) n' w') : HR B w0 m' (T.set (some o) h n) X n' w' where
  lr := hl.congr (ov_set (.inl hr.fresh.2.1))
  apart := fun x y hx => by
    rw [T.get_set]
    by_cases e : x = n
    · subst e; rw [hr.fresh.2.1] at hx; cases hx
    · rw [if_neg e]; exact hr.apart x y hx

theorem HR.same (hr : HR B w0 m h X n w) (k : Same w w') : HR B w0 m h X n w' := ⟨hr.lr.same k, hr.apart⟩

theorem HR.alloc (hr : HR B w0 m h X n w) (cap esz : Nat) {o : AO} {co : Obj} (hor : OR (m.ext n w.heap.size cap esz) n o co) :
    HR B w0 (m.ext n w.heap.size cap esz) (T.set (some o) h n) X (n + 1) (w.alloc co) :=
  hr.new (hr.lr.alloc hr.fresh.2.2.2 hr.fresh.2.2.1 (Nat.le_succ n) (Nat.lt_succ_self n) cap esz hor)

/-! ### Lists handed on when they are made -/
def forceN {β : Type} (n : Nat) (c : Nat → β) : β := Nat.rec (motive := fun _ => β) (c 0) (fun k _ => c (Nat.succ k)) n
theorem forceN_eq {β : Type} (n : Nat) (c : Nat → β) : forceN n c = c n := by cases n <;> rfl
def forceL {α β : Type} (l : List α) : (List α → β) → β := List.rec (motive := fun _ => (List α → β) → β) (fun c => c []) (fun a _ ih c => ih fun r => c (a :: r)) l
theorem forceL_eq {α β : Type} (l : List α) : ∀ c : List α → β, forceL l c = c l := by
  induction l with
  | nil => intro c; rfl
  | cons a l ih => intro c; exact ih _

/-! ### Cells -/
theorem oneCell_atom (v : Value) : v.oneCell' = atom v := by cases v <;> rfl

theorem upd_setRow {g : Nat} {cur new : Array Value} {t : TypeId} (hg : w.heap[g]? = some (.cells cur t (0, 0))) : Upd w (w.setRow g new) g (.cells new t (0, 0)) where
  at_ := setRow_heap w g cur new t _ hg
  other := fun j hj => setRow_other w g j new hj
  size := by simp
  os := rfl
  tape := rfl
  output := rfl

theorem HR.write (hr : HR B w0 m h X n w) {b fl : Nat} {c vs vs' : List Value} {e : TypeId} {z o : Nat} (hb : h.get b = some (.cells fl c e z)) (hf : fl < 2) (hv : VRs m vs vs') (ha : ∀ v ∈ vs, atom v = true)
    (hlen : o + vs.length ≤ c.length) : ∃ w', (storeCells ⟨m.mu b, o, none⟩ vs').run P w = .ok () w' ∧ HR B w0 m (T.set (some (.cells fl (splice c o vs) e z)) h b) X n w' := by
  have hb' := ov_some (X := X) hb
  obtain ⟨hd, co, hco, hor⟩ := hr.lr.ok b _ hb' rfl
  have hl := hv.length
  have hat : ∀ v ∈ vs', v.oneCell' = true := fun v hv' => by
    obtain ⟨i, hi⟩ := List.getElem?_of_mem hv'
    have : ∃ u, vs[i]? = some u := by
      have hlt := (List.getElem?_eq_some_iff.1 hi).1
      exact ⟨_, List.getElem?_eq_getElem (by omega)⟩
    obtain ⟨u, hu⟩ := this
    rw [oneCell_atom, (hv.get2 hu hi).atom_eq]
    exact ha u (List.mem_of_getElem? hu)
  have hspl : ∀ v ∈ splice c o vs, v ∈ c ∨ v ∈ vs := fun v hv' => by
    simp only [splice, List.mem_append] at hv'
    rcases hv' with hv' | hv' | hv'
    · exact .inl (List.mem_of_mem_take hv')
    · exact .inr hv'
    · exact .inl (List.mem_of_mem_drop hv')
  cases hor with
  | closed _ _ _ cs hcs hac =>
    have hcl := hcs.length
    have hst := run_storeCells_at P (m.mu b) o e vs' 0 cs w hco (by simp at hcl; omega) hat
    refine ⟨_, hst, hr.set hb (hr.lr.upd hb' rfl (by simp [AO.rw]) (upd_setRow hco) ?_)⟩
    refine .closed _ _ _ _ ?_ (fun v hv' => (hspl v hv').elim (hac v) (ha v))
    have := hcs.splice (off := o) hv
    simpa [splice] using this
  | opn _ _ cs hcs hle hcap hez hac =>
    have hst := run_storeCells_at P (m.mu b) o e vs' 0 cs w hco (by omega) hat
    refine ⟨_, hst, hr.set hb (hr.lr.upd hb' rfl (by simp [AO.rw]) (upd_setRow hco) ?_)⟩
    have hlsp : (splice c o vs).length = c.length := by simp [splice]; omega
    refine .opn _ _ _ ?_ ?_ ?_ hez (fun v hv' => (hspl v hv').elim (hac v) (ha v))
    · rw [hlsp]
      have := hcs.splice (off := o) hv
      have e2 : splice (cs.toList.take c.length) o vs' = (cs.toList.take (o + 0) ++ vs' ++ cs.toList.drop (o + 0 + vs'.length)).take c.length := by
        apply List.ext_getElem?
        intro i
        simp only [splice, Nat.add_zero, List.getElem?_append, List.length_take, Array.length_toList, List.getElem?_take, List.getElem?_drop, List.length_append]
        rw [← hl]
        by_cases h1 : i < o
        · have a1 : i < min o (min c.length cs.size) := by omega
          have a2 : i < min o cs.size := by omega
          have a3 : i < c.length := by omega
          simp [a1, a2, a3, h1]
          intro; omega
        · by_cases h2 : i < o + vs.length
          · have a1 : ¬ i < min o (min c.length cs.size) := by omega
            have a2 : ¬ i < min o cs.size := by omega
            have a3 : i < c.length := by omega
            have a4 : min o (min c.length cs.size) = o := by omega
            have a5 : min o cs.size = o := by omega
            have a6 : i - o < vs.length := by omega
            have a7 : i < o + vs.length := h2
            simp [a3, a4, a5, a6, a7, h1]
          · have a4 : min o (min c.length cs.size) = o := by omega
            have a5 : min o cs.size = o := by omega
            have a6 : ¬ i - o < vs.length := by omega
            have a7 : ¬ i < o + vs.length := h2
            have a8 : o + vs.length + (i - o - vs.length) = i := by omega
            have a9 : o + vs.length + (i - (o + vs.length)) = i := by omega
            simp [a4, a5, a6, a7, a8, a9, h1]
      rw [← e2]; exact this
    · rw [hlsp]; simp; omega
    · simp; omega
  | ro => omega

/-! ### What an operation that writes comes to -/
/-- The operation comes to a value (or to none: then to 'undef'). -/
def Ran (P : Program) (s : Sem Next) (w : World) (v : Value) (w' : World) : Prop := s.run P w = .ok (.value v) w' ∨ (s.run P w = .ok .skip w' ∧ v = undef)

/-- What is known behind an operation: the abstract one was handed on, and the model's run is met. -/
def Eff (P : Program) (B : Nat) (w0 : World) (X : Nat → Option AO) (m : Mp) (s : Sem Next) (w : World) (k : Value → T AO → Nat → Bool) : Prop :=
  ∃ v v' m' h' n' w', Ran P s w v' w' ∧ m.le m' ∧ VR m' v v' ∧ HR B w0 m' h' X n' w' ∧ k v h' n' = true

def undefA : Value := .tuple ⟨[]⟩

theorem Eff.skip {s : Sem Unit} {k : Value → T AO → Nat → Bool} {h' : T AO} (hs : s.run P w = .ok () w') (hh : HR B w0 m h' X n w') (hk : k undefA h' n = true) :
    Eff P B w0 X m (s >>= fun _ => (Pure.pure Next.skip : Sem Next)) w k :=
  ⟨undefA, undef, m, h', n, w', .inr ⟨by rw [Sem.run_bind, hs]; rfl, rfl⟩, m.le_refl, .tuple' VRs.nil, hh, hk⟩
theorem Eff.value {s : Sem Value} {k : Value → T AO → Nat → Bool} {h' : T AO} {v v' : Value} {m' : Mp} {n' : Nat} (hs : s.run P w = .ok v' w') (hm : m.le m') (hv : VR m' v v') (hh : HR B w0 m' h' X n' w') (hk : k v h' n' = true) :
    Eff P B w0 X m (s >>= fun u => (Pure.pure (Next.value u) : Sem Next)) w k :=
  ⟨v, v', m', h', n', w', .inl (by rw [Sem.run_bind, hs]; rfl), hm, hv, hh, hk⟩

/-! ### A store -/
def storeK (P : Program) (h : T AO) (n : Nat) (t : TypeId) (a v : Value) (k : Value → T AO → Nat → Bool) : Bool :=
  match a with
  | .pointer (some ⟨b, o, none⟩) => match h.get b with
    | some (.cells fl c e z) => match P.info? t with
      | some i => sel (Nat.blt fl 2 && Nat.beq i.size v.cells.toList.length && noTuple v && Nat.ble (o + i.size) c.length)
          (forceL (splice c o v.cells.toList) fun c' => T.setK (some (.cells fl c' e z)) h b fun h' => k undefA h' n) false
      | none => false
    | _ => false
  | _ => false
theorem storeK_sound (hr : HR B w0 m h X n w) {t : TypeId} {a v a' v' : Value} {k : Value → T AO → Nat → Bool} (hk : storeK P h n t a v k = true) (ha : VR m a a') (hv : VR m v v') :
    Eff P B w0 X m (Instr.storeAt t a' v' >>= fun _ => (Pure.pure Next.skip : Sem Next)) w k := by
  unfold storeK at hk
  split at hk
  · rename_i b o
    obtain ⟨rfl, hd⟩ := ha.inv_ptr
    split at hk
    · rename_i fl c e z hb
      split at hk
      · rename_i i hi
        cases hc : (Nat.blt fl 2 && Nat.beq i.size v.cells.toList.length && noTuple v && Nat.ble (o + i.size) c.length)
        · rw [hc] at hk; cases hk
        · rw [hc, sel_true, forceL_eq, T.setK_eq] at hk
          rw [Bool.and_eq_true, Bool.and_eq_true, Bool.and_eq_true, nblt, nbeq, nble, decide_eq_true_eq, decide_eq_true_eq, decide_eq_true_eq] at hc
          obtain ⟨⟨⟨h1, h2⟩, h3⟩, h4⟩ := hc
          obtain ⟨w', hs, hh⟩ := hr.write (P := P) (o := o) hb h1 hv.cells (cells_atom hv h3) (by omega)
          refine Eff.skip (w' := w') ?_ hh hk
          have hl := hv.cells.length
          have hne : ¬ (v'.cells.size ≠ i.size) := by simp at hl h2; omega
          simp only [Instr.storeAt, Instr.sureAddr, Sem.run_bind, Sem.run_pure, Result.andThen_ok, storeVar, run_sizeOf' hi, hne, if_false]
          exact hs
      · cases hk
    · cases hk
  · cases hk

/-! ### Maps -/
def setE (v : Value) : Nat → List (Value × Value × Nat) → List (Value × Value × Nat)
  | _, [] => []
  | 0, e :: l => (e.1, v, e.2.2) :: l
  | i + 1, e :: l => e :: setE v i l

theorem findNow_key {d : TypeDesc} {key : Value} : ∀ {es : List MapEntry} {i j : Nat} {u : Value}, Instr.findNow d key es i = some (some (j, u)) → i ≤ j ∧ ∃ e, es[j - i]? = some e ∧ Instr.sameNow d key e.key = some true
  | [], i, j, u, h => by simp [Instr.findNow] at h
  | e :: es, i, j, u, h => by
    simp only [Instr.findNow] at h
    split at h
    · rename_i hs
      simp only [Option.some.injEq, Prod.mk.injEq] at h
      obtain ⟨rfl, rfl⟩ := h
      exact ⟨Nat.le_refl _, e, by simp, hs⟩
    · obtain ⟨h1, e', h2, h3⟩ := findNow_key h
      refine ⟨by omega, e', ?_, h3⟩
      have : j - i = (j - (i + 1)) + 1 := by omega
      rw [this]; simpa using h2
    · cases h

theorem ERs.setE {v v' : Value} (hv : VR m v v') : ∀ {es : List (Value × Value × Nat)} {es' : List MapEntry} (i : Nat) (key : Value), ERs m es es' → (∀ e, es'[i]? = some e → key = e.key) →
    ERs m (Ex.setE v i es) (es'.modify i fun e => { e with key, val := v' })
  | [], [], i, key, _, _ => by cases i <;> trivial
  | e :: es, e' :: es', 0, key, h, hk => by
    obtain ⟨⟨h1, h2, h3, h4⟩, hr⟩ := h
    have := hk e' (by simp)
    simp only [List.modify_zero_cons]
    exact ⟨⟨by rw [this]; exact h1, h2, hv, h4⟩, hr⟩
  | e :: es, e' :: es', i + 1, key, h, hk => by
    obtain ⟨h0, hr⟩ := h
    simp only [List.modify_succ_cons]
    exact ⟨h0, ERs.setE hv i key hr fun x hx => hk x (by simpa using hx)⟩

theorem ERs.push {k v v' : Value} {cl : Nat} (hk : flat 8 k = true) (hv : VR m v v') : ∀ {es : List (Value × Value × Nat)} {es' : List MapEntry}, ERs m es es' → ERs m (es ++ [(k, v, cl)]) (es' ++ [{ key := k, val := v', born := cl }])
  | [], [], _ => ⟨⟨rfl, hk, hv, rfl⟩, trivial⟩
  | _ :: _, _ :: _, h => ⟨h.1, ERs.push hk hv h.2⟩

theorem ERs.eraseIdx : ∀ {es : List (Value × Value × Nat)} {es' : List MapEntry} (i : Nat), ERs m es es' → ERs m (es.eraseIdx i) (es'.eraseIdx i)
  | [], [], _, _ => by simp [ERs]
  | _ :: _, _ :: _, 0, h => by simpa using h.2
  | _ :: _, _ :: _, i + 1, h => by simpa [ERs] using ⟨h.1, ERs.eraseIdx i h.2⟩

def mapUpdateK (P : Program) (h : T AO) (n : Nat) (t : TypeId) (x key v : Value) (k : Value → T AO → Nat → Bool) : Bool :=
  match P.underlying t with
  | some (.map kt _) => match keyOk P kt key with
    | some d => match x with
      | .map (some r) => match h.get r with
        | some (.map es cl) => match findL d key es 0 with
          | some (some (i, _)) => forceL (setE v i es) fun es' => T.setK (some (.map es' cl)) h r fun h' => k undefA h' n
          | some none => forceL (es ++ [(key, v, cl)]) fun es' => forceN (cl + 1) fun cl' => T.setK (some (.map es' cl')) h r fun h' => k undefA h' n
          | none => false
        | _ => false
      | _ => false
    | none => false
  | _ => false

theorem upd_setObj {r : Nat} {o o' : Obj} (ho : w.heap[r]? = some o) : Upd w { w with heap := w.heap.setIfInBounds r o' } r o' where
  at_ := by
    have hlt := (Array.getElem?_eq_some_iff.1 ho).1
    simp [hlt]
  other := fun j hj => by simp [Array.getElem?_setIfInBounds_ne (Ne.symm hj)]
  size := by simp
  os := rfl
  tape := rfl
  output := rfl

theorem sameNow_bits {d : TypeDesc} {a b : Value} (h : Instr.sameNow d a b = some true) : a = b ∧ Instr.sameBits 10000 b a = true := by
  unfold Instr.sameNow at h
  split at h
  · rename_i k a k' b
    split at h
    · rename_i hk
      subst hk
      simp only [Option.some.injEq, beq_iff_eq] at h
      subst h
      exact ⟨rfl, by show (k == k && a == a) = true; simp⟩
    · cases h
  · rename_i a b
    simp only [Option.some.injEq] at h
    have e : (a == b) = (a.data == b.data) := by cases a; cases b; rfl
    rw [e, beq_iff_eq] at h
    have : a = b := by cases a; cases b; simpa using h
    subst this
    refine ⟨rfl, ?_⟩
    show (a == a) = true
    have e : (a == a) = (a.data == a.data) := by cases a; rfl
    rw [e, beq_iff_eq]
  · rename_i a b
    simp only [Option.some.injEq, beq_iff_eq] at h
    subst h
    exact ⟨rfl, by show (a == a) = true; simp⟩
  · cases h

theorem mapUpdateK_sound (hr : HR B w0 m h X n w) {t : TypeId} {x key v x' key' v' : Value} {k : Value → T AO → Nat → Bool} (hk : mapUpdateK P h n t x key v k = true) (hx : VR m x x') (hkey : VR m key key') (hv : VR m v v') :
    Eff P B w0 X m (Instr.mapUpdate t x' key' v' >>= fun _ => (Pure.pure Next.skip : Sem Next)) w k := by
  unfold mapUpdateK at hk
  split at hk
  · rename_i kt et hu
    split at hk
    · rename_i d hd
      obtain ⟨hud, hkf, hck⟩ := keyOk_spec hd
      obtain rfl := (flat_eq m 8 key hkf key' hkey).symm
      split at hk
      · rename_i r
        obtain ⟨rfl, hdr⟩ := hx.inv_map
        split at hk
        · rename_i es cl hb
          have hb' := ov_some (X := X) hb
          obtain ⟨_, es', hco, hes⟩ := hr.lr.map hb'
          have hget : (getObj (m.mu r)).run P w = .ok (.map es' cl) w := by simp [getObj, Sem.run, hco]
          have hset : ∀ o, (setObj (m.mu r) o).run P w = .ok () { w with heap := w.heap.setIfInBounds (m.mu r) o } := fun o => by simp [setObj, Sem.run, hco]
          split at hk
          · rename_i i u hf
            rw [forceL_eq, T.setK_eq] at hk
            obtain ⟨r', hf', hm⟩ := findL_spec hes hf
            cases r' with
            | none => exact hm.elim
            | some q =>
              obtain ⟨j', u'⟩ := q
              obtain ⟨rfl, hu'⟩ := hm
              obtain ⟨_, e, he, hs⟩ := findNow_key hf'
              obtain ⟨hke, hbits⟩ := sameNow_bits hs
              simp only [Nat.sub_zero] at he
              have hea : es'[j']? = some e := by simpa using he
              refine Eff.skip (h' := T.set (some (.map (setE v j' es) cl)) h r) (w' := { w with heap := w.heap.setIfInBounds (m.mu r) (.map (es'.modify j' fun e => { e with key, val := v' }) cl) }) ?_ ?_ hk
              · simp only [Instr.mapUpdate, Sem.run_bind, run_underlying hu, Result.andThen_ok, hget, hck, Instr.findKey, run_underlying hud, hf', Sem.run_pure, hea, Option.map_some, Option.getD_some, Instr.keyThatStays, hbits, if_true, hset]
              · refine hr.set hb (hr.lr.upd hb' rfl rfl (upd_setObj hco) ?_)
                refine .map _ _ _ ?_
                have := hes.setE hv j' key (fun x hx => by rw [he] at hx; cases hx; exact hke)
                simpa using this
          · rename_i hf
            rw [forceL_eq, forceN_eq, T.setK_eq] at hk
            obtain ⟨r', hf', hm⟩ := findL_spec hes hf
            cases r' with
            | some q => exact hm.elim
            | none =>
              refine Eff.skip (h' := T.set (some (.map (es ++ [(key, v, cl)]) (cl + 1))) h r) (w' := { w with heap := w.heap.setIfInBounds (m.mu r) (.map (es'.push { key, val := v', born := cl }) (cl + 1)) }) ?_ ?_ hk
              · simp only [Instr.mapUpdate, Sem.run_bind, run_underlying hu, Result.andThen_ok, hget, hck, Instr.findKey, run_underlying hud, hf', Sem.run_pure, hset]
              · refine hr.set hb (hr.lr.upd hb' rfl rfl (upd_setObj hco) ?_)
                refine .map _ _ _ ?_
                have := hes.push (cl := cl) hkf hv
                simpa using this
          · cases hk
        · cases hk
      · cases hk
    · cases hk
  · cases hk

def deleteK (P : Program) (h : T AO) (n : Nat) (t : TypeId) (x key : Value) (k : Value → T AO → Nat → Bool) : Bool :=
  match P.underlying t with
  | some (.map kt _) => match keyOk P kt key with
    | some d => match x with
      | .map (some r) => match h.get r with
        | some (.map es cl) => match findL d key es 0 with
          | some (some (i, _)) => forceL (es.eraseIdx i) fun es' => T.setK (some (.map es' cl)) h r fun h' => k undefA h' n
          | some none => k undefA h n
          | none => false
        | _ => false
      | _ => false
    | none => false
  | _ => false

theorem deleteK_sound (hr : HR B w0 m h X n w) {t ty : TypeId} {x key x' key' : Value} {k : Value → T AO → Nat → Bool} (hk : deleteK P h n t x key k = true) (hx : VR m x x') (hkey : VR m key key') :
    Eff P B w0 X m (Builtin.delete_ #[t] ty #[x', key'] >>= fun u => (Pure.pure (Next.value u) : Sem Next)) w k := by
  unfold deleteK at hk
  split at hk
  · rename_i kt et hu
    split at hk
    · rename_i d hd
      obtain ⟨hud, hkf, hck⟩ := keyOk_spec hd
      obtain rfl := (flat_eq m 8 key hkf key' hkey).symm
      split at hk
      · rename_i r
        obtain ⟨rfl, hdr⟩ := hx.inv_map
        split at hk
        · rename_i es cl hb
          have hb' := ov_some (X := X) hb
          obtain ⟨_, es', hco, hes⟩ := hr.lr.map hb'
          have hget : (getObj (m.mu r)).run P w = .ok (.map es' cl) w := by simp [getObj, Sem.run, hco]
          have hset : ∀ o, (setObj (m.mu r) o).run P w = .ok () { w with heap := w.heap.setIfInBounds (m.mu r) o } := fun o => by simp [setObj, Sem.run, hco]
          split at hk
          · rename_i i u hf
            rw [forceL_eq, T.setK_eq] at hk
            obtain ⟨r', hf', hm⟩ := findL_spec hes hf
            cases r' with
            | none => exact hm.elim
            | some q =>
              obtain ⟨j', u'⟩ := q
              obtain ⟨rfl, hu'⟩ := hm
              refine Eff.value (v' := .tuple #[]) (h' := T.set (some (.map (es.eraseIdx j') cl)) h r) (w' := { w with heap := w.heap.setIfInBounds (m.mu r) (.map (es'.eraseIdxIfInBounds j') cl) }) ?_ m.le_refl (.tuple' VRs.nil) ?_ hk
              · simp [Builtin.delete_, run_underlying hu, hget, hck, Instr.findKey, run_underlying hud, hf', hset]
              · refine hr.set hb (hr.lr.upd hb' rfl rfl (upd_setObj hco) ?_)
                refine .map _ _ _ ?_
                have := hes.eraseIdx j'
                have e : (es'.eraseIdxIfInBounds j').toList = es'.toList.eraseIdx j' := by
                  unfold Array.eraseIdxIfInBounds
                  split
                  · simp
                  · rename_i hlt; rw [List.eraseIdx_of_length_le (by simpa using Nat.le_of_not_lt hlt)]
                rw [e]; exact this
          · rename_i hf
            obtain ⟨r', hf', hm⟩ := findL_spec hes hf
            cases r' with
            | some q => exact hm.elim
            | none =>
              refine Eff.value (v' := .tuple #[]) (h' := h) (w' := { w with heap := w.heap.setIfInBounds (m.mu r) (.map es' cl) }) ?_ m.le_refl (.tuple' VRs.nil) ?_ hk
              · simp [Builtin.delete_, run_underlying hu, hget, hck, Instr.findKey, run_underlying hud, hf', hset]
              · have e : ({ w with heap := w.heap.setIfInBounds (m.mu r) (.map es' cl) } : World) = w := by
                  have : w.heap.setIfInBounds (m.mu r) (.map es' cl) = w.heap := by
                    apply Array.ext_getElem?
                    intro i
                    rw [Array.getElem?_setIfInBounds]
                    split
                    · rename_i hi; subst hi; split
                      · exact hco.symm
                      · rename_i hlt; simp [Array.getElem?_eq_none (Nat.le_of_not_lt hlt)]
                    · rfl
                  rw [this]
                rw [e]; exact hr
          · cases hk
        · cases hk
      · cases hk
    · cases hk
  · cases hk

end
end Go.Ex

/- append, copy, clear. -/
namespace Go.Ex
noncomputable section

variable {P : Program} {m : Mp} {B : Nat} {w0 w w' : World} {n : Nat} {h : T AO} {X : Nat → Option AO}

/-! ### Where cells come from -/
def bytesV (l : List UInt8) : List Value := l.map fun b => .int .u8 (b.toNat : Int)
/-- The first elements of a slice or a string. -/
def srcA (h : T AO) (size : Nat) (x : Value) (cnt : Nat) : Option (List Value) :=
  match x with
  | .slice none _ _ => sel (Nat.beq cnt 0) (some []) none
  | .slice (some ⟨b, o, none⟩) _ _ => sel (Nat.beq (cnt * size) 0) (some []) (match h.get b with
    | some (.cells _ c _ _) => sel (Nat.blt o sent && Nat.ble (o + cnt * size) c.length) (some (cellsAt c o (cnt * size))) none
    | _ => none)
  | .string s => sel (Nat.ble cnt s.data.toList.length && Nat.beq size 1) (some (bytesV (s.data.toList.take cnt))) none
  | _ => none

theorem heap_cell {w' : World} (e : w'.heap = w.heap) (a : Addr) : w'.cell? a = w.cell? a := by unfold World.cell?; rw [e]

theorem srcA_sound (hr : HR B w0 m h X n w) {size cnt : Nat} {x x' : Value} {news : List Value} (hs : srcA h size x cnt = some news) (hx : VR m x x') :
    news.length = cnt * size ∧ (∀ v ∈ news, atom v = true) ∧ ∃ news', VRs m news news' ∧ ∀ w', w'.heap = w.heap → (Builtin.firstCells size cnt x').run P w' = .ok ⟨news'⟩ w' := by
  unfold srcA at hs
  split at hs
  · cases hx
    cases hc : Nat.beq cnt 0
    · rw [hc] at hs; cases hs
    · rw [hc] at hs; cases hs
      rw [nbeq, decide_eq_true_eq] at hc
      subst hc
      exact ⟨by simp, (fun v hv => absurd hv List.not_mem_nil), [], trivial, fun w' _ => rfl⟩
  · rename_i b o len cap
    cases hz : Nat.beq (cnt * size) 0
    · rw [hz, sel_false] at hs
      split at hs
      · rename_i fl c e z hb
        cases hc : (Nat.blt o sent && Nat.ble (o + cnt * size) c.length)
        · rw [hc] at hs; cases hs
        · rw [hc, sel_true] at hs; cases hs
          rw [Bool.and_eq_true, nblt, nble, decide_eq_true_eq, decide_eq_true_eq] at hc
          obtain ⟨hd, cap', rfl, _, _⟩ := inv_slice hx hc.1
          obtain ⟨_, cs, fz, hco, h1, h2, h3, _⟩ := hr.lr.cells (ov_some (X := X) hb)
          have hlen : (cellsAt (cs.toList.take c.length) o (cnt * size)).length = cnt * size := by
            unfold cellsAt; simp; omega
          refine ⟨by unfold cellsAt; simp; omega, fun v hv => h3 v (List.mem_of_mem_drop (List.mem_of_mem_take hv)), cellsAt (cs.toList.take c.length) o (cnt * size), (h2.drop o).take _, fun w' hw' => ?_⟩
          have hcell : ∀ (j : Nat) u, (cellsAt (cs.toList.take c.length) o (cnt * size))[j]? = some u → w'.cell? ((⟨m.mu b, o, none⟩ : Addr).add j) = some u := fun j u hu => by
            rw [addr_add, heap_cell hw']
            unfold cellsAt at hu
            rw [List.getElem?_take] at hu
            split at hu
            · rw [List.getElem?_drop, List.getElem?_take] at hu
              split at hu
              · simp only [World.cell?, hco]; simpa using hu
              · cases hu
            · cases hu
          exact run_firstCells_some (P := P) w' size cnt ⟨m.mu b, o, none⟩ len cap' _ hlen hcell
      · cases hs
    · rw [hz] at hs; cases hs
      rw [nbeq, decide_eq_true_eq] at hz
      refine ⟨by simpa using hz.symm, (fun v hv => absurd hv List.not_mem_nil), [], trivial, fun w' _ => ?_⟩
      have key : ∀ a l c, (Builtin.firstCells size cnt (.slice (some a) l c)).run P w' = .ok #[] w' := fun a l c => by
        simp only [Builtin.firstCells, hz]; rfl
      cases hx <;> exact key _ _ _
  · rename_i s
    cases hx
    cases hc : (Nat.ble cnt s.data.toList.length && Nat.beq size 1)
    · rw [hc] at hs; cases hs
    · rw [hc, sel_true] at hs; cases hs
      rw [Bool.and_eq_true, nble, nbeq, decide_eq_true_eq, decide_eq_true_eq] at hc
      obtain ⟨h1, rfl⟩ := hc
      have href : ∀ l : List UInt8, VRs m (bytesV l) (bytesV l) := fun l => VRs.refl_of fun v hv => by
        simp only [bytesV, List.mem_map] at hv
        obtain ⟨b, _, rfl⟩ := hv
        exact .int _ _
      refine ⟨by simp [bytesV]; simp at h1; omega, fun v hv => ?_, bytesV (s.data.toList.take cnt), href _, fun w' _ => ?_⟩
      · simp only [bytesV, List.mem_map] at hv
        obtain ⟨b, _, rfl⟩ := hv
        rfl
      · simp only [Builtin.firstCells, Sem.run_pure]
        congr 1
        apply Array.ext'
        simp [bytesV, ByteArray.data_extract]
  · cases hs

def lenA (x : Value) : Option Nat :=
  match x with
  | .slice _ l _ => some l
  | .string s => some s.data.toList.length
  | _ => none
theorem lenA_sound {x x' : Value} {l : Nat} (hl : lenA x = some l) (hx : VR m x x') (w : World) : (Builtin.lenOf x').run P w = .ok l w := by
  unfold lenA at hl
  split at hl
  · cases hl
    obtain ⟨a', c', rfl⟩ := slice_len hx
    rfl
  · rename_i s
    cases hl; cases hx
    show Result.ok s.size w = _
    simp
  · cases hl

/-! ### The two roads of append -/
theorem append_room {sT xT ty e : TypeId} {i : TypeInfo} {b : Addr} {sLen sCap cnt : Nat} {x : Value} {news : List Value} {dx : TypeDesc}
    (hu : P.underlying sT = some (.slice e)) (hi : P.info? e = some i) (hdx : P.underlying xT = some dx) (hni : ∀ k, dx ≠ .int k)
    (hlen : ∀ w, (Builtin.lenOf x).run P w = .ok cnt w) (hfirst : (Builtin.firstCells i.size cnt x).run P w = .ok ⟨news⟩ w) (hroom : sLen + cnt ≤ sCap)
    (hst : (storeCells (b.add (sLen * i.size)) news).run P w = .ok () w') :
    (Builtin.append_ #[sT, xT] ty #[.slice (some b) sLen sCap, x]).run P w = .ok (.slice (some b) (sLen + cnt) sCap) w' := by
  have hz : (match dx with | .int _ => true | _ => false) = false := by cases dx <;> first | rfl | exact absurd rfl (hni _)
  simp [Builtin.append_, run_underlying hu, run_underlying hdx, run_sizeOf' hi, hz, hlen, hroom, hfirst, hst]

theorem append_room_nil {sT xT ty e : TypeId} {i : TypeInfo} {sLen sCap cnt : Nat} {x : Value} {news : List Value} {dx : TypeDesc}
    (hu : P.underlying sT = some (.slice e)) (hi : P.info? e = some i) (hdx : P.underlying xT = some dx) (hni : ∀ k, dx ≠ .int k)
    (hlen : ∀ w, (Builtin.lenOf x).run P w = .ok cnt w) (hfirst : (Builtin.firstCells i.size cnt x).run P w = .ok ⟨news⟩ w) (hroom : sLen + cnt ≤ sCap) :
    (Builtin.append_ #[sT, xT] ty #[.slice none sLen sCap, x]).run P w = .ok (.slice none (sLen + cnt) sCap) w := by
  have hz : (match dx with | .int _ => true | _ => false) = false := by cases dx <;> first | rfl | exact absurd rfl (hni _)
  simp [Builtin.append_, run_underlying hu, run_underlying hdx, run_sizeOf' hi, hz, hlen, hroom, hfirst]

theorem append_grow {sT xT ty e : TypeId} {i : TypeInfo} {z : Value} {a : Option Addr} {sLen sCap cnt : Nat} {x : Value} {olds news : List Value} {dx : TypeDesc}
    (hu : P.underlying sT = some (.slice e)) (hi : P.info? e = some i) (hz0 : ∀ w, (zeroValue e).run P w = .ok z w) (hdx : P.underlying xT = some dx) (hni : ∀ k, dx ≠ .int k)
    (hlen : ∀ w, (Builtin.lenOf x).run P w = .ok cnt w) (hold : ∀ w', w'.heap = w.heap → (Builtin.firstCells i.size sLen (.slice a sLen sCap)).run P w' = .ok ⟨olds⟩ w')
    (hfirst : ∀ w', w'.heap = w.heap → (Builtin.firstCells i.size cnt x).run P w' = .ok ⟨news⟩ w') (hroom : sCap < sLen + cnt) (hsmall : sLen + cnt < 1099511627776) (hb : (sLen + cnt) * i.bytes ≤ 140737488355328) :
    (Builtin.append_ #[sT, xT] ty #[.slice a sLen sCap, x]).run P w =
      .ok (.slice (some ⟨w.heap.size, 0, none⟩) (sLen + cnt) (grownCap w (sLen + cnt) sCap e))
        (w.drew.alloc (.cells ⟨olds ++ news ++ genZ z.cells.toList ((grownCap w (sLen + cnt) sCap e - (sLen + cnt)) * z.cells.size)⟩ e)) := by
  have hz : (match dx with | .int _ => true | _ => false) = false := by cases dx <;> first | rfl | exact absurd rfl (hni _)
  have hn : ¬ (sLen + cnt ≤ sCap) := by omega
  have h63' : ¬ (9223372036854775807 < ((sLen : Int) + (cnt : Int))) := by omega
  have h48' : ¬ (281474976710656 < Builtin.nextslicecap (sLen + cnt) sCap * i.bytes) := by have := growslice_fits (old := sCap) hroom hb; omega
  have hgz : ∀ k, Builtin.zeroCells z.cells k = ⟨genZ z.cells.toList (k * z.cells.size)⟩ := fun k => genZ_eq _ _
  have hq : ∀ need old (w : World), (choose (.appendCap need old e)).run P w = .ok (grownCap w need old e) w.drew := fun need old w => by
    simp [choose, Sem.run, Question.forced, grownCap]
  have hm : ∀ k (w : World), (askRoom k).run P w = .ok () w := fun k w => by
    unfold askRoom; split <;> rfl
  have hmx : ¬ (((sLen + cnt : Nat) : Int) > IntKind.i64.max) := by
    have : IntKind.i64.max = 9223372036854775807 := by decide
    rw [this]; omega
  have h48'' : ¬ (Builtin.nextslicecap (sLen + cnt) sCap * i.bytes > 2 ^ 48) := by omega
  simp only [Builtin.append_, List.getElem?_toArray, List.getElem?_cons_zero, List.getElem?_cons_succ, Sem.run_bind, run_underlying hu, Result.andThen_ok, run_sizeOf' hi, run_underlying hdx, Sem.run_pure, hz, Bool.false_eq_true, if_false, hlen, hn, run_typeInfo' hi, false_or,
    hmx, false_and, h48'', hq, hm, hold _ (show w.drew.heap = w.heap from rfl), hfirst _ (show w.drew.heap = w.heap from rfl), Bool.not_false, if_true, hz0, hgz, run_newRow]
  congr 3
  simp

/-- The same, of so many zero values. -/
theorem append_growZ {sT xT ty e : TypeId} {i : TypeInfo} {z : Value} {a : Option Addr} {sLen sCap cnt : Nat} {olds : List Value} {k k' : IntKind}
    (hu : P.underlying sT = some (.slice e)) (hi : P.info? e = some i) (hz0 : ∀ w, (zeroValue e).run P w = .ok z w) (hdx : P.underlying xT = some (.int k))
    (hold : ∀ w', w'.heap = w.heap → (Builtin.firstCells i.size sLen (.slice a sLen sCap)).run P w' = .ok ⟨olds⟩ w') (hsz : cnt * i.size ≠ 0)
    (hroom : sCap < sLen + cnt) (hsmall : sLen + cnt < 1099511627776) (hb : (sLen + cnt) * i.bytes ≤ 140737488355328) :
    (Builtin.append_ #[sT, xT] ty #[.slice a sLen sCap, .int k' (Int.ofNat cnt)]).run P w =
      .ok (.slice (some ⟨w.heap.size, 0, none⟩) (sLen + cnt) (grownCap w (sLen + cnt) sCap e))
        (w.drew.alloc (.cells ⟨olds ++ genZ z.cells.toList (cnt * z.cells.size) ++ genZ z.cells.toList ((grownCap w (sLen + cnt) sCap e - (sLen + cnt)) * z.cells.size)⟩ e)) := by
  have hn : ¬ (sLen + cnt ≤ sCap) := by omega
  have h48' : ¬ (281474976710656 < Builtin.nextslicecap (sLen + cnt) sCap * i.bytes) := by have := growslice_fits (old := sCap) hroom hb; omega
  have hgz : ∀ k, Builtin.zeroCells z.cells k = ⟨genZ z.cells.toList (k * z.cells.size)⟩ := fun k => genZ_eq _ _
  have hq : ∀ need old (w : World), (choose (.appendCap need old e)).run P w = .ok (grownCap w need old e) w.drew := fun need old w => by
    simp [choose, Sem.run, Question.forced, grownCap]
  have hm : ∀ k (w : World), (askRoom k).run P w = .ok () w := fun k w => by
    unfold askRoom; split <;> rfl
  have hmx : ¬ (((sLen + cnt : Nat) : Int) > IntKind.i64.max) := by
    have : IntKind.i64.max = 9223372036854775807 := by decide
    rw [this]; omega
  have h48'' : ¬ (Builtin.nextslicecap (sLen + cnt) sCap * i.bytes > 2 ^ 48) := by omega
  have hwr : IntKind.i64.wrap (Int.ofNat cnt) = Int.ofNat cnt := wrap_small .i64 cnt (by simp only [half]; omega)
  have hneg : ¬ ((Int.ofNat cnt : Int) < 0) := by simp
  have hbig : ¬ ((Int.ofNat cnt : Int) * (i.bytes : Int) > 2 ^ 48) := by
    have e1 : (Int.ofNat cnt : Int) * (i.bytes : Int) = ((cnt * i.bytes : Nat) : Int) := by simp
    have e2 : cnt * i.bytes ≤ (sLen + cnt) * i.bytes := Nat.mul_le_mul_right _ (by omega)
    rw [e1]; omega
  have hto : (Int.ofNat cnt).toNat = cnt := rfl
  simp only [Builtin.append_, List.getElem?_toArray, List.getElem?_cons_zero, List.getElem?_cons_succ, Sem.run_bind, run_underlying hu, Result.andThen_ok, run_sizeOf' hi, run_underlying hdx, Sem.run_pure, if_true, asInt, asIntOf, hwr, hneg, hbig, if_false, hto, hn, run_typeInfo' hi, true_or,
    hmx, false_and, and_true, h48'', hq, hm, hold _ (show w.drew.heap = w.heap from rfl), hsz, Bool.not_true, Bool.false_eq_true, hz0, hgz, run_newRow]
  congr 3
  simp

end
end Go.Ex

/- append, copy, clear: the abstract ones. -/
namespace Go.Ex
noncomputable section

variable {P : Program} {m : Mp} {B : Nat} {w0 w w' : World} {n : Nat} {h : T AO} {X : Nat → Option AO}

/-- News go into the room that there is. -/
def inPlaceK (h : T AO) (n b o at_ : Nat) (news : List Value) (v : Value) (k : Value → T AO → Nat → Bool) : Bool :=
  match h.get b with
  | some (.cells fl cs e z) => sel (Nat.blt fl 2 && Nat.ble (o + at_ + news.length) cs.length)
      (forceL (splice cs (o + at_) news) fun c' => T.setK (some (.cells fl c' e z)) h b fun h' => k v h' n) false
  | _ => false

theorem inPlaceK_sound (hr : HR B w0 m h X n w) {b o at_ : Nat} {news news' : List Value} {v v' : Value} {k : Value → T AO → Nat → Bool} (hk : inPlaceK h n b o at_ news v k = true) (hn : VRs m news news') (ha : ∀ v ∈ news, atom v = true) :
    ∃ w' h', (storeCells ((⟨m.mu b, o, none⟩ : Addr).add at_) news').run P w = .ok () w' ∧ HR B w0 m h' X n w' ∧ k v h' n = true := by
  unfold inPlaceK at hk
  split at hk
  · rename_i fl cs e z hb
    cases hc : (Nat.blt fl 2 && Nat.ble (o + at_ + news.length) cs.length)
    · rw [hc] at hk; cases hk
    · rw [hc, sel_true, forceL_eq, T.setK_eq] at hk
      rw [Bool.and_eq_true, nblt, nble, decide_eq_true_eq, decide_eq_true_eq] at hc
      obtain ⟨w', hs, hh⟩ := hr.write (P := P) (o := o + at_) hb hc.1 hn ha hc.2
      exact ⟨w', _, by rw [addr_add]; exact hs, hh, hk⟩
  · cases hk

/-- A new block with what there was and the news. -/
def growK (h : T AO) (n : Nat) (e esz need bytes : Nat) (content : List Value) (k : Value → T AO → Nat → Bool) : Bool :=
  sel (Nat.blt need 1099511627776 && Nat.ble (need * bytes) 140737488355328)
    (forceL content fun c' => T.setK (some (.cells 1 c' e esz)) h n fun h' => forceN need fun need' => forceN (n + 1) fun n' => k (.slice (some ⟨n, 0, none⟩) need' (sent + esz)) h' n') false

theorem genZ_length (zc : List Value) (k : Nat) : (genZ zc k).length = k := by simp [genZ]

theorem grow_known (hr : HR B w0 m h X n w) {e esz need cap : Nat} {content content' rest : List Value} (hc : VRs m content content') (ha : ∀ v ∈ content, atom v = true) (hl : content.length = need * esz) (hrest : rest.length = (cap - need) * esz) (hcap : need ≤ cap) (hz : 0 < esz) :
    ∃ m', m.le m' ∧ VR m' (.slice (some ⟨n, 0, none⟩) need (sent + esz)) (.slice (some ⟨w.heap.size, 0, none⟩) need cap) ∧
      HR B w0 m' (T.set (some (.cells 1 content e esz)) h n) X (n + 1) (w.drew.alloc (.cells ⟨content' ++ rest⟩ e)) := by
  have hle := Mp.le_ext (m := m) hr.fresh.2.2.2 w.heap.size (cap * esz) esz
  have hcl := hc.length
  have hsz : (content' ++ rest).length = cap * esz := by
    rw [List.length_append, ← hcl, hl, hrest, ← Nat.add_mul]; congr 1; omega
  have hor : OR (m.ext n w.heap.size (cap * esz) esz) n (.cells 1 content e esz) (.cells ⟨content' ++ rest⟩ e (0, 0)) := by
    have := OR.opn (m := m.ext n w.heap.size (cap * esz) esz) (b := n) content e ⟨content' ++ rest⟩ ?_ ?_ ?_ ?_ ha
    · rw [Mp.ext_esz] at this; exact this
    · show VRs _ content ((content' ++ rest).take content.length)
      rw [hcl, List.take_left]; exact hc.mono hle
    · show content.length ≤ (content' ++ rest).length
      rw [List.length_append]; omega
    · rw [Mp.ext_cap]; exact hsz
    · rw [Mp.ext_esz]; exact hz
  refine ⟨_, hle, ?_, (hr.same (Same.drew w)).alloc (cap * esz) esz hor⟩
  have := VR.slo (m := m.ext n w.heap.size (cap * esz) esz) n 0 0 need cap (Mp.ext_dom _ _ _ _ _) (fun _ => ⟨rfl, by rw [Mp.ext_esz, Mp.ext_cap]; omega⟩) hcap
  rw [Mp.ext_esz, Mp.ext_mu] at this
  exact this

def retargetK (h : T AO) (n b e esz need : Nat) (content : List Value) (k : Value → T AO → Nat → Bool) : Bool :=
  T.setK (some .dead) h b fun h => forceL content fun c' => T.setK (some (.cells 1 c' e esz)) h n fun h' => forceN need fun need' => forceN (n + 1) fun n' => k (.slice (some ⟨n, 0, none⟩) need' (sent + esz)) h' n'

/-- The old one is forgotten. -/
theorem HR.kill (hr : HR B w0 m h X n w) {b : Nat} {o : AO} (hb : h.get b = some o) : HR B w0 m (T.set (some .dead) h b) X n w :=
  hr.set hb (hr.lr.kill (hr.lr.lt b o (ov_some hb)))

theorem HR.set2 (hr : HR B w0 m h X n w) {b : Nat} {o o1 o2 : AO} (hb : h.get b = some o) {m' : Mp} {n' : Nat} (hl : LR B w0 m' (upd (upd (ov h X) b o1) n o2) n' w') : HR B w0 m' (T.set (some o2) (T.set (some o1) h b) n) X n' w' where
  lr := hl.congr fun x => by
    rw [ov_set (h := T.set (some o1) h b) (X := X) (.inl hr.fresh.2.1) x]
    unfold upd
    by_cases e : x = n
    · simp [e]
    · simp only [e, if_false]
      exact ov_set (.inr ⟨o, hb⟩) x
  apart := fun x y hx => by
    rw [T.get_set, T.get_set]
    have := hr.apart x y hx
    by_cases e : x = n
    · subst e; rw [hr.fresh.2.1] at hx; cases hx
    · rw [if_neg e]
      by_cases e2 : x = b
      · subst e2; rw [hb] at this; cases this
      · rw [if_neg e2]; exact this

def appendK (P : Program) (h : T AO) (n : Nat) (sT xT : TypeId) (s x : Value) (k : Value → T AO → Nat → Bool) : Bool :=
  match P.underlying sT with
  | some (.slice e) => match P.info? e, zeroV P e, P.underlying xT with
    | some i, some z, some dx => sel (noTuple z && Nat.blt 0 i.size && Nat.beq z.cells.toList.length i.size)
      (match dx with
      | .int _ => match s, x with
        | .slice a l c, .int _ (.ofNat cnt) => sel (Nat.blt c sent && Nat.blt c (l + cnt) && Nat.blt 0 cnt)
            (match srcA h i.size s l with
            | some olds => growK h n e i.size (l + cnt) i.bytes (olds ++ genZ z.cells.toList (cnt * i.size)) k
            | none => false) false
        | _, _ => false
      | _ => match lenA x with
        | none => false
        | some cnt => match srcA h i.size x cnt with
          | none => false
          | some news => match s with
            | .slice none l c => sel (Nat.ble (l + cnt) c) (k (.slice none (l + cnt) c) h n)
                (sel (Nat.beq l 0) (growK h n e i.size cnt i.bytes news k) false)
            | .slice (some ⟨b, o, none⟩) l c =>
              sel (Nat.beq cnt 0) (sel (Nat.blt c sent) (sel (Nat.ble l c) (k s h n) false) (k s h n))
                (sel (Nat.blt o sent)
                  (sel (Nat.blt c sent)
                    (sel (Nat.ble (l + cnt) c) (forceN (l + cnt) fun q => inPlaceK h n b o (l * i.size) news (.slice (some ⟨b, o, none⟩) q c) k)
                      (match srcA h i.size s l with
                      | some olds => growK h n e i.size (l + cnt) i.bytes (olds ++ news) k
                      | none => false))
                    (sel (Nat.beq c (sent + i.size)) (match h.get b with
                      | some (.cells 1 cs e2 z') => sel (Nat.ble (o + (l + cnt) * i.size) cs.length && Nat.beq z' i.size)
                          (forceN (l + cnt) fun q => inPlaceK h n b o (l * i.size) news (.slice (some ⟨b, o, none⟩) q c) k)
                          (sel (Nat.beq o 0 && Nat.ble (l * i.size) cs.length && Nat.blt (l + cnt) 1099511627776 && Nat.ble ((l + cnt) * i.bytes) 140737488355328 && Nat.beq z' i.size && Nat.beq e2 e)
                            (retargetK h n b e i.size (l + cnt) (cs.take (l * i.size) ++ news) k) false)
                      | _ => false) false)) false)
            | _ => false) false
    | _, _, _ => false
  | _ => false

theorem appendK_sound (hr : HR B w0 m h X n w) {sT xT ty : TypeId} {s x s' x' : Value} {k : Value → T AO → Nat → Bool} (hk : appendK P h n sT xT s x k = true) (hs : VR m s s') (hx : VR m x x') :
    Eff P B w0 X m (Builtin.append_ #[sT, xT] ty #[s', x'] >>= fun u => (Pure.pure (Next.value u) : Sem Next)) w k := by
  unfold appendK at hk
  split at hk
  case h_2 => cases hk
  rename_i e hu
  split at hk
  case h_2 => cases hk
  rename_i i z dx hi hz hdx
  obtain ⟨hzf, hzr⟩ := zeroV_spec hz
  cases hc0 : (noTuple z && Nat.blt 0 i.size && Nat.beq z.cells.toList.length i.size)
  · rw [hc0] at hk; cases hk
  rw [hc0, sel_true] at hk
  rw [Bool.and_eq_true, Bool.and_eq_true, nblt, nbeq, decide_eq_true_eq, decide_eq_true_eq] at hc0
  obtain ⟨⟨hnt, hsz⟩, hzl⟩ := hc0
  have hzs : z.cells.size = i.size := by simpa using hzl
  -- what a growing one comes to
  have grow : ∀ {olds olds' news news' : List Value} {l cnt c : Nat} {s'' : Sem Value}, VRs m olds olds' → VRs m news news' → (∀ v ∈ olds, atom v = true) → (∀ v ∈ news, atom v = true) → olds.length = l * i.size → news.length = cnt * i.size →
      growK h n e i.size (l + cnt) i.bytes (olds ++ news) k = true → c < l + cnt →
      (∀ (_ : l + cnt < 1099511627776) (_ : (l + cnt) * i.bytes ≤ 140737488355328), s''.run P w = .ok (.slice (some ⟨w.heap.size, 0, none⟩) (l + cnt) (grownCap w (l + cnt) c e))
        (w.drew.alloc (.cells ⟨olds' ++ news' ++ genZ z.cells.toList ((grownCap w (l + cnt) c e - (l + cnt)) * z.cells.size)⟩ e))) →
      Eff P B w0 X m (s'' >>= fun u => (Pure.pure (Next.value u) : Sem Next)) w k := fun {olds olds' news news' l cnt c s''} h1 h2 h3 h4 h5 h6 hg hcc hrun => by
    unfold growK at hg
    cases hc : (Nat.blt (l + cnt) 1099511627776 && Nat.ble ((l + cnt) * i.bytes) 140737488355328)
    · rw [hc] at hg; cases hg
    · rw [hc, sel_true, forceL_eq, T.setK_eq, forceN_eq, forceN_eq] at hg
      rw [Bool.and_eq_true, nblt, nble, decide_eq_true_eq, decide_eq_true_eq] at hc
      obtain ⟨m', hm, hv, hh⟩ := grow_known hr (e := e) (esz := i.size) (need := l + cnt) (cap := grownCap w (l + cnt) c e) (rest := genZ z.cells.toList ((grownCap w (l + cnt) c e - (l + cnt)) * z.cells.size)) (h1.append h2)
        (fun v hv => (List.mem_append.1 hv).elim (h3 v) (h4 v)) (by rw [List.length_append, h5, h6, Nat.add_mul]) (by rw [genZ_length, hzs]) (grownCap_ge _ _ _ _) hsz
      exact Eff.value (hrun hc.1 hc.2) hm hv hh hg
  split at hk
  · -- so many zero values
    rename_i kk
    split at hk
    case h_2 => cases hk
    rename_i a l c kx cnt
    cases hc1 : (Nat.blt c sent && Nat.blt c (l + cnt) && Nat.blt 0 cnt)
    · rw [hc1] at hk; cases hk
    rw [hc1, sel_true] at hk
    rw [Bool.and_eq_true, Bool.and_eq_true, nblt, nblt, nblt, decide_eq_true_eq, decide_eq_true_eq, decide_eq_true_eq] at hc1
    obtain ⟨⟨hc1, hc2⟩, hc3⟩ := hc1
    split at hk
    case h_2 => cases hk
    rename_i olds hold
    obtain ⟨a', rfl⟩ := slice_cap hs hc1
    cases hx
    obtain ⟨ho1, ho2, olds', ho3, ho4⟩ := srcA_sound (P := P) hr hold hs
    obtain ⟨hgz, hga⟩ := genZ_refl (m := m) hzf hnt (cnt * i.size)
    refine grow ho3 hgz ho2 hga ho1 (genZ_length _ _) hk hc2 fun q1 q2 => ?_
    have := append_growZ (P := P) (w := w) (ty := ty) (k' := kx) hu hi hzr hdx ho4 (Nat.mul_ne_zero (by omega) (by omega)) hc2 q1 q2
    rw [this, hzs]
  · rename_i hni
    split at hk
    case h_1 => cases hk
    rename_i cnt hcnt
    split at hk
    case h_1 => cases hk
    rename_i news hnews
    obtain ⟨hn1, hn2, news', hn3, hn4⟩ := srcA_sound (P := P) hr hnews hx
    have hlen := fun w => lenA_sound (P := P) hcnt hx w
    split at hk
    · -- nil
      rename_i l c
      cases hs
      by_cases hroom : l + cnt ≤ c
      · have e1 : Nat.ble (l + cnt) c = true := by rw [nble]; exact decide_eq_true hroom
        rw [e1, sel_true] at hk
        exact Eff.value (append_room_nil hu hi hdx hni hlen (hn4 w rfl) hroom) m.le_refl (.slN _ _) hr hk
      · have e1 : Nat.ble (l + cnt) c = false := by rw [nble]; exact decide_eq_false hroom
        rw [e1, sel_false] at hk
        cases hl : Nat.beq l 0
        · rw [hl] at hk; cases hk
        · rw [hl, sel_true] at hk
          rw [nbeq, decide_eq_true_eq] at hl
          subst hl
          have hk' : growK h n e i.size (0 + cnt) i.bytes ([] ++ news) k = true := by simpa using hk
          refine grow (olds := []) (olds' := []) (c := c) VRs.nil hn3 (fun v hv => absurd hv List.not_mem_nil) hn2 (by simp) hn1 hk' (by omega) fun q1 q2 => ?_
          exact append_grow (sLen := 0) (sCap := c) hu hi hzr hdx hni hlen (fun w' _ => rfl) hn4 (by omega) q1 q2
    · -- at an address
      rename_i b o l c
      by_cases hc00 : cnt = 0
      · subst hc00
        rw [beq_true rfl, sel_true] at hk
        have hnil : news' = [] := by
          have := hn3.length; rw [hn1] at this; exact List.eq_nil_of_length_eq_zero (by omega)
        have done : ∀ (s' : Value) (hs : VR m (.slice (some ⟨b, o, none⟩) l c) s') (hkk : k (.slice (some ⟨b, o, none⟩) l c) h n = true), (∃ a' c', s' = .slice (some a') l c' ∧ l ≤ c') →
            Eff P B w0 X m (Builtin.append_ #[sT, xT] ty #[s', x'] >>= fun u => (Pure.pure (Next.value u) : Sem Next)) w k := fun s' hs hkk ⟨a', c', he, hle⟩ => by
          subst he
          have hst : (storeCells (a'.add (l * i.size)) news').run P w = .ok () w := by rw [hnil]; rfl
          exact Eff.value (append_room hu hi hdx hni hlen (hn4 w rfl) (by omega) hst) m.le_refl hs hr hkk
        cases hcs : Nat.blt c sent
        · rw [hcs, sel_false] at hk
          rw [nblt, decide_eq_false_iff_not] at hcs
          refine done s' hs hk ?_
          cases hs with
          | sl => omega
          | slo _ _ o' _ c' _ _ hl => exact ⟨_, _, rfl, hl⟩
        · rw [hcs, sel_true] at hk
          cases hlc : Nat.ble l c
          · rw [hlc] at hk; cases hk
          · rw [hlc, sel_true] at hk
            rw [nblt, decide_eq_true_eq] at hcs
            rw [nble, decide_eq_true_eq] at hlc
            refine done s' hs hk ?_
            cases hs with
            | sl => exact ⟨_, _, rfl, hlc⟩
            | slo => omega
      · rw [beq_false hc00, sel_false] at hk
        cases hob : Nat.blt o sent
        · rw [hob] at hk; cases hk
        rw [hob, sel_true] at hk
        rw [nblt, decide_eq_true_eq] at hob
        obtain ⟨hd, c', rfl, _, hcase⟩ := inv_slice hs hob
        cases hcs : Nat.blt c sent
        · rw [hcs, sel_false] at hk
          rw [nblt, decide_eq_false_iff_not] at hcs
          rcases hcase with ⟨hlt, _⟩ | ⟨he, hlc, hK⟩
          · exact absurd hlt hcs
          cases hce : Nat.beq c (sent + i.size)
          · rw [hce] at hk; cases hk
          rw [hce, sel_true] at hk
          rw [nbeq, decide_eq_true_eq] at hce
          have hes : m.esz b = i.size := by omega
          split at hk
          case h_2 => cases hk
          rename_i cs e2 z' hb
          obtain ⟨_, co, hco, hor⟩ := hr.lr.ok b _ (ov_some (X := X) hb) rfl
          by_cases hfit : o + (l + cnt) * i.size ≤ cs.length ∧ z' = i.size
          · have e1 : (Nat.ble (o + (l + cnt) * i.size) cs.length && Nat.beq z' i.size) = true := by
              rw [nble, nbeq, decide_eq_true hfit.1, decide_eq_true hfit.2]; rfl
            rw [e1, sel_true, forceN_eq] at hk
            obtain ⟨w', h', hst, hh, hkk⟩ := inPlaceK_sound (P := P) (v' := .nilIface) hr hk hn3 hn2
            have hroom : l + cnt ≤ c' := by
              cases hor with
              | opn _ _ cs' _ hle hcap hez _ =>
                have h1 : (l + cnt) * i.size ≤ c' * i.size := by rw [hes] at hK; omega
                exact Nat.le_of_mul_le_mul_right h1 hsz
            refine Eff.value (append_room hu hi hdx hni hlen (hn4 w rfl) hroom hst) m.le_refl ?_ hh hkk
            rw [he]
            exact .slo b o o _ c' hd (fun _ => ⟨rfl, hK⟩) hroom
          · have e1 : (Nat.ble (o + (l + cnt) * i.size) cs.length && Nat.beq z' i.size) = false := by
              rw [nble, nbeq, Bool.and_eq_false_iff, decide_eq_false_iff_not, decide_eq_false_iff_not]; omega
            rw [e1, sel_false] at hk
            cases hq : (Nat.beq o 0 && Nat.ble (l * i.size) cs.length && Nat.blt (l + cnt) 1099511627776 && Nat.ble ((l + cnt) * i.bytes) 140737488355328 && Nat.beq z' i.size && Nat.beq e2 e)
            · rw [hq] at hk; cases hk
            rw [hq, sel_true] at hk
            rw [Bool.and_eq_true, Bool.and_eq_true, Bool.and_eq_true, Bool.and_eq_true, Bool.and_eq_true, nbeq, nble, nblt, nble, nbeq, nbeq, decide_eq_true_eq, decide_eq_true_eq, decide_eq_true_eq, decide_eq_true_eq, decide_eq_true_eq, decide_eq_true_eq] at hq
            obtain ⟨⟨⟨⟨⟨ho0, hl1⟩, hsm⟩, hby⟩, hz'⟩, he2⟩ := hq
            subst ho0
            subst he2
            unfold retargetK at hk
            rw [T.setK_eq, forceL_eq, T.setK_eq, forceN_eq, forceN_eq] at hk
            cases hor with
            | opn _ _ cs' hcs' hle hcap hez hat =>
              have htake : VRs m (cs.take (l * i.size)) (cs'.toList.take (l * i.size)) := by
                have := hcs'.take (l * i.size)
                rwa [List.take_take, Nat.min_eq_left hl1] at this
              have hatk : ∀ v ∈ cs.take (l * i.size), atom v = true := fun v hv => hat v (List.mem_of_mem_take hv)
              have hnl := hn3.length
              by_cases hroom : l + cnt ≤ c'
              · -- there is room after all
                have hfit2 : 0 + l * i.size + news'.length ≤ cs'.size := by
                  rw [← hnl, hn1, hcap, ← hK, hes]
                  have := Nat.mul_le_mul_right i.size hroom
                  rw [Nat.add_mul] at this
                  omega
                have hat' : ∀ v ∈ news', v.oneCell' = true := fun v hv' => by
                  obtain ⟨j, hj⟩ := List.getElem?_of_mem hv'
                  have hlt := (List.getElem?_eq_some_iff.1 hj).1
                  have : ∃ u, news[j]? = some u := ⟨_, List.getElem?_eq_getElem (by omega)⟩
                  obtain ⟨u, hu'⟩ := this
                  rw [oneCell_atom, (hn3.get2 hu' hj).atom_eq]
                  exact hn2 u (List.mem_of_getElem? hu')
                have hst := run_storeCells_at P (m.mu b) (0 + l * i.size) e2 news' 0 cs' w hco (by simpa using hfit2) hat'
                have hst' := hst
                rw [← addr_add (m.mu b) 0 (l * i.size)] at hst'
                have hle' := Mp.le_ext (m := m) hr.fresh.2.2.2 (m.mu b) (m.cap b) i.size
                have hrun := append_room (ty := ty) hu hi hdx hni hlen (hn4 w rfl) hroom hst'
                have hfr := hr.fresh
                refine Eff.value (m' := m.ext n (m.mu b) (m.cap b) i.size) hrun hle' ?_ ?_ hk
                · have := VR.slo (m := m.ext n (m.mu b) (m.cap b) i.size) n 0 0 (l + cnt) c' (Mp.ext_dom _ _ _ _ _) (fun _ => ⟨rfl, by rw [Mp.ext_esz, Mp.ext_cap, ← hes]; exact hK⟩) hroom
                  rw [Mp.ext_esz, Mp.ext_mu] at this
                  exact this
                · refine hr.set2 hb (hr.lr.retarget (ov_some hb) rfl rfl hfr.2.2.2 hfr.2.2.1 (Nat.lt_succ_self n) (m.cap b) i.size (upd_setRow hco) ?_)
                  have hcl : (cs.take (l * i.size) ++ news).length = l * i.size + cnt * i.size := by
                    rw [List.length_append, List.length_take, Nat.min_eq_left hl1, hn1]
                  have := OR.opn (m := m.ext n (m.mu b) (m.cap b) i.size) (b := n) (cs.take (l * i.size) ++ news) e2 (cs'.toList.take (0 + l * i.size + 0) ++ news' ++ cs'.toList.drop (0 + l * i.size + 0 + news'.length)).toArray ?_ ?_ ?_ ?_
                    (fun v hv => (List.mem_append.1 hv).elim (hatk v) (hn2 v))
                  · rw [Mp.ext_esz] at this; exact this
                  · show VRs _ (cs.take (l * i.size) ++ news) ((cs'.toList.take (0 + l * i.size + 0) ++ news' ++ cs'.toList.drop (0 + l * i.size + 0 + news'.length)).take _)
                    have e3 : (cs.take (l * i.size) ++ news).length = (cs'.toList.take (0 + l * i.size + 0) ++ news').length := by
                      have := (htake.append hn3).length
                      simpa using this
                    rw [e3, List.take_left]
                    have := (htake.append hn3).mono hle'
                    simpa using this
                  · rw [hcl]; simp; omega
                  · rw [Mp.ext_cap, ← hcap]; simp; omega
                  · rw [Mp.ext_esz]; exact hsz
              · -- it grows
                have hl2 : (cs'.toList.take (l * i.size)).length = l * i.size := by simp; omega
                have hold : ∀ w', w'.heap = w.heap → (Builtin.firstCells i.size l (.slice (some ⟨m.mu b, 0, none⟩) l c')).run P w' = .ok ⟨cs'.toList.take (l * i.size)⟩ w' := fun w' hw' => by
                  refine run_firstCells_some (P := P) w' i.size l ⟨m.mu b, 0, none⟩ l c' _ hl2 fun j u hu => ?_
                  rw [addr_add, heap_cell hw']
                  rw [List.getElem?_take] at hu
                  split at hu
                  · simp only [World.cell?, hco]; simpa using hu
                  · cases hu
                have hrun := append_grow (P := P) (w := w) (ty := ty) hu hi hzr hdx hni hlen hold hn4 (by omega) hsm hby
                have hcl : (cs.take (l * i.size) ++ news).length = (l + cnt) * i.size := by
                  rw [List.length_append, List.length_take, Nat.min_eq_left hl1, hn1, Nat.add_mul]
                obtain ⟨m', hm, hv, hh⟩ := grow_known (hr.kill hb) (e := e2) (esz := i.size) (need := l + cnt) (cap := grownCap w (l + cnt) c' e2) (rest := genZ z.cells.toList ((grownCap w (l + cnt) c' e2 - (l + cnt)) * z.cells.size)) (htake.append hn3)
                  (fun v hv => (List.mem_append.1 hv).elim (hatk v) (hn2 v)) hcl (by rw [genZ_length, hzs]) (grownCap_ge _ _ _ _) hsz
                exact Eff.value hrun hm hv hh hk
        · rw [hcs, sel_true] at hk
          rw [nblt, decide_eq_true_eq] at hcs
          rcases hcase with ⟨_, rfl⟩ | ⟨he, _, _⟩
          case inr => omega
          by_cases hroom : l + cnt ≤ c'
          · have e1 : Nat.ble (l + cnt) c' = true := by rw [nble]; exact decide_eq_true hroom
            rw [e1, sel_true, forceN_eq] at hk
            obtain ⟨w', h', hst, hh, hkk⟩ := inPlaceK_sound (P := P) (v' := .nilIface) hr hk hn3 hn2
            exact Eff.value (append_room hu hi hdx hni hlen (hn4 w rfl) hroom hst) m.le_refl (.sl b o _ _ hd hcs) hh hkk
          · have e1 : Nat.ble (l + cnt) c' = false := by rw [nble]; exact decide_eq_false hroom
            rw [e1, sel_false] at hk
            split at hk
            case h_2 => cases hk
            rename_i olds hold
            obtain ⟨ho1, ho2, olds', ho3, ho4⟩ := srcA_sound (P := P) hr hold hs
            exact grow ho3 hn3 ho2 hn2 ho1 hn1 hk (by omega) fun q1 q2 => append_grow hu hi hzr hdx hni hlen ho4 hn4 (by omega) q1 q2
    · cases hk

end
end Go.Ex

/- copy, clear; what writes, by its operation. -/
namespace Go.Ex
noncomputable section

variable {P : Program} {m : Mp} {B : Nat} {w0 w w' : World} {n : Nat} {h : T AO} {X : Nat → Option AO}

def copyK (P : Program) (h : T AO) (n : Nat) (dT : TypeId) (d x : Value) (k : Value → T AO → Nat → Bool) : Bool :=
  match P.underlying dT with
  | some (.slice e) => match P.info? e, lenA x with
    | some i, some xl => match d with
      | .slice a dl _ => forceN (Nat.min xl dl) fun q => match srcA h i.size x q with
        | some news => match a with
          | none => k (.int .i64 (.ofNat q)) h n
          | some ⟨b, o, none⟩ => sel (Nat.beq q 0) (k (.int .i64 (.ofNat q)) h n) (sel (Nat.blt o sent) (inPlaceK h n b o 0 news (.int .i64 (.ofNat q)) k) false)
          | _ => false
        | none => false
      | _ => false
    | _, _ => false
  | _ => false

theorem copyK_sound (hr : HR B w0 m h X n w) {dT sT ty : TypeId} {d x d' x' : Value} {k : Value → T AO → Nat → Bool} (hk : copyK P h n dT d x k = true) (hd : VR m d d') (hx : VR m x x') :
    Eff P B w0 X m (Builtin.copy_ #[dT, sT] ty #[d', x'] >>= fun u => (Pure.pure (Next.value u) : Sem Next)) w k := by
  unfold copyK at hk
  split at hk
  case h_2 => cases hk
  rename_i e hu
  split at hk
  case h_2 => cases hk
  rename_i i xl hi hxl
  split at hk
  case h_2 => cases hk
  rename_i a dl dc
  rw [forceN_eq] at hk
  split at hk
  case h_2 => cases hk
  rename_i news hnews
  obtain ⟨hn1, hn2, news', hn3, hn4⟩ := srcA_sound (P := P) hr hnews hx
  have hlen := fun w => lenA_sound (P := P) hxl hx w
  split at hk
  · cases hd
    refine Eff.value (v' := .int .i64 (.ofNat (Nat.min xl dl))) ?_ m.le_refl (.int _ _) hr hk
    simp only [Builtin.copy_, List.getElem?_toArray, List.getElem?_cons_zero, List.getElem?_cons_succ, Sem.run_bind, run_underlying hu, Result.andThen_ok, hlen, run_sizeOf' hi, hn4 w rfl, Sem.run_pure]
    rfl
  · rename_i b o
    by_cases hq : Nat.min xl dl = 0
    · rw [beq_true hq, sel_true] at hk
      have hnil : news' = [] := by
        have := hn3.length; rw [hn1, hq] at this; exact List.eq_nil_of_length_eq_zero (by omega)
      obtain ⟨a', c', he⟩ : ∃ a' c', d' = .slice (some a') dl c' := by cases hd <;> exact ⟨_, _, rfl⟩
      subst he
      refine Eff.value (v' := .int .i64 (.ofNat (Nat.min xl dl))) ?_ m.le_refl (.int _ _) hr hk
      simp only [Builtin.copy_, List.getElem?_toArray, List.getElem?_cons_zero, List.getElem?_cons_succ, Sem.run_bind, run_underlying hu, Result.andThen_ok, hlen, run_sizeOf' hi, hn4 w rfl, Sem.run_pure, hnil, storeCells]
      rfl
    · rw [beq_false hq, sel_false] at hk
      cases ho : Nat.blt o sent
      · rw [ho] at hk; cases hk
      rw [ho, sel_true] at hk
      rw [nblt, decide_eq_true_eq] at ho
      obtain ⟨hdm, c', rfl, _, _⟩ := inv_slice hd ho
      obtain ⟨w', h', hst, hh, hkk⟩ := inPlaceK_sound (P := P) (v' := .nilIface) hr hk hn3 hn2
      refine Eff.value (v' := .int .i64 (.ofNat (Nat.min xl dl))) ?_ m.le_refl (.int _ _) hh hkk
      have hst' : (storeCells ⟨m.mu b, o, none⟩ news').run P w = .ok () w' := by
        rw [addr_add] at hst; exact hst
      simp only [Builtin.copy_, List.getElem?_toArray, List.getElem?_cons_zero, List.getElem?_cons_succ, Sem.run_bind, run_underlying hu, Result.andThen_ok, hlen, run_sizeOf' hi, hn4 w rfl, Sem.run_pure, hst']
      rfl
  · cases hk

def clearK (P : Program) (h : T AO) (n : Nat) (t : TypeId) (x : Value) (k : Value → T AO → Nat → Bool) : Bool :=
  match P.underlying t with
  | some (.slice e) => match P.info? e, zeroV P e with
    | some i, some z => sel (noTuple z && Nat.beq z.cells.toList.length i.size) (match x with
      | .slice none _ _ => k undefA h n
      | .slice (some ⟨b, o, none⟩) l _ => sel (Nat.beq l 0) (k undefA h n) (sel (Nat.blt o sent) (inPlaceK h n b o 0 (genZ z.cells.toList (l * i.size)) undefA k) false)
      | _ => false) false
    | _, _ => false
  | some (.map _ _) => match x with
    | .map none => k undefA h n
    | .map (some r) => match h.get r with
      | some (.map _ cl) => T.setK (some (.map [] cl)) h r fun h' => k undefA h' n
      | _ => false
    | _ => false
  | _ => false

theorem clearK_sound (hr : HR B w0 m h X n w) {t ty : TypeId} {x x' : Value} {k : Value → T AO → Nat → Bool} (hk : clearK P h n t x k = true) (hx : VR m x x') :
    Eff P B w0 X m (Builtin.clear_ #[t] ty #[x'] >>= fun u => (Pure.pure (Next.value u) : Sem Next)) w k := by
  unfold clearK at hk
  split at hk
  · rename_i e hu
    split at hk
    case h_2 => cases hk
    rename_i i z hi hz
    obtain ⟨hzf, hzr⟩ := zeroV_spec hz
    cases hc0 : (noTuple z && Nat.beq z.cells.toList.length i.size)
    · rw [hc0] at hk; cases hk
    rw [hc0, sel_true] at hk
    rw [Bool.and_eq_true, nbeq, decide_eq_true_eq] at hc0
    obtain ⟨hnt, hzl⟩ := hc0
    have hzs : z.cells.size = i.size := by simpa using hzl
    split at hk
    · cases hx
      refine Eff.value (v' := .tuple #[]) ?_ m.le_refl (.tuple' VRs.nil) hr hk
      simp [Builtin.clear_, run_underlying hu]
    · rename_i b o l c
      by_cases hl : l = 0
      · subst hl
        rw [beq_true rfl, sel_true] at hk
        obtain ⟨a', c', he⟩ : ∃ a' c', x' = .slice (some a') 0 c' := by cases hx <;> exact ⟨_, _, rfl⟩
        subst he
        refine Eff.value (v' := .tuple #[]) ?_ m.le_refl (.tuple' VRs.nil) hr hk
        simp [Builtin.clear_, run_underlying hu]
      · rw [beq_false hl, sel_false] at hk
        cases ho : Nat.blt o sent
        · rw [ho] at hk; cases hk
        rw [ho, sel_true] at hk
        rw [nblt, decide_eq_true_eq] at ho
        obtain ⟨hdm, c', rfl, _, _⟩ := inv_slice hx ho
        obtain ⟨hgz, hga⟩ := genZ_refl (m := m) hzf hnt (l * i.size)
        obtain ⟨w', h', hst, hh, hkk⟩ := inPlaceK_sound (P := P) (v' := .nilIface) hr hk hgz hga
        refine Eff.value (v' := .tuple #[]) (w' := w') ?_ m.le_refl (.tuple' VRs.nil) hh hkk
        have hst' : (storeCells ⟨m.mu b, o, none⟩ (Builtin.zeroCells z.cells l).toList).run P w = .ok () w' := by
          have e1 : (Builtin.zeroCells z.cells l).toList = genZ z.cells.toList (l * i.size) := by
            rw [← hzs]; exact congrArg Array.toList (genZ_eq z.cells (l * z.cells.size))
          rw [e1]; rw [addr_add] at hst; exact hst
        obtain ⟨q, rfl⟩ : ∃ q, l = q + 1 := ⟨l - 1, by omega⟩
        simp [Builtin.clear_, run_underlying hu, hzr, hst']
    · cases hk
  · rename_i kt et hu
    split at hk
    · cases hx
      refine Eff.value (v' := .tuple #[]) ?_ m.le_refl (.tuple' VRs.nil) hr hk
      simp [Builtin.clear_, run_underlying hu]
    · rename_i r
      obtain ⟨rfl, hdr⟩ := hx.inv_map
      split at hk
      · rename_i es cl hb
        rw [T.setK_eq] at hk
        have hb' := ov_some (X := X) hb
        obtain ⟨_, es', hco, hes⟩ := hr.lr.map hb'
        have hget : (getObj (m.mu r)).run P w = .ok (.map es' cl) w := by simp [getObj, Sem.run, hco]
        have hset : ∀ o, (setObj (m.mu r) o).run P w = .ok () { w with heap := w.heap.setIfInBounds (m.mu r) o } := fun o => by simp [setObj, Sem.run, hco]
        refine Eff.value (v' := .tuple #[]) (w' := { w with heap := w.heap.setIfInBounds (m.mu r) (.map #[] cl) }) ?_ m.le_refl (.tuple' VRs.nil) ?_ hk
        · simp [Builtin.clear_, run_underlying hu, hget, hset]
        · exact hr.set hb (hr.lr.upd hb' rfl rfl (upd_setObj hco) (.map _ _ _ trivial))
      · cases hk
    · cases hk
  · cases hk

/-- What writes (calls apart). -/
def effK (P : Program) (h : T AO) (n : Nat) (ev : Operand → Option Value) (o : Oper) (k : Value → T AO → Nat → Bool) : Bool :=
  match o.op with
  | .store t a x => match ev a, ev x with
    | some a, some v => storeK P h n t a v k
    | _, _ => false
  | .mapUpdate t x i v => match ev x, ev i, ev v with
    | some x, some i, some v => mapUpdateK P h n t x i v k
    | _, _, _ => false
  | .insert t x i v => match ev x, ev i, ev v with
    | some x, some i, some v => mapUpdateK P h n t x i v k
    | _, _, _ => false
  | .call c => match c.callee with
    | .builtin .append => match c.argTypes.toList, c.args.toList with
      | [sT, xT], [s, x] => match ev s, ev x with
        | some s, some x => appendK P h n sT xT s x k
        | _, _ => false
      | _, _ => false
    | .builtin .copy => match c.argTypes.toList, c.args.toList with
      | [dT, _], [d, x] => match ev d, ev x with
        | some d, some x => copyK P h n dT d x k
        | _, _ => false
      | _, _ => false
    | .builtin .delete => match c.argTypes.toList, c.args.toList with
      | t :: _, [x, i] => match ev x, ev i with
        | some x, some i => deleteK P h n t x i k
        | _, _ => false
      | _, _ => false
    | .builtin .clear => match c.argTypes.toList, c.args.toList with
      | [t], [x] => match ev x with
        | some x => clearK P h n t x k
        | none => false
      | _, _ => false
    | _ => false
  | _ => false

theorem deleteK_sound' (hr : HR B w0 m h X n w) {t ty : TypeId} {ts : List TypeId} {x key x' key' : Value} {k : Value → T AO → Nat → Bool} (hk : deleteK P h n t x key k = true) (hx : VR m x x') (hkey : VR m key key') :
    Eff P B w0 X m (Builtin.delete_ ⟨t :: ts⟩ ty #[x', key'] >>= fun u => (Pure.pure (Next.value u) : Sem Next)) w k := by
  have := deleteK_sound (ty := ty) hr hk hx hkey
  have e : Builtin.delete_ ⟨t :: ts⟩ ty #[x', key'] = Builtin.delete_ #[t] ty #[x', key'] := by simp [Builtin.delete_]
  rw [e]; exact this

theorem effK_sound (hr : HR B w0 m h X n w) {ev : Operand → Option Value} {ρ : Operand → Value} (he : EvR m ev ρ) {o : Oper} {k : Value → T AO → Nat → Bool} (hk : effK P h n ev o k = true) :
    Eff P B w0 X m (execOp ρ o) w k := by
  obtain ⟨dst, op, ty, pos, after, guard⟩ := o
  cases op <;> simp only [effK] at hk <;> simp only [execOp]
  case store t a x =>
    split at hk
    · rename_i a' v ha hv; exact storeK_sound hr hk (he _ _ ha) (he _ _ hv)
    · cases hk
  case mapUpdate t x i v =>
    split at hk
    · rename_i x' i' v' hx hi hv; exact mapUpdateK_sound hr hk (he _ _ hx) (he _ _ hi) (he _ _ hv)
    · cases hk
  case insert t x i v =>
    split at hk
    · rename_i x' i' v' hx hi hv; exact mapUpdateK_sound hr hk (he _ _ hx) (he _ _ hi) (he _ _ hv)
    · cases hk
  case call c =>
    have inv : ∀ (b : Builtin) (s : Array TypeId → TypeId → Array Value → Sem Value), c.callee = .builtin b → (∀ at_ ty cs args, builtin b at_ ty cs args = (do pure (.value (← s at_ ty args)))) →
        (do let d ← resolve ρ c ty; invoke d.target d.args : Sem Next) = (do pure (.value (← s c.argTypes ty (c.args.map ρ)))) := fun b s hc hs => by
      rw [resolve_builtin ρ c ty b hc, pure_bind]
      exact hs _ _ _ _
    split at hk
    · rename_i hc
      rw [inv .append (Builtin.append_) hc (fun _ _ _ _ => rfl)]
      split at hk
      · rename_i sT xT s x ht hx
        split at hk
        · rename_i s' x' hs' hx'
          have e : c.argTypes = #[sT, xT] := by apply Array.ext'; simpa using ht
          have e2 : c.args.map ρ = #[ρ s, ρ x] := by apply Array.ext'; simp [hx]
          rw [e, e2]
          exact appendK_sound hr hk (he _ _ hs') (he _ _ hx')
        · cases hk
      · cases hk
    · rename_i hc
      rw [inv .copy (Builtin.copy_) hc (fun _ _ _ _ => rfl)]
      split at hk
      · rename_i dT sT d x ht hx
        split at hk
        · rename_i d' x' hd' hx'
          have e : c.argTypes = #[dT, sT] := by apply Array.ext'; simpa using ht
          have e2 : c.args.map ρ = #[ρ d, ρ x] := by apply Array.ext'; simp [hx]
          rw [e, e2]
          exact copyK_sound hr hk (he _ _ hd') (he _ _ hx')
        · cases hk
      · cases hk
    · rename_i hc
      rw [inv .delete (Builtin.delete_) hc (fun _ _ _ _ => rfl)]
      split at hk
      · rename_i t ts x i ht hx
        split at hk
        · rename_i x' i' hx' hi'
          have e : c.argTypes = ⟨t :: ts⟩ := by apply Array.ext'; simpa using ht
          have e2 : c.args.map ρ = #[ρ x, ρ i] := by apply Array.ext'; simp [hx]
          rw [e, e2]
          exact deleteK_sound' hr hk (he _ _ hx') (he _ _ hi')
        · cases hk
      · cases hk
    · rename_i hc
      rw [inv .clear (Builtin.clear_) hc (fun _ _ _ _ => rfl)]
      split at hk
      · rename_i t x ht hx
        split at hk
        · rename_i x' hx'
          have e : c.argTypes = #[t] := by apply Array.ext'; simpa using ht
          have e2 : c.args.map ρ = #[ρ x] := by apply Array.ext'; simp [hx]
          rw [e, e2]
          exact clearK_sound hr hk (he _ _ hx')
        · cases hk
      · cases hk
    · cases hk
  all_goals cases hk

end
end Go.Ex
