/- A verified executor of the model's code on an abstract heap, part 3: definitions and their soundness; nothing here names a program. -/
import Derived.Test.YtocjkllkjbehgaaGreatDoorEx2
import Derived.LoopN
import Derived.Tactics
import Derived.Orders

/- One operation; calls. -/
namespace Go.Ex
noncomputable section

variable {P : Program} {m : Mp} {B : Nat} {w0 w w' : World} {n : Nat} {h : T AO} {X : Nat → Option AO}

/-! ### Values handed on when they are made -/
def forceI {β : Type} (n : Int) (c : Int → β) : β :=
  match n with
  | .ofNat a => forceN a fun a => c (.ofNat a)
  | .negSucc a => forceN a fun a => c (.negSucc a)
theorem forceI_eq {β : Type} (n : Int) (c : Int → β) : forceI n c = c n := by
  cases n with
  | ofNat a => exact forceN_eq a fun a => c (.ofNat a)
  | negSucc a => exact forceN_eq a fun a => c (.negSucc a)
def forceB {β : Type} (l : List UInt8) : (List UInt8 → β) → β := List.rec (motive := fun _ => (List UInt8 → β) → β) (fun c => c []) (fun a _ ih c => forceN a.toNat fun n => ih fun r => c (UInt8.ofNat n :: r)) l
theorem forceB_eq {β : Type} (l : List UInt8) : ∀ c : List UInt8 → β, forceB l c = c l := by
  induction l with
  | nil => intro c; rfl
  | cons a l ih =>
    intro c
    show forceN a.toNat (fun n => forceB l fun r => c (UInt8.ofNat n :: r)) = _
    rw [forceN_eq, ih, UInt8.ofNat_toNat]
def forceV {β : Type} (v : Value) (c : Value → β) : β :=
  match v with
  | .int k n => forceI n fun n => c (.int k n)
  | .bool b => sel b (c (.bool true)) (c (.bool false))
  | .string s => forceB s.data.toList fun l => c (.string ⟨⟨l⟩⟩)
  | .pointer (some ⟨b, o, none⟩) => forceN b fun b => forceN o fun o => c (.pointer (some ⟨b, o, none⟩))
  | .slice (some ⟨b, o, none⟩) l q => forceN b fun b => forceN o fun o => forceN l fun l => forceN q fun q => c (.slice (some ⟨b, o, none⟩) l q)
  | .agg ⟨l⟩ => forceL l fun l => c (.agg ⟨l⟩)
  | .tuple ⟨l⟩ => forceL l fun l => c (.tuple ⟨l⟩)
  | v => c v
theorem forceV_eq {β : Type} (v : Value) (c : Value → β) : forceV v c = c v := by
  unfold forceV
  split
  · rw [forceI_eq]
  · rename_i b; cases b <;> rfl
  · rw [forceB_eq]
  · rw [forceN_eq, forceN_eq]
  · rw [forceN_eq, forceN_eq, forceN_eq, forceN_eq]
  · rw [forceL_eq]
  · rw [forceL_eq]
  · rfl
def forceAO {β : Type} (o : AO) (c : AO → β) : β :=
  match o with
  | .cells fl l e z => forceL l fun l => c (.cells fl l e z)
  | o => c o
theorem forceAO_eq {β : Type} (o : AO) (c : AO → β) : forceAO o c = c o := by
  unfold forceAO; split
  · rw [forceL_eq]
  · rfl

/-! ### Frames -/
/-- The temporaries, and the model's. -/
def TR (m : Mp) (f : Nat → Option Value) (z : Nat) (a : Act) : Prop := z ≤ a.tmps.size ∧ ∀ i v, f i = some v → VR m v (a.tmps.getD i undef)
theorem TR.mono {m m' : Mp} (hm : m.le m') {f : Nat → Option Value} {z : Nat} {a : Act} (h : TR m f z a) : TR m' f z a := ⟨h.1, fun i v hv => (h.2 i v hv).mono hm⟩

/-- The package's variables. -/
def GR (m : Mp) (G : Nat) : Prop := ∀ g, g < G → m.dom g ∧ m.mu g = g
theorem GR.mono {m m' : Mp} (hm : m.le m') {G : Nat} (h : GR m G) : GR m' G := fun g hg =>
  let ⟨h1, h2⟩ := h g hg
  let ⟨k1, k2, _, _⟩ := hm g h1
  ⟨k1, k2.trans h2⟩

def evF (G : Nat) (f : Nat → Option Value) (x : Operand) : Option Value :=
  match x with
  | .tmp i => f i
  | .const v => sel (flat 8 v) (some v) none
  | .global g => sel (Nat.blt g G) (some (.pointer (some ⟨g, 0, none⟩))) none
  | .func f => some (.func (.func f) ⟨[]⟩ ⟨[]⟩)

theorem evF_sound {G : Nat} (hG : GR m G) {f : Nat → Option Value} {z : Nat} {a : Act} (h : TR m f z a) : EvR m (evF G f) a.eval := by
  intro x v hv
  cases x with
  | tmp i => exact h.2 i v hv
  | const u =>
    simp only [evF] at hv
    cases hf : flat 8 u
    · rw [hf] at hv; cases hv
    · rw [hf, sel_true] at hv; cases hv; exact flat_refl m 8 _ hf
  | global g =>
    simp only [evF] at hv
    cases hf : Nat.blt g G
    · rw [hf] at hv; cases hv
    · rw [hf, sel_true] at hv; cases hv
      rw [nblt, decide_eq_true_eq] at hf
      obtain ⟨hd, hm⟩ := hG g hf
      have := VR.ptr (m := m) g 0 hd
      rw [hm] at this
      exact this
  | func f => cases hv; exact .func' rfl VRs.nil VRs.nil

/-- What is known behind an operation, for what follows. -/
def OpWp (P : Program) (B : Nat) (w0 : World) (X : Nat → Option AO) (m : Mp) (o : Oper) (a : Act) (w : World) (k : Value → T AO → Nat → Bool) : Prop :=
  ∀ (next : Act → World → Prop) (Q : Exit → Act → World → Prop), (∀ v v' m' h' n' w', m.le m' → VR m' v v' → HR B w0 m' h' X n' w' → k v h' n' = true → next (a.put o.dst v') w') → o.wp P a w next Q

theorem OpWp.of_eff {o : Oper} {a : Act} {k : Value → T AO → Nat → Bool} (he : Eff P B w0 X m (execOp a.eval o) w k) : OpWp P B w0 X m o a w k := by
  intro next Q hn
  obtain ⟨v, v', m', h', n', w', hr, hm, hv, hh, hk⟩ := he
  have := hn v v' m' h' n' w' hm hv hh hk
  unfold Oper.wp
  rcases hr with hr | ⟨hr, rfl⟩
  · rw [hr]; exact this
  · rw [hr]; exact this

/-- Which road an operation takes: 0 values, 1 reads, 2 makes, 3 writes, 4 calls. -/
def opClass (o : Op) : Nat :=
  match o with
  | .load _ _ => 1
  | .lookup _ _ _ _ => 1
  | .alloc _ => 2
  | .box _ _ => 2
  | .buildSlice _ _ _ => 2
  | .makeMap _ _ => 2
  | .makeSlice _ _ _ => 2
  | .store _ _ _ => 3
  | .mapUpdate _ _ _ _ => 3
  | .insert _ _ _ _ => 3
  | .call c => match c.callee with
    | .builtin .append => 3
    | .builtin .copy => 3
    | .builtin .delete => 3
    | .builtin .clear => 3
    | .builtin _ => 0
    | _ => 4
  | _ => 0

def valK (P : Program) (h : T AO) (n : Nat) (ev : Operand → Option Value) (o : Oper) (k : Value → T AO → Nat → Bool) : Bool :=
  match pureV P ev o with
  | some v => forceV v fun v => k v h n
  | none => match readV P h ev o with
    | some v => forceV v fun v => k v h n
    | none => false
def readK (P : Program) (h : T AO) (n : Nat) (ev : Operand → Option Value) (o : Oper) (k : Value → T AO → Nat → Bool) : Bool :=
  match readV P h ev o with
  | some v => forceV v fun v => k v h n
  | none => false
def allocK (P : Program) (h : T AO) (n : Nat) (ev : Operand → Option Value) (o : Oper) (k : Value → T AO → Nat → Bool) : Bool :=
  match allocV P ev o with
  | some (ao, f) => forceAO ao fun ao => T.setK (some ao) h n fun h' => forceN (n + 1) fun n' => k (f n) h' n'
  | none => false

def opBase (P : Program) (h : T AO) (n : Nat) (ev : Operand → Option Value) (o : Oper) (k : Value → T AO → Nat → Bool) : Bool :=
  match opClass o.op with
  | 0 => valK P h n ev o k
  | 1 => readK P h n ev o k
  | 2 => allocK P h n ev o k
  | _ => effK P h n ev o k

theorem opBase_sound (hr : HR B w0 m h X n w) {ev : Operand → Option Value} {a : Act} (he : EvR m ev a.eval) {o : Oper} {k : Value → T AO → Nat → Bool} (hk : opBase P h n ev o k = true) : OpWp P B w0 X m o a w k := by
  refine .of_eff ?_
  have hp : ∀ {v : Value}, pureV P ev o = some v → k v h n = true → Eff P B w0 X m (execOp a.eval o) w k := fun {v} hv hk => by
    obtain ⟨v', hvr, hrun⟩ := pureV_sound he hv
    exact ⟨v, v', m, h, n, w, .inl (hrun w), m.le_refl, hvr, hr, hk⟩
  have hrd : ∀ {v : Value}, readV P h ev o = some v → k v h n = true → Eff P B w0 X m (execOp a.eval o) w k := fun {v} hv hk => by
    obtain ⟨v', hvr, hrun⟩ := readV_sound hr.sub hr.lr he hv
    exact ⟨v, v', m, h, n, w, .inl hrun, m.le_refl, hvr, hr, hk⟩
  unfold opBase at hk
  split at hk
  · unfold valK at hk
    split at hk
    · rename_i v hv; rw [forceV_eq] at hk; exact hp hv hk
    · split at hk
      · rename_i v hv; rw [forceV_eq] at hk; exact hrd hv hk
      · cases hk
  · unfold readK at hk
    split at hk
    · rename_i v hv; rw [forceV_eq] at hk; exact hrd hv hk
    · cases hk
  · unfold allocK at hk
    split at hk
    · rename_i ao f hv
      rw [forceAO_eq, T.setK_eq, forceN_eq] at hk
      obtain ⟨hl, hrw, co, hrun, hor, hvr⟩ := allocV_sound he hv
      have hle := Mp.le_ext (m := m) hr.fresh.2.2.2 w.heap.size 0 0
      refine ⟨f n, f w.heap.size, m.ext n w.heap.size 0 0, _, n + 1, w.alloc co, .inl (hrun w), hle, ?_, hr.alloc 0 0 (hor _ _ hle), hk⟩
      have := hvr (m.ext n w.heap.size 0 0) n (Mp.ext_dom _ _ _ _ _)
      rwa [Mp.ext_mu] at this
    · cases hk
  · exact effK_sound hr he hk

/-! ### Results -/
def resV (P : Program) (h : T AO) (f : Nat → Option Value) : List ResultVar → Option (List Value)
  | [] => some []
  | .tmp i :: l => match f i, resV P h f l with
    | some v, some r => some (v :: r)
    | _, _ => none
  | .cell i ty :: l => match f i with
    | some a => match loadV P h ty a, resV P h f l with
      | some v, some r => some (v :: r)
      | _, _ => none
    | none => none
def oneOf : List Value → Value
  | [v] => v
  | l => .tuple ⟨l⟩

/-- A result variable's value. -/
def resF (tmps : Array Value) (r : ResultVar) : Sem Value :=
  match r with
  | .tmp t => Pure.pure (tmps.getD t undef)
  | .cell x t => asAddr (tmps.getD x undef) >>= fun p => loadVar t p

theorem resV_sound (hr : HR B w0 m h X n w) {f : Nat → Option Value} {z : Nat} {a : Act} (ht : TR m f z a) : ∀ {l : List ResultVar} {r : List Value}, resV P h f l = some r →
    ∃ r', VRs m r r' ∧ (l.mapM (resF a.tmps)).run P w = .ok r' w
  | [], r, hr' => by cases hr'; exact ⟨[], trivial, rfl⟩
  | .tmp i :: l, r, hr' => by
    simp only [resV] at hr'
    split at hr'
    · rename_i v r1 hv hr1
      cases hr'
      obtain ⟨r', h1, h2⟩ := resV_sound hr ht hr1
      refine ⟨_ :: r', ⟨ht.2 i v hv, h1⟩, ?_⟩
      rw [List.mapM_cons, Sem.run_bind]
      simp only [resF, Sem.run_pure, Result.andThen_ok, Sem.run_bind, h2]
    · cases hr'
  | .cell i ty :: l, r, hr' => by
    simp only [resV] at hr'
    split at hr'
    · rename_i av hav
      split at hr'
      · rename_i v r1 hv hr1
        cases hr'
        obtain ⟨r', h1, h2⟩ := resV_sound hr ht hr1
        obtain ⟨v', hvr, hrun⟩ := loadV_sound hr.sub hr.lr hv (ht.2 i av hav)
        refine ⟨v' :: r', ⟨hvr, h1⟩, ?_⟩
        have hload : (resF a.tmps (.cell i ty)).run P w = .ok v' w := by
          show (asAddr (a.tmps.getD i undef) >>= fun x => loadVar ty x).run P w = .ok v' w
          revert hrun
          generalize a.tmps.getD i undef = q
          intro hrun
          cases q with
          | pointer p =>
            cases p with
            | none => simp [Instr.loadAt, Instr.sureAddr, stuck, Sem.run] at hrun
            | some p => simpa [Instr.loadAt, Instr.sureAddr, asAddr] using hrun
          | _ => simp [Instr.loadAt, Instr.sureAddr, stuck, Sem.run] at hrun
        rw [List.mapM_cons, Sem.run_bind, hload]
        simp only [Sem.run_pure, Result.andThen_ok, Sem.run_bind, h2]
      · cases hr'
    · cases hr'

theorem results_run (hr : HR B w0 m h X n w) {f : Nat → Option Value} {z : Nat} {a : Act} (ht : TR m f z a) {fn : Func} {r : List Value} (hv : resV P h f fn.results.toList = some r) :
    ∃ v', VR m (oneOf r) v' ∧ (results fn a.tmps).run P w = .ok v' w := by
  obtain ⟨r', h1, h2⟩ := resV_sound hr ht hv
  have hm : (fn.results.mapM (resF a.tmps)).run P w = .ok r'.toArray w := by
    rw [Array.mapM_eq_mapM_toList, Sem.run_map]
    rw [h2]; rfl
  have e : results fn a.tmps = (fn.results.mapM (resF a.tmps) >>= fun vs => Pure.pure (if h : vs.size = 1 then vs[0] else .tuple vs)) := rfl
  refine ⟨oneOf r', ?_, ?_⟩
  · match r, r', h1 with
    | [], [], _ => exact .tuple' VRs.nil
    | [a], [b], h1 => exact h1.1
    | a :: b :: l, c :: d :: q, h1 => exact .tuple' h1
  · rw [e, Sem.run_bind, hm]
    simp only [Result.andThen_ok, Sem.run_pure]
    congr 1
    match r' with
    | [] => rfl
    | [a] => rfl
    | a :: b :: l => rfl

end
end Go.Ex

/- Calls, regions in the text's order, code. -/
namespace Go.Ex
noncomputable section

variable {P : Program} {m : Mp} {B : Nat} {w0 w w' : World} {n : Nat} {h : T AO} {X : Nat → Option AO}

/-- How a piece of code ends. -/
inductive X1 where
  | normal
  | exit (id : Nat)
  | ret

inductive XR : X1 → Exit → Prop
  | normal : XR .normal .normal
  | exit (id : Nat) : XR (.exit id) (.exit id)
  | ret : XR .ret .ret

/-- What goes on behind a piece of code. -/
abbrev Kt := X1 → T Value → T AO → Nat → Bool
/-- Code, a frame's size, its temporaries, the heap, the next number. -/
abbrev Ex1 := Code → Nat → T Value → T AO → Nat → Kt → Bool

/-- What is known behind a piece of code. -/
def Post (B : Nat) (w0 : World) (X : Nat → Option AO) (m : Mp) (z : Nat) (k : Kt) (e : Exit) (a : Act) (w : World) : Prop :=
  ∃ m' x t h n, m.le m' ∧ XR x e ∧ TR m' t.get z a ∧ a.defers = [] ∧ HR B w0 m' h X n w ∧ k x t h n = true

def Sound (P : Program) (G : Nat) (ih : Ex1) : Prop :=
  ∀ (c : Code) (z : Nat) (t : T Value) (h : T AO) (n : Nat) (k : Kt), ih c z t h n k = true → ∀ (B : Nat) (w0 : World) (m : Mp) (X : Nat → Option AO) (a : Act) (w : World),
    GR m G → TR m t.get z a → a.defers = [] → HR B w0 m h X n w → c.wp P (Post B w0 X m z k) a w

/-! ### Calls -/
/-- Arguments laid into the first temporaries. -/
def argsT : List Value → Nat → T Value → (T Value → Bool) → Bool
  | [], _, t, k => k t
  | v :: l, i, t, k => T.setK (some v) t i fun t => argsT l (i + 1) t k
def argsD : List Value → Nat → T Value → T Value
  | [], _, t => t
  | v :: l, i, t => argsD l (i + 1) (T.set (some v) t i)
theorem argsT_eq : ∀ (l : List Value) (i : Nat) (t : T Value) (k : T Value → Bool), argsT l i t k = k (argsD l i t)
  | [], _, _, _ => rfl
  | v :: l, i, t, k => by
    show T.setK (some v) t i (fun t => argsT l (i + 1) t k) = _
    rw [T.setK_eq, argsT_eq l]; rfl
theorem argsD_get : ∀ (l : List Value) (i : Nat) (t : T Value) (j : Nat), (argsD l i t).get j = if i ≤ j ∧ j < i + l.length then l[j - i]? else t.get j
  | [], i, t, j => by
    rw [if_neg (by simp only [List.length_nil]; omega)]; rfl
  | v :: l, i, t, j => by
    show (argsD l (i + 1) (T.set (some v) t i)).get j = _
    rw [argsD_get l, T.get_set]
    by_cases h1 : j = i
    · subst h1
      rw [if_neg (by omega), if_pos rfl, if_pos (by simp)]
      simp
    · by_cases h2 : i + 1 ≤ j ∧ j < i + 1 + l.length
      · rw [if_pos h2, if_pos (by simp; omega)]
        have : j - i = (j - (i + 1)) + 1 := by omega
        rw [this]; simp
      · rw [if_neg h2, if_neg h1, if_neg (by simp; omega)]

/-- A function that has a body, entered. -/
def bodyOf (P : Program) (f : FuncId) : Option (Func × Code) :=
  match P.funcs[f]? with
  | some fn => match fn.body with
    | some c => sel (fn.name == "runtime.NumGoroutine") none (some (fn, c))
    | none => none
  | none => none
theorem bodyOf_spec {f : FuncId} {fn : Func} {c : Code} (hb : bodyOf P f = some (fn, c)) : P.funcs[f]? = some fn ∧ fn.body = some c ∧ ∀ args w, (callFunc f args).run P w = .ok (.enter f args) w := by
  unfold bodyOf at hb
  split at hb
  · rename_i fn' hf
    split at hb
    · rename_i c' hc
      cases hn : fn'.name == "runtime.NumGoroutine"
      · rw [hn, sel_false] at hb
        simp only [Option.some.injEq, Prod.mk.injEq] at hb
        obtain ⟨rfl, rfl⟩ := hb
        refine ⟨hf, hc, fun args w => ?_⟩
        have hn' : ¬ fn'.name = "runtime.NumGoroutine" := by simpa using hn
        simp [callFunc, program, Sem.run, hf, hn', hc]
      · rw [hn] at hb; cases hb
    · cases hb
  · cases hb

def enterK (P : Program) (ih : Ex1) (f : FuncId) (args : List Value) (h : T AO) (n : Nat) (k : Value → T AO → Nat → Bool) : Bool :=
  match bodyOf P f with
  | some (fn, c) => sel (Nat.ble args.length fn.ntmps)
      (argsT args 0 .leaf fun t => ih c fn.ntmps t h n fun x t h n => match x with
        | .exit _ => false
        | _ => match resV P h t.get fn.results.toList with
          | some r => k (oneOf r) h n
          | none => false) false
  | none => sel (args.all (flat 8)) (match pr P (callFunc f ⟨args⟩) with
      | some (.value v) => sel (flat 8 v) (forceV v fun v => k v h n) false
      | _ => false) false

/-- What is known behind a call: of the model's run of the callee. -/
theorem enterK_sound {G : Nat} {ih : Ex1} (hih : Sound P G ih) (hG : GR m G) (hr : HR B w0 m h X n w) {f : FuncId} {args args' : List Value} {k : Value → T AO → Nat → Bool} (hk : enterK P ih f args h n k = true) (ha : VRs m args args')
    (next : Value → World → Prop) (Q : Prop) (hn : ∀ v v' m' h' n' w', m.le m' → VR m' v v' → HR B w0 m' h' X n' w' → k v h' n' = true → next v' w') :
    (∃ v', (callFunc f ⟨args'⟩).run P w = .ok (.value v') w ∧ next v' w) ∨
    ((callFunc f ⟨args'⟩).run P w = .ok (.enter f ⟨args'⟩) w ∧ Calls P f ⟨args'⟩ w fun
      | .returned v, w'' => next v w''
      | .panicked _, _ => Q
      | .outgrown, _ => Q) := by
  unfold enterK at hk
  split at hk
  · rename_i fn c hb
    obtain ⟨hf, hc, hrun⟩ := bodyOf_spec hb
    cases hl : Nat.ble args.length fn.ntmps
    · rw [hl] at hk; cases hk
    rw [hl, sel_true, argsT_eq] at hk
    rw [nble, decide_eq_true_eq] at hl
    right
    refine ⟨hrun _ w, calls_of_wp hf hc ?_⟩
    have hlen := ha.length
    have htr : TR m (argsD args 0 .leaf).get fn.ntmps { tmps := (⟨args'⟩ : Array Value) ++ Array.replicate (fn.ntmps - (⟨args'⟩ : Array Value).size) undef, defers := [] } := by
      refine ⟨by simp; omega, fun i v hv => ?_⟩
      rw [argsD_get] at hv
      split at hv
      · rename_i hi
        simp only [Nat.sub_zero] at hv
        obtain ⟨v', hv', hvr⟩ := ha.get hv
        have hlt : i < args'.length := (List.getElem?_eq_some_iff.1 hv').1
        have : ((⟨args'⟩ : Array Value) ++ Array.replicate (fn.ntmps - (⟨args'⟩ : Array Value).size) undef).getD i undef = v' := by
          rw [Array.getD_eq_getD_getElem?, Array.getElem?_append_left (by simpa using hlt)]
          simp [hv']
        rw [this]; exact hvr
      · cases hv
    refine Code.wp_mono (fun e a w' hp => ?_) (hih c fn.ntmps _ h n _ hk B w0 m X _ w hG htr rfl hr)
    obtain ⟨m', x, t, h', n', hm, hx, ht, hd, hh, hkk⟩ := hp
    have fin : ∀ {x : X1}, (match x with
        | .exit _ => false
        | _ => match resV P h' t.get fn.results.toList with
          | some r => k (oneOf r) h' n'
          | none => false) = true → x = .normal ∨ x = .ret → a.defers = [] ∧ ∃ v, (results fn a.tmps).run P w' = .ok v w' ∧ next v w' := fun {x} hkk hx => by
      have hkk' : (match resV P h' t.get fn.results.toList with
          | some r => k (oneOf r) h' n'
          | none => false) = true := by rcases hx with rfl | rfl <;> exact hkk
      split at hkk'
      · rename_i r hres
        obtain ⟨v', hvr, hrr⟩ := results_run hh ht hres
        exact ⟨hd, v', hrr, hn _ _ m' h' n' w' hm hvr hh hkk'⟩
      · cases hkk'
    cases hx with
    | normal => exact fin (x := .normal) hkk (.inl rfl)
    | ret => exact fin (x := .ret) hkk (.inr rfl)
    | exit id => cases hkk
  · cases hfl : args.all (flat 8)
    · rw [hfl] at hk; cases hk
    rw [hfl, sel_true] at hk
    rw [List.all_eq_true] at hfl
    have he : args' = args := VRs.eq_of (fun v hv v' hr => flat_eq m 8 v (hfl v hv) v' hr) ha
    split at hk
    · rename_i v hp
      cases hvf : flat 8 v
      · rw [hvf] at hk; cases hk
      rw [hvf, sel_true, forceV_eq] at hk
      left
      subst he
      exact ⟨v, pr_sound _ hp w, hn v v m h n w m.le_refl (flat_refl m 8 v hvf) hr hk⟩
    · cases hk

/-- A method of a dynamic type: the function, and what it is handed. -/
def methodA (P : Program) (h : T AO) (t : TypeId) (v : Value) (name : String) : Option (FuncId × Value) :=
  match P.info? t with
  | some i => match i.methods.find? (·.name == name) with
    | some mt => sel mt.path.isEmpty (match mt.func with
      | some (f, p) => match P.underlying t with
        | some (.pointer e) => sel p (some (f, v)) (match v with
          | .pointer (some _) => match loadV P h e v with
            | some u => some (f, u)
            | none => none
          | _ => none)
        | some _ => sel p none (some (f, v))
        | none => none
      | none => none) none
    | none => none
  | none => none

theorem run_wrapNil (xt : TypeId) (a : Addr) (name : String) (w : World) : (Builtin.ssaWrapNilChk_ #[xt] xt #[.pointer (some a), strVal "", strVal name]).run P w = .ok (.pointer (some a)) w := rfl

theorem methodA_sound (hr : HR B w0 m h X n w) {t : TypeId} {v v' : Value} {name : String} {f : FuncId} {u : Value} (hm : methodA P h t v name = some (f, u)) (hv : VR m v v') (fuel : Nat) :
    ∃ u', VR m u u' ∧ (Go.method (fuel + 1) t v' name).run P w = .ok (f, u') w := by
  unfold methodA at hm
  split at hm
  case h_2 => cases hm
  rename_i i hi
  split at hm
  case h_2 => cases hm
  rename_i mt hmt
  cases hp : mt.path.isEmpty
  · rw [hp] at hm; cases hm
  rw [hp, sel_true] at hm
  have hp' : mt.path.toList = [] := by simpa using hp
  split at hm
  case h_2 => cases hm
  rename_i f' p hf
  have start : ∀ (r : Result (FuncId × Value)), ((Go.receiverAt t (.val v') p (some ((name.splitOn ".").getLastD name))).run P w).andThen (fun u w => .ok (f', u) w) = r →
      (Go.method (fuel + 1) t v' name).run P w = r := fun r hrr => by
    simp only [Go.method, Sem.run_bind, run_typeInfo' hi, Result.andThen_ok, hmt, hp', Go.follow, Sem.run_pure, hf, hp, if_true]
    exact hrr
  split at hm
  · rename_i e hu
    cases p
    · rw [sel_false] at hm
      split at hm
      case h_2 => cases hm
      rename_i q
      split at hm
      case h_2 => cases hm
      rename_i u2 hl
      cases hm
      obtain ⟨v2, hvr, hrun⟩ := loadV_sound hr.sub hr.lr hl hv
      refine ⟨v2, hvr, start _ ?_⟩
      cases hv with
      | ptr b o hd =>
        have hl2 : (loadVar e ⟨m.mu b, o, none⟩).run P w = .ok v2 w := by simpa [Instr.loadAt, Instr.sureAddr] using hrun
        simp only [Go.receiverAt, Sem.run_bind, run_underlying hu, Result.andThen_ok, Go.Place.get, Sem.run_pure, run_wrapNil, asAddr, hl2]
    · rw [sel_true] at hm
      cases hm
      refine ⟨v', hv, start _ ?_⟩
      simp only [Go.receiverAt, Sem.run_bind, run_underlying hu, Result.andThen_ok, Go.Place.get, Sem.run_pure]
  · rename_i d hnp hu
    cases p
    · rw [sel_false] at hm
      cases hm
      refine ⟨v', hv, start _ ?_⟩
      simp only [Go.receiverAt, Sem.run_bind, run_underlying hu, Result.andThen_ok]
      cases d <;> first | rfl | exact (hnp _ rfl).elim
    · cases hm
  · cases hm

def callK (P : Program) (ih : Ex1) (ev : Operand → Option Value) (h : T AO) (n : Nat) (o : Oper) (k : Value → T AO → Nat → Bool) : Bool :=
  match o.op with
  | .call c => match c.callee with
    | .value f => match ev f, evs ev c.args.toList with
      | some (.func (.func g) ⟨first⟩ ⟨captured⟩), some args => enterK P ih g (first ++ args ++ captured) h n k
      | _, _ => false
    | .invoke r name => match ev r, evs ev c.args.toList with
      | some (.iface t v), some args => match methodA P h t v name with
        | some (g, u) => enterK P ih g (u :: args) h n k
        | none => false
      | _, _ => false
    | _ => false
  | _ => false

theorem callK_sound {G : Nat} {ih : Ex1} (hih : Sound P G ih) (hG : GR m G) (hr : HR B w0 m h X n w) {ev : Operand → Option Value} {a : Act} (he : EvR m ev a.eval) {o : Oper} {k : Value → T AO → Nat → Bool} (hk : callK P ih ev h n o k = true) : OpWp P B w0 X m o a w k := by
  intro next Q hn
  obtain ⟨dst, op, ty, pos, after, guard⟩ := o
  unfold callK at hk
  cases op <;> simp only [] at hk
  case call c =>
    have fin : ∀ {g : FuncId} {args args' : List Value}, (do let d ← resolve a.eval c ty; invoke d.target d.args : Sem Next).run P w = (callFunc g ⟨args'⟩).run P w → VRs m args args' → enterK P ih g args h n k = true →
        Oper.wp P { dst := dst, op := .call c, type := ty, pos := pos, after := after, guard := guard } a w next Q := fun {g args args'} hrun hargs hk => by
      unfold Oper.wp
      simp only [execOp]
      rw [hrun]
      rcases enterK_sound hih hG hr hk hargs (fun v w => next (a.put dst v) w) (Q (.panic []) a w ∧ False) hn with ⟨v', h1, h2⟩ | ⟨h1, h2⟩
      · rw [h1]; exact h2
      · rw [h1]
        refine Calls.mono h2 fun e w'' hR => ?_
        cases e with
        | returned v => exact hR
        | panicked ch => exact hR.2.elim
        | outgrown => exact hR.2.elim
    split at hk
    · rename_i f hc
      split at hk
      · rename_i g first captured args hf hargs
        obtain ⟨r, s, hfe, h1, h2, _⟩ := (he _ _ hf).inv_func
        refine fin ?_ ((h1.append (evs_sound he hargs)).append h2) hk
        have : (resolve a.eval c ty) = Pure.pure { target := .fn (.func g) ⟨s⟩, args := (⟨r⟩ : Array Value) ++ c.args.map a.eval } := by
          unfold resolve; rw [hc]; show Deferred.ofValue (a.eval f) (c.args.map a.eval) = _; rw [hfe]; rfl
        rw [this, pure_bind]
        show (callFunc g _).run P w = _
        congr 2
        apply Array.ext'
        simp
      · cases hk
    · rename_i rv name hc
      split at hk
      · rename_i t v args hrv hargs
        split at hk
        · rename_i g u hm
          obtain ⟨v', hve, hvr⟩ := (he _ _ hrv).inv_iface
          obtain ⟨u', hur, hmr⟩ := methodA_sound hr hm hvr (P.types.size + Made.depth - 1)
          refine fin (args' := u' :: c.args.toList.map a.eval) ?_ (.cons hur (evs_sound he hargs)) hk
          have : (resolve a.eval c ty) = Pure.pure { target := .fn (.method name) #[], args := #[.iface t v'] ++ c.args.map a.eval } := by
            unfold resolve; rw [hc]; show (Pure.pure { target := .fn (.method name) #[], args := #[a.eval rv] ++ c.args.map a.eval } : Sem Deferred) = _; rw [hve]
          rw [this, pure_bind]
          have hfu : P.types.size + Made.depth = (P.types.size + Made.depth - 1) + 1 := by
            have : 0 < Made.depth := by decide
            omega
          have hget : (#[Value.iface t v'] ++ c.args.map a.eval)[0]? = some (.iface t v') := by
            rw [Array.getElem?_append_left (by simp)]; rfl
          simp only [invoke, hget, callMethod, Sem.run_bind, program, Sem.run, Result.andThen_ok]
          rw [hfu, hmr]
          simp only [Result.andThen_ok]
          congr 2
          apply Array.ext'
          simp [List.take_of_length_le]
        · cases hk
      · cases hk
    · cases hk
  all_goals cases hk

def opX (P : Program) (ih : Ex1) (h : T AO) (n : Nat) (ev : Operand → Option Value) (o : Oper) (k : Value → T AO → Nat → Bool) : Bool :=
  sel (Nat.beq (opClass o.op) 4) (callK P ih ev h n o k) (opBase P h n ev o k)

theorem opX_sound {G : Nat} {ih : Ex1} (hih : Sound P G ih) (hG : GR m G) (hr : HR B w0 m h X n w) {ev : Operand → Option Value} {a : Act} (he : EvR m ev a.eval) {o : Oper} {k : Value → T AO → Nat → Bool} (hk : opX P ih h n ev o k = true) : OpWp P B w0 X m o a w k := by
  unfold opX at hk
  cases hc : Nat.beq (opClass o.op) 4
  · rw [hc] at hk; exact opBase_sound hr he hk
  · rw [hc] at hk; exact callK_sound hih hG hr he hk

end
end Go.Ex

/- Regions in the text's order; code. -/
namespace Go.Ex
noncomputable section

variable {P : Program} {m : Mp} {B : Nat} {w0 w w' : World} {n : Nat} {h : T AO} {X : Nat → Option AO}

/-! ### Temporaries -/
def putK (z : Nat) (t : T Value) (dst : Option Tmp) (v : Value) (k : T Value → Bool) : Bool :=
  match dst with
  | none => k t
  | some d => sel (Nat.blt d z) (T.setK (some v) t d k) false

theorem TR.put {f : Nat → Option Value} {z : Nat} {a : Act} (ht : TR m f z a) {d : Nat} (hd : d < z) {v v' : Value} (hv : VR m v v') : TR m (fun i => if i = d then some v else f i) z (a.put (some d) v') := by
  obtain ⟨h1, h2⟩ := ht
  refine ⟨by simpa [Act.put] using h1, fun i u hu => ?_⟩
  simp only [Act.put]
  have hu : (if i = d then some v else f i) = some u := hu
  by_cases e : i = d
  · subst e
    rw [if_pos rfl] at hu; cases hu
    have : i < a.tmps.size := by omega
    simp [this, hv]
  · rw [if_neg e] at hu
    have := h2 i u hu
    have e2 : (a.tmps.setIfInBounds d v').getD i undef = a.tmps.getD i undef := by
      simp [Array.getElem?_setIfInBounds_ne (Ne.symm e)]
    rw [e2]; exact this

theorem TR.ext {f g : Nat → Option Value} {z : Nat} {a : Act} (ht : TR m f z a) (e : ∀ i v, g i = some v → f i = some v) : TR m g z a := ⟨ht.1, fun i v hv => ht.2 i v (e i v hv)⟩

theorem putK_sound {z : Nat} {t : T Value} {dst : Option Tmp} {v v' : Value} {k : T Value → Bool} {a : Act} (hk : putK z t dst v k = true) (ht : TR m t.get z a) (hv : VR m v v') : ∃ t', TR m t'.get z (a.put dst v') ∧ k t' = true := by
  cases dst with
  | none => exact ⟨t, ht, hk⟩
  | some d =>
    simp only [putK] at hk
    cases hd : Nat.blt d z
    · rw [hd] at hk; cases hk
    · rw [hd, sel_true, T.setK_eq] at hk
      rw [nblt, decide_eq_true_eq] at hd
      exact ⟨_, (ht.put hd hv).ext fun i u hu => by rw [T.get_set] at hu; exact hu, hk⟩

/-- Is an operation wanted? -/
def wantedA (ops : List Oper) (f : Nat → Option Value) (o : Oper) : Option Bool :=
  match o.guard with
  | none => some true
  | some (j, want) => match ops[j]? with
    | some g => match g.dst with
      | some d => match f d with
        | some (.bool b) => some (b == want)
        | some (.tuple ⟨[]⟩) => some false
        | _ => none
      | none => none
    | none => none

theorem wantedA_spec {ops : List Oper} {f : Nat → Option Value} {o : Oper} {b : Bool} {z : Nat} {a : Act} (hw : wantedA ops f o = some b) (ht : TR m f z a) :
    Region.wanted o (yielded ⟨ops⟩ a.tmps) = b := by
  unfold wantedA at hw
  unfold Region.wanted
  split at hw
  · rename_i hg
    cases hw
    rw [hg]
  · rename_i j want hg
    rw [hg]
    split at hw
    · rename_i g hgj
      split at hw
      · rename_i d hd
        split at hw
        · rename_i c hc
          cases hw
          have h1 := (ht.2 d _ hc).inv_bool
          have h2 : a.tmps[d]? = some (.bool c) := by
            rw [Array.getD_eq_getD_getElem?] at h1
            cases hq : a.tmps[d]? with
            | none => rw [hq] at h1; cases h1
            | some q => rw [hq] at h1; rw [← h1]; rfl
          have h3 : (⟨ops⟩ : Array Oper)[j]? = some g := by simpa using hgj
          simp only [yielded, h3, Option.bind_some, hd, h2]
          cases c <;> cases want <;> rfl
        · rename_i hc
          cases hw
          obtain ⟨r, h1, hr⟩ := (ht.2 d _ hc).inv_tuple
          have hr0 : r = [] := by cases r with | nil => rfl | cons x l => exact hr.elim
          subst hr0
          have h3 : (⟨ops⟩ : Array Oper)[j]? = some g := by simpa using hgj
          have h2 : ∀ b, a.tmps[d]? ≠ some (.bool b) := fun b hb => by
            rw [Array.getD_eq_getD_getElem?, hb] at h1; cases h1
          simp only [yielded, h3, Option.bind_some, hd]
          cases hq : a.tmps[d]? with
          | none => cases want <;> rfl
          | some q =>
            cases q with
            | bool b => exact absurd hq (h2 b)
            | _ => cases want <;> rfl
        · cases hw
      · cases hw
    · cases hw

def runL (P : Program) (G : Nat) (ih : Ex1) (ops : List Oper) (z : Nat) (l : List Oper) : T Value → T AO → Nat → (T Value → T AO → Nat → Bool) → Bool :=
  List.rec (motive := fun _ => T Value → T AO → Nat → (T Value → T AO → Nat → Bool) → Bool) (fun t h n k => k t h n)
    (fun o _ rest t h n k => match wantedA ops t.get o with
      | some b => sel b (opX P ih h n (evF G t.get) o fun v h n => putK z t o.dst v fun t => rest t h n k) (putK z t o.dst undefA fun t => rest t h n k)
      | none => false) l
theorem runL_cons (G : Nat) (ih : Ex1) (ops : List Oper) (z : Nat) (o : Oper) (l : List Oper) (t : T Value) (h : T AO) (n : Nat) (k : T Value → T AO → Nat → Bool) :
    runL P G ih ops z (o :: l) t h n k = (match wantedA ops t.get o with
      | some b => sel b (opX P ih h n (evF G t.get) o fun v h n => putK z t o.dst v fun t => runL P G ih ops z l t h n k) (putK z t o.dst undefA fun t => runL P G ih ops z l t h n k)
      | none => false) := rfl

theorem runL_sound {G : Nat} {ih : Ex1} (hih : Sound P G ih) {ops : List Oper} {z : Nat} {Q : Exit → Act → World → Prop} : ∀ {l : List Oper} {m : Mp} {t : T Value} {h : T AO} {n : Nat} {k : T Value → T AO → Nat → Bool} {a : Act} {w : World},
    runL P G ih ops z l t h n k = true → GR m G → TR m t.get z a → a.defers = [] → HR B w0 m h X n w →
    (∀ m' t' h' n' a' w', m.le m' → TR m' t'.get z a' → a'.defers = [] → HR B w0 m' h' X n' w' → k t' h' n' = true → Q .normal a' w') → wpList P ⟨ops⟩ Q l a w
  | [], m, t, h, n, k, a, w, hk, hG, ht, hd, hr, hn => hn m t h n a w m.le_refl ht hd hr hk
  | o :: l, m, t, h, n, k, a, w, hk, hG, ht, hd, hr, hn => by
    rw [runL_cons] at hk
    unfold wpList
    split at hk
    · rename_i b hw
      rw [wantedA_spec hw ht]
      have hdef : ∀ v, (a.put o.dst v).defers = [] := fun v => by cases o.dst <;> exact hd
      cases b
      · rw [sel_false] at hk
        rw [if_neg (by simp)]
        obtain ⟨t', ht', hk'⟩ := putK_sound (v' := undef) hk ht (.tuple' VRs.nil)
        exact runL_sound hih hk' hG ht' (hdef _) hr hn
      · rw [sel_true] at hk
        rw [if_pos rfl]
        refine .inl (opX_sound hih hG hr (evF_sound hG ht) hk _ _ fun v v' m' h' n' w' hm hv hh hkk => ?_)
        obtain ⟨t', ht', hk'⟩ := putK_sound hkk (ht.mono hm) hv
        exact runL_sound hih hk' (hG.mono hm) ht' (hdef _) hh fun m2 t2 h2 n2 a2 w2 hm2 => hn m2 t2 h2 n2 a2 w2 (Mp.le_trans hm hm2)
    · cases hk

/-! ### Code -/
/-- How a drawn region is run: given. -/
abbrev Reg := Ex1 → List Oper → Nat → T Value → T AO → Nat → (T Value → T AO → Nat → Bool) → Bool

/-- Whatever goes on behind code, it is handed one end (or nothing). -/
def UniC (f : Kt → Bool) : Prop := (∀ k, f k = false) ∨ ∃ x t h n, ∀ k, f k = k x t h n
def Ex1.Uni (ih : Ex1) : Prop := ∀ c z t h n, UniC fun k => ih c z t h n k

def RegSound (P : Program) (G : Nat) (reg : Reg) : Prop :=
  ∀ (ih : Ex1), Sound P G ih → ih.Uni → ∀ (ops : List Oper) (z : Nat) (t : T Value) (h : T AO) (n : Nat) (k : T Value → T AO → Nat → Bool), reg ih ops z t h n k = true →
    ∀ (B : Nat) (w0 : World) (m : Mp) (X : Nat → Option AO) (a : Act) (w : World) (Q : Exit → Act → World → Prop) (id : Nat), GR m G → TR m t.get z a → a.defers = [] → HR B w0 m h X n w →
    (∀ m' t' h' n' a' w', m.le m' → TR m' t'.get z a' → a'.defers = [] → HR B w0 m' h' X n' w' → k t' h' n' = true → Q .normal a' w') → (Code.region id ⟨ops⟩ true).wp P Q a w

def stepK (P : Program) (G : Nat) (reg : Reg) (ih : Ex1) (c : Code) (z : Nat) (t : T Value) (h : T AO) (n : Nat) (k : Kt) : Bool :=
  match c with
  | .skip => k .normal t h n
  | .region _ ⟨ops⟩ draw => sel draw (reg ih ops z t h n fun t h n => k .normal t h n) (runL P G ih ops z ops t h n fun t h n => k .normal t h n)
  | .seq a b => ih a z t h n fun x t h n => match x with
    | .normal => ih b z t h n k
    | x => k x t h n
  | .cond c a b => match evF G t.get c with
    | some (.bool true) => ih a z t h n k
    | some (.bool false) => ih b z t h n k
    | _ => false
  | .block id body => ih body z t h n fun x t h n => match x with
    | .exit j => sel (Nat.beq j id) (k .normal t h n) (k (.exit j) t h n)
    | x => k x t h n
  | .loop body => ih body z t h n fun x t h n => match x with
    | .normal => ih (.loop body) z t h n k
    | x => k x t h n
  | .exit id => k (.exit id) t h n
  | .ret => k .ret t h n
  | _ => false

def exec (P : Program) (G : Nat) (reg : Reg) (fuel : Nat) : Ex1 :=
  Nat.rec (motive := fun _ => Ex1) (fun _ _ _ _ _ _ => false) (fun _ ih => stepK P G reg ih) fuel
theorem exec_succ (P : Program) (G : Nat) (reg : Reg) (f : Nat) : exec P G reg (f + 1) = stepK P G reg (exec P G reg f) := rfl

theorem Post.weaken {m m' : Mp} (hm : m.le m') {z : Nat} {k : Kt} {e : Exit} {a : Act} {w : World} (hp : Post B w0 X m' z k e a w) : Post B w0 X m z k e a w := by
  obtain ⟨m2, x, t, h, n, h1, h2⟩ := hp
  exact ⟨m2, x, t, h, n, Mp.le_trans hm h1, h2⟩

theorem exec_sound {G : Nat} {reg : Reg} (hreg : RegSound P G reg) (hU : ∀ f, Ex1.Uni (exec P G reg f)) : ∀ f, Sound P G (exec P G reg f) ∧
    (∀ (body : Code) (z : Nat) (t : T Value) (h : T AO) (n : Nat) (k : Kt), exec P G reg f (.loop body) z t h n k = true → ∀ (B : Nat) (w0 : World) (m : Mp) (X : Nat → Option AO) (a : Act) (w : World),
      GR m G → TR m t.get z a → a.defers = [] → HR B w0 m h X n w → Code.rounds P body (Post B w0 X m z k) f a w) := by
  intro f
  induction f with
  | zero => exact ⟨fun c z t h n k hk => (by cases hk), fun body z t h n k hk => (by cases hk)⟩
  | succ f ih =>
    obtain ⟨ihS, ihR⟩ := ih
    have hround : ∀ (body : Code) (z : Nat) (t : T Value) (h : T AO) (n : Nat) (k : Kt), exec P G reg (f + 1) (.loop body) z t h n k = true → ∀ (B : Nat) (w0 : World) (m : Mp) (X : Nat → Option AO) (a : Act) (w : World),
        GR m G → TR m t.get z a → a.defers = [] → HR B w0 m h X n w → Code.rounds P body (Post B w0 X m z k) (f + 1) a w := by
      intro body z t h n k hk B w0 m X a w hG ht hd hr
      rw [exec_succ] at hk
      rw [rounds_succ]
      refine Code.wp_mono (fun e a' w' hp => ?_) (ihS body z t h n _ hk B w0 m X a w hG ht hd hr)
      obtain ⟨m', x, t', h', n', hm, hx, ht', hd', hh', hkk⟩ := hp
      have mono : ∀ (q : Nat) (a : Act) (w : World), Code.rounds P body (Post B w0 X m' z k) q a w → Code.rounds P body (Post B w0 X m z k) q a w := by
        intro q
        induction q with
        | zero => intro a w h; exact h
        | succ q ihq =>
          intro a w h
          rw [rounds_succ] at h ⊢
          refine Code.wp_mono (fun e a w hp => ?_) h
          cases e with
          | normal => exact ihq a w hp
          | _ => exact Post.weaken hm hp
      cases hx with
      | normal => exact mono _ _ _ (ihR body z t' h' n' k hkk B w0 m' X a' w' (hG.mono hm) ht' hd' hh')
      | exit id => exact ⟨m', .exit id, t', h', n', hm, .exit id, ht', hd', hh', hkk⟩
      | ret => exact ⟨m', .ret, t', h', n', hm, .ret, ht', hd', hh', hkk⟩
    refine ⟨fun c z t h n k hk B w0 m X a w hG ht hd hr => ?_, hround⟩
    rw [exec_succ] at hk
    cases c with
    | skip => exact wp_skip ⟨m, .normal, t, h, n, m.le_refl, .normal, ht, hd, hr, hk⟩
    | region id ops draw =>
      obtain ⟨ops⟩ := ops
      cases draw with
      | false =>
        refine wp_region_list ?_
        exact runL_sound ihS hk hG ht hd hr fun m' t' h' n' a' w' hm ht' hd' hh' hkk => ⟨m', .normal, t', h', n', hm, .normal, ht', hd', hh', hkk⟩
      | true =>
        exact hreg _ ihS (hU f) ops z t h n _ hk B w0 m X a w _ id hG ht hd hr fun m' t' h' n' a' w' hm ht' hd' hh' hkk => ⟨m', .normal, t', h', n', hm, .normal, ht', hd', hh', hkk⟩
    | seq c1 c2 =>
      refine wp_seq (Code.wp_mono (fun e a' w' hp => ?_) (ihS c1 z t h n _ hk B w0 m X a w hG ht hd hr))
      obtain ⟨m', x, t', h', n', hm, hx, ht', hd', hh', hkk⟩ := hp
      cases hx with
      | normal => exact Code.wp_mono (fun e a w hp => Post.weaken hm hp) (ihS c2 z t' h' n' k hkk B w0 m' X a' w' (hG.mono hm) ht' hd' hh')
      | exit id => exact ⟨m', .exit id, t', h', n', hm, .exit id, ht', hd', hh', hkk⟩
      | ret => exact ⟨m', .ret, t', h', n', hm, .ret, ht', hd', hh', hkk⟩
    | cond c c1 c2 =>
      unfold stepK at hk
      simp only [] at hk
      split at hk
      · rename_i hc
        have := (evF_sound hG ht _ _ hc).inv_bool
        exact wp_cond_true this (ihS c1 z t h n k hk B w0 m X a w hG ht hd hr)
      · rename_i hc
        have := (evF_sound hG ht _ _ hc).inv_bool
        exact wp_cond_false this (ihS c2 z t h n k hk B w0 m X a w hG ht hd hr)
      · cases hk
    | block id body =>
      refine wp_block (Code.wp_mono (fun e a' w' hp => ?_) (ihS body z t h n _ hk B w0 m X a w hG ht hd hr))
      obtain ⟨m', x, t', h', n', hm, hx, ht', hd', hh', hkk⟩ := hp
      cases hx with
      | normal => exact ⟨m', .normal, t', h', n', hm, .normal, ht', hd', hh', hkk⟩
      | exit j =>
        by_cases hj : j = id
        · have hkk' : k .normal t' h' n' = true := by
            have : (sel (Nat.beq j id) (k .normal t' h' n') (k (.exit j) t' h' n')) = true := hkk
            rwa [beq_true hj, sel_true] at this
          show (if j = id then _ else _)
          rw [if_pos hj]
          exact ⟨m', .normal, t', h', n', hm, .normal, ht', hd', hh', hkk'⟩
        · have hkk' : k (.exit j) t' h' n' = true := by
            have : (sel (Nat.beq j id) (k .normal t' h' n') (k (.exit j) t' h' n')) = true := hkk
            rwa [beq_false hj, sel_false] at this
          show (if j = id then _ else _)
          rw [if_neg hj]
          exact ⟨m', .exit j, t', h', n', hm, .exit j, ht', hd', hh', hkk'⟩
      | ret => exact ⟨m', .ret, t', h', n', hm, .ret, ht', hd', hh', hkk⟩
    | loop body => exact wp_loop_rounds (f + 1) (hround body z t h n k hk B w0 m X a w hG ht hd hr)
    | exit id => exact wp_exit ⟨m, .exit id, t, h, n, m.le_refl, .exit id, ht, hd, hr, hk⟩
    | ret => exact wp_ret ⟨m, .ret, t, h, n, m.le_refl, .ret, ht, hd, hr, hk⟩
    | _ => cases hk

end
end Go.Ex

/- Regions that draw their order: what depends on the operands alone; one way of each operation. -/
namespace Go.Ex
noncomputable section

variable {P : Program}

/-! ### Operands that agree -/
theorem evs_congr {ev ev' : Operand → Option Value} : ∀ {l : List Operand}, (∀ x ∈ l, ev x = ev' x) → evs ev l = evs ev' l
  | [], _ => rfl
  | x :: l, h => by
    simp only [evs, h x (by simp), evs_congr (l := l) fun y hy => h y (by simp [hy])]
theorem evps_congr {ev ev' : Operand → Option Value} : ∀ {l : List (Nat × Operand)}, (∀ x ∈ l, ev x.2 = ev' x.2) → evps ev l = evps ev' l
  | [], _ => rfl
  | x :: l, h => by
    simp only [evps, h x (by simp), evps_congr (l := l) fun y hy => h y (by simp [hy])]
theorem evo_congr {ev ev' : Operand → Option Value} {x : Option Operand} (h : ∀ y ∈ x, ev y = ev' y) : evo ev x = evo ev' x := by
  cases x with
  | none => rfl
  | some x => simp only [evo, h x rfl]

theorem pureV_congr {ev ev' : Operand → Option Value} {o : Oper} (h : ∀ x ∈ o.op.operands, ev x = ev' x) : pureV P ev o = pureV P ev' o := by
  obtain ⟨dst, op, ty, pos, after, guard⟩ := o
  cases op <;> simp only [Op.operands] at h <;> simp only [pureV]
  case build t ps => rw [evps_congr (ev := ev) (ev' := ev') fun x hx => h x.2 (by simp; exact ⟨x.1, by simpa using hx⟩)]
  case makeFunc fn f c => rw [evs_congr (ev := ev) (ev' := ev') (l := f.toList) fun x hx => h x (by simp; exact .inl (by simpa using hx)), evs_congr (ev := ev) (ev' := ev') (l := c.toList) fun x hx => h x (by simp; exact .inr (by simpa using hx))]
  case slice t x lo hi mx =>
    rw [h x (by simp), evo_congr (ev := ev) (ev' := ev') (x := lo) fun y hy => h y (by cases hy; simp), evo_congr (ev := ev) (ev' := ev') (x := hi) fun y hy => h y (by cases hy; simp), evo_congr (ev := ev) (ev' := ev') (x := mx) fun y hy => h y (by cases hy; simp)]
  case call c =>
    have ha : ∀ x ∈ c.args.toList, ev x = ev' x := fun x hx => h x (by simp [Call.operands]; exact .inr (by simpa using hx))
    rw [evs_congr ha]
    split
    · split
      · rename_i t x ht hx; rw [ha x (by rw [hx]; simp)]
      · rfl
    · split
      · rename_i t x ht hx; rw [ha x (by rw [hx]; simp)]
      · rfl
    · rfl
    · rfl
    · rfl
  all_goals first
    | rfl
    | (simp only [List.mem_toArray, List.mem_cons, List.not_mem_nil, or_false, forall_eq_or_imp, forall_eq] at h; simp only [h])

theorem readV_congr {h : T AO} {ev ev' : Operand → Option Value} {o : Oper} (he : ∀ x ∈ o.op.operands, ev x = ev' x) : readV P h ev o = readV P h ev' o := by
  obtain ⟨dst, op, ty, pos, after, guard⟩ := o
  cases op <;> simp only [Op.operands] at he <;> simp only [readV]
  case slice t x lo hi mx =>
    rw [he x (by simp), evo_congr (ev := ev) (ev' := ev') (x := lo) fun y hy => he y (by cases hy; simp), evo_congr (ev := ev) (ev' := ev') (x := hi) fun y hy => he y (by cases hy; simp), evo_congr (ev := ev) (ev' := ev') (x := mx) fun y hy => he y (by cases hy; simp)]
  case call c =>
    have ha : ∀ x ∈ c.args.toList, ev x = ev' x := fun x hx => he x (by simp [Call.operands]; exact .inr (by simpa using hx))
    split
    · split
      · rename_i t x ht hx; rw [ha x (by rw [hx]; simp)]
      · rfl
    · rfl
  all_goals first
    | rfl
    | (simp only [List.mem_toArray, List.mem_cons, List.not_mem_nil, or_false, forall_eq_or_imp, forall_eq] at he; simp only [he])

theorem allocV_congr {ev ev' : Operand → Option Value} {o : Oper} (he : ∀ x ∈ o.op.operands, ev x = ev' x) : allocV P ev o = allocV P ev' o := by
  obtain ⟨dst, op, ty, pos, after, guard⟩ := o
  cases op <;> simp only [Op.operands] at he <;> simp only [allocV]
  case buildSlice t n ps => rw [evps_congr (ev := ev) (ev' := ev') fun x hx => he x.2 (by simp; exact ⟨x.1, by simpa using hx⟩)]
  case makeMap t r => cases r <;> rfl
  all_goals first
    | rfl
    | (simp only [List.mem_toArray, List.mem_cons, List.not_mem_nil, or_false, forall_eq_or_imp, forall_eq] at he; simp only [he])

theorem effK_congr {h : T AO} {n : Nat} {ev ev' : Operand → Option Value} {o : Oper} {k : Value → T AO → Nat → Bool} (he : ∀ x ∈ o.op.operands, ev x = ev' x) : effK P h n ev o k = effK P h n ev' o k := by
  obtain ⟨dst, op, ty, pos, after, guard⟩ := o
  cases op <;> simp only [Op.operands] at he <;> simp only [effK]
  case call c =>
    have ha : ∀ x ∈ c.args.toList, ev x = ev' x := fun x hx => he x (by simp [Call.operands]; exact .inr (by simpa using hx))
    split
    · split
      · rename_i s x ht hx; rw [ha s (by rw [hx]; simp), ha x (by rw [hx]; simp)]
      · rfl
    · split
      · rename_i s x ht hx; rw [ha s (by rw [hx]; simp), ha x (by rw [hx]; simp)]
      · rfl
    · split
      · rename_i s x ht hx; rw [ha s (by rw [hx]; simp), ha x (by rw [hx]; simp)]
      · rfl
    · split
      · rename_i t x ht hx; rw [ha x (by rw [hx]; simp)]
      · rfl
    · rfl
  all_goals first
    | rfl
    | (simp only [List.mem_toArray, List.mem_cons, List.not_mem_nil, or_false, forall_eq_or_imp, forall_eq] at he; simp only [he])

theorem callK_congr {ih : Ex1} {h : T AO} {n : Nat} {ev ev' : Operand → Option Value} {o : Oper} {k : Value → T AO → Nat → Bool} (he : ∀ x ∈ o.op.operands, ev x = ev' x) : callK P ih ev h n o k = callK P ih ev' h n o k := by
  obtain ⟨dst, op, ty, pos, after, guard⟩ := o
  cases op <;> simp only [Op.operands] at he <;> simp only [callK]
  case call c =>
    have ha : evs ev c.args.toList = evs ev' c.args.toList := evs_congr fun x hx => he x (by simp [Call.operands]; exact .inr (by simpa using hx))
    rw [ha]
    split
    · rename_i f hc; rw [he f (by simp [Call.operands, hc])]
    · rename_i r name hc; rw [he r (by simp [Call.operands, hc])]
    · rfl

theorem opX_congr {ih : Ex1} {h : T AO} {n : Nat} {ev ev' : Operand → Option Value} {o : Oper} {k : Value → T AO → Nat → Bool} (he : ∀ x ∈ o.op.operands, ev x = ev' x) : opX P ih h n ev o k = opX P ih h n ev' o k := by
  unfold opX opBase valK readK allocK
  rw [callK_congr he, effK_congr he, pureV_congr he, readV_congr he, allocV_congr he]

/-! ### One way -/
/-- Whatever goes on behind it, it is handed one thing (or nothing). -/
def Uni (f : (Value → T AO → Nat → Bool) → Bool) : Prop := (∀ k, f k = false) ∨ ∃ v h n, ∀ k, f k = k v h n
theorem Uni.no : Uni fun _ => false := .inl fun _ => rfl
theorem Uni.one (v : Value) (h : T AO) (n : Nat) : Uni fun k => k v h n := .inr ⟨v, h, n, fun _ => rfl⟩
theorem Uni.sel {f g : (Value → T AO → Nat → Bool) → Bool} (b : Bool) (hf : Uni f) (hg : Uni g) : Uni fun k => Ex.sel b (f k) (g k) := by
  cases b
  · exact hg
  · exact hf

theorem storeK_uni (h : T AO) (n : Nat) (t : TypeId) (a v : Value) : Uni fun k => storeK P h n t a v k := by
  unfold storeK
  simp only [forceL_eq, T.setK_eq]
  split
  · split
    · split
      · exact .sel _ (.one _ _ _) .no
      · exact .no
    · exact .no
  · exact .no
theorem mapUpdateK_uni (h : T AO) (n : Nat) (t : TypeId) (x i v : Value) : Uni fun k => mapUpdateK P h n t x i v k := by
  unfold mapUpdateK
  simp only [forceL_eq, forceN_eq, T.setK_eq]
  repeat' split
  all_goals first | exact .no | exact .one _ _ _
theorem deleteK_uni (h : T AO) (n : Nat) (t : TypeId) (x i : Value) : Uni fun k => deleteK P h n t x i k := by
  unfold deleteK
  simp only [forceL_eq, forceN_eq, T.setK_eq]
  repeat' split
  all_goals first | exact .no | exact .one _ _ _
theorem inPlaceK_uni (h : T AO) (n b o at_ : Nat) (news : List Value) (v : Value) : Uni fun k => inPlaceK h n b o at_ news v k := by
  unfold inPlaceK
  simp only [forceL_eq, T.setK_eq]
  split
  · exact .sel _ (.one _ _ _) .no
  · exact .no
theorem growK_uni (h : T AO) (n e esz need bytes : Nat) (c : List Value) : Uni fun k => growK h n e esz need bytes c k := by
  unfold growK
  simp only [forceL_eq, forceN_eq, T.setK_eq]
  exact .sel _ (.one _ _ _) .no
theorem retargetK_uni (h : T AO) (n b e esz need : Nat) (c : List Value) : Uni fun k => retargetK h n b e esz need c k := by
  unfold retargetK
  simp only [forceL_eq, forceN_eq, T.setK_eq]
  exact .one _ _ _
theorem appendK_uni (h : T AO) (n : Nat) (sT xT : TypeId) (s x : Value) : Uni fun k => appendK P h n sT xT s x k := by
  unfold appendK
  simp only [forceN_eq]
  split
  · split
    · refine .sel _ ?_ .no
      split
      · split
        · refine .sel _ ?_ .no
          split
          · exact growK_uni ..
          · exact .no
        · exact .no
      · split
        · exact .no
        · split
          · exact .no
          · split
            · exact .sel _ (.one _ _ _) (.sel _ (growK_uni ..) .no)
            · refine .sel _ (.sel _ (.sel _ (.one _ _ _) .no) (.one _ _ _)) (.sel _ (.sel _ (.sel _ (inPlaceK_uni ..) ?_) (.sel _ ?_ .no)) .no)
              · split
                · exact growK_uni ..
                · exact .no
              · split
                · exact .sel _ (inPlaceK_uni ..) (.sel _ (retargetK_uni ..) .no)
                · exact .no
            · exact .no
    · exact .no
  · exact .no
theorem copyK_uni (h : T AO) (n : Nat) (dT : TypeId) (d x : Value) : Uni fun k => copyK P h n dT d x k := by
  unfold copyK
  simp only [forceN_eq]
  split
  · split
    · split
      · split
        · split
          · exact .one _ _ _
          · exact .sel _ (.one _ _ _) (.sel _ (inPlaceK_uni ..) .no)
          · exact .no
        · exact .no
      · exact .no
    · exact .no
  · exact .no
theorem clearK_uni (h : T AO) (n : Nat) (t : TypeId) (x : Value) : Uni fun k => clearK P h n t x k := by
  unfold clearK
  simp only [T.setK_eq]
  split
  · split
    · refine .sel _ ?_ .no
      split
      · exact .one _ _ _
      · exact .sel _ (.one _ _ _) (.sel _ (inPlaceK_uni ..) .no)
      · exact .no
    · exact .no
  · split
    · exact .one _ _ _
    · split
      · exact .one _ _ _
      · exact .no
    · exact .no
  · exact .no
theorem effK_uni (h : T AO) (n : Nat) (ev : Operand → Option Value) (o : Oper) : Uni fun k => effK P h n ev o k := by
  unfold effK
  repeat' split
  all_goals first
    | exact .no
    | exact storeK_uni ..
    | exact mapUpdateK_uni ..
    | exact appendK_uni ..
    | exact copyK_uni ..
    | exact deleteK_uni ..
    | exact clearK_uni ..
theorem opBase_uni (h : T AO) (n : Nat) (ev : Operand → Option Value) (o : Oper) : Uni fun k => opBase P h n ev o k := by
  unfold opBase valK readK allocK
  simp only [forceV_eq, forceAO_eq, forceN_eq, T.setK_eq]
  split
  · split
    · exact .one _ _ _
    · split
      · exact .one _ _ _
      · exact .no
  · split
    · exact .one _ _ _
    · exact .no
  · split
    · exact .one _ _ _
    · exact .no
  · exact effK_uni ..

theorem enterK_uni {ih : Ex1} (hih : ih.Uni) (f : FuncId) (args : List Value) (h : T AO) (n : Nat) : Uni fun k => enterK P ih f args h n k := by
  unfold enterK
  simp only [argsT_eq, forceV_eq]
  split
  · rename_i fn c _
    refine .sel _ ?_ .no
    rcases hih c fn.ntmps (argsD args 0 .leaf) h n with hn | ⟨x, t, h', n', hn⟩
    · exact .inl fun k => hn _
    · cases x with
      | exit id => exact .inl fun k => by rw [hn]
      | normal =>
        cases hr : resV P h' t.get fn.results.toList with
        | none => exact .inl fun k => by rw [hn]; simp only [hr]
        | some r => exact .inr ⟨oneOf r, h', n', fun k => by rw [hn]; simp only [hr]⟩
      | ret =>
        cases hr : resV P h' t.get fn.results.toList with
        | none => exact .inl fun k => by rw [hn]; simp only [hr]
        | some r => exact .inr ⟨oneOf r, h', n', fun k => by rw [hn]; simp only [hr]⟩
  · refine .sel _ ?_ .no
    split
    · exact .sel _ (.one _ _ _) .no
    · exact .no
theorem callK_uni {ih : Ex1} (hih : ih.Uni) (ev : Operand → Option Value) (h : T AO) (n : Nat) (o : Oper) : Uni fun k => callK P ih ev h n o k := by
  unfold callK
  split
  · split
    · split
      · exact enterK_uni hih ..
      · exact .no
    · split
      · split
        · exact enterK_uni hih ..
        · exact .no
      · exact .no
    · exact .no
  · exact .no
theorem opX_uni {ih : Ex1} (hih : ih.Uni) (h : T AO) (n : Nat) (ev : Operand → Option Value) (o : Oper) : Uni fun k => opX P ih h n ev o k :=
  .sel _ (callK_uni hih ..) (opBase_uni ..)

/-- A drawn region, too. -/
def UniT (f : (T Value → T AO → Nat → Bool) → Bool) : Prop := (∀ k, f k = false) ∨ ∃ t h n, ∀ k, f k = k t h n
def Reg.Uni (reg : Reg) : Prop := ∀ ih : Ex1, ih.Uni → ∀ ops z t h n, UniT fun k => reg ih ops z t h n k

theorem putK_uni (z : Nat) (t : T Value) (dst : Option Tmp) (v : Value) : (∀ k, putK z t dst v k = false) ∨ ∃ t', ∀ k, putK z t dst v k = k t' := by
  unfold putK
  simp only [T.setK_eq]
  cases dst with
  | none => exact .inr ⟨t, fun _ => rfl⟩
  | some d =>
    simp only []
    cases Nat.blt d z
    · exact .inl fun _ => rfl
    · exact .inr ⟨_, fun _ => rfl⟩

theorem thenP {f : (T Value → Bool) → Bool} {g : T Value → (T Value → T AO → Nat → Bool) → Bool} (hf : (∀ k, f k = false) ∨ ∃ t', ∀ k, f k = k t') (hg : ∀ t, UniT (g t)) : UniT fun k => f fun t => g t k := by
  rcases hf with hf | ⟨t', hf⟩
  · exact .inl fun k => hf _
  · rcases hg t' with h1 | ⟨t2, h2, n2, h1⟩
    · exact .inl fun k => (hf _).trans (h1 k)
    · exact .inr ⟨t2, h2, n2, fun k => (hf _).trans (h1 k)⟩
theorem thenX {f : (Value → T AO → Nat → Bool) → Bool} {g : Value → T AO → Nat → (T Value → T AO → Nat → Bool) → Bool} (hf : Uni f) (hg : ∀ v h n, UniT (g v h n)) : UniT fun k => f fun v h n => g v h n k := by
  rcases hf with hf | ⟨v, h, n, hf⟩
  · exact .inl fun k => hf _
  · rcases hg v h n with h1 | ⟨t2, h2, n2, h1⟩
    · exact .inl fun k => (hf _).trans (h1 k)
    · exact .inr ⟨t2, h2, n2, fun k => (hf _).trans (h1 k)⟩

theorem runL_uni {ih : Ex1} (hih : ih.Uni) (G : Nat) (ops : List Oper) (z : Nat) : ∀ (l : List Oper) (t : T Value) (h : T AO) (n : Nat), UniT fun k => runL P G ih ops z l t h n k
  | [], t, h, n => .inr ⟨t, h, n, fun _ => rfl⟩
  | o :: l, t, h, n => by
    show UniT fun k => (match wantedA ops t.get o with
      | some b => sel b (opX P ih h n (evF G t.get) o fun v h n => putK z t o.dst v fun t => runL P G ih ops z l t h n k) (putK z t o.dst undefA fun t => runL P G ih ops z l t h n k)
      | none => false)
    cases wantedA ops t.get o with
    | none => exact .inl fun _ => rfl
    | some b =>
      cases b with
      | false => exact thenP (putK_uni z t o.dst undefA) fun t => runL_uni hih G ops z l t h n
      | true => exact thenX (opX_uni hih h n _ o) fun v h n => thenP (putK_uni z t o.dst v) fun t => runL_uni hih G ops z l t h n

theorem stepK_uni {G : Nat} {reg : Reg} (hreg : reg.Uni) {ih : Ex1} (hih : ih.Uni) : Ex1.Uni (stepK P G reg ih) := by
  intro c z t h n
  have then_ : ∀ (f : Kt → Bool) (g : Kt → X1 → T Value → T AO → Nat → Bool), UniC f → (∀ x t h n, UniC fun k => g k x t h n) → UniC fun k => f (g k) := fun f g hf hg => by
    rcases hf with hf | ⟨x, t, h, n, hf⟩
    · exact .inl fun k => hf _
    · rcases hg x t h n with h1 | ⟨x2, t2, h2, n2, h1⟩
      · exact .inl fun k => (hf _).trans (h1 k)
      · exact .inr ⟨x2, t2, h2, n2, fun k => (hf _).trans (h1 k)⟩
  have one : ∀ x t h n, UniC fun k => k x t h n := fun x t h n => .inr ⟨x, t, h, n, fun _ => rfl⟩
  cases c with
  | skip => exact one ..
  | region id ops draw =>
    obtain ⟨ops⟩ := ops
    have fin : ∀ f : (T Value → T AO → Nat → Bool) → Bool, UniT f → UniC fun k => f fun t h n => k .normal t h n := fun f hf => by
      rcases hf with hf | ⟨t, h, n, hf⟩
      · exact .inl fun k => hf _
      · exact .inr ⟨.normal, t, h, n, fun k => hf _⟩
    cases draw with
    | false => exact fin _ (runL_uni hih G ops z ops t h n)
    | true => exact fin _ (hreg ih hih ops z t h n)
  | seq a b =>
    refine then_ _ (fun k x t h n => match x with | .normal => ih b z t h n k | x => k x t h n) (hih a z t h n) fun x t h n => ?_
    cases x with
    | normal => exact hih b z t h n
    | _ => exact one ..
  | cond c a b =>
    show UniC fun k => match evF G t.get c with
      | some (.bool true) => ih a z t h n k
      | some (.bool false) => ih b z t h n k
      | _ => false
    split
    · exact hih ..
    · exact hih ..
    · exact .inl fun _ => rfl
  | block id body =>
    refine then_ _ (fun k x t h n => match x with | .exit j => sel (Nat.beq j id) (k .normal t h n) (k (.exit j) t h n) | x => k x t h n) (hih body z t h n) fun x t h n => ?_
    cases x with
    | exit j =>
      show UniC fun k => sel (Nat.beq j id) (k .normal t h n) (k (.exit j) t h n)
      cases Nat.beq j id
      · exact one ..
      · exact one ..
    | _ => exact one ..
  | loop body =>
    refine then_ _ (fun k x t h n => match x with | .normal => ih (.loop body) z t h n k | x => k x t h n) (hih body z t h n) fun x t h n => ?_
    cases x with
    | normal => exact hih ..
    | _ => exact one ..
  | exit id => exact one ..
  | ret => exact one ..
  | _ => exact .inl fun _ => rfl

theorem exec_uni {G : Nat} {reg : Reg} (hreg : reg.Uni) : ∀ f, Ex1.Uni (exec P G reg f)
  | 0 => fun _ _ _ _ _ => .inl fun _ => rfl
  | f + 1 => stepK_uni hreg (exec_uni hreg f)

end
end Go.Ex

/- Regions that draw their order: how one is run, and what is asked of its operations' edges. -/
namespace Go.Ex
noncomputable section

/-! ### Edges -/
def edges (o : Oper) : List Nat := (o.after.toList.filter fun e => Region.binds .any e).map (·.on)
def orBits (g : Nat → Nat) : List Nat → Nat → Nat
  | [], s => s
  | e :: l, s => orBits g l (s ||| 2 ^ e ||| g e)
theorem orBits_bit (g : Nat → Nat) : ∀ (l : List Nat) (s q : Nat), (orBits g l s).testBit q = true → s.testBit q = true ∨ ∃ e ∈ l, q = e ∨ (g e).testBit q = true
  | [], s, q, h => .inl h
  | e :: l, s, q, h => by
    rcases orBits_bit g l _ q h with h1 | ⟨e', he', h1⟩
    · rw [Nat.testBit_or, Nat.testBit_or, Bool.or_eq_true, Bool.or_eq_true, Nat.testBit_two_pow] at h1
      rcases h1 with (h1 | h1) | h1
      · exact .inl h1
      · exact .inr ⟨e, by simp, .inl (by simpa using h1 : e = q).symm⟩
      · exact .inr ⟨e, by simp, .inr h1⟩
    · exact .inr ⟨e', by simp [he'], h1⟩

def ancGo : List Oper → List Nat → List Nat
  | [], acc => acc
  | o :: l, acc => ancGo l (acc ++ [orBits (fun e => acc.getD e 0) (edges o) 0])
theorem ancGo_old : ∀ (l : List Oper) (acc : List Nat) (j : Nat), j < acc.length → (ancGo l acc).getD j 0 = acc.getD j 0
  | [], _, _, _ => rfl
  | o :: l, acc, j, h => by
    show (ancGo l (acc ++ [_])).getD j 0 = _
    rw [ancGo_old l _ j (by simp; omega)]
    simp [List.getD, List.getElem?_append_left h]
theorem ancGo_bit : ∀ (l : List Oper) (acc : List Nat) (i q : Nat) (o : Oper), l[i]? = some o → ((ancGo l acc).getD (acc.length + i) 0).testBit q = true →
    ∃ e ∈ edges o, q = e ∨ (e < acc.length + i ∧ ((ancGo l acc).getD e 0).testBit q = true)
  | [], _, _, _, _, h, _ => by simp at h
  | o' :: l, acc, 0, q, o, h, hb => by
    simp only [List.getElem?_cons_zero, Option.some.injEq] at h
    subst h
    have h1 : (ancGo (o' :: l) acc).getD (acc.length + 0) 0 = orBits (fun e => acc.getD e 0) (edges o') 0 := by
      show (ancGo l (acc ++ [_])).getD _ 0 = _
      rw [ancGo_old l _ _ (by simp)]
      simp [List.getD]
    rw [h1] at hb
    rcases orBits_bit _ _ _ _ hb with h2 | ⟨e, he, h2⟩
    · simp at h2
    · refine ⟨e, he, h2.imp id fun h3 => ?_⟩
      have hlt : e < acc.length := by
        rcases Nat.lt_or_ge e acc.length with h4 | h4
        · exact h4
        · simp [List.getD, List.getElem?_eq_none h4] at h3
      refine ⟨by omega, ?_⟩
      show ((ancGo l (acc ++ [_])).getD e 0).testBit q = true
      rw [ancGo_old l _ _ (by simp; omega)]
      simpa [List.getD, List.getElem?_append_left hlt] using h3
  | o' :: l, acc, i + 1, q, o, h, hb => by
    simp only [List.getElem?_cons_succ] at h
    have := ancGo_bit l (acc ++ [orBits (fun e => acc.getD e 0) (edges o') 0]) i q o h (by
      have e1 : (acc ++ [orBits (fun e => acc.getD e 0) (edges o') 0]).length + i = acc.length + (i + 1) := by simp; omega
      rw [e1]; exact hb)
    obtain ⟨e, he, h2⟩ := this
    refine ⟨e, he, h2.imp id fun ⟨h3, h4⟩ => ⟨by simp at h3; omega, h4⟩⟩

def ancs (ops : List Oper) : List Nat := ancGo ops []
def anc (ops : List Oper) (i q : Nat) : Bool := ((ancs ops).getD i 0).testBit q

theorem anc_down {ops : List Oper} {D : Nat → Prop} (hD : ∀ p o, ops[p]? = some o → D p → ∀ e ∈ edges o, D e) : ∀ (i q : Nat) (o : Oper), ops[i]? = some o → (∀ e ∈ edges o, D e) → anc ops i q = true → D q := by
  intro i
  induction i using Nat.strongRecOn with
  | _ i ih =>
    intro q o ho he hb
    obtain ⟨e, hee, h⟩ := ancGo_bit ops [] i q o ho (by simpa [anc, ancs] using hb)
    rcases h with rfl | ⟨hlt, hb'⟩
    · exact he q hee
    · have hlt' : e < i := by simpa using hlt
      have hi : i < ops.length := (List.getElem?_eq_some_iff.1 ho).1
      have hoe : ops[e]? = some ops[e] := List.getElem?_eq_getElem (by omega)
      exact ih e hlt' q _ hoe (hD e _ hoe (he e hee)) hb'

/-! ### The plan -/
def isEff (o : Oper) : Bool := Nat.ble 3 (opClass o.op)
def effAt (ops : List Oper) (i : Nat) : Bool := match ops[i]? with | some o => isEff o | none => false
def dstIs (ops : List Oper) (i τ : Nat) : Bool := match ops[i]? with | some o => (match o.dst with | some d => Nat.beq d τ | none => false) | none => false
def sameDst (ops : List Oper) (i j : Nat) : Bool := match ops[i]? with | some o => (match o.dst with | some d => dstIs ops j d | none => false) | none => false
/-- The temporaries that an operation looks at. -/
def looksL (ops : List Oper) (o : Oper) : List Nat :=
  (o.op.operands.toList.filterMap fun | .tmp t => some t | _ => none) ++
  (match o.guard with
   | some (g, _) => match ops[g]? with
     | some og => og.dst.toList
     | none => []
   | none => [])
def plainOk (ops : List Oper) (i : Nat) : Bool :=
  (match ops[i]? with | some o => (edges o).all (fun e => Nat.blt e i) | none => true) && !anc ops i i && (List.range ops.length).all (fun j => Nat.beq i j || !sameDst ops i j) &&
  (match ops[i]? with
   | some o => (looksL ops o).all fun τ => (List.range ops.length).all fun p => !dstIs ops p τ || anc ops i p || Nat.beq p i || anc ops p i
   | none => true)
def ordOk (ops : List Oper) : List Nat → Bool
  | [] => true
  | i :: rest => (rest.all fun p => !Nat.beq p i && !anc ops i p && (!effAt ops p || anc ops p i)) && ordOk ops rest
def memN (i : Nat) : List Nat → Bool
  | [] => false
  | j :: l => Nat.beq i j || memN i l
def ordGo (ops : List Oper) : List Nat → List Nat → List Nat
  | [], done => (List.range ops.length).filter fun i => !memN i done
  | e :: es, done =>
    ((List.range ops.length).filter fun i => anc ops e i && !memN i done) ++ e :: ordGo ops es (done ++ ((List.range ops.length).filter fun i => anc ops e i && !memN i done) ++ [e])
def ord (ops : List Oper) : List Nat := ordGo ops ((List.range ops.length).filter fun i => effAt ops i) []
def planOk (ops : List Oper) : Bool :=
  (List.range ops.length).all (plainOk ops) && ordOk ops (ord ops) && (List.range ops.length).all (fun i => memN i (ord ops)) && (ord ops).all (fun i => Nat.blt i ops.length)

/-! ### One way through -/
/-- Behind each effect: which one, the heap. -/
abbrev Tl := List (Nat × T AO)
/-- What was read: by which operation, the temporaries then, the value. -/
abbrev Rd := List (Nat × T Value × Value)
abbrev Kc := T Value → T AO → Nat → Tl → Rd → Bool

def canonK (P : Program) (G : Nat) (ih : Ex1) (ops : List Oper) (n0 z : Nat) (l : List Nat) : T Value → T AO → Nat → Tl → Rd → Kc → Bool :=
  List.rec (motive := fun _ => T Value → T AO → Nat → Tl → Rd → Kc → Bool) (fun t h n tl rd k => k t h n tl rd)
    (fun i _ rest t h n tl rd k => match ops[i]? with
      | none => false
      | some o => match wantedA ops t.get o with
        | none => false
        | some b => sel b
          (sel (isEff o)
            (opX P ih h n (evF G t.get) o fun v h n => putK z t o.dst v fun t => rest t h n ((i, h) :: tl) rd k)
            (sel (Nat.beq (opClass o.op) 2)
              (match allocV P (evF G t.get) o with
              | some (ao, f) => forceN (n0 + i) fun r => forceAO ao fun ao => T.setK (some ao) h r fun h => putK z t o.dst (f r) fun t => rest t h n tl rd k
              | none => false)
              (match pureV P (evF G t.get) o with
              | some v => forceV v fun v => putK z t o.dst v fun t => rest t h n tl rd k
              | none => match readV P h (evF G t.get) o with
                | some v => forceV v fun v => putK z t o.dst v fun t' => rest t' h n tl ((i, t, v) :: rd) k
                | none => false)))
          (putK z t o.dst undefA fun t => rest t h n tl rd k)) l

/-! ### What was read stays -/
def veq : Nat → Value → Value → Bool
  | 0, _, _ => false
  | n + 1, a, b => match a, b with
    | .bool x, .bool y => x == y
    | .int k x, .int j y => kindEq k j && ieq x y
    | .string x, .string y => bsEq x.data.toList y.data.toList
    | .pointer none, .pointer none => true
    | .pointer (some ⟨b1, o1, none⟩), .pointer (some ⟨b2, o2, none⟩) => Nat.beq b1 b2 && Nat.beq o1 o2
    | .slice none l1 c1, .slice none l2 c2 => Nat.beq l1 l2 && Nat.beq c1 c2
    | .slice (some ⟨b1, o1, none⟩) l1 c1, .slice (some ⟨b2, o2, none⟩) l2 c2 => Nat.beq b1 b2 && Nat.beq o1 o2 && Nat.beq l1 l2 && Nat.beq c1 c2
    | .map none, .map none => true
    | .map (some r), .map (some s) => Nat.beq r s
    | .nilFunc, .nilFunc => true
    | .nilIface, .nilIface => true
    | .float .f64 x, .float .f64 y => Nat.beq x y
    | .iface t v, .iface u w => Nat.beq t u && veq n v w
    | .agg ⟨l⟩, .agg ⟨r⟩ => Nat.beq l.length r.length && (List.zip l r).all fun x => veq n x.1 x.2
    | .tuple ⟨l⟩, .tuple ⟨r⟩ => Nat.beq l.length r.length && (List.zip l r).all fun x => veq n x.1 x.2
    | .func (.func f) ⟨l⟩ ⟨r⟩, .func (.func g) ⟨l2⟩ ⟨r2⟩ => Nat.beq f g && (Nat.beq l.length l2.length && (List.zip l l2).all fun x => veq n x.1 x.2) && (Nat.beq r.length r2.length && (List.zip r r2).all fun x => veq n x.1 x.2)
    | _, _ => false

theorem zip_eq {n : Nat} (ih : ∀ a b, veq n a b = true → a = b) : ∀ (l r : List Value), Nat.beq l.length r.length = true → ((List.zip l r).all fun x => veq n x.1 x.2) = true → l = r
  | [], [], _, _ => rfl
  | [], _ :: _, h, _ => by simp at h
  | _ :: _, [], h, _ => by simp at h
  | a :: l, b :: r, h, h2 => by
    simp only [List.zip_cons_cons, List.all_cons, Bool.and_eq_true] at h2
    rw [ih a b h2.1, zip_eq ih l r (by simpa using h) h2.2]

theorem veq_eq : ∀ (n : Nat) (a b : Value), veq n a b = true → a = b := by
  intro n
  induction n with
  | zero => intro a b h; cases h
  | succ n ih =>
    intro a b h
    unfold veq at h
    split at h
    · rw [beq_iff_eq] at h; rw [h]
    · rw [Bool.and_eq_true, ieq_eq, decide_eq_true_eq] at h; rw [kindEq_eq h.1, h.2]
    · rename_i x y
      rw [bsEq_eq, beq_iff_eq] at h; rw [WideShapes.bytes_inj h]
    · rfl
    · rw [Bool.and_eq_true, nbeq, nbeq, decide_eq_true_eq, decide_eq_true_eq] at h; rw [h.1, h.2]
    · rw [Bool.and_eq_true, nbeq, nbeq, decide_eq_true_eq, decide_eq_true_eq] at h; rw [h.1, h.2]
    · rw [Bool.and_eq_true, Bool.and_eq_true, Bool.and_eq_true, nbeq, nbeq, nbeq, nbeq, decide_eq_true_eq, decide_eq_true_eq, decide_eq_true_eq, decide_eq_true_eq] at h
      rw [h.1.1.1, h.1.1.2, h.1.2, h.2]
    · rfl
    · rw [nbeq, decide_eq_true_eq] at h; rw [h]
    · rfl
    · rfl
    · rw [nbeq, decide_eq_true_eq] at h; rw [h]
    · rw [Bool.and_eq_true, nbeq, decide_eq_true_eq] at h; rw [h.1, ih _ _ h.2]
    · rw [Bool.and_eq_true] at h; rw [zip_eq ih _ _ h.1 h.2]
    · rw [Bool.and_eq_true] at h; rw [zip_eq ih _ _ h.1 h.2]
    · rw [Bool.and_eq_true, Bool.and_eq_true, Bool.and_eq_true, Bool.and_eq_true, nbeq, decide_eq_true_eq] at h
      rw [h.1.1, zip_eq ih _ _ h.1.2.1 h.1.2.2, zip_eq ih _ _ h.2.1 h.2.2]
    · cases h

def chkV (P : Program) (ops : List Oper) (ev : Operand → Option Value) (u : Value) (i : Nat) (o : Oper) : Tl → T AO → List Nat → Bool
  | todo, h, done =>
    (sel ((done.all fun e => !anc ops e i) && (todo.all fun x => !anc ops i x.1)) (match readV P h ev o with
      | some v => veq 8 v u
      | none => false) true) &&
    (match todo with
     | [] => true
     | (e, h') :: rest => chkV P ops ev u i o rest h' (e :: done))

def rdOk (P : Program) (G : Nat) (ops : List Oper) (h0 : T AO) (tl : Tl) (x : Nat × T Value × Value) : Bool :=
  match ops[x.1]? with
  | none => false
  | some o => chkV P ops (evF G x.2.1.get) x.2.2 x.1 o tl h0 []

/-- A region that draws its order. -/
def regK (P : Program) (G : Nat) : Reg := fun ih ops z t h n k =>
  sel (planOk ops) (forceN (n + ops.length) fun n1 => canonK P G ih ops n z (ord ops) t h n1 [] [] fun t' h' n' tl rd =>
    sel (rd.all (rdOk P G ops h tl.reverse)) (k t' h' n') false) false

end
end Go.Ex

/- Regions that draw their order: the one way, and what it leaves. -/
namespace Go.Ex
noncomputable section

variable {P : Program} {G : Nat} {ih : Ex1} {ops : List Oper}

/-! ### The order -/
theorem ordOk_cons {i : Nat} {rest : List Nat} (h : ordOk ops (i :: rest) = true) : (∀ p ∈ rest, p ≠ i ∧ anc ops i p = false ∧ (effAt ops p = true → anc ops p i = true)) ∧ ordOk ops rest = true := by
  simp only [ordOk, Bool.and_eq_true, List.all_eq_true, Bool.not_eq_true', Bool.or_eq_true] at h
  refine ⟨fun p hp => ?_, h.2⟩
  obtain ⟨⟨h1, h2⟩, h3⟩ := h.1 p hp
  refine ⟨fun e => ?_, h2, fun he => ?_⟩
  · rw [nbeq, decide_eq_false_iff_not] at h1; exact h1 e
  · rw [he] at h3; simpa using h3
theorem ordOk_app : ∀ {pre : List Nat} {i : Nat} {post : List Nat}, ordOk ops (pre ++ i :: post) = true → effAt ops i = true → ∀ p ∈ pre, anc ops i p = true
  | q :: pre, i, post, h, he, p, hp => by
    obtain ⟨h1, h2⟩ := ordOk_cons (rest := pre ++ i :: post) h
    rcases List.mem_cons.1 hp with rfl | hp
    · exact (h1 i (by simp)).2.2 he
    · exact ordOk_app h2 he p hp
theorem ordOk_tail : ∀ {pre post : List Nat}, ordOk ops (pre ++ post) = true → ordOk ops post = true
  | [], _, h => h
  | _ :: _, _, h => ordOk_tail (ordOk_cons h).2

structure PlanP (ops : List Oper) : Prop where
  edge : ∀ i o, ops[i]? = some o → ∀ e ∈ edges o, e < i
  irr : ∀ i, i < ops.length → anc ops i i = false
  dst : ∀ i j, i < ops.length → j < ops.length → i ≠ j → sameDst ops i j = false
  look : ∀ i o, ops[i]? = some o → ∀ τ ∈ looksL ops o, ∀ p, p < ops.length → dstIs ops p τ = true → anc ops i p = true ∨ p = i ∨ anc ops p i = true
  ordd : ordOk ops (ord ops) = true
  all : ∀ i, i < ops.length → i ∈ ord ops
  lt : ∀ i ∈ ord ops, i < ops.length

theorem memN_iff (i : Nat) : ∀ (l : List Nat), memN i l = true → i ∈ l
  | [], h => by cases h
  | j :: l, h => by
    simp only [memN, Bool.or_eq_true] at h
    rcases h with h | h
    · rw [nbeq, decide_eq_true_eq] at h; simp [h]
    · exact List.mem_cons_of_mem _ (memN_iff i l h)

theorem planOk_spec (h : planOk ops = true) : PlanP ops := by
  simp only [planOk, Bool.and_eq_true, List.all_eq_true, List.mem_range] at h
  obtain ⟨⟨⟨h1, h2⟩, h3⟩, h4⟩ := h
  have hp : ∀ i, i < ops.length → plainOk ops i = true := h1
  refine ⟨fun i o ho e he => ?_, fun i hi => ?_, fun i j hi hj hne => ?_, fun i o ho τ hτ p hp' hd => ?_, h2, fun i hi => memN_iff _ _ (h3 i hi), fun i hi => ?_⟩
  · have := hp i (List.getElem?_eq_some_iff.1 ho).1
    simp only [plainOk, ho, Bool.and_eq_true, List.all_eq_true] at this
    have := this.1.1.1 e he
    rwa [nblt, decide_eq_true_eq] at this
  · have := hp i hi
    simp only [plainOk, Bool.and_eq_true, Bool.not_eq_true'] at this
    exact this.1.1.2
  · have := hp i hi
    simp only [plainOk, Bool.and_eq_true, List.all_eq_true, List.mem_range, Bool.or_eq_true, Bool.not_eq_true'] at this
    refine (this.1.2 j hj).resolve_left fun e => hne ?_
    rwa [nbeq, decide_eq_true_eq] at e
  · have := hp i (List.getElem?_eq_some_iff.1 ho).1
    simp only [plainOk, ho, Bool.and_eq_true, List.all_eq_true, List.mem_range, Bool.or_eq_true, Bool.not_eq_true'] at this
    have := this.2 τ hτ p hp'
    rw [hd] at this
    rcases this with ((h | h) | h) | h
    · simp at h
    · exact .inl h
    · rw [nbeq, decide_eq_true_eq] at h; exact .inr (.inl h)
    · exact .inr (.inr h)
  · have := h4 i hi
    rwa [nblt, decide_eq_true_eq] at this

/-! ### What each operation does -/
inductive Did (P : Program) (G : Nat) (ih : Ex1) (ops : List Oper) (n0 i : Nat) (o : Oper) (f : Nat → Option Value) : T AO → Nat → Value → T AO → Nat → Nat → Prop
  | skip {h : T AO} {n : Nat} (hw : wantedA ops f o = some false) : Did P G ih ops n0 i o f h n undefA h n 0
  | pure {h : T AO} {n : Nat} {v : Value} (hw : wantedA ops f o = some true) (he : isEff o = false) (hc : opClass o.op ≠ 2) (hv : pureV P (evF G f) o = some v) : Did P G ih ops n0 i o f h n v h n 0
  | read {h : T AO} {n : Nat} {v : Value} (hw : wantedA ops f o = some true) (he : isEff o = false) (hc : opClass o.op ≠ 2) (hv : readV P h (evF G f) o = some v) : Did P G ih ops n0 i o f h n v h n 2
  | alloc {h : T AO} {n : Nat} {ao : AO} {g : Nat → Value} (hw : wantedA ops f o = some true) (hc : opClass o.op = 2) (hv : allocV P (evF G f) o = some (ao, g)) :
      Did P G ih ops n0 i o f h n (g (n0 + i)) (T.set (some ao) h (n0 + i)) n 0
  | eff {h : T AO} {n : Nat} {v : Value} {h' : T AO} {n' : Nat} (hw : wantedA ops f o = some true) (he : isEff o = true) (hv : ∀ k, opX P ih h n (evF G f) o k = k v h' n') : Did P G ih ops n0 i o f h n v h' n' 1

theorem evF_congr {f g : Nat → Option Value} {o : Oper} (e : ∀ τ ∈ looksL ops o, f τ = g τ) : ∀ x ∈ o.op.operands, evF G f x = evF G g x := by
  intro x hx
  cases x with
  | tmp t => exact e t (List.mem_append_left _ (List.mem_filterMap.2 ⟨.tmp t, by simpa using hx, rfl⟩))
  | _ => rfl
theorem wantedA_congr {f g : Nat → Option Value} {o : Oper} (e : ∀ τ ∈ looksL ops o, f τ = g τ) : wantedA ops f o = wantedA ops g o := by
  unfold wantedA
  cases hg : o.guard with
  | none => rfl
  | some jw =>
    obtain ⟨j, want⟩ := jw
    simp only []
    cases hj : ops[j]? with
    | none => rfl
    | some og =>
      simp only []
      cases hd : og.dst with
      | none => rfl
      | some d =>
        simp only []
        rw [e d (by simp [looksL, hg, hj, hd])]

theorem Did.congr {n0 i : Nat} {o : Oper} {f g : Nat → Option Value} {h h' : T AO} {n n' : Nat} {v : Value} {b : Nat} (e : ∀ τ ∈ looksL ops o, f τ = g τ) (hd : Did P G ih ops n0 i o f h n v h' n' b) : Did P G ih ops n0 i o g h n v h' n' b := by
  have he := evF_congr (G := G) e
  have hw := wantedA_congr e
  cases hd with
  | skip hw' => exact .skip (hw ▸ hw')
  | pure hw' h1 h2 h3 => exact .pure (hw ▸ hw') h1 h2 (by rw [← pureV_congr he]; exact h3)
  | read hw' h1 h2 h3 => exact .read (hw ▸ hw') h1 h2 (by rw [← readV_congr he]; exact h3)
  | alloc hw' h1 h2 => exact .alloc (hw ▸ hw') h1 (by rw [← allocV_congr he]; exact h2)
  | eff hw' h1 h2 => exact .eff (hw ▸ hw') h1 fun k => by rw [← opX_congr he]; exact h2 k

def Put (z : Nat) (t : T Value) (dst : Option Tmp) (v : Value) (t1 : T Value) : Prop :=
  match dst with
  | none => t1 = t
  | some d => d < z ∧ t1 = T.set (some v) t d

theorem putK_put (z : Nat) (t : T Value) (dst : Option Tmp) (v : Value) : (∀ k, putK z t dst v k = false) ∨ ∃ t', Put z t dst v t' ∧ ∀ k, putK z t dst v k = k t' := by
  unfold putK Put
  simp only [T.setK_eq]
  cases dst with
  | none => exact .inr ⟨t, rfl, fun _ => rfl⟩
  | some d =>
    simp only []
    cases hd : Nat.blt d z
    · exact .inl fun _ => rfl
    · exact .inr ⟨_, ⟨by rwa [nblt, decide_eq_true_eq] at hd, rfl⟩, fun _ => rfl⟩

def consTl (b : Nat) (i : Nat) (h : T AO) (tl : Tl) : Tl := if b = 1 then (i, h) :: tl else tl
def consRd (b : Nat) (i : Nat) (t : T Value) (v : Value) (rd : Rd) : Rd := if b = 2 then (i, t, v) :: rd else rd

/-- The steps, on the temporaries as they grow. -/
inductive Run (P : Program) (G : Nat) (ih : Ex1) (ops : List Oper) (n0 z : Nat) : List Nat → T Value → T AO → Nat → Tl → Rd → T Value → T AO → Nat → Tl → Rd → Prop
  | done (t : T Value) (h : T AO) (n : Nat) (tl : Tl) (rd : Rd) : Run P G ih ops n0 z [] t h n tl rd t h n tl rd
  | step {i : Nat} {rest : List Nat} {o : Oper} {t : T Value} {h : T AO} {n : Nat} {tl : Tl} {rd : Rd} {v : Value} {h1 : T AO} {n1 : Nat} {b : Nat} {t1 T' : T Value} {H : T AO} {N : Nat} {TL : Tl} {RD : Rd}
      (ho : ops[i]? = some o) (hd : Did P G ih ops n0 i o t.get h n v h1 n1 b) (hp : Put z t o.dst v t1) (hr : Run P G ih ops n0 z rest t1 h1 n1 (consTl b i h1 tl) (consRd b i t v rd) T' H N TL RD) :
      Run P G ih ops n0 z (i :: rest) t h n tl rd T' H N TL RD

/-- Whatever goes on behind it, it is handed one thing (or nothing). -/
theorem canon_run (hih : ih.Uni) {n0 z : Nat} : ∀ (l : List Nat) (t : T Value) (h : T AO) (n : Nat) (tl : Tl) (rd : Rd),
    (∀ k, canonK P G ih ops n0 z l t h n tl rd k = false) ∨ ∃ T' H N TL RD, Run P G ih ops n0 z l t h n tl rd T' H N TL RD ∧ ∀ k, canonK P G ih ops n0 z l t h n tl rd k = k T' H N TL RD
  | [], t, h, n, tl, rd => .inr ⟨t, h, n, tl, rd, .done .., fun _ => rfl⟩
  | i :: rest, t, h, n, tl, rd => by
    have hstep : ∀ k, canonK P G ih ops n0 z (i :: rest) t h n tl rd k = (match ops[i]? with
      | none => false
      | some o => match wantedA ops t.get o with
        | none => false
        | some b => sel b
          (sel (isEff o)
            (opX P ih h n (evF G t.get) o fun v h n => putK z t o.dst v fun t => canonK P G ih ops n0 z rest t h n ((i, h) :: tl) rd k)
            (sel (Nat.beq (opClass o.op) 2)
              (match allocV P (evF G t.get) o with
              | some (ao, f) => forceN (n0 + i) fun r => forceAO ao fun ao => T.setK (some ao) h r fun h => putK z t o.dst (f r) fun t => canonK P G ih ops n0 z rest t h n tl rd k
              | none => false)
              (match pureV P (evF G t.get) o with
              | some v => forceV v fun v => putK z t o.dst v fun t => canonK P G ih ops n0 z rest t h n tl rd k
              | none => match readV P h (evF G t.get) o with
                | some v => forceV v fun v => putK z t o.dst v fun t' => canonK P G ih ops n0 z rest t' h n tl ((i, t, v) :: rd) k
                | none => false)))
          (putK z t o.dst undefA fun t => canonK P G ih ops n0 z rest t h n tl rd k)) := fun _ => rfl
    simp only [hstep, forceN_eq, forceAO_eq, T.setK_eq, forceV_eq]
    cases ho : ops[i]? with
    | none => exact .inl fun _ => rfl
    | some o =>
      simp only []
      cases hw : wantedA ops t.get o with
      | none => exact .inl fun _ => rfl
      | some b =>
        have fin : ∀ {v : Value} {h1 : T AO} {n1 : Nat} {b : Nat}, Did P G ih ops n0 i o t.get h n v h1 n1 b →
            (∀ k, (putK z t o.dst v fun t' => canonK P G ih ops n0 z rest t' h1 n1 (consTl b i h1 tl) (consRd b i t v rd) k) = false) ∨
            ∃ T' H N TL RD, Run P G ih ops n0 z (i :: rest) t h n tl rd T' H N TL RD ∧ ∀ k, (putK z t o.dst v fun t' => canonK P G ih ops n0 z rest t' h1 n1 (consTl b i h1 tl) (consRd b i t v rd) k) = k T' H N TL RD := fun {v h1 n1 b} hd => by
          rcases putK_put z t o.dst v with hp | ⟨t1, hp, hk⟩
          · exact .inl fun k => hp _
          · rcases canon_run hih rest t1 h1 n1 (consTl b i h1 tl) (consRd b i t v rd) with hn | ⟨T', H, N, TL, RD, hr, hn⟩
            · exact .inl fun k => by rw [hk, hn]
            · exact .inr ⟨T', H, N, TL, RD, .step ho hd hp hr, fun k => by rw [hk, hn]⟩
        cases b with
        | false => exact fin (.skip hw)
        | true =>
          simp only [sel_true]
          cases he : isEff o with
          | true =>
            simp only [sel_true]
            rcases opX_uni (P := P) hih h n (evF G t.get) o with hx | ⟨v, h1, n1, hx⟩
            · exact .inl fun k => hx _
            · simp only [hx]
              exact fin (.eff hw he hx)
          | false =>
            simp only [sel_false]
            cases hc : Nat.beq (opClass o.op) 2 with
            | true =>
              simp only [sel_true]
              rw [nbeq, decide_eq_true_eq] at hc
              cases hv : allocV P (evF G t.get) o with
              | none => exact .inl fun _ => rfl
              | some p =>
                obtain ⟨ao, g⟩ := p
                exact fin (.alloc hw hc hv)
            | false =>
              simp only [sel_false]
              rw [nbeq, decide_eq_false_iff_not] at hc
              cases hv : pureV P (evF G t.get) o with
              | some v => exact fin (.pure hw he hc hv)
              | none =>
                simp only []
                cases hv2 : readV P h (evF G t.get) o with
                | none => exact .inl fun _ => rfl
                | some v => exact fin (.read hw he hc hv2)

open Classical in
/-- What an operation sees of the temporaries: what those ahead of it have written; else what was there. -/
def view (ops : List Oper) (f F : Nat → Option Value) (i : Nat) : Nat → Option Value := fun τ =>
  if ∃ p, p < ops.length ∧ dstIs ops p τ = true ∧ anc ops i p = true then F τ else f τ

/-- The steps, each on what it sees. -/
inductive RunT (P : Program) (G : Nat) (ih : Ex1) (ops : List Oper) (n0 z : Nat) (F : Nat → Option Value) (V : Nat → Nat → Option Value) (C : Nat → Oper → Value → Prop) : List Nat → T AO → Nat → Tl → T AO → Nat → Tl → Prop
  | done (h : T AO) (n : Nat) (tl : Tl) : RunT P G ih ops n0 z F V C [] h n tl h n tl
  | step {i : Nat} {rest : List Nat} {o : Oper} {h : T AO} {n : Nat} {tl : Tl} {v : Value} {h1 : T AO} {n1 : Nat} {b : Nat} {H : T AO} {N : Nat} {TL : Tl}
      (ho : ops[i]? = some o) (hd : Did P G ih ops n0 i o (V i) h n v h1 n1 b) (hc : b = 2 → C i o v) (hp : ∀ d, o.dst = some d → d < z ∧ F d = some v) (hr : RunT P G ih ops n0 z F V C rest h1 n1 (consTl b i h1 tl) H N TL) :
      RunT P G ih ops n0 z F V C (i :: rest) h n tl H N TL

theorem Run.stable {n0 z : Nat} {l : List Nat} {t T' : T Value} {h H : T AO} {n N : Nat} {tl TL : Tl} {rd RD : Rd} (hr : Run P G ih ops n0 z l t h n tl rd T' H N TL RD) {τ : Nat} (hτ : ∀ p ∈ l, dstIs ops p τ = false) : T'.get τ = t.get τ := by
  induction hr with
  | done => rfl
  | @step i rest o t h n tl rd v h1 n1 b t1 T' H N TL RD ho hd hp hr ihr =>
    rw [ihr fun p hp => hτ p (by simp [hp])]
    unfold Put at hp
    have hi := hτ i (by simp)
    simp only [dstIs, ho] at hi
    cases hd' : o.dst with
    | none => rw [hd'] at hp; rw [hp]
    | some d =>
      rw [hd'] at hp hi
      simp only [] at hp hi
      rw [nbeq, decide_eq_false_iff_not] at hi
      rw [hp.2, T.get_set, if_neg (Ne.symm hi)]

theorem Run.rd_mono {n0 z : Nat} {l : List Nat} {t T' : T Value} {h H : T AO} {n N : Nat} {tl TL : Tl} {rd RD : Rd} (hr : Run P G ih ops n0 z l t h n tl rd T' H N TL RD) : ∀ x ∈ rd, x ∈ RD := by
  induction hr with
  | done => exact fun x hx => hx
  | step ho hd hp hr ihr =>
    refine fun x hx => ihr x ?_
    unfold consRd
    split
    · exact List.mem_cons_of_mem _ hx
    · exact hx

theorem dst_unique (hpl : PlanP ops) {p q τ : Nat} (hp : p < ops.length) (hq : q < ops.length) (h1 : dstIs ops p τ = true) (h2 : dstIs ops q τ = true) : p = q := by
  refine Classical.byContradiction fun hne => ?_
  have := hpl.dst p q hp hq hne
  unfold sameDst at this
  unfold dstIs at h1
  split at h1
  · rename_i o ho
    rw [ho] at this
    split at h1
    · rename_i d hd
      simp only [hd] at this
      rw [nbeq, decide_eq_true_eq] at h1
      subst h1
      rw [h2] at this; cases this
    · cases h1
  · cases h1

theorem Run.toT (hpl : PlanP ops) {n0 z : Nat} {l : List Nat} {t T' : T Value} {h H : T AO} {n N : Nat} {tl TL : Tl} {rd RD : Rd} (hr : Run P G ih ops n0 z l t h n tl rd T' H N TL RD) (hl : ordOk ops l = true) (hlt : ∀ i ∈ l, i < ops.length)
    {f : Nat → Option Value} (hpre : ∀ τ, (∀ p, p < ops.length → p ∉ l → dstIs ops p τ = false) → t.get τ = f τ) (hanc : ∀ p, p < ops.length → p ∉ l → ∀ q ∈ l, anc ops p q = false)
    {C : Nat → Oper → Value → Prop} (hC : ∀ i o t v, ops[i]? = some o → (i, t, v) ∈ RD → (∀ τ ∈ looksL ops o, t.get τ = view ops f T'.get i τ) → C i o v) :
    RunT P G ih ops n0 z T'.get (view ops f T'.get) C l h n tl H N TL := by
  induction hr with
  | done => exact .done ..
  | @step i rest o t h n tl rd v h1 n1 b t1 T' H N TL RD ho hd hp hr ihr =>
    obtain ⟨h1', h2⟩ := ordOk_cons hl
    have hi := hlt i (by simp)
    have hlt' : ∀ p ∈ rest, p < ops.length := fun p hp => hlt p (by simp [hp])
    have hall := Run.step ho hd hp hr
    have hni : i ∉ rest := fun hx => (h1' i hx).1 rfl
    have hsee : ∀ τ ∈ looksL ops o, t.get τ = view ops f T'.get i τ := fun τ hτ => by
      unfold view
      split
      · rename_i hex
        obtain ⟨p, hp1, hp2, hp3⟩ := hex
        refine (hall.stable fun q hq => ?_).symm
        cases hqd : dstIs ops q τ
        · rfl
        · have := dst_unique hpl hp1 (hlt q hq) hp2 hqd
          subst this
          rcases List.mem_cons.1 hq with rfl | hq
          · rw [hpl.irr p hi] at hp3; cases hp3
          · rw [(h1' p hq).2.1] at hp3; cases hp3
      · rename_i hex
        refine hpre τ fun p hp1 hp2 => ?_
        cases hpd : dstIs ops p τ
        · rfl
        · rcases hpl.look i o ho τ hτ p hp1 hpd with h3 | h3 | h3
          · exact absurd ⟨p, hp1, hpd, h3⟩ hex
          · subst h3; exact absurd (by simp) hp2
          · rw [hanc p hp1 hp2 i (by simp)] at h3; cases h3
    refine .step ho (hd.congr hsee) (fun hb => hC i o t v ho (hr.rd_mono _ (by simp [consRd, hb])) hsee) (fun d hdd => ?_) (ihr h2 hlt' (fun τ hτ => ?_) (fun p hp1 hp2 q hq => ?_) hC)
    · unfold Put at hp
      rw [hdd] at hp
      refine ⟨hp.1, ?_⟩
      rw [hr.stable fun p hpr => ?_, hp.2, T.get_set, if_pos rfl]
      have := hpl.dst i p hi (hlt' p hpr) (Ne.symm (h1' p hpr).1)
      simpa [sameDst, ho, hdd] using this
    · have hid := hτ i hi hni
      rw [← hpre τ fun p hp1 hp2 => hτ p hp1 fun hx => hp2 (by simp [hx])]
      unfold Put at hp
      simp only [dstIs, ho] at hid
      cases hdd : o.dst with
      | none => rw [hdd] at hp; rw [hp]
      | some d =>
        rw [hdd] at hp hid
        simp only [] at hp hid
        rw [nbeq, decide_eq_false_iff_not] at hid
        rw [hp.2, T.get_set, if_neg (Ne.symm hid)]
    · by_cases e : p = i
      · subst e; exact (h1' q hq).2.1
      · exact hanc p hp1 (by simp [e, hp2]) q (by simp [hq])

theorem RunT.at {n0 z : Nat} {F : Nat → Option Value} {V : Nat → Nat → Option Value} {C : Nat → Oper → Value → Prop} {l : List Nat} {h H : T AO} {n N : Nat} {tl TL : Tl} (hr : RunT P G ih ops n0 z F V C l h n tl H N TL) {i : Nat} (hi : i ∈ l) :
    ∃ o h n v h1 n1 b, ops[i]? = some o ∧ Did P G ih ops n0 i o (V i) h n v h1 n1 b ∧ (b = 2 → C i o v) ∧ ∀ d, o.dst = some d → d < z ∧ F d = some v := by
  induction hr with
  | done => cases hi
  | @step j rest o h n tl v h1 n1 b H N TL ho hd hc hp hr ihr =>
    rcases List.mem_cons.1 hi with rfl | hi
    · exact ⟨o, h, n, v, h1, n1, b, ho, hd, hc, hp⟩
    · exact ihr hi

/-- An effect that is wanted. -/
def WE (ops : List Oper) (V : Nat → Nat → Option Value) (p : Nat) : Prop := ∃ o, ops[p]? = some o ∧ isEff o = true ∧ wantedA ops (V p) o = some true

theorem RunT.tl {n0 z : Nat} {F : Nat → Option Value} {V : Nat → Nat → Option Value} {C : Nat → Oper → Value → Prop} {l : List Nat} {h H : T AO} {n N : Nat} {tl TL : Tl} (hr : RunT P G ih ops n0 z F V C l h n tl H N TL) : ∃ fut, TL.reverse = tl.reverse ++ fut ∧ ∀ x ∈ fut, x.1 ∈ l ∧ WE ops V x.1 := by
  induction hr with
  | done => exact ⟨[], by simp, by simp⟩
  | @step i rest o h n tl v h1 n1 b H N TL ho hd hc hp hr ihr =>
    obtain ⟨fut, h2, h3⟩ := ihr
    cases hd with
    | eff hw he hv =>
      refine ⟨(i, h1) :: fut, by simp [h2, consTl], fun x hx => ?_⟩
      rcases List.mem_cons.1 hx with rfl | hx
      · exact ⟨by simp, o, ho, he, hw⟩
      · exact ⟨by simp [(h3 x hx).1], (h3 x hx).2⟩
    | _ => exact ⟨fut, h2, fun x hx => ⟨by simp [(h3 x hx).1], (h3 x hx).2⟩⟩

end
end Go.Ex

/- Regions that draw their order: every order leaves what the one way leaves. -/
namespace Go.Ex
noncomputable section

variable {P : Program} {G : Nat} {ih : Ex1} {ops : List Oper} {B : Nat} {w0 : World}

def Lst (listed : Array Bool) (p : Nat) : Prop := listed.getD p false = true

theorem Lst.set {listed : Array Bool} {i p : Nat} (hi : i < listed.size) : Lst (listed.setIfInBounds i true) p ↔ p = i ∨ Lst listed p := by
  unfold Lst
  by_cases e : i = p
  · subst e; simp [hi]
  · rw [getD_set_ne false e]; simp [Ne.symm e]

/-- What an operation makes. -/
def al (P : Program) (G : Nat) (ops : List Oper) (V : Nat → Nat → Option Value) (p : Nat) : Option AO :=
  match ops[p]? with
  | some o => if wantedA ops (V p) o = some true ∧ opClass o.op = 2 then (allocV P (evF G (V p)) o).map (·.1) else none
  | none => none

open Classical in
/-- The frame's blocks, those made here that aren't taken up yet, the numbers that are kept for those not made yet. -/
def fr (X : Nat → Option AO) (A : Nat → Option AO) (n0 N : Nat) (steps : List Nat) (S : Nat → Prop) : Nat → Option AO := fun r =>
  if n0 ≤ r ∧ r < n0 + N then (if S (r - n0) then (if r - n0 ∈ steps then A (r - n0) else none) else some .res) else X r

open Classical in
/-- The temporaries between two operations. -/
def fD (ops : List Oper) (f F : Nat → Option Value) (S : Nat → Prop) : Nat → Option Value := fun τ =>
  if ∃ p, p < ops.length ∧ ¬ S p ∧ dstIs ops p τ = true then f τ else F τ

theorem fD_done {f F : Nat → Option Value} {S : Nat → Prop} {τ : Nat} (h : ∀ p, p < ops.length → dstIs ops p τ = true → S p) : fD ops f F S τ = F τ := by
  unfold fD
  rw [if_neg]
  rintro ⟨p, hp, hs, hd⟩
  exact hs (h p hp hd)
theorem fD_old {f F : Nat → Option Value} {S : Nat → Prop} {τ p : Nat} (hp : p < ops.length) (hs : ¬ S p) (hd : dstIs ops p τ = true) : fD ops f F S τ = f τ := by
  unfold fD
  rw [if_pos ⟨p, hp, hs, hd⟩]

theorem TR.did (hpl : PlanP ops) {m m' : Mp} (hm : m.le m') {f F : Nat → Option Value} {S S' : Nat → Prop} {z : Nat} {a : Act} (ht : TR m (fD ops f F S) z a) {i : Nat} {o : Oper} (ho : ops[i]? = some o) {v v' : Value}
    (hd : ∀ d, o.dst = some d → d < z ∧ F d = some v) (hv : VR m' v v') (hS : ∀ p, S' p ↔ p = i ∨ S p) : TR m' (fD ops f F S') z (a.put o.dst v') := by
  have ht := ht.mono hm
  have hlt := (List.getElem?_eq_some_iff.1 ho).1
  have key : ∀ τ, o.dst ≠ some τ → fD ops f F S' τ = fD ops f F S τ := fun τ hne => by
    have hiff : (∃ p, p < ops.length ∧ ¬ S' p ∧ dstIs ops p τ = true) ↔ (∃ p, p < ops.length ∧ ¬ S p ∧ dstIs ops p τ = true) := by
      constructor
      · rintro ⟨p, hp, hs, hdp⟩
        exact ⟨p, hp, fun h => hs ((hS p).2 (.inr h)), hdp⟩
      · rintro ⟨p, hp, hs, hdp⟩
        refine ⟨p, hp, fun hs' => ?_, hdp⟩
        rcases (hS p).1 hs' with rfl | hs'
        · refine hne ?_
          simp only [dstIs, ho] at hdp
          cases hdd : o.dst with
          | none => rw [hdd] at hdp; cases hdp
          | some d => rw [hdd] at hdp; simp only [] at hdp; rw [nbeq, decide_eq_true_eq] at hdp; rw [hdp]
        · exact hs hs'
    unfold fD
    by_cases h : ∃ p, p < ops.length ∧ ¬ S p ∧ dstIs ops p τ = true
    · rw [if_pos h, if_pos (hiff.2 h)]
    · rw [if_neg h, if_neg fun h' => h (hiff.1 h')]
  cases hdd : o.dst with
  | none => exact ht.ext fun τ u hu => by rw [← key τ (by rw [hdd]; simp)]; exact hu
  | some d =>
    obtain ⟨hz, hF⟩ := hd d hdd
    refine (ht.put hz hv).ext fun τ u hu => ?_
    by_cases e : τ = d
    · subst e
      rw [if_pos rfl]
      rw [fD_done fun p hp hpd => ?_, hF] at hu
      · exact hu
      · have : p = i := dst_unique hpl hp hlt hpd (by simp [dstIs, ho, hdd])
        exact (hS p).2 (.inl this)
    · rw [if_neg e, ← key τ (by rw [hdd]; simpa using Ne.symm e)]
      exact hu

/-- What was made is taken up. -/
theorem RunT.advance {n0 z : Nat} {F : Nat → Option Value} {V : Nat → Nat → Option Value} {C : Nat → Oper → Value → Prop} {X : Nat → Option AO} {S : Nat → Prop} {m : Mp} {w : World} {N' : Nat} : ∀ {pre post : List Nat} {h H : T AO} {n N : Nat} {tl TL : Tl},
    RunT P G ih ops n0 z F V C (pre ++ post) h n tl H N TL → ordOk ops (pre ++ post) = true → (∀ p ∈ pre, p < N' ∧ S p ∧ ¬ WE ops V p) → HR B w0 m h (fr X (al P G ops V) n0 N' (pre ++ post) S) n w →
    ∃ h1, RunT P G ih ops n0 z F V C post h1 n tl H N TL ∧ HR B w0 m h1 (fr X (al P G ops V) n0 N' post S) n w
  | [], _, _, _, _, _, _, _, hr, _, _, hh => ⟨_, hr, hh⟩
  | i :: pre, post, h, H, n, N, tl, TL, hr, hl, hp, hh => by
    obtain ⟨hl1, hl2⟩ := ordOk_cons (rest := pre ++ post) hl
    obtain ⟨hiN, hiS, hiW⟩ := hp i (by simp)
    have hni : i ∉ pre ++ post := fun hi => (hl1 i hi).1 rfl
    have hp' : ∀ p ∈ pre, p < N' ∧ S p ∧ ¬ WE ops V p := fun p hpp => hp p (by simp [hpp])
    have frne : ∀ r, r ≠ n0 + i → fr X (al P G ops V) n0 N' (pre ++ post) S r = fr X (al P G ops V) n0 N' (i :: (pre ++ post)) S r := fun r hr => by
      unfold fr
      by_cases hrg : n0 ≤ r ∧ r < n0 + N'
      · rw [if_pos hrg, if_pos hrg]
        have : r - n0 ≠ i := fun e => hr (by omega)
        simp only [List.mem_cons, this, false_or]
      · rw [if_neg hrg, if_neg hrg]
    have frat : fr X (al P G ops V) n0 N' (i :: (pre ++ post)) S (n0 + i) = al P G ops V i := by
      unfold fr
      rw [if_pos ⟨by omega, by omega⟩]
      simp [hiS]
    have frat' : fr X (al P G ops V) n0 N' (pre ++ post) S (n0 + i) = none := by
      unfold fr
      rw [if_pos ⟨by omega, by omega⟩]
      have hni' : n0 + i - n0 ∉ pre ++ post := by simpa using hni
      rw [if_pos (by simpa using hiS), if_neg hni']
    have hh : HR B w0 m h (fr X (al P G ops V) n0 N' (i :: (pre ++ post)) S) n w := hh
    have same : al P G ops V i = none → HR B w0 m h (fr X (al P G ops V) n0 N' (pre ++ post) S) n w := fun hn => by
      have : fr X (al P G ops V) n0 N' (pre ++ post) S = fr X (al P G ops V) n0 N' (i :: (pre ++ post)) S := funext fun r => by
        by_cases e : r = n0 + i
        · rw [e, frat, frat', hn]
        · exact frne r e
      rw [this]; exact hh
    cases hr with
    | step ho hd hc' hdst hrr =>
      cases hd with
      | skip hw => exact RunT.advance hrr hl2 hp' (same (by simp [al, ho, hw]))
      | pure hw he hc hv => exact RunT.advance hrr hl2 hp' (same (by simp [al, ho, hc]))
      | read hw he hc hv => exact RunT.advance hrr hl2 hp' (same (by simp [al, ho, hc]))
      | @alloc ao g hw hc hv =>
        refine RunT.advance hrr hl2 hp' ⟨hh.lr.congr fun r => ?_, fun r o' hx => ?_⟩
        · unfold ov
          rw [T.get_set]
          by_cases e : r = n0 + i
          · subst e
            have : al P G ops V i = some ao := by simp [al, ho, hw, hc, hv]
            rw [if_pos rfl]
            simp only []
            have hnone := hh.apart (n0 + i) _ (frat.trans this)
            rw [hnone]
            simp only []
            rw [frat, this]
          · rw [if_neg e]
            rw [frne r e]
        · rw [T.get_set]
          by_cases e : r = n0 + i
          · subst e; rw [frat'] at hx; cases hx
          · rw [if_neg e]; exact hh.apart r o' (by rw [← frne r e]; exact hx)
      | eff hw he hv => exact absurd ⟨_, ho, he, hw⟩ hiW

/-! ### What was read is what is read -/
def lastH (h0 : T AO) : Tl → T AO
  | [] => h0
  | x :: _ => x.2
theorem chkV_congr {ev ev' : Operand → Option Value} {o : Oper} (he : ∀ x ∈ o.op.operands, ev x = ev' x) (u : Value) (i : Nat) : ∀ (l : Tl) (h : T AO) (done : List Nat), chkV P ops ev u i o l h done = chkV P ops ev' u i o l h done
  | [], h, done => by simp only [chkV, readV_congr he]
  | x :: l, h, done => by simp only [chkV, readV_congr he, chkV_congr he u i l]
theorem chkV_at {ev : Operand → Option Value} {u : Value} {i : Nat} {o : Oper} : ∀ (l : Tl) (fut : Tl) (h : T AO) (done : List Nat),
    chkV P ops ev u i o (l ++ fut) h done = true → ∀ h', h' = lastH h l.reverse → (∀ e ∈ l, anc ops e.1 i = false) → (∀ e ∈ done, anc ops e i = false) → (∀ x ∈ fut, anc ops i x.1 = false) →
    readV P h' ev o = some u
  | [], fut, h, done, hk, h', hh, hl, hd, hf => by
    have hk1 : sel ((done.all fun e => !anc ops e i) && (fut.all fun x => !anc ops i x.1)) (match readV P h ev o with
      | some v => veq 8 v u
      | none => false) true = true := by
      cases fut <;> (simp only [List.nil_append, chkV, Bool.and_eq_true] at hk; exact hk.1)
    have hc : ((done.all fun e => !anc ops e i) && (fut.all fun x => !anc ops i x.1)) = true := by
      simp only [Bool.and_eq_true, List.all_eq_true, Bool.not_eq_true']
      exact ⟨hd, hf⟩
    rw [hc, sel_true] at hk1
    simp only [List.reverse_nil, lastH] at hh
    subst hh
    split at hk1
    · rename_i v hv
      rw [hv, veq_eq _ _ _ hk1]
    · cases hk1
  | x :: l, fut, h, done, hk, h', hh, hl, hd, hf => by
    simp only [List.cons_append, chkV, Bool.and_eq_true] at hk
    refine chkV_at l fut x.2 (x.1 :: done) hk.2 h' ?_ (fun e he => hl e (by simp [he])) (fun e he => ?_) hf
    · rw [hh]
      simp only [List.reverse_cons]
      cases l.reverse <;> rfl
    · rcases List.mem_cons.1 he with rfl | he
      · exact hl x (by simp)
      · exact hd e he

end
end Go.Ex

/- Regions that draw their order: sound. -/
namespace Go.Ex
noncomputable section

variable {P : Program} {G : Nat} {ih : Ex1} {ops : List Oper} {B : Nat} {w0 : World}

theorem fr_unlisted {X A : Nat → Option AO} {n0 N : Nat} {steps : List Nat} {S : Nat → Prop} {i : Nat} (hi : i < N) (hS : ¬ S i) : fr X A n0 N steps S (n0 + i) = some .res := by
  unfold fr
  rw [if_pos ⟨by omega, by omega⟩, if_neg (by simpa using hS)]
theorem fr_done {X A : Nat → Option AO} {n0 N : Nat} {steps : List Nat} {S : Nat → Prop} {i : Nat} (hi : i < N) (hS : S i) (hs : i ∉ steps ∨ A i = none) : fr X A n0 N steps S (n0 + i) = none := by
  unfold fr
  rw [if_pos ⟨by omega, by omega⟩, if_pos (by simpa using hS)]
  have e : n0 + i - n0 = i := by omega
  rw [e]
  split
  · rename_i h
    exact hs.resolve_left fun hn => hn h
  · rfl
theorem fr_made {X A : Nat → Option AO} {n0 N : Nat} {steps : List Nat} {S : Nat → Prop} {i : Nat} (hi : i < N) (hS : S i) (hs : i ∈ steps) : fr X A n0 N steps S (n0 + i) = A i := by
  unfold fr
  rw [if_pos ⟨by omega, by omega⟩, if_pos (by simpa using hS)]
  have e : n0 + i - n0 = i := by omega
  rw [e, if_pos hs]
theorem fr_other {X A : Nat → Option AO} {n0 N : Nat} {steps steps' : List Nat} {S S' : Nat → Prop} {i r : Nat} (hr : r ≠ n0 + i) (hS : ∀ p, p ≠ i → (S p ↔ S' p)) (hs : ∀ p, p ≠ i → (p ∈ steps ↔ p ∈ steps')) :
    fr X A n0 N steps S r = fr X A n0 N steps' S' r := by
  unfold fr
  by_cases hrg : n0 ≤ r ∧ r < n0 + N
  · rw [if_pos hrg, if_pos hrg]
    have hne : r - n0 ≠ i := fun e => hr (by omega)
    simp only [hs _ hne]
    by_cases h1 : S (r - n0)
    · rw [if_pos h1, if_pos ((hS _ hne).1 h1)]
    · rw [if_neg h1, if_neg fun h2 => h1 ((hS _ hne).2 h2)]
  · rw [if_neg hrg, if_neg hrg]

theorem HR.fewer {m : Mp} {h : T AO} {X X' : Nat → Option AO} {n : Nat} {w : World} (hr : HR B w0 m h X n w) (hX : ∀ r o, X' r = some o → X r = some o) : HR B w0 m h X' n w where
  lr := hr.lr.sub fun r o ho => by
    unfold ov at ho ⊢
    split at ho
    · exact ho
    · exact hX r o ho
  apart := fun r o ho => hr.apart r o (hX r o ho)

/-- Everything that holds between two operations. -/
structure Inv (P : Program) (G : Nat) (ih : Ex1) (ops : List Oper) (B : Nat) (w0 : World) (X : Nat → Option AO) (n0 z : Nat) (f F : Nat → Option Value) (C : Nat → Oper → Value → Prop) (h0 H : T AO) (N : Nat) (TL : Tl) (m0 : Mp)
    (listed : Array Bool) (a : Act) (w : World) (steps : List Nat) (h : T AO) (n : Nat) (tl : Tl) (m : Mp) : Prop where
  size : listed.size = ops.length
  down : ∀ p o, ops[p]? = some o → Lst listed p → ∀ e ∈ edges o, Lst listed e
  run : RunT P G ih ops n0 z F (view ops f F) C steps h n tl H N TL
  at_ : h = lastH h0 tl
  ord : ordOk ops steps = true
  lt : ∀ p ∈ steps, p < ops.length
  out : ∀ p, p < ops.length → p ∉ steps → Lst listed p
  eff : ∀ p ∈ steps, Lst listed p → ¬ WE ops (view ops f F) p
  told : ∀ x ∈ tl, Lst listed x.1
  g : GR m G
  le : m0.le m
  tr : TR m (fD ops f F (Lst listed)) z a
  defers : a.defers = []
  hr : HR B w0 m h (fr X (al P G ops (view ops f F)) n0 ops.length steps (Lst listed)) n w

theorem Lst.lt {listed : Array Bool} {p : Nat} (h : Lst listed p) : p < listed.size := by
  unfold Lst at h
  rcases Nat.lt_or_ge p listed.size with h' | h'
  · exact h'
  · simp [Array.getElem?_eq_none h'] at h

theorem edges_mem {o : Oper} {e : Nat} : e ∈ edges o ↔ ∃ x ∈ o.after, Region.binds .any x = true ∧ x.on = e := by
  simp only [edges, List.mem_map, List.mem_filter, Array.mem_toList_iff]
  constructor
  · rintro ⟨x, ⟨h1, h2⟩, rfl⟩; exact ⟨x, h1, h2, rfl⟩
  · rintro ⟨x, h1, h2, rfl⟩; exact ⟨x, ⟨h1, h2⟩, rfl⟩

section
variable {X : Nat → Option AO} {n0 z : Nat} {f F : Nat → Option Value} {C : Nat → Oper → Value → Prop} {h0 H : T AO} {N : Nat} {TL : Tl} {m0 : Mp} {listed : Array Bool} {a : Act} {w : World} {steps : List Nat} {h : T AO} {n : Nat} {tl : Tl} {m : Mp}

theorem Inv.ready (hi : Inv P G ih ops B w0 X n0 z f F C h0 H N TL m0 listed a w steps h n tl m) {i : Nat} (hr : i ∈ Region.ready .any ⟨ops⟩ listed) :
    ∃ o, ops[i]? = some o ∧ i < ops.length ∧ ¬ Lst listed i ∧ (∀ e ∈ edges o, Lst listed e) := by
  obtain ⟨h1, o, ho, h2⟩ := mem_ready.1 hr
  have ho' : ops[i]? = some o := by simpa using ho
  have hlt := (List.getElem?_eq_some_iff.1 ho').1
  refine ⟨o, ho', hlt, fun hl => ?_, fun e he => ?_⟩
  · have : i < listed.size := by rw [hi.size]; exact hlt
    unfold Lst at hl
    simp [this] at h1 hl
    rw [h1] at hl; cases hl
  · obtain ⟨x, hx, hb, rfl⟩ := edges_mem.1 he
    exact h2 x hx hb

theorem Inv.anc (hi : Inv P G ih ops B w0 X n0 z f F C h0 H N TL m0 listed a w steps h n tl m) {i : Nat} {o : Oper} (ho : ops[i]? = some o) (he : ∀ e ∈ edges o, Lst listed e) {q : Nat} (hq : Ex.anc ops i q = true) : Lst listed q :=
  anc_down (D := Lst listed) hi.down i q o ho he hq

theorem Inv.all (hi : Inv P G ih ops B w0 X n0 z f F C h0 H N TL m0 listed a w steps h n tl m) (hpl : PlanP ops) (hr : Region.ready .any ⟨ops⟩ listed = []) : ∀ p, p < ops.length → Lst listed p := by
  intro p
  induction p using Nat.strongRecOn with
  | _ p ihp =>
    intro hp
    refine Classical.byContradiction fun hn => ?_
    have ho : ops[p]? = some ops[p] := List.getElem?_eq_getElem hp
    have : p ∈ Region.ready .any ⟨ops⟩ listed := mem_ready.2 ⟨by
      have : p < listed.size := by rw [hi.size]; exact hp
      unfold Lst at hn
      simp [this] at hn ⊢
      exact hn, ops[p], by simp, fun e he hb => by
        have hee : e.on ∈ edges ops[p] := edges_mem.2 ⟨e, he, hb, rfl⟩
        have hlt := hpl.edge p _ ho e.on hee
        exact ihp e.on hlt (by omega)⟩
    rw [hr] at this; cases this

/-- Listed now. -/
theorem Inv.down' (hi : Inv P G ih ops B w0 X n0 z f F C h0 H N TL m0 listed a w steps h n tl m) {i : Nat} {o : Oper} (ho : ops[i]? = some o) (hlt : i < ops.length) (he : ∀ e ∈ edges o, Lst listed e) :
    ∀ p o, ops[p]? = some o → Lst (listed.setIfInBounds i true) p → ∀ e ∈ edges o, Lst (listed.setIfInBounds i true) e := by
  intro p o' ho' hp e hee
  have hs : i < listed.size := by rw [hi.size]; exact hlt
  rw [Lst.set hs] at hp ⊢
  rcases hp with rfl | hp
  · rw [ho] at ho'; cases ho'; exact .inr (he e hee)
  · exact .inr (hi.down p o' ho' hp e hee)

/-- An operation that leaves the place where it stands. -/
theorem Inv.stay (hpl : PlanP ops) (hi : Inv P G ih ops B w0 X n0 z f F C h0 H N TL m0 listed a w steps h n tl m) {i : Nat} {o : Oper} (ho : ops[i]? = some o) (hlt : i < ops.length) (he : ∀ e ∈ edges o, Lst listed e) (hw : ¬ WE ops (view ops f F) i)
    {m' : Mp} (hm : m.le m') {v v' : Value} (hd : ∀ d, o.dst = some d → d < z ∧ F d = some v) (hv : VR m' v v') {w' : World}
    (hh : HR B w0 m' h (fr X (al P G ops (view ops f F)) n0 ops.length steps (Lst (listed.setIfInBounds i true))) n w') :
    Inv P G ih ops B w0 X n0 z f F C h0 H N TL m0 (listed.setIfInBounds i true) (a.put o.dst v') w' steps h n tl m' := by
  have hs : i < listed.size := by rw [hi.size]; exact hlt
  exact {
    size := by simpa using hi.size
    down := hi.down' ho hlt he
    run := hi.run
    at_ := hi.at_
    ord := hi.ord
    lt := hi.lt
    out := fun p hp hn => (Lst.set hs).2 (.inr (hi.out p hp hn))
    eff := fun p hp hl => by
      rcases (Lst.set hs).1 hl with rfl | hl
      · exact hw
      · exact hi.eff p hp hl
    told := fun x hx => (Lst.set hs).2 (.inr (hi.told x hx))
    g := hi.g.mono hm
    le := Mp.le_trans hi.le hm
    tr := hi.tr.did hpl hm ho hd hv fun p => Lst.set hs
    defers := by cases o.dst <;> exact hi.defers
    hr := hh }

end

theorem any_sound (hih : Sound P G ih) (hpl : PlanP ops) {X : Nat → Option AO} {n0 z : Nat} {f F : Nat → Option Value} {C : Nat → Oper → Value → Prop} {h0 H : T AO} {N : Nat} {TL : Tl} {m0 : Mp} {Q : Exit → Act → World → Prop}
    (hF : ∀ τ, (∀ p, p < ops.length → dstIs ops p τ = false) → F τ = f τ)
    (hfin : ∀ i o v, ops[i]? = some o → C i o v → chkV P ops (evF G (view ops f F i)) v i o TL.reverse h0 [] = true)
    (hQ : ∀ listed a w steps h n tl m, Inv P G ih ops B w0 X n0 z f F C h0 H N TL m0 listed a w steps h n tl m → (∀ p, p < ops.length → Lst listed p) → Q .normal a w) :
    ∀ (fuel : Nat) (listed : Array Bool) (a : Act) (w : World) (steps : List Nat) (h : T AO) (n : Nat) (tl : Tl) (m : Mp) (U : List Nat), U.length = fuel → (∀ p, p < ops.length → ¬ Lst listed p → p ∈ U) →
      Inv P G ih ops B w0 X n0 z f F C h0 H N TL m0 listed a w steps h n tl m → wpAny P .any ⟨ops⟩ Q fuel listed a w := by
  intro fuel
  induction fuel with
  | zero =>
    intro listed a w steps h n tl m U hUl hUm hi
    have hU0 : U = [] := by cases U <;> simp_all
    subst hU0
    have hall : ∀ p, p < ops.length → Lst listed p := fun p hp => Classical.byContradiction fun hn => by have := hUm p hp hn; cases this
    refine ⟨?_, hQ _ _ _ _ _ _ _ _ hi hall⟩
    cases hr : Region.ready .any ⟨ops⟩ listed with
    | nil => rfl
    | cons i l =>
      obtain ⟨o, ho, hlt, hn, _⟩ := hi.ready (i := i) (by rw [hr]; simp)
      exact absurd (hall i hlt) hn
  | succ fuel ihf =>
    intro listed a w steps h n tl m U hUl hUm hi
    refine ⟨fun hr => hQ _ _ _ _ _ _ _ _ hi (hi.all hpl hr), fun i hr => ?_⟩
    obtain ⟨o, ho, hlt, hni, he⟩ := hi.ready hr
    have hs : i < listed.size := by rw [hi.size]; exact hlt
    have hiU : i ∈ U := hUm i hlt hni
    have next : ∀ a w steps h n tl m, Inv P G ih ops B w0 X n0 z f F C h0 H N TL m0 (listed.setIfInBounds i true) a w steps h n tl m → wpAny P .any ⟨ops⟩ Q fuel (listed.setIfInBounds i true) a w := fun a w steps h n tl m hi' => by
      refine ihf _ a w steps h n tl m (U.erase i) (by rw [List.length_erase_of_mem hiU, hUl]; rfl) (fun p hp hn => ?_) hi'
      rw [Lst.set hs] at hn
      exact (List.mem_erase_of_ne fun e => hn (.inl e)).2 (hUm p hp fun hl => hn (.inr hl))
    have hist : i ∈ steps := Classical.byContradiction fun hn => hni (hi.out i hlt hn)
    have hlook : ∀ τ ∈ looksL ops o, fD ops f F (Lst listed) τ = view ops f F i τ := fun τ hτ => by
      unfold view
      split
      · rename_i hex
        obtain ⟨p, hp1, hp2, hp3⟩ := hex
        refine fD_done fun q hq hqd => ?_
        have := dst_unique hpl hp1 hq hp2 hqd
        subst this
        exact hi.anc ho he hp3
      · rename_i hex
        by_cases hu : ∃ q, q < ops.length ∧ ¬ Lst listed q ∧ dstIs ops q τ = true
        · obtain ⟨q, hq1, hq2, hq3⟩ := hu
          exact fD_old hq1 hq2 hq3
        · rw [fD_done fun q hq hqd => Classical.byContradiction fun hn => hu ⟨q, hq, hn, hqd⟩]
          refine hF τ fun q hq => ?_
          cases hqd : dstIs ops q τ
          · rfl
          · have hql : Lst listed q := Classical.byContradiction fun hn => hu ⟨q, hq, hn, hqd⟩
            rcases hpl.look i o ho τ hτ q hq hqd with h3 | h3 | h3
            · exact absurd ⟨q, hq, hqd, h3⟩ hex
            · subst h3; exact absurd hql hni
            · exact absurd (anc_down (D := Lst listed) hi.down q i _ (List.getElem?_eq_getElem hq) (hi.down q _ (List.getElem?_eq_getElem hq) hql) h3) hni
    have hev := evF_congr (G := G) hlook
    have hwa := wantedA_congr hlook
    have hevr := evF_sound hi.g hi.tr
    have ho' : (⟨ops⟩ : Array Oper)[i]? = some o := by simpa using ho
    have hfo : ∀ r, r ≠ n0 + i → fr X (al P G ops (view ops f F)) n0 ops.length steps (Lst (listed.setIfInBounds i true)) r = fr X (al P G ops (view ops f F)) n0 ops.length steps (Lst listed) r := fun r hr =>
      fr_other hr (fun p hp => by rw [Lst.set hs]; simp [hp]) (fun p hp => Iff.rfl)
    have hli : Lst (listed.setIfInBounds i true) i := (Lst.set hs).2 (.inl rfl)
    have stayH : al P G ops (view ops f F) i = none → HR B w0 m h (fr X (al P G ops (view ops f F)) n0 ops.length steps (Lst (listed.setIfInBounds i true))) n w := fun hn => hi.hr.fewer fun r o hro => by
      by_cases e : r = n0 + i
      · subst e; rw [fr_done hlt hli (.inr hn)] at hro; cases hro
      · rwa [hfo r e] at hro
    obtain ⟨oc, hc, nc, vc, hc1, nc1, bc, hoc, hdid, hcb, hdst⟩ := hi.run.at hist
    rw [ho] at hoc; cases hoc
    unfold wpOp
    rw [ho']
    simp only []
    cases hdid with
    | skip hw =>
      rw [wantedA_spec (hwa.trans hw) hi.tr]
      rw [if_neg (by simp)]
      exact next _ _ _ _ _ _ _ (hi.stay hpl ho hlt he (fun ⟨o2, h1, _, h2⟩ => by rw [ho] at h1; cases h1; rw [hw] at h2; cases h2) m.le_refl hdst (.tuple' VRs.nil) (stayH (by simp [al, ho, hw])))
    | pure hw hne hcl hp =>
      rw [wantedA_spec (hwa.trans hw) hi.tr, if_pos rfl]
      left
      have hWE : ¬ WE ops (view ops f F) i := fun ⟨o2, h1, h2, _⟩ => by rw [ho] at h1; cases h1; rw [hne] at h2; cases h2
      obtain ⟨v', hvr, hrun⟩ := pureV_sound hevr ((pureV_congr hev).trans hp)
      unfold Oper.wp
      rw [hrun w]
      exact next _ _ _ _ _ _ _ (hi.stay hpl ho hlt he hWE m.le_refl hdst hvr (stayH (by simp [al, ho, hcl])))
    | read hw hne hcl _ =>
      rw [wantedA_spec (hwa.trans hw) hi.tr, if_pos rfl]
      left
      have hWE : ¬ WE ops (view ops f F) i := fun ⟨o2, h1, h2, _⟩ => by rw [ho] at h1; cases h1; rw [hne] at h2; cases h2
      have hk := hfin i o vc ho (hcb rfl)
      obtain ⟨fut, hTL, hfut⟩ := hi.run.tl
      rw [hTL] at hk
      have hv := chkV_at tl.reverse fut h0 [] hk h (by rw [List.reverse_reverse]; exact hi.at_) (fun e hee => by
          have hel := hi.told e (by simpa using hee)
          have helt : e.1 < ops.length := by have := hel.lt; rwa [hi.size] at this
          cases hx : Ex.anc ops e.1 i
          · rfl
          · exact absurd (anc_down (D := Lst listed) hi.down e.1 i _ (List.getElem?_eq_getElem helt) (hi.down e.1 _ (List.getElem?_eq_getElem helt) hel) hx) hni) (by simp) (fun x hx => by
          cases hy : Ex.anc ops i x.1
          · rfl
          · exact absurd (hfut x hx).2 (hi.eff x.1 (hfut x hx).1 (hi.anc ho he hy)))
      obtain ⟨v', hvr, hrun⟩ := readV_sound hi.hr.sub hi.hr.lr hevr ((readV_congr hev).trans hv)
      unfold Oper.wp
      rw [hrun]
      exact next _ _ _ _ _ _ _ (hi.stay hpl ho hlt he hWE m.le_refl hdst hvr (stayH (by simp [al, ho, hcl])))
    | @alloc ao g hw hcl hval =>
      rw [wantedA_spec (hwa.trans hw) hi.tr, if_pos rfl]
      left
      have hWE : ¬ WE ops (view ops f F) i := fun ⟨o2, h1, h2, _⟩ => by rw [ho] at h1; cases h1; simp [isEff, hcl] at h2
      have hal : al P G ops (view ops f F) i = some ao := by simp [al, ho, hw, hcl, hval]
      obtain ⟨hl, hrw, co, hrun, hor, hvr⟩ := allocV_sound hevr ((allocV_congr hev).trans hval)
      have hres : fr X (al P G ops (view ops f F)) n0 ops.length steps (Lst listed) (n0 + i) = some .res := fr_unlisted hlt hni
      have hnone := hi.hr.apart _ _ hres
      have hov : ov h (fr X (al P G ops (view ops f F)) n0 ops.length steps (Lst listed)) (n0 + i) = some .res := by rw [ov_none hnone]; exact hres
      have hnd := hi.hr.lr.free _ hov
      have hltn := hi.hr.lr.lt _ _ hov
      have hle := Mp.le_ext (m := m) hnd w.heap.size 0 0
      have hsub : LR B w0 m (fun r => if r = n0 + i then none else ov h (fr X (al P G ops (view ops f F)) n0 ops.length steps (Lst listed)) r) n w := hi.hr.lr.sub fun r o hro => by
        by_cases e : r = n0 + i
        · rw [if_pos e] at hro; cases hro
        · rwa [if_neg e] at hro
      have hlr := hsub.alloc hnd (by simp) (Nat.le_refl n) hltn 0 0 (hor _ (n0 + i) hle)
      unfold Oper.wp
      rw [hrun w]
      refine next _ _ _ _ _ _ _ (hi.stay hpl ho hlt he hWE hle hdst ?_ ⟨hlr.congr fun r => ?_, fun r o' hx => ?_⟩)
      · have := hvr (m.ext (n0 + i) w.heap.size 0 0) (n0 + i) (Mp.ext_dom _ _ _ _ _)
        rwa [Mp.ext_mu] at this
      · by_cases e : r = n0 + i
        · subst e
          rw [ov_none hnone, fr_made hlt hli hist, upd_same, hal]
        · rw [upd_ne _ _ e, if_neg e]
          unfold ov
          rw [hfo r e]
      · by_cases e : r = n0 + i
        · subst e; exact hnone
        · rw [hfo r e] at hx; exact hi.hr.apart r o' hx
    | eff hw heff _ =>
      rw [wantedA_spec (hwa.trans hw) hi.tr, if_pos rfl]
      left
      obtain ⟨pre, post, rfl⟩ := List.append_of_mem hist
      have hpre : ∀ p ∈ pre, p < ops.length ∧ Lst listed p ∧ ¬ WE ops (view ops f F) p := fun p hp => by
        have hps : p ∈ pre ++ i :: post := by simp [hp]
        have hl : Lst listed p := hi.anc ho he (ordOk_app hi.ord (by simp [effAt, ho, heff]) p hp)
        exact ⟨hi.lt p hps, hl, hi.eff p hps hl⟩
      obtain ⟨h1, hrun, hh⟩ := hi.run.advance hi.ord hpre hi.hr
      have hord : ordOk ops (i :: post) = true := ordOk_tail hi.ord
      obtain ⟨hoc1, hoc2⟩ := ordOk_cons hord
      cases hrun with
      | @step _ _ o2 _ _ _ v hv1 n1 b _ _ _ ho2 hd2 _ hdst2 hrr =>
        rw [ho] at ho2; cases ho2
        cases hd2 with
        | skip hw2 => rw [hw] at hw2; cases hw2
        | pure _ he2 _ _ => rw [heff] at he2; cases he2
        | read _ he2 _ _ => rw [heff] at he2; cases he2
        | alloc _ hc2 _ => simp [isEff, hc2] at heff
        | eff _ _ hk =>
          have hhx : HR B w0 m h1 (fr X (al P G ops (view ops f F)) n0 ops.length post (Lst (listed.setIfInBounds i true))) n w := hh.fewer fun r o' hro => by
            have hnp : i ∉ post := fun hp => (hoc1 i hp).1 rfl
            by_cases e : r = n0 + i
            · subst e; rw [fr_done hlt hli (.inl hnp)] at hro; cases hro
            · rw [← hro]
              exact fr_other e (fun p hp => by rw [Lst.set hs]; simp [hp]) (fun p hp => by simp [hp])
          classical
          have hkk : opX P ih h1 n (evF G (fD ops f F (Lst listed))) o (fun v' h' n' => decide (v' = v ∧ h' = hv1 ∧ n' = n1)) = true := by
            rw [opX_congr hev, hk]; simp
          refine opX_sound hih hi.g hhx hevr hkk _ _ fun v2 v' m' h' n' w' hm hv hh' hdec => ?_
          obtain ⟨rfl, rfl, rfl⟩ := of_decide_eq_true hdec
          refine next _ _ post h' n' ((i, h') :: tl) m' ?_
          exact {
            size := by simpa using hi.size
            down := hi.down' ho hlt he
            run := hrr
            at_ := rfl
            ord := hoc2
            lt := fun p hp => hi.lt p (by simp [hp])
            out := fun p hp hn => by
              rw [Lst.set hs]
              by_cases e : p = i
              · exact .inl e
              · by_cases hpp : p ∈ pre
                · exact .inr (hpre p hpp).2.1
                · exact .inr (hi.out p hp (by simp [hpp, e, hn]))
            eff := fun p hp hl => by
              rcases (Lst.set hs).1 hl with rfl | hl
              · exact absurd rfl (hoc1 _ hp).1
              · exact hi.eff p (by simp [hp]) hl
            told := fun x hx => by
              rw [Lst.set hs]
              rcases List.mem_cons.1 hx with rfl | hx
              · exact .inl rfl
              · exact .inr (hi.told x hx)
            g := hi.g.mono hm
            le := Mp.le_trans hi.le hm
            tr := hi.tr.did hpl hm ho hdst2 hv fun p => Lst.set hs
            defers := by cases o.dst <;> exact hi.defers
            hr := hh' }

theorem regK_sound (hm : P.follows .mixedOrders = true) : RegSound P G (regK P G) := by
  intro ih hih hU ops z t h n k hk B w0 m X a w Q id hG ht hd hr hn
  refine wp_region_any hm ?_
  unfold regK at hk
  cases hp : planOk ops
  · rw [hp] at hk; cases hk
  rw [hp, sel_true, forceN_eq] at hk
  have hpl := planOk_spec hp
  rcases canon_run (P := P) (G := G) (ops := ops) hU (n0 := n) (z := z) (ord ops) t h (n + ops.length) [] [] with hno | ⟨T', H, N, TL, RD, hrun, hck⟩
  · rw [hno] at hk; cases hk
  rw [hck] at hk
  cases hf : RD.all (rdOk P G ops h TL.reverse)
  · rw [hf] at hk; cases hk
  rw [hf, sel_true] at hk
  have hF0 : ∀ τ, (∀ p, p < ops.length → dstIs ops p τ = false) → T'.get τ = t.get τ := fun τ hτ => hrun.stable fun p hp => hτ p (hpl.lt p hp)
  have hrT := hrun.toT hpl hpl.ordd hpl.lt (f := t.get) (fun τ _ => rfl) (fun p hp hn => absurd (hpl.all p hp) hn)
    (C := fun i o v => chkV P ops (evF G (view ops t.get T'.get i)) v i o TL.reverse h [] = true) (fun i o tt v ho hmem hsee => by
      simp only [List.all_eq_true] at hf
      have := hf _ hmem
      simp only [rdOk, ho] at this
      rw [← this]
      exact (chkV_congr (evF_congr hsee) ..).symm)
  have hnot : ∀ p, ¬ Lst (Array.replicate ops.length false) p := fun p hl => by
    have := hl.lt
    unfold Lst at hl
    simp at this
    simp [this] at hl
  have hsz : (⟨ops⟩ : Array Oper).size = ops.length := rfl
  rw [hsz]
  refine any_sound hih hpl (B := B) (w0 := w0) (X := X) (n0 := n) (z := z) (f := t.get) (F := T'.get) (C := fun i o v => chkV P ops (evF G (view ops t.get T'.get i)) v i o TL.reverse h [] = true) (h0 := h) (H := H) (N := N) (TL := TL) (m0 := m) hF0 (fun i o v _ hc => hc) (fun listed a w steps h' n' tl m' hi hall => ?_) ops.length _ a _ (ord ops) h (n + ops.length) [] m (List.range ops.length) (by simp) (fun p hp _ => by simpa using hp) ?_
  · have hpre : ∀ p ∈ steps, p < ops.length ∧ Lst listed p ∧ ¬ WE ops (view ops t.get T'.get) p := fun p hp => ⟨hi.lt p hp, hall p (hi.lt p hp), hi.eff p hp (hall p (hi.lt p hp))⟩
    obtain ⟨h1, hr1, hh1⟩ := RunT.advance (pre := steps) (post := []) (by simpa using hi.run) (by simpa using hi.ord) hpre (by simpa using hi.hr)
    cases hr1 with
    | done =>
      refine hn m' T' H N a w hi.le (hi.tr.ext fun i v hv => ?_) hi.defers (hh1.fewer fun r o hro => ?_) hk
      · rw [fD_done fun p hp _ => hall p hp]; exact hv
      · have hlt := hr.lr.lt r o (by rw [ov_none (hr.apart r o hro)]; exact hro)
        unfold fr
        rw [if_neg (by omega)]
        exact hro
  · exact {
      size := by simp
      down := fun p o ho hl => absurd hl (hnot p)
      run := hrT
      at_ := rfl
      ord := hpl.ordd
      lt := hpl.lt
      out := fun p hp hn => absurd (hpl.all p hp) hn
      eff := fun p hp hl => absurd hl (hnot p)
      told := fun x hx => by cases hx
      g := hG
      le := m.le_refl
      tr := ht.ext fun τ v hv => by
        rw [← hv]
        by_cases hu : ∃ q, q < ops.length ∧ dstIs ops q τ = true
        · obtain ⟨q, hq1, hq2⟩ := hu
          rw [fD_old hq1 (hnot q) hq2]
        · have hno : ∀ p, p < ops.length → dstIs ops p τ = false := fun p hp => by
            cases e : dstIs ops p τ
            · rfl
            · exact absurd ⟨p, hp, e⟩ hu
          rw [fD_done fun p hp hd => (by rw [hno p hp] at hd; cases hd), hF0 τ hno]
      defers := hd
      hr := by
        have hlr := hr.same (Same.drew w)
        have hnone : ∀ r, n ≤ r → h.get r = none := fun r hrn => by
          cases e : h.get r with
          | none => rfl
          | some o => have := hr.lr.lt r o (ov_some e); omega
        refine ⟨?_, fun r o hx => ?_⟩
        · have hold : ∀ r o, ov h (fr X (al P G ops (view ops t.get T'.get)) n ops.length (ord ops) (Lst (Array.replicate ops.length false))) r = some o → ov h X r = some o ∨ (o = .res ∧ n ≤ r ∧ r < n + ops.length) := fun r o ho => by
            unfold ov at ho ⊢
            split at ho
            · exact .inl ho
            · unfold fr at ho
              split at ho
              · rename_i hrg
                rw [if_neg (hnot _)] at ho
                cases ho
                exact .inr ⟨rfl, hrg⟩
              · exact .inl ho
          have hl := hlr.lr
          exact {
            below := hl.below
            size := hl.size
            ok := fun b o hb hlv => by
              rcases hold b o hb with hb | ⟨rfl, _⟩
              · exact hl.ok b o hb hlv
              · cases hlv
            lt := fun b o hb => by
              rcases hold b o hb with hb | ⟨_, hb⟩
              · have := hl.lt b o hb; omega
              · exact hb.2
            own := fun b o hb hlv hrw => by
              rcases hold b o hb with hb | ⟨rfl, _⟩
              · exact hl.own b o hb hlv hrw
              · cases hlv
            inj := fun b b' o o' hb hb' hlv hlv' => by
              rcases hold b o hb with hb | ⟨rfl, _⟩
              · rcases hold b' o' hb' with hb' | ⟨rfl, _⟩
                · exact hl.inj b b' o o' hb hb' hlv hlv'
                · cases hlv'
              · cases hlv
            dom := fun b hb => by have := hl.dom b hb; omega
            free := fun b hb hd => by
              rcases hold b _ hb with hb | ⟨_, hb⟩
              · exact hl.free b hb hd
              · have := hl.dom b hd; omega }
        · unfold fr at hx
          split at hx
          · rename_i hrg; exact hnone r hrg.1
          · exact hr.apart r o hx }

theorem regK_uni : (regK P G).Uni := by
  intro ih hU ops z t h n
  unfold regK
  simp only [forceN_eq]
  cases planOk ops
  · exact .inl fun _ => rfl
  · simp only [sel_true]
    rcases canon_run (P := P) (G := G) (ops := ops) hU (n0 := n) (z := z) (ord ops) t h (n + ops.length) [] [] with hno | ⟨T', H, N, TL, RD, hrun, hck⟩
    · exact .inl fun _ => hno _
    · cases hf : RD.all (rdOk P G ops h TL.reverse)
      · exact .inl fun k => (hck _).trans (by rw [hf]; rfl)
      · exact .inr ⟨T', H, N, fun k => (hck _).trans (by rw [hf]; rfl)⟩

/-- The executor. -/
def run (P : Program) (G : Nat) (fuel : Nat) : Ex1 := exec P G (regK P G) fuel
theorem run_sound (hm : P.follows .mixedOrders = true) (fuel : Nat) : Sound P G (run P G fuel) := (exec_sound (regK_sound hm) (exec_uni regK_uni) fuel).1

end
end Go.Ex

/- A law, run: from the executor's word to the model's. -/
namespace Go.Ex
noncomputable section
open Go.RowKit (Below)

/-- The package's variables alone are known. -/
def mG (G : Nat) : Mp := ⟨fun b => b < G, fun b => b, fun _ => 0, fun _ => 0⟩
theorem mG_GR (G : Nat) : GR (mG G) G := fun _ hg => ⟨hg, rfl⟩
theorem mG_HR (G n : Nat) (hn : G ≤ n) (w : World) : HR w.heap.size w (mG G) .leaf (fun _ => none) n w where
  lr := {
    below := Below.refl _ _
    size := Nat.le_refl _
    ok := fun b o hb => by cases hb
    lt := fun b o hb => by cases hb
    own := fun b o hb => by cases hb
    inj := fun b b' o o' hb => by cases hb
    dom := fun b hb => Nat.lt_of_lt_of_le hb hn
    free := fun b hb => by cases hb }
  apart := fun b o hb => by cases hb

def isTrue (v : Value) : Bool :=
  match v with
  | .bool b => b
  | _ => false

/-- A law's run in the executor. -/
def lawRun (P : Program) (G fuel : Nat) (f : FuncId) (args : List Value) : Bool := enterK P (run P G fuel) f args .leaf (G + 1) fun v _ _ => isTrue v

theorem law_run {P : Program} (hm : P.follows .mixedOrders = true) {G fuel : Nat} {f : FuncId} {args args' : List Value} (hb : (bodyOf P f).isSome = true) (hk : lawRun P G fuel f args = true) (ha : VRs (mG G) args args') (w : World) :
    Calls P f ⟨args'⟩ w fun e w' => e = .returned (.bool true) ∧ Below w.heap.size w w' := by
  have := enterK_sound (run_sound (G := G) hm fuel) (mG_GR G) (mG_HR G (G + 1) (Nat.le_succ G) w) hk ha (fun v w' => v = .bool true ∧ Below w.heap.size w w') False (fun v v' m' h' n' w' _ hv hh ht => by
    refine ⟨?_, hh.lr.below⟩
    unfold isTrue at ht
    split at ht
    · subst ht; exact hv.inv_bool
    · cases ht)
  rcases this with ⟨v', hr, _⟩ | ⟨_, hc⟩
  · obtain ⟨⟨fn, c⟩, hbo⟩ := Option.isSome_iff_exists.1 hb
    rw [(bodyOf_spec hbo).2.2 _ w] at hr
    cases hr
  · refine hc.mono fun e w' he => ?_
    cases e with
    | returned v => exact ⟨by rw [he.1], he.2⟩
    | panicked c => exact he.elim
    | outgrown => exact he.elim

/-- An argument of a byte: its residue. -/
def u8s (q r : Nat) : Value := .complex .f64 q (16 * r + 4)
theorem u8s_VR (m : Mp) {q r : Nat} {a : Int} (hw : (Lit.int .u8 a).wf = true) (hr : a % (q : Int) = r) : VR m (u8s q r) (.int .u8 a) := by
  have h : 0 ≤ a ∧ a < 256 := by
    simp [Lit.wf, IntKind.min, IntKind.max, IntKind.signed, IntKind.bits] at hw
    omega
  refine .sym .u8 q _ a (by simp [kcode]) (.inr ⟨by simp, h.1, h.2, ?_⟩)
  rw [hr]
  congr 1
  omega

end
end Go.Ex

/- The same, made lean for the kernel: what hangs on the code alone is a closed term of its own, which the kernel keeps. -/
namespace Go.Ex
noncomputable section

variable {P : Program}

abbrev Ev := Operand → Option Value
abbrev Kx := Value → T AO → Nat → Bool

def pu1 (ev : Ev) (x : Operand) (f : Value → Option Value) : Option Value := match ev x with | some a => f a | none => none
def pu2 (ev : Ev) (x y : Operand) (f : Value → Value → Option Value) : Option Value := match ev x, ev y with | some a, some b => f a b | _, _ => none

def pureC (P : Program) (o : Op) : Option (Ev → Option Value) :=
  match o with
  | .move x => some fun ev => ev x
  | .assign x => some fun ev => ev x
  | .pick c a b => some fun ev => match ev c with
    | some (.bool true) => ev a
    | some (.bool false) => ev b
    | _ => none
  | .build t ps => some fun ev => match evps ev ps.toList with
    | some l => buildV P t l
    | none => none
  | .nilCheck x => some fun ev => pu1 ev x nilV
  | .binOp op xt x y _ => some fun ev => pu2 ev x y (binV P op xt x y)
  | .unOp op _ x => some fun ev => pu1 ev x (unV P op)
  | .convert src dst x => some fun ev => pu1 ev x (convV P src dst)
  | .makeInterface t x => some fun ev => pu1 ev x (makeIfaceV P t)
  | .makeFunc fn first captured => some fun ev => match evs ev first.toList, evs ev captured.toList with
    | some l, some k => sel (fnOk fn) (some (.func fn ⟨l⟩ ⟨k⟩)) none
    | _, _ => none
  | .slice t x lo hi mx => some fun ev => match ev x, evo ev lo, evo ev hi, evo ev mx with
    | some a, some l, some h, some q => sliceV P t a l h q
    | _, _, _, _ => none
  | .fieldAddr s x f => some fun ev => pu1 ev x fun a => fieldAddrV P s a f
  | .field s x f => some fun ev => pu1 ev x fun a => fieldV P s a f
  | .indexAddr t x i => some fun ev => pu2 ev x i (indexAddrV P t)
  | .index t x i => some fun ev => pu2 ev x i (indexV P t)
  | .typeAssert x _ asserted ok => some fun ev => pu1 ev x (typeAssertV P asserted ok)
  | .extract x i => some fun ev => pu1 ev x fun a => extractV a i
  | .call c => match c.callee with
    | .builtin .len => match c.argTypes.toList, c.args.toList with
      | [t], [x] => some fun ev => pu1 ev x (lenV P t)
      | _, _ => none
    | .builtin .cap => match c.argTypes.toList, c.args.toList with
      | [t], [x] => some fun ev => pu1 ev x (capV P t)
      | _, _ => none
    | .builtin .max => some fun ev => match evs ev c.args.toList with
      | some l => sel (allInts l) (flatted (pr P (Builtin.max_ #[] 0 ⟨l⟩))) none
      | none => none
    | .builtin .min => some fun ev => match evs ev c.args.toList with
      | some l => sel (allInts l) (flatted (pr P (Builtin.min_ #[] 0 ⟨l⟩))) none
      | none => none
    | _ => none
  | _ => none
def runO (f : Option (Ev → Option Value)) (ev : Ev) : Option Value := match f with | some f => f ev | none => none

theorem pureC_eq (ev : Ev) (o : Oper) : runO (pureC P o.op) ev = pureV P ev o := by
  obtain ⟨dst, op, ty, pos, after, guard⟩ := o
  cases op
  case call c =>
    obtain ⟨callee, args, ats⟩ := c
    obtain ⟨args⟩ := args
    obtain ⟨ats⟩ := ats
    cases callee
    case builtin b =>
      cases b
      case len => rcases ats with _ | ⟨t, _ | ⟨t2, _ | ⟨t3, ts⟩⟩⟩ <;> rcases args with _ | ⟨x, _ | ⟨y, _ | ⟨z, r⟩⟩⟩ <;> rfl
      case cap => rcases ats with _ | ⟨t, _ | ⟨t2, _ | ⟨t3, ts⟩⟩⟩ <;> rcases args with _ | ⟨x, _ | ⟨y, _ | ⟨z, r⟩⟩⟩ <;> rfl
      all_goals rfl
    all_goals rfl
  all_goals rfl

def readC (P : Program) (o : Op) : Option (T AO → Ev → Option Value) :=
  match o with
  | .load t x => some fun h ev => pu1 ev x (loadV P h t)
  | .binOp op xt x y _ => some fun h ev => pu2 ev x y fun a b => match eqAddr P h xt a b with
      | some c => eqOp op c
      | none => none
  | .lookup t x i ok => some fun h ev => pu2 ev x i fun a b => lookupV P h t a b ok
  | .slice t x lo hi mx => some fun h ev => match ev x, evo ev lo, evo ev hi, evo ev mx with
    | some a, some l, some h', some q => sliceRV P h t a l h' q
    | _, _, _, _ => none
  | .call c => match c.callee with
    | .builtin .len => match c.argTypes.toList, c.args.toList with
      | [t], [x] => some fun h ev => pu1 ev x (lenMapV P h t)
      | _, _ => none
    | _ => none
  | _ => none
def runR (f : Option (T AO → Ev → Option Value)) (h : T AO) (ev : Ev) : Option Value := match f with | some f => f h ev | none => none
theorem readC_eq (h : T AO) (ev : Ev) (o : Oper) : runR (readC P o.op) h ev = readV P h ev o := by
  obtain ⟨dst, op, ty, pos, after, guard⟩ := o
  cases op
  case call c =>
    obtain ⟨callee, args, ats⟩ := c
    obtain ⟨args⟩ := args
    obtain ⟨ats⟩ := ats
    cases callee
    case builtin b =>
      cases b
      case len => rcases ats with _ | ⟨t, _ | ⟨t2, _ | ⟨t3, ts⟩⟩⟩ <;> rcases args with _ | ⟨x, _ | ⟨y, _ | ⟨z, r⟩⟩⟩ <;> rfl
      all_goals rfl
    all_goals rfl
  all_goals rfl

def effC (P : Program) (o : Op) : Option (T AO → Nat → Ev → Kx → Bool) :=
  match o with
  | .store t a x => some fun h n ev k => match ev a, ev x with
    | some a, some v => storeK P h n t a v k
    | _, _ => false
  | .mapUpdate t x i v => some fun h n ev k => match ev x, ev i, ev v with
    | some x, some i, some v => mapUpdateK P h n t x i v k
    | _, _, _ => false
  | .insert t x i v => some fun h n ev k => match ev x, ev i, ev v with
    | some x, some i, some v => mapUpdateK P h n t x i v k
    | _, _, _ => false
  | .call c => match c.callee with
    | .builtin .append => match c.argTypes.toList, c.args.toList with
      | [sT, xT], [s, x] => some fun h n ev k => match ev s, ev x with
        | some s, some x => appendK P h n sT xT s x k
        | _, _ => false
      | _, _ => none
    | .builtin .copy => match c.argTypes.toList, c.args.toList with
      | [dT, _], [d, x] => some fun h n ev k => match ev d, ev x with
        | some d, some x => copyK P h n dT d x k
        | _, _ => false
      | _, _ => none
    | .builtin .delete => match c.argTypes.toList, c.args.toList with
      | t :: _, [x, i] => some fun h n ev k => match ev x, ev i with
        | some x, some i => deleteK P h n t x i k
        | _, _ => false
      | _, _ => none
    | .builtin .clear => match c.argTypes.toList, c.args.toList with
      | [t], [x] => some fun h n ev k => match ev x with
        | some x => clearK P h n t x k
        | none => false
      | _, _ => none
    | _ => none
  | _ => none
def runE (f : Option (T AO → Nat → Ev → Kx → Bool)) (h : T AO) (n : Nat) (ev : Ev) (k : Kx) : Bool := match f with | some f => f h n ev k | none => false
theorem effC_eq (h : T AO) (n : Nat) (ev : Ev) (o : Oper) (k : Kx) : runE (effC P o.op) h n ev k = effK P h n ev o k := by
  obtain ⟨dst, op, ty, pos, after, guard⟩ := o
  cases op
  case call c =>
    obtain ⟨callee, args, ats⟩ := c
    obtain ⟨args⟩ := args
    obtain ⟨ats⟩ := ats
    cases callee
    case builtin b =>
      cases b
      case append => rcases ats with _ | ⟨t, _ | ⟨t2, _ | ⟨t3, ts⟩⟩⟩ <;> rcases args with _ | ⟨x, _ | ⟨y, _ | ⟨z, r⟩⟩⟩ <;> rfl
      case copy => rcases ats with _ | ⟨t, _ | ⟨t2, _ | ⟨t3, ts⟩⟩⟩ <;> rcases args with _ | ⟨x, _ | ⟨y, _ | ⟨z, r⟩⟩⟩ <;> rfl
      case delete => rcases ats with _ | ⟨t, _ | ⟨t2, _ | ⟨t3, ts⟩⟩⟩ <;> rcases args with _ | ⟨x, _ | ⟨y, _ | ⟨z, r⟩⟩⟩ <;> rfl
      case clear => rcases ats with _ | ⟨t, _ | ⟨t2, _ | ⟨t3, ts⟩⟩⟩ <;> rcases args with _ | ⟨x, _ | ⟨y, _ | ⟨z, r⟩⟩⟩ <;> rfl
      all_goals rfl
    all_goals rfl
  all_goals rfl

def callC (P : Program) (o : Op) : Option (Ex1 → Ev → T AO → Nat → Kx → Bool) :=
  match o with
  | .call c => match c.callee with
    | .value f => some fun ih ev h n k => match ev f, evs ev c.args.toList with
      | some (.func (.func g) ⟨first⟩ ⟨captured⟩), some args => enterK P ih g (first ++ args ++ captured) h n k
      | _, _ => false
    | .invoke r name => some fun ih ev h n k => match ev r, evs ev c.args.toList with
      | some (.iface t v), some args => match methodA P h t v name with
        | some (g, u) => enterK P ih g (u :: args) h n k
        | none => false
      | _, _ => false
    | _ => none
  | _ => none
def runC (f : Option (Ex1 → Ev → T AO → Nat → Kx → Bool)) (ih : Ex1) (ev : Ev) (h : T AO) (n : Nat) (k : Kx) : Bool := match f with | some f => f ih ev h n k | none => false
theorem callC_eq (ih : Ex1) (ev : Ev) (h : T AO) (n : Nat) (o : Oper) (k : Kx) : runC (callC P o.op) ih ev h n k = callK P ih ev h n o k := by
  obtain ⟨dst, op, ty, pos, after, guard⟩ := o
  cases op
  case call c =>
    obtain ⟨callee, args, ats⟩ := c
    cases callee <;> rfl
  all_goals rfl

/-- One operation, made ready. -/
inductive Cd where
  | val (f : Option (Ev → Option Value)) (r : Option (T AO → Ev → Option Value))
  | read (r : Option (T AO → Ev → Option Value))
  | alloc
  | eff (f : Option (T AO → Nat → Ev → Kx → Bool))
  | call (f : Option (Ex1 → Ev → T AO → Nat → Kx → Bool))

def cd (P : Program) (o : Op) : Cd :=
  match opClass o with
  | 0 => .val (pureC P o) (readC P o)
  | 1 => .read (readC P o)
  | 2 => .alloc
  | 3 => .eff (effC P o)
  | _ => .call (callC P o)

theorem opClass_le (o : Op) : opClass o ≤ 4 := by
  cases o
  case call c =>
    simp only [opClass]
    split <;> omega
  all_goals simp [opClass]

def opF (P : Program) (ih : Ex1) (h : T AO) (n : Nat) (ev : Ev) (o : Oper) (k : Kx) : Bool :=
  match cd P o.op with
  | .val f r => match runO f ev with
    | some v => forceV v fun v => k v h n
    | none => match runR r h ev with
      | some v => forceV v fun v => k v h n
      | none => false
  | .read r => match runR r h ev with
    | some v => forceV v fun v => k v h n
    | none => false
  | .alloc => allocK P h n ev o k
  | .eff f => runE f h n ev k
  | .call f => runC f ih ev h n k

theorem opF_eq (ih : Ex1) (h : T AO) (n : Nat) (ev : Ev) (o : Oper) (k : Kx) : opF P ih h n ev o k = opX P ih h n ev o k := by
  have hle := opClass_le o.op
  unfold opF opX opBase valK readK cd
  rcases e : opClass o.op with _ | _ | _ | _ | _ | c
  · simp only [pureC_eq, readC_eq]; rfl
  · simp only [readC_eq]; rfl
  · rfl
  · simp only [effC_eq]; rfl
  · simp only [callC_eq]; rfl
  · omega

end
end Go.Ex

/- The executor, lean: equal to the one that is proved sound. -/
namespace Go.Ex
noncomputable section

variable {P : Program} {G : Nat}

def wantC (ops : List Oper) (o : Oper) : Option (Option (Tmp × Bool)) :=
  match o.guard with
  | none => some none
  | some (j, want) => match ops[j]? with
    | some g => match g.dst with
      | some d => some (some (d, want))
      | none => none
    | none => none
def wantV (v : Option Value) (want : Bool) : Option Bool :=
  match v with
  | some (.bool b) => some (b == want)
  | some (.tuple ⟨[]⟩) => some false
  | _ => none
def wantF (ops : List Oper) (f : Nat → Option Value) (o : Oper) : Option Bool :=
  match wantC ops o with
  | some none => some true
  | some (some (d, want)) => wantV (f d) want
  | none => none
theorem wantF_eq (ops : List Oper) (f : Nat → Option Value) (o : Oper) : wantF ops f o = wantedA ops f o := by
  unfold wantF wantC wantedA
  cases o.guard with
  | none => rfl
  | some jw =>
    obtain ⟨j, want⟩ := jw
    simp only []
    cases ops[j]? with
    | none => rfl
    | some g =>
      simp only []
      cases g.dst with
      | none => rfl
      | some d => rfl

/-! ### Regions that draw their order -/
abbrev Rt := T Value → T AO → Nat → Tl → Rd → Kc → Bool
def cPut (z : Nat) (dst : Option Tmp) (rest : Rt) (t : T Value) (h : T AO) (n : Nat) (tl : Tl) (rd : Rd) (k : Kc) (v : Value) : Bool := putK z t dst v fun t => rest t h n tl rd k
def cRead (z i : Nat) (dst : Option Tmp) (rest : Rt) (t : T Value) (h : T AO) (n : Nat) (tl : Tl) (rd : Rd) (k : Kc) (v : Option Value) : Bool :=
  match v with
  | some v => forceV v fun v => putK z t dst v fun t' => rest t' h n tl ((i, t, v) :: rd) k
  | none => false
def cAlloc (P : Program) (G n0 z i : Nat) (o : Oper) (rest : Rt) (t : T Value) (h : T AO) (n : Nat) (tl : Tl) (rd : Rd) (k : Kc) : Bool :=
  match allocV P (evF G t.get) o with
  | some (ao, f) => forceN (n0 + i) fun r => forceAO ao fun ao => T.setK (some ao) h r fun h => putK z t o.dst (f r) fun t => rest t h n tl rd k
  | none => false
def cEff (z i : Nat) (dst : Option Tmp) (rest : Rt) (t : T Value) (tl : Tl) (rd : Rd) (k : Kc) (v : Value) (h : T AO) (n : Nat) : Bool := putK z t dst v fun t => rest t h n ((i, h) :: tl) rd k
def cDo (P : Program) (G : Nat) (ih : Ex1) (n0 z i : Nat) (rest : Rt) (o : Oper) (t : T Value) (h : T AO) (n : Nat) (tl : Tl) (rd : Rd) (k : Kc) : Bool :=
  match cd P o.op with
  | .val f r => match runO f (evF G t.get) with
    | some v => forceV v (cPut z o.dst rest t h n tl rd k)
    | none => cRead z i o.dst rest t h n tl rd k (runR r h (evF G t.get))
  | .read r => match pureV P (evF G t.get) o with
    | some v => forceV v (cPut z o.dst rest t h n tl rd k)
    | none => cRead z i o.dst rest t h n tl rd k (runR r h (evF G t.get))
  | .alloc => cAlloc P G n0 z i o rest t h n tl rd k
  | .eff f => runE f h n (evF G t.get) (cEff z i o.dst rest t tl rd k)
  | .call f => runC f ih (evF G t.get) h n (cEff z i o.dst rest t tl rd k)
def cStep (P : Program) (G : Nat) (ih : Ex1) (ops : List Oper) (n0 z i : Nat) (rest : Rt) : Rt := fun t h n tl rd k =>
  match ops[i]? with
  | none => false
  | some o => match wantF ops t.get o with
    | none => false
    | some b => sel b (cDo P G ih n0 z i rest o t h n tl rd k) (cPut z o.dst rest t h n tl rd k undefA)
def canonF (P : Program) (G : Nat) (ih : Ex1) (ops : List Oper) (n0 z : Nat) (l : List Nat) : Rt :=
  List.rec (motive := fun _ => Rt) (fun t h n tl rd k => k t h n tl rd) (fun i _ rest => cStep P G ih ops n0 z i rest) l

theorem canonF_eq (ih : Ex1) (ops : List Oper) (n0 z : Nat) : ∀ (l : List Nat) (t : T Value) (h : T AO) (n : Nat) (tl : Tl) (rd : Rd) (k : Kc), canonF P G ih ops n0 z l t h n tl rd k = canonK P G ih ops n0 z l t h n tl rd k
  | [], _, _, _, _, _, _ => rfl
  | i :: rest, t, h, n, tl, rd, k => by
    have e : canonF P G ih ops n0 z rest = canonK P G ih ops n0 z rest := by
      funext t h n tl rd k
      exact canonF_eq ih ops n0 z rest t h n tl rd k
    show cStep P G ih ops n0 z i (canonF P G ih ops n0 z rest) t h n tl rd k = (match ops[i]? with
      | none => false
      | some o => match wantedA ops t.get o with
        | none => false
        | some b => sel b
          (sel (isEff o)
            (opX P ih h n (evF G t.get) o fun v h n => putK z t o.dst v fun t => canonK P G ih ops n0 z rest t h n ((i, h) :: tl) rd k)
            (sel (Nat.beq (opClass o.op) 2)
              (match allocV P (evF G t.get) o with
              | some (ao, f) => forceN (n0 + i) fun r => forceAO ao fun ao => T.setK (some ao) h r fun h => putK z t o.dst (f r) fun t => canonK P G ih ops n0 z rest t h n tl rd k
              | none => false)
              (match pureV P (evF G t.get) o with
              | some v => forceV v fun v => putK z t o.dst v fun t => canonK P G ih ops n0 z rest t h n tl rd k
              | none => match readV P h (evF G t.get) o with
                | some v => forceV v fun v => putK z t o.dst v fun t' => canonK P G ih ops n0 z rest t' h n tl ((i, t, v) :: rd) k
                | none => false)))
          (putK z t o.dst undefA fun t => canonK P G ih ops n0 z rest t h n tl rd k))
    rw [e]
    unfold cStep
    cases ops[i]? with
    | none => rfl
    | some o =>
      simp only [wantF_eq]
      cases wantedA ops t.get o with
      | none => rfl
      | some b =>
        cases b with
        | false => rfl
        | true =>
          simp only [sel_true]
          rw [← opF_eq]
          have hle := opClass_le o.op
          unfold cDo opF cd isEff cRead cAlloc
          rcases hc : opClass o.op with _ | _ | _ | _ | _ | c
          · simp only [pureC_eq, readC_eq]; rfl
          · simp only [readC_eq]; rfl
          · rfl
          · rfl
          · rfl
          · omega

def chkF (ops : List Oper) (f : Option (T AO → Ev → Option Value)) (ev : Ev) (u : Value) (i : Nat) : Tl → T AO → List Nat → Bool
  | todo, h, done =>
    (sel ((done.all fun e => !anc ops e i) && (todo.all fun x => !anc ops i x.1)) (match runR f h ev with
      | some v => veq 8 v u
      | none => false) true) &&
    (match todo with
     | [] => true
     | (e, h') :: rest => chkF ops f ev u i rest h' (e :: done))
theorem chkF_eq (ops : List Oper) (ev : Ev) (u : Value) (i : Nat) (o : Oper) : ∀ (l : Tl) (h : T AO) (done : List Nat), chkF ops (readC P o.op) ev u i l h done = chkV P ops ev u i o l h done
  | [], h, done => by simp only [chkF, chkV, readC_eq] <;> rfl
  | x :: l, h, done => by simp only [chkF, chkV, readC_eq, chkF_eq ops ev u i o l] <;> rfl

def rdF (P : Program) (G : Nat) (ops : List Oper) (h0 : T AO) (tl : Tl) (x : Nat × T Value × Value) : Bool :=
  match ops[x.1]? with
  | none => false
  | some o => chkF ops (readC P o.op) (evF G x.2.1.get) x.2.2 x.1 tl h0 []
theorem rdF_eq (ops : List Oper) (h0 : T AO) (tl : Tl) : rdF P G ops h0 tl = rdOk P G ops h0 tl := by
  funext x
  unfold rdF rdOk
  cases ops[x.1]? with
  | none => rfl
  | some o => exact chkF_eq ..

def regEnd (P : Program) (G : Nat) (ops : List Oper) (h : T AO) (k : T Value → T AO → Nat → Bool) : Kc := fun t' h' n' tl rd => sel (rd.all (rdF P G ops h tl.reverse)) (k t' h' n') false
def regF (P : Program) (G : Nat) : Reg := fun ih ops z t h n k =>
  sel (planOk ops) (forceN (n + ops.length) fun n1 => canonF P G ih ops n z (ord ops) t h n1 [] [] (regEnd P G ops h k)) false
theorem regF_eq : regF P G = regK P G := by
  funext ih ops z t h n k
  unfold regF regK regEnd
  simp only [canonF_eq, rdF_eq]

/-! ### Regions in the text's order -/
abbrev Rl := T Value → T AO → Nat → (T Value → T AO → Nat → Bool) → Bool
def lPut (z : Nat) (dst : Option Tmp) (rest : Rl) (t : T Value) (k : T Value → T AO → Nat → Bool) (v : Value) (h : T AO) (n : Nat) : Bool := putK z t dst v fun t => rest t h n k
def lStep (P : Program) (G : Nat) (ih : Ex1) (ops : List Oper) (z : Nat) (o : Oper) (rest : Rl) : Rl := fun t h n k =>
  match wantF ops t.get o with
  | some b => sel b (opF P ih h n (evF G t.get) o (lPut z o.dst rest t k)) (lPut z o.dst rest t k undefA h n)
  | none => false
def runF (P : Program) (G : Nat) (ih : Ex1) (ops : List Oper) (z : Nat) (l : List Oper) : Rl :=
  List.rec (motive := fun _ => Rl) (fun t h n k => k t h n) (fun o _ rest => lStep P G ih ops z o rest) l
theorem runF_eq (ih : Ex1) (ops : List Oper) (z : Nat) : ∀ (l : List Oper) (t : T Value) (h : T AO) (n : Nat) (k : T Value → T AO → Nat → Bool), runF P G ih ops z l t h n k = runL P G ih ops z l t h n k
  | [], _, _, _, _ => rfl
  | o :: l, t, h, n, k => by
    have e : runF P G ih ops z l = runL P G ih ops z l := by
      funext t h n k
      exact runF_eq ih ops z l t h n k
    show lStep P G ih ops z o (runF P G ih ops z l) t h n k = _
    rw [e, runL_cons]
    unfold lStep
    simp only [wantF_eq, opF_eq]
    cases wantedA ops t.get o with
    | none => rfl
    | some b => cases b <;> rfl

/-! ### Code -/
def sReg (P : Program) (G : Nat) (ih : Ex1) (ops : Array Oper) (draw : Bool) (z : Nat) (t : T Value) (h : T AO) (n : Nat) (k : Kt) : Bool :=
  match ops with
  | ⟨ops⟩ => sel draw (regF P G ih ops z t h n fun t h n => k .normal t h n) (runF P G ih ops z ops t h n fun t h n => k .normal t h n)
def sSeq (ih : Ex1) (b : Code) (z : Nat) (k : Kt) : Kt := fun x t h n => match x with
  | .normal => ih b z t h n k
  | x => k x t h n
def sCond (G : Nat) (ih : Ex1) (c : Operand) (a b : Code) (z : Nat) (t : T Value) (h : T AO) (n : Nat) (k : Kt) : Bool :=
  match evF G t.get c with
  | some (.bool x) => sel x (ih a z t h n k) (ih b z t h n k)
  | _ => false
def sBlock (id : Nat) (k : Kt) : Kt := fun x t h n => match x with
  | .exit j => sel (Nat.beq j id) (k .normal t h n) (k (.exit j) t h n)
  | x => k x t h n
def stepF (P : Program) (G : Nat) (ih : Ex1) (c : Code) (z : Nat) (t : T Value) (h : T AO) (n : Nat) (k : Kt) : Bool :=
  match c with
  | .skip => k .normal t h n
  | .region _ ops draw => sReg P G ih ops draw z t h n k
  | .seq a b => ih a z t h n (sSeq ih b z k)
  | .cond c a b => sCond G ih c a b z t h n k
  | .block id body => ih body z t h n (sBlock id k)
  | .loop body => ih body z t h n (sSeq ih (.loop body) z k)
  | .exit id => k (.exit id) t h n
  | .ret => k .ret t h n
  | _ => false
theorem stepF_eq (ih : Ex1) : stepF P G ih = stepK P G (regK P G) ih := by
  funext c z t h n k
  unfold stepF stepK
  cases c with
  | region id ops draw =>
    obtain ⟨ops⟩ := ops
    simp only [sReg, regF_eq, runF_eq]
  | seq a b => simp only []; congr 1
  | cond c a b =>
    simp only [sCond]
    cases evF G t.get c with
    | none => rfl
    | some v =>
      cases v with
      | bool b => cases b <;> rfl
      | _ => rfl
  | block id body => simp only []; congr 1
  | loop body => simp only []; congr 1
  | _ => rfl

def execF (P : Program) (G : Nat) (fuel : Nat) : Ex1 := Nat.rec (motive := fun _ => Ex1) (fun _ _ _ _ _ _ => false) (fun _ ih => stepF P G ih) fuel
theorem execF_eq : ∀ f, execF P G f = run P G f
  | 0 => rfl
  | f + 1 => by
    show stepF P G (execF P G f) = stepK P G (regK P G) (exec P G (regK P G) f)
    rw [execF_eq f, stepF_eq]; rfl

/-- A law's run. -/
def lawF (P : Program) (G fuel : Nat) (f : FuncId) (args : List Value) : Bool := enterK P (execF P G fuel) f args .leaf (G + 1) fun v _ _ => isTrue v
theorem lawF_eq (fuel : Nat) (f : FuncId) (args : List Value) : lawF P G fuel f args = lawRun P G fuel f args := by
  unfold lawF lawRun; rw [execF_eq]
theorem lawF_run (hm : P.follows .mixedOrders = true) {fuel : Nat} {f : FuncId} {args args' : List Value} (hb : (bodyOf P f).isSome = true) (hk : lawF P G fuel f args = true) (ha : VRs (mG G) args args') (w : World) :
    Calls P f ⟨args'⟩ w fun e w' => e = .returned (.bool true) ∧ RowKit.Below w.heap.size w w' := law_run hm hb (by rw [← lawF_eq]; exact hk) ha w

end
end Go.Ex
