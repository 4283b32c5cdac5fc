/- A verified executor of the model's code on an abstract heap, part 3: definitions and their soundness; nothing here names a program. -/
import Derived.Test.YtihifldpknpjhaaGreatDoorEx2
import Derived.Recover
import Derived.Orders

/- Temporaries; what is deferred; what recovers. -/
namespace Go.Ex
noncomputable section

variable {P : Program} {m : Mp} {B : Bd} {w0 w w' : World} {n : Nat} {h : T AO} {X : Nat → Option AO}

/-! ### Temporaries -/
def putK (z : Nat) (t : T Value) (dst : Option Tmp) (v : Value) (k : T Value → Bool) : Bool :=
  match unpan v with
  | some _ => false
  | none => match dst with
    | none => k t
    | some d => sel (Nat.blt d z) (T.setK (some v) t d k) false

theorem putK_pan (z : Nat) (t : T Value) (dst : Option Tmp) {v u : Value} (h : unpan v = some u) (k : T Value → Bool) : putK z t dst v k = false := by
  unfold putK; rw [h]

theorem TR.put {f : Nat → Option Value} {z : Nat} {a : Act} (ht : TR m f z a) {d : Nat} (hd : d < z) {v v' : Value} (hv : VR m v v') : TR m (fun i => if i = d then some v else f i) z (a.put (some d) v') := by
  obtain ⟨h1, h2⟩ := ht
  refine ⟨by simpa [Act.put] using h1, fun i u hu => ?_⟩
  simp only [Act.put]
  have hu : (if i = d then some v else f i) = some u := hu
  by_cases e : i = d
  · subst e
    rw [if_pos rfl] at hu; cases hu
    have : i < a.tmps.size := by omega
    simp [this, hv]
  · rw [if_neg e] at hu
    have := h2 i u hu
    have e2 : (a.tmps.setIfInBounds d v').getD i undef = a.tmps.getD i undef := by
      simp [Array.getElem?_setIfInBounds_ne (Ne.symm e)]
    rw [e2]; exact this

theorem TR.ext {f g : Nat → Option Value} {z : Nat} {a : Act} (ht : TR m f z a) (e : ∀ i v, g i = some v → f i = some v) : TR m g z a := ⟨ht.1, fun i v hv => ht.2 i v (e i v hv)⟩

theorem putK_sound {z : Nat} {t : T Value} {dst : Option Tmp} {v v' : Value} {k : T Value → Bool} {a : Act} (hk : putK z t dst v k = true) (ht : TR m t.get z a) (hv : VR m v v') : ∃ t', TR m t'.get z (a.put dst v') ∧ k t' = true := by
  unfold putK at hk
  split at hk
  · cases hk
  cases dst with
  | none => exact ⟨t, ht, hk⟩
  | some d =>
    simp only [] at hk
    cases hd : Nat.blt d z
    · rw [hd] at hk; cases hk
    · rw [hd, sel_true, T.setK_eq] at hk
      rw [nblt, decide_eq_true_eq] at hd
      exact ⟨_, (ht.put hd hv).ext fun i u hu => by rw [T.get_set] at hu; exact hu, hk⟩

/-- Is an operation wanted? -/
def wantedA (ops : List Oper) (f : Nat → Option Value) (o : Oper) : Option Bool :=
  match o.guard with
  | none => some true
  | some (j, want) => match ops[j]? with
    | some g => match g.dst with
      | some d => match f d with
        | some (.bool b) => some (b == want)
        | some (.tuple ⟨[]⟩) => some false
        | _ => none
      | none => none
    | none => none

theorem wantedA_spec {ops : List Oper} {f : Nat → Option Value} {o : Oper} {b : Bool} {z : Nat} {a : Act} (hw : wantedA ops f o = some b) (ht : TR m f z a) :
    Region.wanted o (yielded ⟨ops⟩ a.tmps) = b := by
  unfold wantedA at hw
  unfold Region.wanted
  split at hw
  · rename_i hg
    cases hw
    rw [hg]
  · rename_i j want hg
    rw [hg]
    split at hw
    · rename_i g hgj
      split at hw
      · rename_i d hd
        split at hw
        · rename_i c hc
          cases hw
          have h1 := (ht.2 d _ hc).inv_bool
          have h2 : a.tmps[d]? = some (.bool c) := by
            rw [Array.getD_eq_getD_getElem?] at h1
            cases hq : a.tmps[d]? with
            | none => rw [hq] at h1; cases h1
            | some q => rw [hq] at h1; rw [← h1]; rfl
          have h3 : (⟨ops⟩ : Array Oper)[j]? = some g := by simpa using hgj
          simp only [yielded, h3, Option.bind_some, hd, h2]
          cases c <;> cases want <;> rfl
        · rename_i hc
          cases hw
          obtain ⟨r, h1, hr⟩ := (ht.2 d _ hc).inv_tuple
          have hr0 : r = [] := by cases r with | nil => rfl | cons x l => exact hr.elim
          subst hr0
          have h3 : (⟨ops⟩ : Array Oper)[j]? = some g := by simpa using hgj
          have h2 : ∀ b, a.tmps[d]? ≠ some (.bool b) := fun b hb => by
            rw [Array.getD_eq_getD_getElem?, hb] at h1; cases h1
          simp only [yielded, h3, Option.bind_some, hd]
          cases hq : a.tmps[d]? with
          | none => cases want <;> rfl
          | some q =>
            cases q with
            | bool b => exact absurd hq (h2 b)
            | _ => cases want <;> rfl
        · cases hw
      · cases hw
    · cases hw

/-! ### Operations without calls, in the text's order -/
def runB (P : Program) (G : Nat) (ops : List Oper) (z : Nat) (l : List Oper) : T Value → T AO → Nat → (T Value → T AO → Nat → Bool) → Bool :=
  List.rec (motive := fun _ => T Value → T AO → Nat → (T Value → T AO → Nat → Bool) → Bool) (fun t h n k => k t h n)
    (fun o _ rest t h n k => match wantedA ops t.get o with
      | some b => sel b (opBase P h n (evF G t.get) o fun v h n => putK z t o.dst v fun t => rest t h n k) (putK z t o.dst undefA fun t => rest t h n k)
      | none => false) l
theorem runB_cons (G : Nat) (ops : List Oper) (z : Nat) (o : Oper) (l : List Oper) (t : T Value) (h : T AO) (n : Nat) (k : T Value → T AO → Nat → Bool) :
    runB P G ops z (o :: l) t h n k = (match wantedA ops t.get o with
      | some b => sel b (opBase P h n (evF G t.get) o fun v h n => putK z t o.dst v fun t => runB P G ops z l t h n k) (putK z t o.dst undefA fun t => runB P G ops z l t h n k)
      | none => false) := rfl

theorem runB_sound {G : Nat} {ops : List Oper} {z : Nat} {D : List Deferred} {Q : Exit → Act → World → Prop} {tail : List Oper} : ∀ {l : List Oper} {m : Mp} {t : T Value} {h : T AO} {n : Nat} {k : T Value → T AO → Nat → Bool} {a : Act} {w : World},
    runB P G ops z l t h n k = true → GR m G → TR m t.get z a → a.defers = D → HR B w0 m h X n w →
    (∀ m' t' h' n' a' w', m.le m' → TR m' t'.get z a' → a'.defers = D → HR B w0 m' h' X n' w' → k t' h' n' = true → wpList P ⟨ops⟩ Q tail a' w') → wpList P ⟨ops⟩ Q (l ++ tail) a w
  | [], m, t, h, n, k, a, w, hk, hG, ht, hd, hr, hn => hn m t h n a w m.le_refl ht hd hr hk
  | o :: l, m, t, h, n, k, a, w, hk, hG, ht, hd, hr, hn => by
    rw [runB_cons] at hk
    show wpList P ⟨ops⟩ Q (o :: (l ++ tail)) a w
    unfold wpList
    split at hk
    · rename_i b hw
      rw [wantedA_spec hw ht]
      have hdef : ∀ v, (a.put o.dst v).defers = D := fun v => by cases o.dst <;> exact hd
      cases b
      · rw [sel_false] at hk
        rw [if_neg (by simp)]
        obtain ⟨t', ht', hk'⟩ := putK_sound (v' := undef) hk ht (.tuple' VRs.nil)
        exact runB_sound hk' hG ht' (hdef _) hr hn
      · rw [sel_true] at hk
        rw [if_pos rfl]
        refine .inl (opBase_sound hr (evF_sound hG ht) hk _ _ (fun v v' m' h' n' w' hm hv hh hkk => ?_) fun v ch m' h' n' w' hm hp hh hkk => ?_)
        · obtain ⟨t', ht', hk'⟩ := putK_sound hkk (ht.mono hm) hv
          exact runB_sound hk' (hG.mono hm) ht' (hdef _) hh fun m2 t2 h2 n2 a2 w2 hm2 => hn m2 t2 h2 n2 a2 w2 (Mp.le_trans hm hm2)
        · rw [putK_pan _ _ _ (unpan_pan v)] at hkk; cases hkk
    · cases hk

/-! ### How a frame leaves -/
/-- 0: it returns; 1: a panic goes through it; 2: a panic that was recovered. -/
inductive U1 where
  | ret
  | pan (v : Value)
  | rcv
inductive UR (m : Mp) : U1 → FrameMode → Prop
  | ret : UR m .ret .returning
  | pan (v : Value) (ch : List PanicEntry) (h : PR m v ch) : UR m (.pan v) (.panicking ch)
  | rcv (v : Value) (older : List PanicEntry) (h : ∀ e ∈ older, e.goexit = false) : UR m .rcv (.panicking ({ v := v, recovered := true, goexit := false } :: older))
theorem UR.mono {m m' : Mp} (hm : m.le m') {u : U1} {f : FrameMode} (h : UR m u f) : UR m' u f := by
  cases h with
  | ret => exact .ret
  | pan v ch h => exact .pan v ch (h.mono hm)
  | rcv v l h => exact .rcv v l h
def U1.settle (u : U1) : U1 := match u with | .rcv => .ret | u => u
theorem dropWhile_nil {l : List PanicEntry} (h : ∀ e ∈ l, e.goexit = false) : l.dropWhile (!·.goexit) = [] := by
  induction l with
  | nil => rfl
  | cons a l ih =>
    rw [List.dropWhile_cons, h a (by simp)]
    simpa using ih fun e he => h e (by simp [he])
theorem UR.settle {u : U1} {f : FrameMode} (h : UR m u f) : UR m u.settle (Go.settle f) := by
  cases h with
  | ret => exact .ret
  | pan v ch h =>
    obtain ⟨v', l, h1, rfl, h2⟩ := h
    exact .pan v _ ⟨v', l, h1, rfl, h2⟩
  | rcv v l h =>
    have : Go.settle (.panicking ({ v := v, recovered := true, goexit := false } :: l)) = .returning := by
      simp only [Go.settle, dropWhile_nil h]
    rw [this]; exact .ret
theorem UR.raised {u : U1} {f : FrameMode} (h : UR m u f) {v : Value} {ch : List PanicEntry} (hp : PR m v ch) : UR m (.pan v) (Go.raised f ch) := by
  obtain ⟨v', l, h1, rfl, h2⟩ := hp
  cases h with
  | ret => exact .pan v _ ⟨v', l, h1, rfl, h2⟩
  | pan u ch h =>
    obtain ⟨u', l', h3, rfl, h4⟩ := h
    refine .pan v _ ⟨v', l ++ ({ v := u', recovered := false, goexit := false } :: l'), h1, rfl, fun e he => ?_⟩
    rcases List.mem_append.1 he with he | he
    · exact h2 e he
    · rcases List.mem_cons.1 he with rfl | he
      · rfl
      · exact h4 e he
  | rcv u l' h4 =>
    refine .pan v _ ⟨v', l ++ ({ v := u, recovered := true, goexit := false } :: l'), h1, rfl, fun e he => ?_⟩
    rcases List.mem_append.1 he with he | he
    · exact h2 e he
    · rcases List.mem_cons.1 he with rfl | he
      · rfl
      · exact h4 e he

/-! ### What recovers -/
def isRec (o : Oper) : Bool :=
  match o.op, o.guard with
  | .call c, none => match c.callee with
    | .builtin .recover => true
    | _ => false
  | _, _ => false
def recV (u : U1) : Value × U1 := match u with | .pan v => (v, .rcv) | u => (.nilIface, u)

abbrev Ks := X1 → T Value → T AO → Nat → U1 → Bool
def sRec (P : Program) (G : Nat) (o : Oper) (rest : List Oper) (z : Nat) (t : T Value) (h : T AO) (n : Nat) (u : U1) (k : Ks) : Bool :=
  putK z t o.dst (recV u).1 fun t => runB P G (o :: rest) z rest t h n fun t h n => k .normal t h n (recV u).2
def sRegS (P : Program) (G : Nat) (ih : Ex1) (id : Nat) (ops : List Oper) (draw : Bool) (z : Nat) (t : T Value) (h : T AO) (n : Nat) (u : U1) (k : Ks) : Bool :=
  match ops, draw with
  | o :: rest, false => sel (isRec o) (sRec P G o rest z t h n u k) (ih (.region id ⟨o :: rest⟩ false) z t h n fun x t h n => k x t h n u)
  | ops, draw => ih (.region id ⟨ops⟩ draw) z t h n fun x t h n => k x t h n u
def execS (P : Program) (G : Nat) (ih : Ex1) : Code → Nat → T Value → T AO → Nat → U1 → Ks → Bool
  | .seq a b, z, t, h, n, u, k => execS P G ih a z t h n u fun x t h n u => match x with
    | .normal => execS P G ih b z t h n u k
    | x => k x t h n u
  | .region id ⟨ops⟩ draw, z, t, h, n, u, k => sRegS P G ih id ops draw z t h n u k
  | c, z, t, h, n, u, k => ih c z t h n fun x t h n => k x t h n u
theorem execS_seq (G : Nat) (ih : Ex1) (a b : Code) (z : Nat) (t : T Value) (h : T AO) (n : Nat) (u : U1) (k : Ks) : execS P G ih (.seq a b) z t h n u k = execS P G ih a z t h n u fun x t h n u => match x with
    | .normal => execS P G ih b z t h n u k
    | x => k x t h n u := rfl
theorem execS_region (G : Nat) (ih : Ex1) (id : Nat) (ops : List Oper) (draw : Bool) (z : Nat) (t : T Value) (h : T AO) (n : Nat) (u : U1) (k : Ks) : execS P G ih (.region id ⟨ops⟩ draw) z t h n u k = sRegS P G ih id ops draw z t h n u k := rfl

def PostS (B : Bd) (w0 : World) (X : Nat → Option AO) (m : Mp) (z : Nat) (D : List Deferred) (c0 : Frame) (cs : List Frame) (k : Ks) (e : Exit) (a : Act) (cs' : List Frame) (w : World) : Prop :=
  ∃ m' x t h n u f, m.le m' ∧ XR m' x e ∧ TR m' t.get z a ∧ a.defers = D ∧ HR B w0 m' h X n w ∧ UR m' u f ∧ cs' = { c0 with mode := f } :: cs ∧ k x t h n u = true

theorem wpS_mono {c : Code} {Q Q' : Exit → Act → List Frame → World → Prop} (hQ : ∀ e a cs w, Q e a cs w → Q' e a cs w) {a : Act} {cs : List Frame} {w : World} (h : c.wpS P Q a cs w) : c.wpS P Q' a cs w :=
  fun b k hb hr => let ⟨e, a', cs', w', q, r⟩ := h b k hb hr; ⟨e, a', cs', w', hQ _ _ _ _ q, r⟩

theorem execOp_rec {o : Oper} (ho : isRec o = true) (ρ : Operand → Value) (w : World) : (execOp ρ o).run P w = .ok .recover w ∧ o.guard = none := by
  obtain ⟨dst, op, ty, pos, after, guard⟩ := o
  unfold isRec at ho
  split at ho
  · rename_i c hop hg
    split at ho
    · rename_i hc
      obtain ⟨callee, args, ats⟩ := c
      simp only at hop hg hc
      subst hop hg hc
      exact ⟨rfl, rfl⟩
    · cases ho
  · cases ho

theorem wpS_recover {id : Nat} {o : Oper} {rest : List Oper} (ho : isRec o = true) {Q : Exit → Act → List Frame → World → Prop} {a : Act} {cs cs' : List Frame} {w : World} {v : Value}
    (hv : recoverD cs = some (v, cs') ∨ (recoverD cs = none ∧ v = .nilIface ∧ cs' = cs)) (hrest : wpList P ⟨o :: rest⟩ (fun e a w => Q e a cs' w) rest (a.put o.dst v) w) :
    (Code.region id ⟨o :: rest⟩ false).wpS P Q a cs w := by
  intro b k hb hro
  obtain ⟨hrec, hgd⟩ := execOp_rec (P := P) ho a.eval w
  have hops : (⟨o :: rest⟩ : Array Oper)[0]? = some o := rfl
  have hw : Region.wanted o (yielded ⟨o :: rest⟩ a.tmps) = true := by unfold Region.wanted; rw [hgd]
  have hrange : List.range (⟨o :: rest⟩ : Array Oper).size = 0 :: List.range' 1 rest.length := by
    rw [List.range_eq_range']; rfl
  have hlist : wpOps P ⟨o :: rest⟩ (fun e a w => Q e a cs' w) (List.range' 1 rest.length) (a.put o.dst v) w := by
    rw [wpOps_eq_wpList rest 1 (fun j => by simp [Nat.add_comm 1 j])]; exact hrest
  obtain ⟨e, a', w', hq, harr⟩ := wp_ops _ _ _ hlist b k cs'
  have hg := stepG_op (P := P) (b := b) (k := k) (cs := cs) (w := w) (rest := List.range' 1 rest.length) hops hw
  have hfin : ∀ v, (b.at a (.inRegion ⟨o :: rest⟩ (0 :: List.range' 1 rest.length) :: k)).finish v = b.at (a.put o.dst v) (.inRegion ⟨o :: rest⟩ (List.range' 1 rest.length) :: k) := by
    intro v; rw [Frame.finish_at, hops]; rfl
  have hk : (b.at a (.inRegion ⟨o :: rest⟩ (0 :: List.range' 1 rest.length) :: k)).kind = .deferred := hb
  have htr := tryRecover_deferred hk cs
  refine ⟨e, a', cs', w', hq, .of_steps (.one step_region) ?_⟩
  rw [hrange]
  refine .of_steps (.one (step_lone_go ?_)) harr
  rw [hg, ← hfin]
  simp only [Frame.at] at htr ⊢
  rcases hv with hv | ⟨hv, rfl, rfl⟩
  · simp [stepG.apply, hrec, htr, hv]
  · simp [stepG.apply, hrec, htr, hv]

theorem recV_sound {u : U1} {f : FrameMode} (hu : UR m u f) (c0 : Frame) (cs : List Frame) : ∃ v' f', VR m (recV u).1 v' ∧ UR m (recV u).2 f' ∧
    (recoverD ({ c0 with mode := f } :: cs) = some (v', { c0 with mode := f' } :: cs) ∨ (recoverD ({ c0 with mode := f } :: cs) = none ∧ v' = .nilIface ∧ { c0 with mode := f' } :: cs = { c0 with mode := f } :: cs)) := by
  cases hu with
  | ret => exact ⟨.nilIface, .returning, .nilIface, .ret, .inr ⟨rfl, rfl, rfl⟩⟩
  | pan v ch h =>
    obtain ⟨v', l, h1, rfl, h2⟩ := h
    exact ⟨v', _, h1, .rcv v' l h2, .inl rfl⟩
  | rcv v l h => exact ⟨.nilIface, _, .nilIface, .rcv v l h, .inr ⟨rfl, rfl, rfl⟩⟩

theorem execS_sound {G : Nat} {ih : Ex1} (hih : Sound P G ih) : ∀ (c : Code) (z : Nat) (t : T Value) (h : T AO) (n : Nat) (u : U1) (k : Ks), execS P G ih c z t h n u k = true →
    ∀ (m : Mp) (D : List Deferred) (a : Act) (w : World) (f : FrameMode) (c0 : Frame) (cs : List Frame), GR m G → TR m t.get z a → a.defers = D → HR B w0 m h X n w → UR m u f →
      c.wpS P (PostS B w0 X m z D c0 cs k) a ({ c0 with mode := f } :: cs) w := by
  have other : ∀ (c : Code) (z : Nat) (t : T Value) (h : T AO) (n : Nat) (u : U1) (k : Ks), (ih c z t h n fun x t h n => k x t h n u) = true →
    ∀ (m : Mp) (D : List Deferred) (a : Act) (w : World) (f : FrameMode) (c0 : Frame) (cs : List Frame), GR m G → TR m t.get z a → a.defers = D → HR B w0 m h X n w → UR m u f →
      c.wpS P (PostS B w0 X m z D c0 cs k) a ({ c0 with mode := f } :: cs) w := fun c z t h n u k hk m D a w f c0 cs hG ht hd hr hu =>
    wpS_of_wp (Code.wp_mono (fun e a w hp => by
      obtain ⟨m', x, t, h, n, h1, h2, h3, h4, h5, h6⟩ := hp
      exact ⟨m', x, t, h, n, u, f, h1, h2, h3, h4, h5, hu.mono h1, rfl, h6⟩) (hih c z t h n _ hk B w0 m X D a w hG ht hd hr))
  intro c
  induction c with
  | seq c1 c2 ih1 ih2 =>
    intro z t h n u k hk m D a w f c0 cs hG ht hd hr hu
    rw [execS_seq] at hk
    refine wpS_seq (wpS_mono (fun e a w cs' hp => ?_) (ih1 z t h n u _ hk m D a w f c0 cs hG ht hd hr hu))
    obtain ⟨m', x, t', h', n', u', f', hm, hx, ht', hd', hh', hu', rfl, hkk⟩ := hp
    cases hx with
    | normal =>
      refine wpS_mono (fun e a cs w hp => ?_) (ih2 z t' h' n' u' k hkk m' D _ _ f' c0 cs (hG.mono hm) ht' hd' hh' hu')
      obtain ⟨m2, x2, t2, h2, n2, u2, f2, hm2, hr2⟩ := hp
      exact ⟨m2, x2, t2, h2, n2, u2, f2, Mp.le_trans hm hm2, hr2⟩
    | exit id => exact ⟨m', .exit id, t', h', n', u', f', hm, .exit id, ht', hd', hh', hu', rfl, hkk⟩
    | ret => exact ⟨m', .ret, t', h', n', u', f', hm, .ret, ht', hd', hh', hu', rfl, hkk⟩
    | panic v ch hp => exact ⟨m', .panic v, t', h', n', u', f', hm, .panic v ch hp, ht', hd', hh', hu', rfl, hkk⟩
  | region id ops draw =>
    intro z t h n u k hk m D a w f c0 cs hG ht hd hr hu
    obtain ⟨ops⟩ := ops
    rw [execS_region] at hk
    cases draw with
    | true => exact other _ z t h n u k (by cases ops <;> exact hk) m D a w f c0 cs hG ht hd hr hu
    | false =>
      cases ops with
      | nil => exact other _ z t h n u k hk m D a w f c0 cs hG ht hd hr hu
      | cons o rest =>
        unfold sRegS at hk
        simp only [] at hk
        cases ho : isRec o
        · rw [ho] at hk; exact other _ z t h n u k hk m D a w f c0 cs hG ht hd hr hu
        · rw [ho, sel_true] at hk
          unfold sRec at hk
          obtain ⟨v', f', hv, hu', hrec⟩ := recV_sound hu c0 cs
          obtain ⟨t', ht', hk'⟩ := putK_sound hk ht hv
          refine wpS_recover ho hrec ?_
          have := runB_sound (P := P) (Q := fun e a w => PostS B w0 X m z D c0 cs k e a ({ c0 with mode := f' } :: cs) w) (tail := []) hk' hG ht' (D := D) (by cases o.dst <;> exact hd) hr fun m2 t2 h2 n2 a2 w2 hm2 ht2 hd2 hh2 hkk =>
            ⟨m2, .normal, t2, h2, n2, _, f', hm2, .normal, ht2, hd2, hh2, hu'.mono hm2, rfl, hkk⟩
          simpa using this
  | _ => exact fun z t h n u k hk m D a w f c0 cs hG ht hd hr hu => other _ z t h n u k hk m D a w f c0 cs hG ht hd hr hu

/-! ### What is deferred -/
/-- The closure that is deferred (none: nothing is). -/
inductive DR (m : Mp) : Option Value → List Deferred → Prop
  | none : DR m none []
  | some (g : FuncId) (l r : List Value) (args cap : List Value) (h : VRs m l args) (k : VRs m r cap) : DR m (some (.func (.func g) ⟨l⟩ ⟨r⟩)) [{ target := .fn (.func g) ⟨cap⟩, args := ⟨args⟩ }]
theorem DR.mono {m m' : Mp} (hm : m.le m') {d : Option Value} {D : List Deferred} (h : DR m d D) : DR m' d D := by
  cases h with
  | none => exact .none
  | some g l r args cap h k => exact .some g l r args cap (h.mono hm) (k.mono hm)

/-- A region that ends by deferring a closure. -/
def dfrOf (ops : List Oper) : Option (List Oper × Operand × List Operand) :=
  match ops.reverse with
  | o :: r => match o.op, o.guard, o.dst with
    | .defer c, none, none => match c.callee with
      | .value f => some (r.reverse, f, c.args.toList)
      | _ => none
    | _, _, _ => none
  | [] => none
theorem dfrOf_spec {ops l : List Oper} {f : Operand} {asl : List Operand} (hd : dfrOf ops = some (l, f, asl)) : ∃ o c, ops = l ++ [o] ∧ o.op = .defer c ∧ o.guard = none ∧ o.dst = none ∧ c.callee = .value f ∧ c.args.toList = asl := by
  unfold dfrOf at hd
  split at hd
  · rename_i o r hr
    split at hd
    · rename_i c ho hg hdst
      split at hd
      · rename_i f' hc
        simp only [Option.some.injEq, Prod.mk.injEq] at hd
        obtain ⟨rfl, rfl, rfl⟩ := hd
        have := congrArg List.reverse hr
        simp only [List.reverse_reverse, List.reverse_cons] at this
        exact ⟨o, c, this, ho, hg, hdst, hc, rfl⟩
      · cases hd
    · cases hd
  · cases hd
def spineDef : Code → Bool
  | .seq a b => spineDef a || spineDef b
  | .region _ ⟨ops⟩ false => (dfrOf ops).isSome
  | _ => false

abbrev Kd := X1 → T Value → T AO → Nat → Option Value → Bool
def sDfr (P : Program) (G : Nat) (ops l : List Oper) (f : Operand) (asl : List Operand) (z : Nat) (t : T Value) (h : T AO) (n : Nat) (k : Kd) : Bool :=
  runB P G ops z l t h n fun t h n => match evF G t.get f, evs (evF G t.get) asl with
    | some (.func (.func g) ⟨first⟩ ⟨captured⟩), some args => k .normal t h n (some (.func (.func g) ⟨first ++ args⟩ ⟨captured⟩))
    | _, _ => false
def sRegD (P : Program) (G : Nat) (ih : Ex1) (id : Nat) (ops : List Oper) (draw : Bool) (z : Nat) (t : T Value) (h : T AO) (n : Nat) (d : Option Value) (k : Kd) : Bool :=
  match draw, dfrOf ops with
  | false, some (l, f, asl) => match d with
    | none => sDfr P G ops l f asl z t h n k
    | some _ => false
  | draw, _ => ih (.region id ⟨ops⟩ draw) z t h n fun x t h n => k x t h n d
def execD (P : Program) (G : Nat) (ih : Ex1) : Code → Nat → T Value → T AO → Nat → Option Value → Kd → Bool
  | .seq a b, z, t, h, n, d, k => execD P G ih a z t h n d fun x t h n d => match x with
    | .normal => execD P G ih b z t h n d k
    | x => k x t h n d
  | .region id ⟨ops⟩ draw, z, t, h, n, d, k => sRegD P G ih id ops draw z t h n d k
  | c, z, t, h, n, d, k => ih c z t h n fun x t h n => k x t h n d
theorem execD_seq (G : Nat) (ih : Ex1) (a b : Code) (z : Nat) (t : T Value) (h : T AO) (n : Nat) (d : Option Value) (k : Kd) : execD P G ih (.seq a b) z t h n d k = execD P G ih a z t h n d fun x t h n d => match x with
    | .normal => execD P G ih b z t h n d k
    | x => k x t h n d := rfl
theorem execD_region (G : Nat) (ih : Ex1) (id : Nat) (ops : List Oper) (draw : Bool) (z : Nat) (t : T Value) (h : T AO) (n : Nat) (d : Option Value) (k : Kd) : execD P G ih (.region id ⟨ops⟩ draw) z t h n d k = sRegD P G ih id ops draw z t h n d k := rfl

def PostD (B : Bd) (w0 : World) (X : Nat → Option AO) (m : Mp) (z : Nat) (k : Kd) (e : Exit) (a : Act) (w : World) : Prop :=
  ∃ m' x t h n d, m.le m' ∧ XR m' x e ∧ TR m' t.get z a ∧ DR m' d a.defers ∧ HR B w0 m' h X n w ∧ k x t h n d = true

theorem execD_sound {G : Nat} {ih : Ex1} (hih : Sound P G ih) : ∀ (c : Code) (z : Nat) (t : T Value) (h : T AO) (n : Nat) (d : Option Value) (k : Kd), execD P G ih c z t h n d k = true →
    ∀ (m : Mp) (a : Act) (w : World), GR m G → TR m t.get z a → DR m d a.defers → HR B w0 m h X n w → c.wp P (PostD B w0 X m z k) a w := by
  have other : ∀ (c : Code) (z : Nat) (t : T Value) (h : T AO) (n : Nat) (d : Option Value) (k : Kd), (ih c z t h n fun x t h n => k x t h n d) = true →
    ∀ (m : Mp) (a : Act) (w : World), GR m G → TR m t.get z a → DR m d a.defers → HR B w0 m h X n w → c.wp P (PostD B w0 X m z k) a w := fun c z t h n d k hk m a w hG ht hd hr =>
    Code.wp_mono (fun e a w hp => by
      obtain ⟨m', x, t, h, n, h1, h2, h3, h4, h5, h6⟩ := hp
      exact ⟨m', x, t, h, n, d, h1, h2, h3, h4 ▸ hd.mono h1, h5, h6⟩) (hih c z t h n _ hk B w0 m X a.defers a w hG ht rfl hr)
  intro c
  induction c with
  | seq c1 c2 ih1 ih2 =>
    intro z t h n d k hk m a w hG ht hd hr
    rw [execD_seq] at hk
    refine wp_seq (Code.wp_mono (fun e a w hp => ?_) (ih1 z t h n d _ hk m a w hG ht hd hr))
    obtain ⟨m', x, t', h', n', d', hm, hx, ht', hd', hh', hkk⟩ := hp
    cases hx with
    | normal =>
      refine Code.wp_mono (fun e a w hp => ?_) (ih2 z t' h' n' d' k hkk m' _ _ (hG.mono hm) ht' hd' hh')
      obtain ⟨m2, x2, t2, h2, n2, d2, hm2, hr2⟩ := hp
      exact ⟨m2, x2, t2, h2, n2, d2, Mp.le_trans hm hm2, hr2⟩
    | exit id => exact ⟨m', .exit id, t', h', n', d', hm, .exit id, ht', hd', hh', hkk⟩
    | ret => exact ⟨m', .ret, t', h', n', d', hm, .ret, ht', hd', hh', hkk⟩
    | panic v ch hp => exact ⟨m', .panic v, t', h', n', d', hm, .panic v ch hp, ht', hd', hh', hkk⟩
  | region id ops draw =>
    intro z t h n d k hk m a w hG ht hd hr
    obtain ⟨ops⟩ := ops
    rw [execD_region] at hk
    cases draw with
    | true => exact other _ z t h n d k (by unfold sRegD at hk; split at hk <;> simp_all) m a w hG ht hd hr
    | false =>
      unfold sRegD at hk
      cases hdf : dfrOf ops with
      | none => rw [hdf] at hk; exact other _ z t h n d k hk m a w hG ht hd hr
      | some p =>
        obtain ⟨l, f, asl⟩ := p
        rw [hdf] at hk
        obtain ⟨o, c, rfl, hop, hgd, hdst, hcal, rfl⟩ := dfrOf_spec hdf
        cases hd' : a.defers with
        | cons x y =>
          rw [hd'] at hd
          cases hd with
          | some => cases hk
        | nil =>
          rw [hd'] at hd
          cases hd
          simp only [] at hk
          unfold sDfr at hk
          refine wp_region_list (runB_sound hk hG ht hd' hr fun m2 t2 h2 n2 a2 w2 hm2 ht2 hd2 hh2 hkk => ?_)
          split at hkk
          · rename_i g first captured args hf hargs
            have he := evF_sound (hG.mono hm2) ht2
            obtain ⟨r, s, hfe, h3, h4, _⟩ := (he _ _ hf).inv_func
            have hres : (execOp a2.eval o).run P w2 = .ok (.defer { target := .fn (.func g) ⟨s⟩, args := (⟨r⟩ : Array Value) ++ c.args.map a2.eval }) w2 := by
              obtain ⟨dst, op, ty, pos, after, guard⟩ := o
              simp only at hop; subst hop
              have : (resolve a2.eval c ty) = Pure.pure { target := .fn (.func g) ⟨s⟩, args := (⟨r⟩ : Array Value) ++ c.args.map a2.eval } := by
                unfold resolve; rw [hcal]; show Deferred.ofValue (a2.eval f) (c.args.map a2.eval) = _; rw [hfe]; rfl
              simp only [execOp, this, pure_bind]
              rfl
            unfold wpList
            have hwn : Region.wanted o (yielded ⟨l ++ [o]⟩ a2.tmps) = true := by unfold Region.wanted; rw [hgd]
            rw [if_pos hwn]
            left
            unfold Oper.wp
            rw [hres, Oper.upon_defer, hdst]
            refine ⟨m2, .normal, t2, h2, n2, _, hm2, .normal, ht2, ?_, hh2, hkk⟩
            have e : (c.args.map a2.eval) = (⟨c.args.toList.map a2.eval⟩ : Array Value) := by apply Array.ext'; simp
            have hA := h3.append (evs_sound he hargs)
            have e2 : ((⟨r⟩ : Array Value) ++ c.args.map a2.eval) = ⟨r ++ c.args.toList.map a2.eval⟩ := by apply Array.ext'; simp
            show DR m2 _ ({ target := .fn (.func g) ⟨s⟩, args := (⟨r⟩ : Array Value) ++ c.args.map a2.eval } :: a2.defers)
            rw [hd2, e2]
            exact .some g _ _ _ _ hA h4
          · cases hkk
  | _ => exact fun z t h n d k hk m a w hG ht hd hr => other _ z t h n d k hk m a w hG ht hd hr

/-! ### A frame leaves -/
def tmps0 (fn : Func) (args : List Value) : Array Value := (⟨args⟩ : Array Value) ++ Array.replicate (fn.ntmps - (⟨args⟩ : Array Value).size) undef
theorem TR.args {args args' : List Value} (ha : VRs m args args') {fn : Func} (hl : args.length ≤ fn.ntmps) (D : List Deferred) : TR m (argsD args 0 .leaf).get fn.ntmps { tmps := (⟨args'⟩ : Array Value) ++ Array.replicate (fn.ntmps - (⟨args'⟩ : Array Value).size) undef, defers := D } := by
  have hlen := ha.length
  refine ⟨by simp; omega, fun i v hv => ?_⟩
  rw [argsD_get] at hv
  split at hv
  · rename_i hi
    simp only [Nat.sub_zero] at hv
    obtain ⟨v', hv', hvr⟩ := ha.get hv
    have hlt : i < args'.length := (List.getElem?_eq_some_iff.1 hv').1
    have : ((⟨args'⟩ : Array Value) ++ Array.replicate (fn.ntmps - (⟨args'⟩ : Array Value).size) undef).getD i undef = v' := by
      rw [Array.getD_eq_getD_getElem?, Array.getElem?_append_left (by simpa using hlt)]
      simp [hv']
    rw [this]; exact hvr
  · cases hv

/-- The deferred closure is called. -/
def leaveK (P : Program) (G : Nat) (ih : Ex1) (d : Option Value) (u : U1) (h : T AO) (n : Nat) (k : U1 → T AO → Nat → Bool) : Bool :=
  match d with
  | none => k u h n
  | some (.func (.func g) ⟨l⟩ ⟨r⟩) => match bodyOf P g with
    | some (fn, c) => sel (Nat.ble (l ++ r).length fn.ntmps) (argsT (l ++ r) 0 .leaf fun t => execS P G ih c fn.ntmps t h n u fun x t h n u => match x with
      | .exit _ => false
      | .panic v => k (.pan v) h n
      | _ => match resV P h t.get fn.results.toList with
        | some _ => k u.settle h n
        | none => false) false
    | none => false
  | _ => false

theorem leaveK_sound {G : Nat} {ih : Ex1} (hih : Sound P G ih) {fn : Func} {tmps : Array Value} {R : Ending → World → Prop} {d : Option Value} {D : List Deferred} {u : U1} {f : FrameMode} {k : U1 → T AO → Nat → Bool} (hk : leaveK P G ih d u h n k = true)
    (hG : GR m G) (hd : DR m d D) (hr : HR B w0 m h X n w) (hu : UR m u f)
    (hn : ∀ m' u' f' h' n' w', m.le m' → HR B w0 m' h' X n' w' → UR m' u' f' → k u' h' n' = true → Leaves P fn tmps R [] f' w') : Leaves P fn tmps R D f w := by
  cases hd with
  | none => exact hn m u f h n w m.le_refl hr hu hk
  | some g l r args cap h1 h2 =>
    unfold leaveK at hk
    simp only [] at hk
    split at hk
    case h_2 => cases hk
    rename_i fg c hb
    obtain ⟨hf, hc, hrun⟩ := bodyOf_spec hb
    cases hl : Nat.ble (l ++ r).length fg.ntmps
    · rw [hl] at hk; cases hk
    rw [hl, sel_true, argsT_eq] at hk
    rw [nble, decide_eq_true_eq] at hl
    have hrn : f ≠ .run := by cases hu <;> simp
    have ha := h1.append h2
    refine leaves_cons hrn (f := g) (args := ⟨args ++ cap⟩) ?_ (callsD_of_wpS hf hc fun c0 cs hc0 => ?_)
    · show (callFunc g _).run P w = _
      have e : ((⟨args⟩ : Array Value) ++ (⟨cap⟩ : Array Value)) = ⟨args ++ cap⟩ := by apply Array.ext'; simp
      rw [e]; exact hrun _ w
    · have hcc : c0 :: cs = { c0 with mode := f } :: cs := by subst hc0; rfl
      rw [hcc]
      refine wpS_mono (fun e a cs' w hp => ?_) (execS_sound hih c fg.ntmps _ h n u _ hk m [] _ w f c0 cs hG (TR.args ha hl []) rfl hr hu)
      obtain ⟨m', x, t', h', n', u', f', hm, hx, ht', hd', hh', hu', rfl, hkk⟩ := hp
      have fin : (match resV P h' t'.get fg.results.toList with
        | some _ => k u'.settle h' n'
        | none => false) = true → ∃ v, (results fg a.tmps).run P w = .ok v w ∧ Leaves P fn tmps R [] (Go.settle f') w := fun hkk => by
        split at hkk
        · rename_i rr hres
          obtain ⟨v', _, hrr⟩ := results_run hh' ht' hres
          exact ⟨v', hrr, hn m' _ _ h' n' w hm hh' hu'.settle hkk⟩
        · cases hkk
      cases hx with
      | normal =>
        obtain ⟨v, hv, hL⟩ := fin hkk
        exact ⟨hd', f', rfl, v, hv, hL⟩
      | ret =>
        obtain ⟨v, hv, hL⟩ := fin hkk
        exact ⟨hd', f', rfl, v, hv, hL⟩
      | exit id => cases hkk
      | panic v ch hp => exact ⟨hd', f', rfl, hn m' _ _ h' n' w hm hh' (hu'.raised hp) hkk⟩

def bodyEnd (P : Program) (fn : Func) (t : T Value) (k : Value → T AO → Nat → Bool) (u : U1) (h : T AO) (n : Nat) : Bool :=
  match u with
  | .ret => match resV P h t.get fn.results.toList with
    | some r => k (oneOf r) h n
    | none => false
  | .pan v => k (pan v) h n
  | .rcv => false
/-- A body that defers. -/
def bodyK (P : Program) (G : Nat) (ih : Ex1) (fn : Func) (c : Code) (t : T Value) (h : T AO) (n : Nat) (k : Value → T AO → Nat → Bool) : Bool :=
  execD P G ih c fn.ntmps t h n none fun x t h n d => match x with
    | .exit _ => false
    | .panic v => leaveK P G ih d (.pan v) h n (bodyEnd P fn t k)
    | _ => leaveK P G ih d .ret h n (bodyEnd P fn t k)

theorem bodyK_sound {G : Nat} {ih : Ex1} (hih : Sound P G ih) {f : FuncId} {fn : Func} {c : Code} (hf : P.funcs[f]? = some fn) (hc : fn.body = some c) {args args' : List Value} (hl : args.length ≤ fn.ntmps) (ha : VRs m args args') (hG : GR m G) (hr : HR B w0 m h X n w)
    {k : Value → T AO → Nat → Bool} (hk : bodyK P G ih fn c (argsD args 0 .leaf) h n k = true)
    (next : Value → World → Prop) (Q : List PanicEntry → World → Prop) (hn : ∀ v v' m' h' n' w', m.le m' → VR m' v v' → HR B w0 m' h' X n' w' → k v h' n' = true → next v' w')
    (hq : ∀ v ch m' h' n' w', m.le m' → PR m' v ch → HR B w0 m' h' X n' w' → k (pan v) h' n' = true → Q ch w') :
    Calls P f ⟨args'⟩ w fun
      | .returned v, w'' => next v w''
      | .panicked ch, w'' => Q ch w''
      | .outgrown, _ => False := by
  refine calls_of_wp_defers hf hc (Code.wp_mono (fun e a w' hp => ?_) (execD_sound hih c fn.ntmps _ h n none _ hk m _ w hG (TR.args ha hl []) .none hr))
  obtain ⟨m', x, t', h', n', d', hm, hx, ht', hd', hh', hkk⟩ := hp
  have fin : ∀ {u : U1} {f : FrameMode}, UR m' u f → leaveK P G ih d' u h' n' (bodyEnd P fn t' k) = true → Leaves P fn a.tmps (fun
      | .returned v, w'' => next v w''
      | .panicked ch, w'' => Q ch w''
      | .outgrown, _ => False) a.defers f w' := fun {u f} hu hkk => by
    refine leaveK_sound hih hkk (hG.mono hm) hd' hh' hu fun m2 u2 f2 h2 n2 w2 hm2 hh2 hu2 hk2 => ?_
    cases hu2 with
    | ret =>
      unfold bodyEnd at hk2
      simp only [] at hk2
      split at hk2
      · rename_i r hres
        obtain ⟨v', hvr, hrr⟩ := results_run hh2 (ht'.mono hm2) hres
        exact ⟨v', hrr, hn _ _ m2 h2 n2 w2 (Mp.le_trans hm hm2) hvr hh2 hk2⟩
      · cases hk2
    | pan v ch hp => exact hq v ch m2 h2 n2 w2 (Mp.le_trans hm hm2) hp hh2 hk2
    | rcv => cases hk2
  cases hx with
  | normal => exact fin .ret hkk
  | ret => exact fin .ret hkk
  | exit id => cases hkk
  | panic v ch hp => exact fin (.pan v ch hp) hkk

end
end Go.Ex

/- Going through a map of several entries, in whatever order, where the loop's body leaves nothing that lasts. -/
namespace Go.Ex
noncomputable section

variable {P : Program} {m : Mp} {B : Bd} {w0 w w' : World} {n : Nat} {h : T AO} {X : Nat → Option AO} {G : Nat}

/-! ### Values that are the same -/
def veq : Nat → Value → Value → Bool
  | 0, _, _ => false
  | n + 1, a, b => match a, b with
    | .bool x, .bool y => x == y
    | .int k x, .int j y => kindEq k j && ieq x y
    | .string x, .string y => bsEq x.data.toList y.data.toList
    | .pointer none, .pointer none => true
    | .pointer (some ⟨b1, o1, none⟩), .pointer (some ⟨b2, o2, none⟩) => Nat.beq b1 b2 && Nat.beq o1 o2
    | .slice none l1 c1, .slice none l2 c2 => Nat.beq l1 l2 && Nat.beq c1 c2
    | .slice (some ⟨b1, o1, none⟩) l1 c1, .slice (some ⟨b2, o2, none⟩) l2 c2 => Nat.beq b1 b2 && Nat.beq o1 o2 && Nat.beq l1 l2 && Nat.beq c1 c2
    | .slice (some ⟨b1, o1, some s1⟩) l1 c1, .slice (some ⟨b2, o2, some s2⟩) l2 c2 => Nat.beq b1 b2 && Nat.beq o1 o2 && Nat.beq l1 l2 && Nat.beq c1 c2 && Nat.beq s1 s2
    | .map none, .map none => true
    | .map (some r), .map (some s) => Nat.beq r s
    | .nilFunc, .nilFunc => true
    | .nilIface, .nilIface => true
    | .float .f64 x, .float .f64 y => Nat.beq x y
    | .complex .f64 x y, .complex .f64 z w => Nat.beq x z && Nat.beq y w
    | .complex .f32 x y, .complex .f32 z w => Nat.beq x z && Nat.beq y w
    | .iface t v, .iface u w => Nat.beq t u && veq n v w
    | .agg ⟨l⟩, .agg ⟨r⟩ => Nat.beq l.length r.length && (List.zip l r).all fun x => veq n x.1 x.2
    | .tuple ⟨l⟩, .tuple ⟨r⟩ => Nat.beq l.length r.length && (List.zip l r).all fun x => veq n x.1 x.2
    | .func (.func f) ⟨l⟩ ⟨r⟩, .func (.func g) ⟨l2⟩ ⟨r2⟩ => Nat.beq f g && (Nat.beq l.length l2.length && (List.zip l l2).all fun x => veq n x.1 x.2) && (Nat.beq r.length r2.length && (List.zip r r2).all fun x => veq n x.1 x.2)
    | _, _ => false

theorem zip_eq {n : Nat} (ih : ∀ a b, veq n a b = true → a = b) : ∀ (l r : List Value), Nat.beq l.length r.length = true → ((List.zip l r).all fun x => veq n x.1 x.2) = true → l = r
  | [], [], _, _ => rfl
  | [], _ :: _, h, _ => by simp at h
  | _ :: _, [], h, _ => by simp at h
  | a :: l, b :: r, h, h2 => by
    simp only [List.zip_cons_cons, List.all_cons, Bool.and_eq_true] at h2
    rw [ih a b h2.1, zip_eq ih l r (by simpa using h) h2.2]

theorem veq_eq : ∀ (n : Nat) (a b : Value), veq n a b = true → a = b := by
  intro n
  induction n with
  | zero => intro a b h; cases h
  | succ n ih =>
    intro a b h
    unfold veq at h
    split at h
    · rw [beq_iff_eq] at h; rw [h]
    · rw [Bool.and_eq_true, ieq_eq, decide_eq_true_eq] at h; rw [kindEq_eq h.1, h.2]
    · rename_i x y
      rw [bsEq_eq, beq_iff_eq] at h; rw [WideShapes.bytes_inj h]
    · rfl
    · rw [Bool.and_eq_true, nbeq, nbeq, decide_eq_true_eq, decide_eq_true_eq] at h; rw [h.1, h.2]
    · rw [Bool.and_eq_true, nbeq, nbeq, decide_eq_true_eq, decide_eq_true_eq] at h; rw [h.1, h.2]
    · rw [Bool.and_eq_true, Bool.and_eq_true, Bool.and_eq_true, nbeq, nbeq, nbeq, nbeq, decide_eq_true_eq, decide_eq_true_eq, decide_eq_true_eq, decide_eq_true_eq] at h
      rw [h.1.1.1, h.1.1.2, h.1.2, h.2]
    · simp only [Bool.and_eq_true, nbeq, decide_eq_true_eq] at h
      obtain ⟨⟨⟨⟨rfl, rfl⟩, rfl⟩, rfl⟩, rfl⟩ := h
      rfl
    · rfl
    · rw [nbeq, decide_eq_true_eq] at h; rw [h]
    · rfl
    · rfl
    · rw [nbeq, decide_eq_true_eq] at h; rw [h]
    · rw [Bool.and_eq_true, nbeq, nbeq, decide_eq_true_eq, decide_eq_true_eq] at h; rw [h.1, h.2]
    · rw [Bool.and_eq_true, nbeq, nbeq, decide_eq_true_eq, decide_eq_true_eq] at h; rw [h.1, h.2]
    · rw [Bool.and_eq_true, nbeq, decide_eq_true_eq] at h; rw [h.1, ih _ _ h.2]
    · rw [Bool.and_eq_true] at h; rw [zip_eq ih _ _ h.1 h.2]
    · rw [Bool.and_eq_true] at h; rw [zip_eq ih _ _ h.1 h.2]
    · rw [Bool.and_eq_true, Bool.and_eq_true, Bool.and_eq_true, Bool.and_eq_true, nbeq, decide_eq_true_eq] at h
      rw [h.1.1, zip_eq ih _ _ h.1.2.1 h.1.2.2, zip_eq ih _ _ h.2.1 h.2.2]
    · cases h


/-! ### Read-only operations -/
def sameMap (P : Program) (h : T AO) (t : TypeId) (x key v : Value) : Bool :=
  match P.underlying t with
  | some (.map kt _) => match keyOk P kt key with
    | some d => match x with
      | .map (some r) => match h.get r with
        | some (.map es _) => match findL d key es 0 with
          | some (some (_, u)) => veq 8 u v
          | _ => false
        | _ => false
      | _ => false
    | none => false
  | _ => false

/-- Blocks that hold iterators are as they were. -/
def IK (w w' : World) : Prop := ∀ (j : Nat) (a : Option Nat) (b : Nat) (c : Array Nat) (d : Nat), w.heap[j]? = some (Obj.mapIter a b c d) → w'.heap[j]? = some (Obj.mapIter a b c d)
theorem IK.refl (w : World) : IK w w := fun _ _ _ _ _ h => h
theorem IK.trans {a b c : World} (h : IK a b) (k : IK b c) : IK a c := fun j x y z u hj => k j x y z u (h j x y z u hj)

theorem HR.congr {h' : T AO} (hr : HR B w0 m h X n w) (e : ∀ b, h'.get b = h.get b) : HR B w0 m h' X n w where
  lr := hr.lr.congr fun b => by unfold ov; rw [e]
  apart := fun b o hb => by rw [e]; exact hr.apart b o hb

theorem findL_at {d : TypeDesc} {k : Value} : ∀ {es : List (Value × Value × Nat)} {j i : Nat} {u : Value}, findL d k es j = some (some (i, u)) → j ≤ i ∧ ∃ e, es[i - j]? = some e ∧ e.2.1 = u
  | [], j, i, u, h => by simp [findL] at h
  | e :: es, j, i, u, h => by
    simp only [findL] at h
    split at h
    · simp only [Option.some.injEq, Prod.mk.injEq] at h
      obtain ⟨rfl, rfl⟩ := h
      exact ⟨Nat.le_refl _, e, by simp, rfl⟩
    · obtain ⟨h1, e', h2, h3⟩ := findL_at h
      refine ⟨by omega, e', ?_, h3⟩
      have : i - j = (i - (j + 1)) + 1 := by omega
      rw [this]; simpa using h2
    · cases h
theorem setE_same {v : Value} : ∀ {i : Nat} {es : List (Value × Value × Nat)} {e : Value × Value × Nat}, es[i]? = some e → e.2.1 = v → setE v i es = es
  | 0, [], e, h, _ => by simp at h
  | 0, a :: l, e, h, hv => by simp at h; subst h; subst hv; rfl
  | i + 1, [], e, h, _ => by simp at h
  | i + 1, a :: l, e, h, hv => by
    show a :: setE v i l = a :: l
    rw [setE_same (by simpa using h) hv]

theorem sameMap_sound (hr : HR B w0 m h X n w) {t : TypeId} {x key v x' key' v' : Value} (hk : sameMap P h t x key v = true) (hx : VR m x x') (hkey : VR m key key') (hv : VR m v v') :
    ∃ w', (Instr.mapUpdate t x' key' v').run P w = .ok () w' ∧ HR B w0 m h X n w' ∧ IK w w' := by
  unfold sameMap at hk
  split at hk
  · rename_i kt et hu
    split at hk
    · rename_i d hd
      obtain ⟨hud, hkf, hck⟩ := keyOk_spec hd
      obtain rfl := (flat_eq m 8 key hkf key' hkey).symm
      split at hk
      · rename_i r
        obtain ⟨rfl, hdr⟩ := hx.inv_map
        split at hk
        · rename_i es cl hb
          have hb' := ov_some (X := X) hb
          obtain ⟨_, es', hco, hes⟩ := hr.lr.map hb'
          have hset : ∀ o, (setObj (m.mu r) o).run P w = .ok () { w with heap := w.heap.setIfInBounds (m.mu r) o } := fun o => by simp [setObj, Sem.run, hco]
          split at hk
          · rename_i i u hf
            have hvu := veq_eq _ _ _ hk
            subst hvu
            obtain ⟨_, e0, he0, hv0⟩ := findL_at hf
            obtain ⟨r', hf', hm⟩ := findL_spec hes hf
            cases r' with
            | none => exact hm.elim
            | some q =>
              obtain ⟨j', u'⟩ := q
              obtain ⟨rfl, hu'⟩ := hm
              obtain ⟨_, e, he, hs⟩ := findNow_key hf'
              obtain ⟨hke, hbits⟩ := sameNow_bits hs
              simp only [Nat.sub_zero] at he he0
              have hea : es'[j']? = some e := by simpa using he
              refine ⟨{ w with heap := w.heap.setIfInBounds (m.mu r) (.map (es'.modify j' fun e => { e with key, val := v' }) cl) }, ?_, ?_, ?_⟩
              · simp only [Instr.mapUpdate, Sem.run_bind, run_underlying hu, Result.andThen_ok, run_getObj hco rfl, hck, Instr.findKey, run_underlying hud, hf', Sem.run_pure, hea, Option.map_some, Option.getD_some, Instr.keyThatStays, hbits, if_true, hset]
              · have hor : OR m r (.map (setE u j' es) cl) (.map (es'.modify j' fun e => { e with key, val := v' }) cl) := by
                  refine .map _ _ _ ?_
                  have := hes.setE hv j' key (fun x hx => by rw [he] at hx; cases hx; exact hke)
                  simpa using this
                have := hr.set hb (hr.lr.upd (o' := .map (setE u j' es) cl) hb' rfl rfl (upd_setObj hco) hor)
                refine this.congr fun b => ?_
                rw [T.get_set, setE_same he0 hv0]
                by_cases e : b = r
                · subst e; rw [if_pos rfl, hb]
                · rw [if_neg e]
              · intro j a b c d hj
                by_cases e : j = m.mu r
                · subst e; rw [hco] at hj; cases hj
                · show (w.heap.setIfInBounds (m.mu r) _)[j]? = _
                  rw [Array.getElem?_setIfInBounds_ne (Ne.symm e)]; exact hj
          · cases hk
        · cases hk
      · cases hk
    · cases hk
  · cases hk

def roOp (P : Program) (h : T AO) (ev : Operand → Option Value) (o : Oper) : Option Value :=
  match pureV P ev o with
  | some v => some v
  | none => match readV P h ev o with
    | some v => some v
    | none => match o.op with
      | .mapUpdate t x i v => match ev x, ev i, ev v with
        | some x, some i, some v => sel (sameMap P h t x i v) (some undefA) none
        | _, _, _ => none
      | .insert t x i v => match ev x, ev i, ev v with
        | some x, some i, some v => sel (sameMap P h t x i v) (some undefA) none
        | _, _, _ => none
      | _ => none

theorem roOp_sound (hr : HR B w0 m h X n w) {ev : Operand → Option Value} {ρ : Operand → Value} (he : EvR m ev ρ) {o : Oper} {v : Value} (hv : roOp P h ev o = some v) :
    ∃ v' w', Ran P (execOp ρ o) w v' w' ∧ VR m v v' ∧ HR B w0 m h X n w' ∧ IK w w' := by
  unfold roOp at hv
  split at hv
  · rename_i u hu
    cases hv
    obtain ⟨v', h1, h2⟩ := pureV_sound he hu
    exact ⟨v', w, .inl (h2 w), h1, hr, IK.refl w⟩
  · split at hv
    · rename_i u hu
      cases hv
      obtain ⟨v', h1, h2⟩ := readV_sound hr.sub hr.lr he hu
      exact ⟨v', w, .inl h2, h1, hr, IK.refl w⟩
    · obtain ⟨dst, op, ty, pos, after, guard⟩ := o
      have fin : ∀ {t : TypeId} {x i y : Operand} {x' i' y' : Value}, ev x = some x' → ev i = some i' → ev y = some y' → (sel (sameMap P h t x' i' y') (some undefA) none) = some v →
          ∃ v' w', Ran P (Instr.mapUpdate t (ρ x) (ρ i) (ρ y) >>= fun _ => (Pure.pure Next.skip : Sem Next)) w v' w' ∧ VR m v v' ∧ HR B w0 m h X n w' ∧ IK w w' := fun {t x i y x' i' y'} hx hi hy hv => by
        cases hs : sameMap P h t x' i' y'
        · rw [hs] at hv; cases hv
        · rw [hs, sel_true] at hv; cases hv
          obtain ⟨w', h1, h2, h3⟩ := sameMap_sound (P := P) hr hs (he _ _ hx) (he _ _ hi) (he _ _ hy)
          exact ⟨undef, w', .inr ⟨by rw [Sem.run_bind, h1]; rfl, rfl⟩, .tuple' VRs.nil, h2, h3⟩
      cases op <;> simp only [] at hv
      case mapUpdate t x i y =>
        split at hv
        · rename_i x' i' y' hx hi hy; exact fin hx hi hy hv
        · cases hv
      case insert t x i y =>
        split at hv
        · rename_i x' i' y' hx hi hy; exact fin hx hi hy hv
        · cases hv
      all_goals cases hv

/-! ### Read-only code -/
theorem putK_sound2 {z : Nat} {t : T Value} {dst : Option Tmp} {v v' : Value} {k : T Value → Bool} {a : Act} (hk : putK z t dst v k = true) (ht : TR m t.get z a) (hv : VR m v v') :
    ∃ t', TR m t'.get z (a.put dst v') ∧ k t' = true ∧ ∀ i, dst ≠ some i → t'.get i = t.get i := by
  unfold putK at hk
  split at hk
  · cases hk
  cases dst with
  | none => exact ⟨t, ht, hk, fun _ _ => rfl⟩
  | some d =>
    simp only [] at hk
    cases hd : Nat.blt d z
    · rw [hd] at hk; cases hk
    · rw [hd, sel_true, T.setK_eq] at hk
      rw [nblt, decide_eq_true_eq] at hd
      exact ⟨_, (ht.put hd hv).ext fun i u hu => by rw [T.get_set] at hu; exact hu, hk, fun i hi => by rw [T.get_set, if_neg fun e => hi (by rw [e])]⟩

def dstsL : List Oper → List Nat
  | [] => []
  | o :: l => match o.dst with
    | some d => d :: dstsL l
    | none => dstsL l
theorem dstsL_tail {o : Oper} {l : List Oper} {i : Nat} (h : i ∉ dstsL (o :: l)) : i ∉ dstsL l ∧ o.dst ≠ some i := by
  simp only [dstsL] at h
  split at h
  · rename_i d hd
    simp only [List.mem_cons, not_or] at h
    exact ⟨h.2, by rw [hd]; intro e; cases e; exact h.1 rfl⟩
  · rename_i hd
    exact ⟨h, by rw [hd]; intro e; cases e⟩

def roL (P : Program) (G : Nat) (h : T AO) (ops : List Oper) (z : Nat) (l : List Oper) : T Value → (T Value → Bool) → Bool :=
  List.rec (motive := fun _ => T Value → (T Value → Bool) → Bool) (fun t k => k t)
    (fun o _ rest t k => match wantedA ops t.get o with
      | some b => sel b (match roOp P h (evF G t.get) o with
          | some v => forceV v fun v => putK z t o.dst v fun t => rest t k
          | none => false) (putK z t o.dst undefA fun t => rest t k)
      | none => false) l
theorem roL_cons (ops : List Oper) (z : Nat) (o : Oper) (l : List Oper) (t : T Value) (k : T Value → Bool) : roL P G h ops z (o :: l) t k = (match wantedA ops t.get o with
      | some b => sel b (match roOp P h (evF G t.get) o with
          | some v => forceV v fun v => putK z t o.dst v fun t => roL P G h ops z l t k
          | none => false) (putK z t o.dst undefA fun t => roL P G h ops z l t k)
      | none => false) := rfl

theorem roL_sound {ops : List Oper} {z : Nat} {D : List Deferred} {Q : Exit → Act → World → Prop} (hG : GR m G) : ∀ {l : List Oper} {t : T Value} {k : T Value → Bool} {a : Act} {w : World},
    roL P G h ops z l t k = true → TR m t.get z a → a.defers = D → HR B w0 m h X n w →
    (∀ t' a' w', TR m t'.get z a' → a'.defers = D → HR B w0 m h X n w' → IK w w' → (∀ i, i ∉ dstsL l → t'.get i = t.get i) → k t' = true → Q .normal a' w') → wpList P ⟨ops⟩ Q l a w
  | [], t, k, a, w, hk, ht, hd, hr, hn => hn t a w ht hd hr (IK.refl w) (fun _ _ => rfl) hk
  | o :: l, t, k, a, w, hk, ht, hd, hr, hn => by
    rw [roL_cons] at hk
    unfold wpList
    split at hk
    · rename_i b hw
      rw [wantedA_spec hw ht]
      have hdef : ∀ v, (a.put o.dst v).defers = D := fun v => by cases o.dst <;> exact hd
      cases b
      · rw [sel_false] at hk
        rw [if_neg (by simp)]
        obtain ⟨t', ht', hk', hst⟩ := putK_sound2 (v' := undef) hk ht (.tuple' VRs.nil)
        exact roL_sound hG hk' ht' (hdef _) hr fun t2 a2 w2 ht2 hd2 hr2 hi2 hs2 hk2 => hn t2 a2 w2 ht2 hd2 hr2 hi2 (fun i hi => by
          obtain ⟨h1, h2⟩ := dstsL_tail hi
          rw [hs2 i h1, hst i h2]) hk2
      · rw [sel_true] at hk
        rw [if_pos rfl]
        split at hk
        · rename_i v hv
          rw [forceV_eq] at hk
          obtain ⟨v', w', hran, hvr, hr', hik⟩ := roOp_sound hr (evF_sound hG ht) hv
          obtain ⟨t', ht', hk', hst⟩ := putK_sound2 hk ht hvr
          have next : wpList P ⟨ops⟩ Q l (a.put o.dst v') w' := roL_sound hG hk' ht' (hdef _) hr' fun t2 a2 w2 ht2 hd2 hr2 hi2 hs2 hk2 => hn t2 a2 w2 ht2 hd2 hr2 (hik.trans hi2) (fun i hi => by
            obtain ⟨h1, h2⟩ := dstsL_tail hi
            rw [hs2 i h1, hst i h2]) hk2
          left
          unfold Oper.wp
          rcases hran with hran | ⟨hran, rfl⟩
          · rw [hran]; exact next
          · rw [hran]; exact next
        · cases hk
    · cases hk

def dstsC : Code → List Nat
  | .region _ ⟨ops⟩ _ => dstsL ops
  | .seq a b => dstsC a ++ dstsC b
  | .cond _ a b => dstsC a ++ dstsC b
  | .block _ b => dstsC b
  | _ => []

abbrev Kr := X1 → T Value → Bool
def roC (P : Program) (G : Nat) (h : T AO) : Code → Nat → T Value → Kr → Bool
  | .skip, _, t, k => k .normal t
  | .region _ ⟨ops⟩ draw, z, t, k => sel draw false (roL P G h ops z ops t fun t => k .normal t)
  | .seq a b, z, t, k => roC P G h a z t fun x t => match x with
    | .normal => roC P G h b z t k
    | x => k x t
  | .cond c a b, z, t, k => match evF G t.get c with
    | some (.bool true) => roC P G h a z t k
    | some (.bool false) => roC P G h b z t k
    | _ => false
  | .block id b, z, t, k => roC P G h b z t fun x t => match x with
    | .exit j => sel (Nat.beq j id) (k .normal t) (k (.exit j) t)
    | x => k x t
  | .exit id, _, t, k => k (.exit id) t
  | .ret, _, t, k => k .ret t
  | _, _, _, _ => false

def RoPost (B : Bd) (w0 : World) (X : Nat → Option AO) (m : Mp) (h : T AO) (n z : Nat) (D : List Deferred) (c : Code) (t : T Value) (w : World) (k : Kr) (e : Exit) (a' : Act) (w' : World) : Prop :=
  ∃ x t', XR m x e ∧ TR m t'.get z a' ∧ a'.defers = D ∧ HR B w0 m h X n w' ∧ IK w w' ∧ (∀ i, i ∉ dstsC c → t'.get i = t.get i) ∧ k x t' = true

theorem roC_sound (hG : GR m G) : ∀ (c : Code) (z : Nat) (t : T Value) (k : Kr), roC P G h c z t k = true → ∀ (D : List Deferred) (a : Act) (w : World), TR m t.get z a → a.defers = D → HR B w0 m h X n w →
    c.wp P (RoPost B w0 X m h n z D c t w k) a w := by
  intro c
  induction c with
  | skip => exact fun z t k hk D a w ht hd hr => wp_skip ⟨.normal, t, .normal, ht, hd, hr, IK.refl w, fun _ _ => rfl, hk⟩
  | region id ops draw =>
    intro z t k hk D a w ht hd hr
    obtain ⟨ops⟩ := ops
    cases draw with
    | true => cases hk
    | false =>
      refine wp_region_list (roL_sound (k := fun t => k .normal t) hG hk ht hd hr fun t' a' w' ht' hd' hr' hi' hs' hk' => ?_)
      exact ⟨.normal, t', .normal, ht', hd', hr', hi', hs', hk'⟩
  | seq c1 c2 ih1 ih2 =>
    intro z t k hk D a w ht hd hr
    refine wp_seq (Code.wp_mono (fun e a' w' hp => ?_) (ih1 z t _ hk D a w ht hd hr))
    obtain ⟨x, t', hx, ht', hd', hr', hi', hs', hk'⟩ := hp
    have keep : ∀ i, i ∉ dstsC (.seq c1 c2) → t'.get i = t.get i := fun i hi => hs' i fun h => hi (List.mem_append_left _ h)
    cases hx with
    | normal =>
      refine Code.wp_mono (fun e a2 w2 hp => ?_) (ih2 z t' k hk' D a' w' ht' hd' hr')
      obtain ⟨x2, t2, hx2, ht2, hd2, hr2, hi2, hs2, hk2⟩ := hp
      exact ⟨x2, t2, hx2, ht2, hd2, hr2, hi'.trans hi2, fun i hi => by
        rw [hs2 i fun h => hi (List.mem_append_right _ h), keep i hi], hk2⟩
    | exit id => exact ⟨.exit id, t', .exit id, ht', hd', hr', hi', keep, hk'⟩
    | ret => exact ⟨.ret, t', .ret, ht', hd', hr', hi', keep, hk'⟩
    | panic v ch hp => exact ⟨.panic v, t', .panic v ch hp, ht', hd', hr', hi', keep, hk'⟩
  | cond c a b iha ihb =>
    intro z t k hk D ac w ht hd hr
    unfold roC at hk
    have weak : ∀ {c' : Code} (hsub : ∀ i, i ∈ dstsC c' → i ∈ dstsC (.cond c a b)) {e : Exit} {a' : Act} {w' : World}, RoPost B w0 X m h n z D c' t w k e a' w' → RoPost B w0 X m h n z D (.cond c a b) t w k e a' w' := fun {c'} hsub {e a' w'} hp => by
      obtain ⟨x, t', hx, ht', hd', hr', hi', hs', hk'⟩ := hp
      exact ⟨x, t', hx, ht', hd', hr', hi', fun i hi => hs' i fun h => hi (hsub i h), hk'⟩
    split at hk
    · rename_i hc
      have := (evF_sound hG ht _ _ hc).inv_bool
      exact wp_cond_true this (Code.wp_mono (fun e a' w' hp => weak (fun i hi => List.mem_append_left _ hi) hp) (iha z t k hk D ac w ht hd hr))
    · rename_i hc
      have := (evF_sound hG ht _ _ hc).inv_bool
      exact wp_cond_false this (Code.wp_mono (fun e a' w' hp => weak (fun i hi => List.mem_append_right _ hi) hp) (ihb z t k hk D ac w ht hd hr))
    · cases hk
  | block id b ih =>
    intro z t k hk D a w ht hd hr
    refine wp_block (Code.wp_mono (fun e a' w' hp => ?_) (ih z t _ hk D a w ht hd hr))
    obtain ⟨x, t', hx, ht', hd', hr', hi', hs', hk'⟩ := hp
    cases hx with
    | normal => exact ⟨.normal, t', .normal, ht', hd', hr', hi', hs', hk'⟩
    | exit j =>
      have hk' : (sel (Nat.beq j id) (k .normal t') (k (.exit j) t')) = true := hk'
      show (if j = id then _ else _)
      by_cases hj : j = id
      · rw [beq_true hj, sel_true] at hk'
        rw [if_pos hj]
        exact ⟨.normal, t', .normal, ht', hd', hr', hi', hs', hk'⟩
      · rw [beq_false hj, sel_false] at hk'
        rw [if_neg hj]
        exact ⟨.exit j, t', .exit j, ht', hd', hr', hi', hs', hk'⟩
    | ret => exact ⟨.ret, t', .ret, ht', hd', hr', hi', hs', hk'⟩
    | panic v ch hp => exact ⟨.panic v, t', .panic v ch hp, ht', hd', hr', hi', hs', hk'⟩
  | exit id => exact fun z t k hk D a w ht hd hr => wp_exit ⟨.exit id, t, .exit id, ht, hd, hr, IK.refl w, fun _ _ => rfl, hk⟩
  | ret => exact fun z t k hk D a w ht hd hr => wp_ret ⟨.ret, t, .ret, ht, hd, hr, IK.refl w, fun _ _ => rfl, hk⟩
  | _ => exact fun z t k hk D a w ht hd hr => by cases hk

/-! ### The loop -/
/-- What is known of a loop between two rounds. -/
def LoopW (P : Program) (c : Code) (Q : Exit → Act → World → Prop) (a : Act) (w : World) : Prop :=
  ∀ (b : Frame) (k : List Item) (cs : List Frame), ∃ e a' w', Q e a' w' ∧ Arrives P (lone (b.at a (.code c :: .inLoop c :: k)) cs w) b k cs e a' w'
theorem LoopW.wp {c : Code} {Q : Exit → Act → World → Prop} {a : Act} {w : World} (h : LoopW P c Q a w) : (Code.loop c).wp P Q a w := fun b k cs =>
  let ⟨e, a', w', hq, harr⟩ := h b k cs
  ⟨e, a', w', hq, .of_steps (.one step_loop) harr⟩
theorem LoopW.mono {c : Code} {Q Q' : Exit → Act → World → Prop} (hQ : ∀ e a w, Q e a w → Q' e a w) {a : Act} {w : World} (h : LoopW P c Q a w) : LoopW P c Q' a w := fun b k cs =>
  let ⟨e, a', w', hq, harr⟩ := h b k cs
  ⟨e, a', w', hQ _ _ _ hq, harr⟩
theorem LoopW.round {c : Code} {Q : Exit → Act → World → Prop} {a : Act} {w : World} (h : c.wp P (Exit.then (LoopW P c Q) Q) a w) : LoopW P c Q a w := by
  intro b k cs
  obtain ⟨e, a₁, w₁, hq, harr⟩ := h b (.inLoop c :: k) cs
  cases e with
  | normal =>
    obtain ⟨e₂, a₂, w₂, hq₂, harr₂⟩ := hq b k cs
    exact ⟨e₂, a₂, w₂, hq₂, .of_steps (Steps.trans harr (.one step_inLoop)) harr₂⟩
  | exit id => exact ⟨_, a₁, w₁, hq, .pass (x := .inLoop c) rfl (fun _ _ => .inl (by simp)) harr⟩
  | goto l => exact ⟨_, a₁, w₁, hq, .pass (x := .inLoop c) rfl (fun _ _ => .inl (by simp)) harr⟩
  | ret => exact ⟨_, a₁, w₁, hq, .pass (x := .inLoop c) rfl (fun _ _ => .inl (by simp)) harr⟩
  | panic ch => exact ⟨_, a₁, w₁, hq, .pass (x := .inLoop c) rfl (fun _ _ => .inl (by simp)) harr⟩
  | outgrown => exact ⟨_, a₁, w₁, hq, .pass (x := .inLoop c) rfl (fun _ _ => .inl (by simp)) harr⟩
theorem LoopW.inv {c : Code} {Q : Exit → Act → World → Prop} (I : Act → World → Prop) (μ : Act → World → Nat) (hr : ∀ a w, I a w → c.wp P (Exit.then (fun a' w' => I a' w' ∧ μ a' w' < μ a w) Q) a w) :
    ∀ (n : Nat) (a : Act) (w : World), μ a w = n → I a w → LoopW P c Q a w := by
  intro n
  induction n using Nat.strongRecOn with
  | _ n ih =>
    intro a w hn hI
    refine LoopW.round (Code.wp_mono (fun e a' w' hp => ?_) (hr a w hI))
    cases e with
    | normal => exact ih _ (hn ▸ hp.2) a' w' rfl hp.1
    | _ => exact hp

theorem choose_map {N : Nat} (hN : 0 < N) (w : World) : ∃ i w1, i < N ∧ (w1 = w ∨ w1 = w.drew) ∧ (choose (.mapNext N)).run P w = .ok i w1 := by
  by_cases h1 : N ≤ 1
  · refine ⟨0, w, hN, .inl rfl, ?_⟩
    have hf : (Question.mapNext N).forced = true := by simpa [Question.forced] using h1
    rw [run_choose_drew, hf]; rfl
  · refine ⟨w.tape w.drawn (.mapNext N) % N, w.drew, Nat.mod_lt _ hN, .inr rfl, ?_⟩
    have hf : (Question.mapNext N).forced = false := by simpa [Question.forced] using h1
    rw [run_choose_drew, hf]; rfl

theorem LR.revive {L : Nat → Option AO} {b : Nat} {o0 o : AO} {co : Obj} (h0 : LR B w0 m L n w) (hL : L b = some o0) (hl : o0.live = true) (hrw : o0.rw = true) (h1 : LR B w0 m (Ex.upd L b .dead) n w') (hco : w'.heap[m.mu b]? = some co) (hor : OR m b o co) :
    LR B w0 m (Ex.upd L b o) n w' where
  below := h1.below
  size := h1.size
  ok := fun x o' hx hlx => by
    by_cases e : x = b
    · subst e
      rw [upd_same] at hx; cases hx
      exact ⟨(h0.ok x o0 hL hl).1, co, hco, hor⟩
    · rw [upd_ne _ _ e] at hx
      exact h1.ok x o' (by rw [upd_ne _ _ e]; exact hx) hlx
  lt := fun x o' hx => by
    by_cases e : x = b
    · subst e; exact h0.lt x o0 hL
    · rw [upd_ne _ _ e] at hx; exact h0.lt x o' hx
  own := fun x o' hx hlx hrx => by
    by_cases e : x = b
    · subst e; exact h0.own x o0 hL hl hrw
    · rw [upd_ne _ _ e] at hx; exact h0.own x o' hx hlx hrx
  inj := fun x y o1 o2 hx hy hl1 hl2 he => by
    by_cases e : x = b
    · by_cases e' : y = b
      · rw [e, e']
      · rw [upd_ne _ _ e'] at hy
        rw [e] at he ⊢
        exact h0.inj b y o0 o2 hL hy hl hl2 he
    · rw [upd_ne _ _ e] at hx
      by_cases e' : y = b
      · rw [e'] at he ⊢
        exact h0.inj x b o1 o0 hx hL hl1 hl he
      · rw [upd_ne _ _ e'] at hy
        exact h0.inj x y o1 o2 hx hy hl1 hl2 he
  dom := h0.dom
  free := fun x hx => by
    by_cases e : x = b
    · subst e; rw [upd_same] at hx; cases hx; have := hor.live; cases this
    · rw [upd_ne _ _ e] at hx; exact h0.free x hx

def killL : List Nat → T Value → T Value
  | [], t => t
  | i :: l, t => killL l (T.set none t i)
theorem killL_get : ∀ (l : List Nat) (t : T Value) (i : Nat), (killL l t).get i = if i ∈ l then none else t.get i
  | [], t, i => by simp [killL]
  | j :: l, t, i => by
    show (killL l (T.set none t j)).get i = _
    rw [killL_get l, T.get_set]
    by_cases h1 : i ∈ l
    · simp [h1]
    · by_cases h2 : i = j
      · subst h2; simp
      · simp [h1, h2]
def killLK {β : Type} : List Nat → T Value → (T Value → β) → β
  | [], t, c => c t
  | i :: l, t, c => T.setK none t i fun t => killLK l t c
theorem killLK_eq {β : Type} : ∀ (l : List Nat) (t : T Value) (c : T Value → β), killLK l t c = c (killL l t)
  | [], _, _ => rfl
  | i :: l, t, c => by
    show T.setK none t i (fun t => killLK l t c) = _
    rw [T.setK_eq, killLK_eq l]; rfl

/-- A loop over an iterator: the iterator's temporary, what is told, whether there was one, the exit, the body. -/
def loopPat (c : Code) : Option (Nat × Nat × Nat × Nat × Code) :=
  match c with
  | .seq (.region _ ⟨[o1, o2]⟩ false) (.seq (.cond (.tmp tm) .skip (.exit ex)) b) => match o1.op, o1.dst, o1.guard, o2.op, o2.dst, o2.guard with
    | .next (.tmp it) false, some d1, none, .extract (.tmp dd) 0, some d2, none => sel (Nat.beq d1 dd && Nat.beq d2 tm && !Nat.beq d1 d2) (some (it, d1, d2, ex, b)) none
    | _, _, _, _, _, _ => none
  | _ => none
theorem loopPat_spec {c b : Code} {it d1 d2 ex : Nat} (h : loopPat c = some (it, d1, d2, ex, b)) : ∃ id o1 o2, c = .seq (.region id ⟨[o1, o2]⟩ false) (.seq (.cond (.tmp d2) .skip (.exit ex)) b) ∧
    o1.op = .next (.tmp it) false ∧ o1.dst = some d1 ∧ o1.guard = none ∧ o2.op = .extract (.tmp d1) 0 ∧ o2.dst = some d2 ∧ o2.guard = none ∧ d1 ≠ d2 := by
  unfold loopPat at h
  split at h
  · rename_i id o1 o2 tm ex' b'
    split at h
    · rename_i it' d1' dd d2' e1 e2 e3 e4 e5 e6
      cases hc : (Nat.beq d1' dd && Nat.beq d2' tm && !Nat.beq d1' d2')
      · rw [hc] at h; cases h
      · rw [hc, sel_true] at h
        simp only [Option.some.injEq, Prod.mk.injEq] at h
        obtain ⟨rfl, rfl, rfl, rfl, rfl⟩ := h
        simp only [Bool.and_eq_true, Bool.not_eq_true', nbeq, decide_eq_true_eq, decide_eq_false_iff_not] at hc
        obtain ⟨⟨rfl, rfl⟩, hne⟩ := hc
        exact ⟨id, o1, o2, rfl, e1, e2, e3, e4, e5, e6, hne⟩
    · cases h
  · cases h

def isNormal (x : X1) (_t : T Value) : Bool := match x with | .normal => true | _ => false
def roAll (P : Program) (G : Nat) (h : T AO) (b r cl d1 d2 z : Nat) (body : Code) (t : T Value) (es : List (Value × Value × Nat)) : Bool :=
  es.all fun e => T.setK (some (.mlast r e.2.2 cl)) h b fun h => T.setK (some (.tuple ⟨[.bool true, e.1, e.2.1]⟩)) t d1 fun t => T.setK (some (.bool true)) t d2 fun t => roC P G h body z t isNormal

/-- Is the loop one that the rule takes? Then what goes on. -/
def mapLoop (P : Program) (G : Nat) (body : Code) (z : Nat) (t : T Value) (h : T AO) (n : Nat) (k : Kt) : Option Bool :=
  match loopPat body with
  | none => none
  | some (it, d1, d2, ex, b) => match t.get it with
    | some (.pointer (some ⟨ib, 0, none⟩)) => match h.get ib with
      | some (.miter (some r) since [] last) => match h.get r with
        | some (.map es cl) => sel (Nat.blt 1 es.length && Nat.beq since cl && Nat.beq last cl && bornOk es cl && Nat.blt d1 z && Nat.blt d2 z && !inL it (d1 :: d2 :: dstsC b) && !Nat.beq r ib)
            (some (killLK (d1 :: d2 :: dstsC b) t fun t => sel (roAll P G h ib r cl d1 d2 z b t es) (T.setK (some .dead) h ib fun h => k (.exit ex) t h n) false)) none
        | _ => none
      | _ => none
    | _ => none

theorem nodup_subset_length {l r : List Nat} (hl : l.Nodup) (h : ∀ x ∈ l, x ∈ r) : l.length ≤ r.length := by
  induction l generalizing r with
  | nil => simp
  | cons a l ih =>
    rw [List.nodup_cons] at hl
    have ha := h a (by simp)
    have := ih (r := r.erase a) hl.2 fun x hx => (List.mem_erase_of_ne fun e => hl.1 (by rw [← e]; exact hx)).2 (h x (by simp [hx]))
    rw [List.length_erase_of_mem ha] at this
    have hp : 0 < r.length := List.length_pos_of_mem ha
    simp only [List.length_cons]; omega

theorem mapLoop_sound (hG : GR m G) {body : Code} {z : Nat} {t : T Value} {k : Kt} (hk : mapLoop P G body z t h n k = some true) {D : List Deferred} {a : Act} (ht : TR m t.get z a) (hd : a.defers = D) (hr : HR B w0 m h X n w) :
    LoopW P body (Post B w0 X m z D k) a w := by
  unfold mapLoop at hk
  split at hk
  · cases hk
  rename_i it d1 d2 ex bc hpat
  obtain ⟨id, o1, o2, rfl, p1, p2, p3, p4, p5, p6, p7⟩ := loopPat_spec hpat
  split at hk
  case h_2 => cases hk
  rename_i ib hit
  split at hk
  case h_2 => cases hk
  rename_i r since last hib
  split at hk
  case h_2 => cases hk
  rename_i es cl hmap
  cases hc : (Nat.blt 1 es.length && Nat.beq since cl && Nat.beq last cl && bornOk es cl && Nat.blt d1 z && Nat.blt d2 z && !inL it (d1 :: d2 :: dstsC bc) && !Nat.beq r ib)
  · rw [hc] at hk; cases hk
  rw [hc, sel_true, killLK_eq, T.setK_eq] at hk
  simp only [Option.some.injEq] at hk
  simp only [Bool.and_eq_true, Bool.not_eq_true', nblt, nbeq, decide_eq_true_eq, decide_eq_false_iff_not] at hc
  obtain ⟨⟨⟨⟨⟨⟨⟨c1, c2⟩, c3⟩, c4⟩, c5⟩, c6⟩, c7⟩, c8⟩ := hc
  have c2 := c2.symm
  have c3 := c3.symm
  subst c2 c3
  cases hall : roAll P G h ib r cl d1 d2 z bc (killL (d1 :: d2 :: dstsC bc) t) es
  · rw [hall] at hk; cases hk
  rw [hall, sel_true] at hk
  generalize ht0 : killL (d1 :: d2 :: dstsC bc) t = t0 at hk hall
  have ht0g : ∀ i, t0.get i = if i ∈ (d1 :: d2 :: dstsC bc) then none else t.get i := fun i => by rw [← ht0, killL_get]
  have hitn : it ∉ (d1 :: d2 :: dstsC bc) := fun hx => by
    have : ∀ l : List Nat, it ∈ l → inL it l = true := fun l => by
      induction l with
      | nil => intro h; cases h
      | cons y l ih =>
        intro h
        simp only [inL, Bool.or_eq_true]
        rcases List.mem_cons.1 h with e | h
        · exact .inl (beq_true e.symm)
        · exact .inr (ih h)
    rw [this _ hx] at c7; cases c7
  have htk : ∀ i v, t0.get i = some v → i ∉ (d1 :: d2 :: dstsC bc) ∧ t.get i = some v := fun i v hv => by
    rw [ht0g] at hv
    by_cases h : i ∈ (d1 :: d2 :: dstsC bc)
    · rw [if_pos h] at hv; cases hv
    · rw [if_neg h] at hv; exact ⟨h, hv⟩
  obtain ⟨hb1, hb2⟩ := bornOk_spec c4
  have hL := ov_some (X := X) hib
  obtain ⟨hdib, co0, hco0, hor0⟩ := hr.lr.ok ib _ hL rfl
  have hco : w.heap[m.mu ib]? = some (.mapIter (some (m.mu r)) cl ⟨[]⟩ cl) ∧ m.dom r := by
    cases hor0 with
    | miter _ _ _ _ hdr => exact ⟨hco0, hdr⟩
  obtain ⟨hco, hdr⟩ := hco
  have hlt := hr.lr.lt ib _ hL
  have hdead : HR B w0 m (T.set (some .dead) h ib) X n w := hr.set hib (hr.lr.kill hlt)
  let I : Act → World → Prop := fun a w' => ∃ seen : List Nat, (∀ s ∈ seen, s ∈ es.map (·.2.2)) ∧ seen.Nodup ∧ w'.heap[m.mu ib]? = some (.mapIter (some (m.mu r)) cl ⟨seen⟩ cl) ∧ HR B w0 m (T.set (some .dead) h ib) X n w' ∧ TR m t0.get z a ∧ a.defers = D
  let μ : Act → World → Nat := fun _ w' => match w'.heap[m.mu ib]? with
    | some (.mapIter _ _ s _) => es.length + 1 - s.size
    | _ => 0
  refine LoopW.inv I μ (fun a1 w1 hI => ?_) _ a w rfl ⟨[], by simp, by simp, hco, hdead, ⟨ht.1, fun i v hv => ht.2 i v (htk i v hv).2⟩, hd⟩
  obtain ⟨seen, hs1, hs2, hco1, hr1, ht1, hd1⟩ := hI
  have hmap1 : (T.set (some .dead) h ib).get r = some (.map es cl) := by rw [T.get_set, if_neg c8]; exact hmap
  obtain ⟨_, com, hcom, horm⟩ := hr1.lr.ok r _ (ov_some (X := X) hmap1) rfl
  cases horm with
  | map _ _ es' he =>
  have hlen := he.length
  have hborn := he.map_born
  have hptr : a1.tmps.getD it undef = .pointer (some ⟨m.mu ib, 0, none⟩) := by
    have := ht1.2 it (.pointer (some ⟨ib, 0, none⟩)) (by rw [ht0g, if_neg hitn]; exact hit)
    exact this.inv_ptr.1
  have hguard : (!(⟨seen⟩ : Array Nat).isEmpty && !es'.isEmpty && es'.all (fun e => decide (e.born ≥ cl))) = false := by
    have : (es'.all fun e => decide (e.born ≥ cl)) = false := by
      rw [← Array.all_toList]
      have hne : es'.toList ≠ [] := fun hn => by rw [hn] at hlen; simp at hlen; rw [hlen] at c1; simp at c1
      obtain ⟨x, l, hx⟩ := List.exists_cons_of_ne_nil hne
      rw [hx]
      have : x.born ∈ es.map (·.2.2) := by rw [← hborn, hx]; simp
      obtain ⟨e, he1, he2⟩ := List.mem_map.1 this
      have := hb1 e he1
      simp only [List.all_cons, Bool.and_eq_false_imp]
      intro hh
      simp at hh; omega
    rw [this]; simp
  have hnew : ((es'.filter fun e => !(⟨seen⟩ : Array Nat).contains e.born).filter (fun e => decide (e.born ≥ cl))) = #[] := by
    apply Array.ext'
    rw [Array.toList_filter, Array.toList_filter]
    simp only [List.filter_filter]
    rw [List.filter_eq_nil_iff]
    intro x hx
    have : x.born ∈ es.map (·.2.2) := by rw [← hborn]; exact List.mem_map.2 ⟨x, hx, rfl⟩
    obtain ⟨e, he1, he2⟩ := List.mem_map.1 this
    have := hb1 e he1
    simp; omega
  generalize hold : ((es'.filter fun e => !(⟨seen⟩ : Array Nat).contains e.born).filter (fun e => decide (e.born < cl))) = old
  have holdm : ∀ x ∈ old.toList, x ∈ es'.toList ∧ x.born ∉ seen := fun x hx => by
    rw [← hold, Array.toList_filter, Array.toList_filter, List.mem_filter, List.mem_filter] at hx
    refine ⟨hx.1.1, fun hh => ?_⟩
    have h2 := hx.1.2
    simp at h2
    exact h2 hh
  have hdiv : ∀ o : Option Tmp, ∀ v, (a1.put o v).defers = D := fun o v => by cases o <;> exact hd1
  have hw1 : Region.wanted o1 (yielded ⟨[o1, o2]⟩ a1.tmps) = true := by unfold Region.wanted; rw [p3]
  have hw2 : ∀ a2 : Act, Region.wanted o2 (yielded ⟨[o1, o2]⟩ a2.tmps) = true := fun a2 => by unfold Region.wanted; rw [p6]
  -- behind the two operations
  have step : ∀ (u : Value) (w2 : World) (bb : Bool) (rest : List Value), (Instr.next (.pointer (some ⟨m.mu ib, 0, none⟩)) false o1.type).run P w1 = .ok (.tuple ⟨.bool bb :: rest⟩) w2 →
      (∀ a2 : Act, a2 = (a1.put (some d1) (.tuple ⟨.bool bb :: rest⟩)).put (some d2) (.bool bb) →
        (if bb then bc.wp P (Exit.then (fun a' w' => I a' w' ∧ μ a' w' < μ a1 w1) (Post B w0 X m z D k)) a2 w2 else Post B w0 X m z D k (.exit ex) a2 w2)) →
      (Code.seq (.region id ⟨[o1, o2]⟩ false) (.seq (.cond (.tmp d2) .skip (.exit ex)) bc)).wp P (Exit.then (fun a' w' => I a' w' ∧ μ a' w' < μ a1 w1) (Post B w0 X m z D k)) a1 w1 := fun _ w2 bb rest hrun hgo => by
    refine wp_seq (wp_region_list ?_)
    unfold wpList
    rw [if_pos hw1]
    left
    unfold Oper.wp
    have hx1 : (execOp a1.eval o1).run P w1 = .ok (.value (.tuple ⟨.bool bb :: rest⟩)) w2 := by
      obtain ⟨dst, op, ty, pos, after, guard⟩ := o1
      simp only at p1; subst p1
      show (Instr.next (a1.eval (.tmp it)) false ty >>= fun u => (Pure.pure (Next.value u) : Sem Next)).run P w1 = _
      have : a1.eval (.tmp it) = .pointer (some ⟨m.mu ib, 0, none⟩) := hptr
      rw [this, Sem.run_bind, hrun]; rfl
    rw [hx1, Oper.upon_value, p2]
    unfold wpList
    rw [if_pos (hw2 _)]
    left
    unfold Oper.wp
    have hsz : d1 < a1.tmps.size := by have := ht1.1; omega
    have hev : (a1.put (some d1) (.tuple ⟨.bool bb :: rest⟩)).eval (.tmp d1) = .tuple ⟨.bool bb :: rest⟩ := by
      show (a1.tmps.setIfInBounds d1 _).getD d1 undef = _
      simp [hsz]
    have hx2 : (execOp (a1.put (some d1) (.tuple ⟨.bool bb :: rest⟩)).eval o2).run P w2 = .ok (.value (.bool bb)) w2 := by
      obtain ⟨dst, op, ty, pos, after, guard⟩ := o2
      simp only at p4; subst p4
      show (Instr.extract ((a1.put (some d1) (.tuple ⟨.bool bb :: rest⟩)).eval (.tmp d1)) 0 >>= fun u => (Pure.pure (Next.value u) : Sem Next)).run P w2 = _
      rw [hev]
      simp [Instr.extract]
    rw [hx2, Oper.upon_value, p5]
    have hsz2 : d2 < (a1.put (some d1) (.tuple ⟨.bool bb :: rest⟩)).tmps.size := by
      have := ht1.1
      show d2 < (a1.tmps.setIfInBounds d1 _).size
      simp; omega
    have hev2 : ((a1.put (some d1) (.tuple ⟨.bool bb :: rest⟩)).put (some d2) (.bool bb)).eval (.tmp d2) = .bool bb := by
      show ((a1.put (some d1) (.tuple ⟨.bool bb :: rest⟩)).tmps.setIfInBounds d2 _).getD d2 undef = _
      simp [hsz2]
    have hgo' := hgo _ rfl
    show (Code.seq (.cond (.tmp d2) .skip (.exit ex)) bc).wp P _ _ w2
    refine wp_seq ?_
    cases bb with
    | true => exact wp_cond_true hev2 (wp_skip hgo')
    | false => exact wp_cond_false hev2 (wp_exit hgo')
  by_cases hempty : old = #[]
  · -- nothing is left
    subst hempty
    refine step (.bool false) w1 false [] ?_ fun a2 ha2 => ?_
    · have hq1 : (Question.mapNext 1).forced = true := rfl
      simp only [Instr.next, Sem.run_bind, run_getObj hco1 rfl, Result.andThen_ok, run_getObj hcom rfl, hguard, Bool.false_eq_true, if_false, hold, hnew]
      simp [hq1]
    · show Post B w0 X m z D k (.exit ex) a2 w1
      refine ⟨m, .exit ex, t0, T.set (some .dead) h ib, n, m.le_refl, .exit ex, ?_, ?_, hr1, hk⟩
      · subst ha2
        have q1 := (ht1.put c5 (v := overV) (v' := .tuple ⟨[.bool false]⟩) (.tuple' ⟨.bool false, trivial⟩))
        have q2 := q1.put c6 (v := .bool false) (v' := .bool false) (.bool false)
        refine q2.ext fun i v hv => ?_
        have := (htk i v hv).1
        simp only [List.mem_cons, not_or] at this
        show (if i = d2 then _ else if i = d1 then _ else _) = _
        rw [if_neg this.2.1, if_neg this.1]; exact hv
      · subst ha2; exact hd1
  · -- an entry comes
    have hpos : 0 < (old.map some).size := by
      have : 0 < old.size := Array.size_pos_iff.2 hempty
      simpa using this
    obtain ⟨i, w2, hi, hw2', hch⟩ := choose_map (P := P) hpos w1
    have hi' : i < old.size := by simpa using hi
    have hxo : old[i]? = some old[i] := Array.getElem?_eq_getElem hi'
    generalize hxe : old[i] = x at hxo
    obtain ⟨hxm, hxs⟩ := holdm x (by rw [← hxe]; simp)
    have hsame : Same w1 w2 := by rcases hw2' with rfl | rfl; exact Same.refl _; exact Same.drew _
    have hco2 : w2.heap[m.mu ib]? = some (.mapIter (some (m.mu r)) cl ⟨seen⟩ cl) := by rw [hsame.heap]; exact hco1
    -- which entry
    obtain ⟨e, hem, he1, he2, he3, he4⟩ : ∃ e ∈ es, x.key = e.1 ∧ flat 8 e.1 = true ∧ VR m e.2.1 x.val ∧ x.born = e.2.2 := by
      have : ∀ {l : List (Value × Value × Nat)} {l' : List MapEntry}, ERs m l l' → x ∈ l' → ∃ e ∈ l, x.key = e.1 ∧ flat 8 e.1 = true ∧ VR m e.2.1 x.val ∧ x.born = e.2.2 := fun {l} => by
        induction l with
        | nil => intro l' hl hx; cases l' with | nil => cases hx | cons _ _ => exact hl.elim
        | cons a l ih =>
          intro l' hl hx
          cases l' with
          | nil => cases hx
          | cons y l' =>
            rcases List.mem_cons.1 hx with rfl | hx
            · exact ⟨a, by simp, hl.1⟩
            · obtain ⟨e, h1, h2⟩ := ih hl.2 hx
              exact ⟨e, by simp [h1], h2⟩
      exact this he hxm
    have hnb : ∀ s ∈ seen ++ [x.born], s ∈ es.map (·.2.2) := fun s hs => by
      rcases List.mem_append.1 hs with hs | hs
      · exact hs1 s hs
      · simp at hs; subst hs; rw [he4]; exact List.mem_map.2 ⟨e, hem, rfl⟩
    have hnd : (seen ++ [x.born]).Nodup := by
      rw [List.nodup_append]
      exact ⟨hs2, by simp, fun a ha b hb => by simp at hb; subst hb; exact fun e => hxs (e ▸ ha)⟩
    have hslen : seen.length + 1 ≤ es.length := by
      have := nodup_subset_length hnd hnb
      simpa using this
    have epush : ((⟨seen⟩ : Array Nat).push x.born) = ⟨seen ++ [x.born]⟩ := by apply Array.ext'; simp
    let w3 : World := { w2 with heap := w2.heap.setIfInBounds (m.mu ib) (.mapIter (some (m.mu r)) cl ⟨seen ++ [x.born]⟩ cl) }
    have hlt2 := (Array.getElem?_eq_some_iff.1 hco2).1
    have hco3 : w3.heap[m.mu ib]? = some (.mapIter (some (m.mu r)) cl ⟨seen ++ [x.born]⟩ cl) := by
      show (w2.heap.setIfInBounds _ _)[_]? = _
      simp [hlt2]
    refine step (.bool true) w3 true [x.key, x.val] ?_ fun a2 ha2 => ?_
    · have hset : ∀ o, (setObj (m.mu ib) o).run P w2 = .ok () { w2 with heap := w2.heap.setIfInBounds (m.mu ib) o } := fun o => by simp [setObj, Sem.run, hco2]
      have hcand : (if old.isEmpty = true then #[none] else #[]) ++ (old ++ (#[] : Array MapEntry)).map some = old.map some := by
        have : old.isEmpty = false := by simpa using hempty
        rw [this]; simp
      simp only [Instr.next, Sem.run_bind, run_getObj hco1 rfl, Result.andThen_ok, run_getObj hcom rfl, hguard, Bool.false_eq_true, if_false, hold, hnew, hcand, hch]
      have : (old.map some)[i]? = some (some x) := by simp [hxo]
      simp only [this, Sem.run_bind, epush, hset, Result.andThen_ok, Sem.run_pure, w3]
    · show bc.wp P _ a2 w3
      -- the heap, the iterator's block known by what it stands at
      have hrD2 := hr1.same hsame
      have hrD3 : HR B w0 m (T.set (some .dead) h ib) X n w3 := by
        have hl0 : LR B w0 m (Ex.upd (ov h X) ib (.miter (some r) cl seen cl)) n w2 := by
          refine hr.lr.revive hL rfl rfl ?_ hco2 (.miter r cl seen cl hdr)
          exact hrD2.lr.congr fun b => (ov_set (.inr ⟨_, hib⟩) b).symm
        have hl1 := hl0.upd (r := ib) (o' := .miter (some r) cl (seen ++ [x.born]) cl) (co := .mapIter (some (m.mu r)) cl ⟨seen ++ [x.born]⟩ cl) (w' := w3) (upd_same _ _ _) rfl rfl (upd_setObj hco2) (.miter r cl (seen ++ [x.born]) cl hdr)
        have hl2 := hl1.kill hlt
        refine ⟨hl2.congr fun b => ?_, hr1.apart⟩
        rw [ov_set (.inr ⟨_, hib⟩) b]
        unfold Ex.upd
        by_cases e : b = ib
        · simp [e]
        · simp [e]
      have hrE : HR B w0 m (T.set (some (.mlast r e.2.2 cl)) h ib) X n w3 := by
        refine ⟨?_, fun b o hb => ?_⟩
        · have hl := hr.lr.revive (w' := w3) hL rfl rfl (hrD3.lr.congr fun b => (ov_set (.inr ⟨_, hib⟩) b).symm) hco3 (OR.mlast (m := m) (b := ib) r e.2.2 cl cl ⟨seen ++ [x.born]⟩ hdr (by rw [← he4]; simp))
          exact hl.congr fun b => ov_set (.inr ⟨_, hib⟩) b
        · rw [T.get_set]
          by_cases e' : b = ib
          · subst e'; have := hr.apart b o hb; rw [hib] at this; cases this
          · rw [if_neg e']; exact hr.apart b o hb
      have hro := List.all_eq_true.1 hall e hem
      rw [T.setK_eq, T.setK_eq, T.setK_eq] at hro
      have htr : TR m (T.set (some (.bool true)) (T.set (some (.tuple ⟨[.bool true, e.1, e.2.1]⟩)) t0 d1) d2).get z a2 := by
        subst ha2
        have q1 := (ht1.put c5 (v := .tuple ⟨[.bool true, e.1, e.2.1]⟩) (v' := .tuple ⟨[.bool true, x.key, x.val]⟩) (.tuple' ⟨.bool true, by rw [he1]; exact flat_refl m 8 _ he2, he3, trivial⟩))
        have q2 := q1.put c6 (v := .bool true) (v' := .bool true) (.bool true)
        exact q2.ext fun i v hv => by rw [T.get_set, T.get_set] at hv; exact hv
      refine Code.wp_mono (fun ex' a3 w4 hp => ?_) (roC_sound hG bc z _ isNormal hro D a2 w3 htr (by subst ha2; exact hd1) hrE)
      obtain ⟨xx, t', hx, ht', hd', hr', hi', hs', hk'⟩ := hp
      cases hx with
      | normal =>
        have hco4 := hi' _ _ _ _ _ hco3
        refine ⟨⟨seen ++ [x.born], hnb, hnd, hco4, ?_, ?_, hd'⟩, ?_⟩
        · have hl := hr'.set (b := ib) (o := .mlast r e.2.2 cl) (o' := .dead) (by rw [T.get_set, if_pos rfl]) (hr'.lr.kill hlt)
          exact hl.congr fun b => by rw [T.get_set, T.get_set, T.get_set]; by_cases e : b = ib <;> simp [e]
        · refine ⟨ht'.1, fun i v hv => ht'.2 i v ?_⟩
          have hi := (htk i v hv).1
          simp only [List.mem_cons, not_or] at hi
          rw [hs' i hi.2.2, T.get_set, if_neg hi.2.1, T.get_set, if_neg hi.1]; exact hv
        · show (match w4.heap[m.mu ib]? with
            | some (.mapIter _ _ s _) => es.length + 1 - s.size
            | _ => 0) < (match w1.heap[m.mu ib]? with
            | some (.mapIter _ _ s _) => es.length + 1 - s.size
            | _ => 0)
          rw [hco4, hco1]
          simp; omega
      | exit _ => cases hk'
      | ret => cases hk'
      | panic _ _ _ => cases hk'

end
end Go.Ex

/- Calls, by their functions; operations. -/
namespace Go.Ex
noncomputable section

variable {P : Program} {m : Mp} {B : Bd} {w0 w w' : World} {n : Nat} {h : T AO} {X : Nat → Option AO}

section
variable [Intr P]

def enterK (P : Program) [Intr P] (G : Nat) (ih : Ex1) (f : FuncId) (args : List Value) (h : T AO) (n : Nat) (k : Value → T AO → Nat → Bool) : Bool :=
  match Intr.run P G f args h n with
  | some (v, l, n) => forceV v fun v => setLK l h fun h => forceN n fun n => k v h n
  | none => match bodyOf P f with
  | some (fn, c) => sel (Nat.ble args.length fn.ntmps)
      (argsT args 0 .leaf fun t => sel (spineDef c) (bodyK P G ih fn c t h n k) (ih c fn.ntmps t h n fun x t h n => match x with
        | .exit _ => false
        | .panic v => k (pan v) h n
        | _ => match resV P h t.get fn.results.toList with
          | some r => k (oneOf r) h n
          | none => false)) false
  | none => sel (args.all (flat 8)) (match pr P (callFunc f ⟨args⟩) with
      | some (.value v) => sel (flat 8 v) (forceV v fun v => k v h n) false
      | _ => false) false

/-- What is known behind a call: of the model's run of the callee. -/
theorem enterK_sound {G : Nat} {ih : Ex1} (hih : Sound P G ih) (hG : GR m G) (hr : HR B w0 m h X n w) {f : FuncId} {args args' : List Value} {k : Value → T AO → Nat → Bool} (hk : enterK P G ih f args h n k = true) (ha : VRs m args args')
    (next : Value → World → Prop) (Q : List PanicEntry → World → Prop) (hn : ∀ v v' m' h' n' w', m.le m' → VR m' v v' → HR B w0 m' h' X n' w' → k v h' n' = true → next v' w')
    (hq : ∀ v ch m' h' n' w', m.le m' → PR m' v ch → HR B w0 m' h' X n' w' → k (pan v) h' n' = true → Q ch w') :
    (∃ v' w', (callFunc f ⟨args'⟩).run P w = .ok (.value v') w' ∧ next v' w') ∨
    ((callFunc f ⟨args'⟩).run P w = .ok (.enter f ⟨args'⟩) w ∧ Calls P f ⟨args'⟩ w fun
      | .returned v, w'' => next v w''
      | .panicked ch, w'' => Q ch w''
      | .outgrown, _ => False) := by
  unfold enterK at hk
  split at hk
  · rename_i v l n' hi
    rw [forceV_eq, setLK_eq, forceN_eq] at hk
    rcases Intr.sound hi hG hr ha with ⟨v', w', h1, m', hm, hv, hh⟩ | ⟨h1, h2⟩
    · exact .inl ⟨v', w', h1, hn _ _ _ _ _ _ hm hv hh hk⟩
    refine .inr ⟨h1, h2.mono fun e w' he => ?_⟩
    obtain ⟨v', rfl, m', hm, hv, hh⟩ := he
    exact hn _ _ _ _ _ _ hm hv hh hk
  split at hk
  · rename_i fn c hb
    obtain ⟨hf, hc, hrun⟩ := bodyOf_spec hb
    cases hl : Nat.ble args.length fn.ntmps
    · rw [hl] at hk; cases hk
    rw [hl, sel_true, argsT_eq] at hk
    rw [nble, decide_eq_true_eq] at hl
    right
    refine ⟨hrun _ w, ?_⟩
    cases hsp : spineDef c
    case true =>
      rw [hsp, sel_true] at hk
      exact bodyK_sound hih hf hc hl ha hG hr hk next Q hn hq
    rw [hsp, sel_false] at hk
    refine calls_of_wp hf hc ?_
    have hlen := ha.length
    have htr : TR m (argsD args 0 .leaf).get fn.ntmps { tmps := (⟨args'⟩ : Array Value) ++ Array.replicate (fn.ntmps - (⟨args'⟩ : Array Value).size) undef, defers := [] } := by
      refine ⟨by simp; omega, fun i v hv => ?_⟩
      rw [argsD_get] at hv
      split at hv
      · rename_i hi
        simp only [Nat.sub_zero] at hv
        obtain ⟨v', hv', hvr⟩ := ha.get hv
        have hlt : i < args'.length := (List.getElem?_eq_some_iff.1 hv').1
        have : ((⟨args'⟩ : Array Value) ++ Array.replicate (fn.ntmps - (⟨args'⟩ : Array Value).size) undef).getD i undef = v' := by
          rw [Array.getD_eq_getD_getElem?, Array.getElem?_append_left (by simpa using hlt)]
          simp [hv']
        rw [this]; exact hvr
      · cases hv
    refine Code.wp_mono (fun e a w' hp => ?_) (hih c fn.ntmps _ h n _ hk B w0 m X [] _ w hG htr rfl hr)
    obtain ⟨m', x, t, h', n', hm, hx, ht, hd, hh, hkk⟩ := hp
    have fin : ∀ {x : X1}, (match x with
        | .exit _ => false
        | .panic v => k (pan v) h' n'
        | _ => match resV P h' t.get fn.results.toList with
          | some r => k (oneOf r) h' n'
          | none => false) = true → x = .normal ∨ x = .ret → a.defers = [] ∧ ∃ v, (results fn a.tmps).run P w' = .ok v w' ∧ next v w' := fun {x} hkk hx => by
      have hkk' : (match resV P h' t.get fn.results.toList with
          | some r => k (oneOf r) h' n'
          | none => false) = true := by rcases hx with rfl | rfl <;> exact hkk
      split at hkk'
      · rename_i r hres
        obtain ⟨v', hvr, hrr⟩ := results_run hh ht hres
        exact ⟨hd, v', hrr, hn _ _ m' h' n' w' hm hvr hh hkk'⟩
      · cases hkk'
    cases hx with
    | normal => exact fin (x := .normal) hkk (.inl rfl)
    | ret => exact fin (x := .ret) hkk (.inr rfl)
    | exit id => cases hkk
    | panic v ch hp => exact ⟨hd, hq v ch m' h' n' w' hm hp hh hkk⟩
  · cases hfl : args.all (flat 8)
    · rw [hfl] at hk; cases hk
    rw [hfl, sel_true] at hk
    rw [List.all_eq_true] at hfl
    have he : args' = args := VRs.eq_of (fun v hv v' hr => flat_eq m 8 v (hfl v hv) v' hr) ha
    split at hk
    · rename_i v hp
      cases hvf : flat 8 v
      · rw [hvf] at hk; cases hk
      rw [hvf, sel_true, forceV_eq] at hk
      left
      subst he
      exact ⟨v, w, pr_sound _ hp w, hn v v m h n w m.le_refl (flat_refl m 8 v hvf) hr hk⟩
    · cases hk

/-- A promoted method, by one step into a struct: the embedded part is what it is handed. -/
def methodP (P : Program) (v : Value) (s : FieldStep) (mf : Option (FuncId × Bool)) : Option (FuncId × Value) :=
  sel s.deref none (match v, fieldOf P s.struct s.index, mf with
    | .agg ⟨l⟩, some (fd, _), some (g, p) => match partV P fd.type l fd.offset, P.underlying fd.type with
      | some u, some (.pointer _) => sel p (some (g, u)) none
      | some u, some _ => sel p none (some (g, u))
      | _, _ => none
    | _, _, _ => none)
/-- A method of a dynamic type: the function, and what it is handed. -/
def methodA (P : Program) (h : T AO) (t : TypeId) (v : Value) (name : String) : Option (FuncId × Value) :=
  match P.info? t with
  | some i => match i.methods.find? (·.name == name) with
    | some mt => sel mt.path.isEmpty (match mt.func with
      | some (f, p) => match P.underlying t with
        | some (.pointer e) => sel p (some (f, v)) (match v with
          | .pointer (some _) => match loadV P h e v with
            | some u => some (f, u)
            | none => none
          | _ => none)
        | some _ => sel p none (some (f, v))
        | none => none
      | none => none) (match mt.path.toList with
      | [s] => methodP P v s mt.func
      | _ => none)
    | none => none
  | none => none

end

theorem methodP_sound {t : TypeId} {v v' : Value} {s : FieldStep} {mf : Option (FuncId × Bool)} {f : FuncId} {u : Value} (hm : methodP P v s mf = some (f, u)) (hv : VR m v v') :
    ∃ u' xt x p, VR m u u' ∧ mf = some (f, p) ∧ (Go.follow [s] t (.val v')).run P w = .ok (xt, x) w ∧ (Go.receiverAt xt x p none).run P w = .ok u' w := by
  unfold methodP at hm
  cases hd : s.deref
  · rw [hd, sel_false] at hm
    split at hm
    · rename_i l fd i g p hf
      obtain ⟨fields, hu, hfd, hi⟩ := fieldOf_spec hf
      obtain ⟨r, rfl, hr, hat⟩ := hv.inv_agg
      have fin : ∀ {u1 : Value}, partV P fd.type l fd.offset = some u1 → ∃ u', VR m u1 u' ∧ (Go.follow [s] t (.val (.agg ⟨r⟩))).run P w = .ok (fd.type, .val u') w := fun {u1} hp => by
        obtain ⟨u', hur, hrun⟩ := partV_sound hp hr hat
        refine ⟨u', hur, ?_⟩
        simp only [Go.follow, Sem.run_bind, run_underlying hu, Result.andThen_ok, hfd, hd, Bool.false_eq_true, if_false, hrun, Sem.run_pure]
      split at hm
      · rename_i u1 e hp hue
        cases p
        · rw [sel_false] at hm; cases hm
        · rw [sel_true] at hm; cases hm
          obtain ⟨u', hur, hrun⟩ := fin hp
          refine ⟨u', _, _, true, hur, rfl, hrun, ?_⟩
          simp only [Go.receiverAt, Sem.run_bind, run_underlying hue, Result.andThen_ok, Go.Place.get, Sem.run_pure]
      · rename_i u1 d hnp hp hue
        cases p
        · rw [sel_false] at hm; cases hm
          obtain ⟨u', hur, hrun⟩ := fin hp
          refine ⟨u', _, _, false, hur, rfl, hrun, ?_⟩
          simp only [Go.receiverAt, Sem.run_bind, run_underlying hue, Result.andThen_ok]
          cases d <;> first | rfl | exact (hnp _ rfl).elim
        · rw [sel_true] at hm; cases hm
      · cases hm
    · cases hm
  · rw [hd] at hm; cases hm

theorem run_wrapNil (xt : TypeId) (a : Addr) (name : String) (w : World) : (Builtin.ssaWrapNilChk_ #[xt] xt #[.pointer (some a), strVal "", strVal name]).run P w = .ok (.pointer (some a)) w := rfl

theorem methodA_sound (hr : HR B w0 m h X n w) {t : TypeId} {v v' : Value} {name : String} {f : FuncId} {u : Value} (hm : methodA P h t v name = some (f, u)) (hv : VR m v v') (fuel : Nat) :
    ∃ u', VR m u u' ∧ (Go.method (fuel + 1) t v' name).run P w = .ok (f, u') w := by
  unfold methodA at hm
  split at hm
  case h_2 => cases hm
  rename_i i hi
  split at hm
  case h_2 => cases hm
  rename_i mt hmt
  cases hp : mt.path.isEmpty
  · rw [hp, sel_false] at hm
    split at hm
    · rename_i s hs
      obtain ⟨u', xt, x, p, hur, hf, hrun, hrec⟩ := methodP_sound (w := w) (t := t) hm hv
      refine ⟨u', hur, ?_⟩
      simp only [Go.method, Sem.run_bind, run_typeInfo' hi, Result.andThen_ok, hmt, hs, hrun, hf, hp, Bool.false_eq_true, if_false, hrec, Sem.run_pure]
    · cases hm
  rw [hp, sel_true] at hm
  have hp' : mt.path.toList = [] := by simpa using hp
  split at hm
  case h_2 => cases hm
  rename_i f' p hf
  have start : ∀ (r : Result (FuncId × Value)), ((Go.receiverAt t (.val v') p (some ((name.splitOn ".").getLastD name))).run P w).andThen (fun u w => .ok (f', u) w) = r →
      (Go.method (fuel + 1) t v' name).run P w = r := fun r hrr => by
    simp only [Go.method, Sem.run_bind, run_typeInfo' hi, Result.andThen_ok, hmt, hp', Go.follow, Sem.run_pure, hf, hp, if_true]
    exact hrr
  split at hm
  · rename_i e hu
    cases p
    · rw [sel_false] at hm
      split at hm
      case h_2 => cases hm
      rename_i q
      split at hm
      case h_2 => cases hm
      rename_i u2 hl
      cases hm
      obtain ⟨v2, hvr, hrun⟩ := loadV_sound hr.sub hr.lr hl hv
      refine ⟨v2, hvr, start _ ?_⟩
      cases hv with
      | ptr b o hd =>
        have hl2 : (loadVar e ⟨m.mu b, o, none⟩).run P w = .ok v2 w := by simpa [Instr.loadAt, Instr.sureAddr] using hrun
        simp only [Go.receiverAt, Sem.run_bind, run_underlying hu, Result.andThen_ok, Go.Place.get, Sem.run_pure, run_wrapNil, asAddr, hl2]
      | ptrw b o s hd =>
        have hl2 : (loadVar e ⟨m.mu b, m.cap b + o, none⟩).run P w = .ok v2 w := by simpa [Instr.loadAt, Instr.sureAddr] using hrun
        simp only [Go.receiverAt, Sem.run_bind, run_underlying hu, Result.andThen_ok, Go.Place.get, Sem.run_pure, run_wrapNil, asAddr, hl2]
    · rw [sel_true] at hm
      cases hm
      refine ⟨v', hv, start _ ?_⟩
      simp only [Go.receiverAt, Sem.run_bind, run_underlying hu, Result.andThen_ok, Go.Place.get, Sem.run_pure]
  · rename_i d hnp hu
    cases p
    · rw [sel_false] at hm
      cases hm
      refine ⟨v', hv, start _ ?_⟩
      simp only [Go.receiverAt, Sem.run_bind, run_underlying hu, Result.andThen_ok]
      cases d <;> first | rfl | exact (hnp _ rfl).elim
    · cases hm
  · cases hm

section
variable [Intr P]

def callK (P : Program) [Intr P] (G : Nat) (ih : Ex1) (ev : Operand → Option Value) (h : T AO) (n : Nat) (o : Oper) (k : Value → T AO → Nat → Bool) : Bool :=
  match o.op with
  | .call c => match c.callee with
    | .value f => match ev f, evs ev c.args.toList with
      | some (.func (.func g) ⟨first⟩ ⟨captured⟩), some args => enterK P G ih g (first ++ args ++ captured) h n k
      | _, _ => false
    | .invoke r name => match ev r, evs ev c.args.toList with
      | some (.iface t v), some args => match methodA P h t v name with
        | some (g, u) => enterK P G ih g (u :: args) h n k
        | none => false
      | _, _ => false
    | _ => false
  | .panic x => match ev x with
    | some (.iface t v) => k (pan (.iface t v)) h n
    | _ => false
  | _ => false

theorem callK_sound {G : Nat} {ih : Ex1} (hih : Sound P G ih) (hG : GR m G) (hr : HR B w0 m h X n w) {ev : Operand → Option Value} {a : Act} (he : EvR m ev a.eval) {o : Oper} {k : Value → T AO → Nat → Bool} (hk : callK P G ih ev h n o k = true) : OpWp P B w0 X m o a w k := by
  intro next Q hn hq
  obtain ⟨dst, op, ty, pos, after, guard⟩ := o
  unfold callK at hk
  cases op <;> simp only [] at hk
  case panic x =>
    split at hk
    · rename_i t v hx
      obtain ⟨v', hve, hvr⟩ := (he _ _ hx).inv_iface
      unfold Oper.wp
      have : (execOp a.eval { dst := dst, op := .panic x, type := ty, pos := pos, after := after, guard := guard }).run P w = .halt (.panic (.iface t v')) w := by
        simp only [execOp]
        rw [hve]; rfl
      rw [this]
      exact hq _ _ m h n w m.le_refl ⟨_, [], .iface t v v' hvr, rfl, by simp⟩ hr hk
    · cases hk
  case call c =>
    have fin : ∀ {g : FuncId} {args args' : List Value}, (do let d ← resolve a.eval c ty; invoke d.target d.args : Sem Next).run P w = (callFunc g ⟨args'⟩).run P w → VRs m args args' → enterK P G ih g args h n k = true →
        Oper.wp P { dst := dst, op := .call c, type := ty, pos := pos, after := after, guard := guard } a w next Q := fun {g args args'} hrun hargs hk => by
      unfold Oper.wp
      simp only [execOp]
      rw [hrun]
      rcases enterK_sound hih hG hr hk hargs (fun v w => next (a.put dst v) w) (fun ch w => Q (.panic ch) a w) hn hq with ⟨v', w', h1, h2⟩ | ⟨h1, h2⟩
      · rw [h1]; exact h2
      · rw [h1]
        refine Calls.mono h2 fun e w'' hR => ?_
        cases e with
        | returned v => exact hR
        | panicked ch => exact hR
        | outgrown => exact hR.elim
    split at hk
    · rename_i f hc
      split at hk
      · rename_i g first captured args hf hargs
        obtain ⟨r, s, hfe, h1, h2, _⟩ := (he _ _ hf).inv_func
        refine fin ?_ ((h1.append (evs_sound he hargs)).append h2) hk
        have : (resolve a.eval c ty) = Pure.pure { target := .fn (.func g) ⟨s⟩, args := (⟨r⟩ : Array Value) ++ c.args.map a.eval } := by
          unfold resolve; rw [hc]; show Deferred.ofValue (a.eval f) (c.args.map a.eval) = _; rw [hfe]; rfl
        rw [this, pure_bind]
        show (callFunc g _).run P w = _
        congr 2
        apply Array.ext'
        simp
      · cases hk
    · rename_i rv name hc
      split at hk
      · rename_i t v args hrv hargs
        split at hk
        · rename_i g u hm
          obtain ⟨v', hve, hvr⟩ := (he _ _ hrv).inv_iface
          obtain ⟨u', hur, hmr⟩ := methodA_sound hr hm hvr (P.types.size + Made.depth - 1)
          refine fin (args' := u' :: c.args.toList.map a.eval) ?_ (.cons hur (evs_sound he hargs)) hk
          have : (resolve a.eval c ty) = Pure.pure { target := .fn (.method name) #[], args := #[.iface t v'] ++ c.args.map a.eval } := by
            unfold resolve; rw [hc]; show (Pure.pure { target := .fn (.method name) #[], args := #[a.eval rv] ++ c.args.map a.eval } : Sem Deferred) = _; rw [hve]
          rw [this, pure_bind]
          have hfu : P.types.size + Made.depth = (P.types.size + Made.depth - 1) + 1 := by
            have : 0 < Made.depth := by decide
            omega
          have hget : (#[Value.iface t v'] ++ c.args.map a.eval)[0]? = some (.iface t v') := by
            rw [Array.getElem?_append_left (by simp)]; rfl
          simp only [invoke, hget, callMethod, Sem.run_bind, program, Sem.run, Result.andThen_ok]
          rw [hfu, hmr]
          simp only [Result.andThen_ok]
          congr 2
          apply Array.ext'
          simp [List.take_of_length_le]
        · cases hk
      · cases hk
    · cases hk
  all_goals cases hk

def opX (P : Program) [Intr P] (G : Nat) (ih : Ex1) (h : T AO) (n : Nat) (ev : Operand → Option Value) (o : Oper) (k : Value → T AO → Nat → Bool) : Bool :=
  sel (Nat.beq (opClass o.op) 4) (callK P G ih ev h n o k) (opBase P h n ev o k)

theorem opX_sound {G : Nat} {ih : Ex1} (hih : Sound P G ih) (hG : GR m G) (hr : HR B w0 m h X n w) {ev : Operand → Option Value} {a : Act} (he : EvR m ev a.eval) {o : Oper} {k : Value → T AO → Nat → Bool} (hk : opX P G ih h n ev o k = true) : OpWp P B w0 X m o a w k := by
  unfold opX at hk
  cases hc : Nat.beq (opClass o.op) 4
  · rw [hc] at hk; exact opBase_sound hr he hk
  · rw [hc] at hk; exact callK_sound hih hG hr he hk

end
end
end Go.Ex

/- Regions in the text's order; code. -/
namespace Go.Ex
noncomputable section

variable {P : Program} [Intr P] {m : Mp} {B : Bd} {w0 w w' : World} {n : Nat} {h : T AO} {X : Nat → Option AO}

def runL (P : Program) [Intr P] (G : Nat) (ih : Ex1) (ops : List Oper) (z : Nat) (l : List Oper) : T Value → T AO → Nat → Kt → Bool :=
  List.rec (motive := fun _ => T Value → T AO → Nat → Kt → Bool) (fun t h n k => k .normal t h n)
    (fun o _ rest t h n k => match wantedA ops t.get o with
      | some b => sel b (opX P G ih h n (evF G t.get) o fun v h n => match unpan v with
          | some u => k (.panic u) t h n
          | none => putK z t o.dst v fun t => rest t h n k) (putK z t o.dst undefA fun t => rest t h n k)
      | none => false) l
theorem runL_cons (G : Nat) (ih : Ex1) (ops : List Oper) (z : Nat) (o : Oper) (l : List Oper) (t : T Value) (h : T AO) (n : Nat) (k : Kt) :
    runL P G ih ops z (o :: l) t h n k = (match wantedA ops t.get o with
      | some b => sel b (opX P G ih h n (evF G t.get) o fun v h n => match unpan v with
          | some u => k (.panic u) t h n
          | none => putK z t o.dst v fun t => runL P G ih ops z l t h n k) (putK z t o.dst undefA fun t => runL P G ih ops z l t h n k)
      | none => false) := rfl

theorem runL_sound {G : Nat} {ih : Ex1} (hih : Sound P G ih) {ops : List Oper} {z : Nat} {D : List Deferred} {Q : Exit → Act → World → Prop} : ∀ {l : List Oper} {m : Mp} {t : T Value} {h : T AO} {n : Nat} {k : Kt} {a : Act} {w : World},
    runL P G ih ops z l t h n k = true → GR m G → TR m t.get z a → a.defers = D → HR B w0 m h X n w →
    (∀ m' x t' h' n' e a' w', m.le m' → XR m' x e → TR m' t'.get z a' → a'.defers = D → HR B w0 m' h' X n' w' → k x t' h' n' = true → Q e a' w') → wpList P ⟨ops⟩ Q l a w
  | [], m, t, h, n, k, a, w, hk, hG, ht, hd, hr, hn => hn m .normal t h n .normal a w m.le_refl .normal ht hd hr hk
  | o :: l, m, t, h, n, k, a, w, hk, hG, ht, hd, hr, hn => by
    rw [runL_cons] at hk
    unfold wpList
    split at hk
    · rename_i b hw
      rw [wantedA_spec hw ht]
      have hdef : ∀ v, (a.put o.dst v).defers = D := fun v => by cases o.dst <;> exact hd
      cases b
      · rw [sel_false] at hk
        rw [if_neg (by simp)]
        obtain ⟨t', ht', hk'⟩ := putK_sound (v' := undef) hk ht (.tuple' VRs.nil)
        exact runL_sound hih hk' hG ht' (hdef _) hr hn
      · rw [sel_true] at hk
        rw [if_pos rfl]
        refine .inl (opX_sound hih hG hr (evF_sound hG ht) hk _ _ (fun v v' m' h' n' w' hm hv hh hkk => ?_) fun v ch m' h' n' w' hm hp hh hkk => ?_)
        · simp only [hv.unpan] at hkk
          obtain ⟨t', ht', hk'⟩ := putK_sound hkk (ht.mono hm) hv
          exact runL_sound hih hk' (hG.mono hm) ht' (hdef _) hh fun m2 x t2 h2 n2 e a2 w2 hm2 => hn m2 x t2 h2 n2 e a2 w2 (Mp.le_trans hm hm2)
        · simp only [unpan_pan] at hkk
          exact hn m' (.panic v) t h' n' (.panic ch) a w' hm (.panic v ch hp) (ht.mono hm) hd hh hkk
    · cases hk

/-! ### Code -/
/-- How a drawn region is run: given. -/
abbrev Reg := Ex1 → List Oper → Nat → T Value → T AO → Nat → Kt → Bool

/-- Whatever goes on behind code, it is handed one end (or nothing). -/
def UniC (f : Kt → Bool) : Prop := (∀ k, f k = false) ∨ ∃ x t h n, ∀ k, f k = k x t h n
def Ex1.Uni (ih : Ex1) : Prop := ∀ c z t h n, UniC fun k => ih c z t h n k

def RegSound (P : Program) [Intr P] (G : Nat) (reg : Reg) : Prop :=
  ∀ (ih : Ex1), Sound P G ih → ih.Uni → ∀ (ops : List Oper) (z : Nat) (t : T Value) (h : T AO) (n : Nat) (k : Kt), reg ih ops z t h n k = true →
    ∀ (B : Bd) (w0 : World) (m : Mp) (X : Nat → Option AO) (D : List Deferred) (a : Act) (w : World) (Q : Exit → Act → World → Prop) (id : Nat), GR m G → TR m t.get z a → a.defers = D → HR B w0 m h X n w →
    (∀ m' x t' h' n' e a' w', m.le m' → XR m' x e → TR m' t'.get z a' → a'.defers = D → HR B w0 m' h' X n' w' → k x t' h' n' = true → Q e a' w') → (Code.region id ⟨ops⟩ true).wp P Q a w

def stepK (P : Program) [Intr P] (G : Nat) (reg : Reg) (ih : Ex1) (c : Code) (z : Nat) (t : T Value) (h : T AO) (n : Nat) (k : Kt) : Bool :=
  match c with
  | .skip => k .normal t h n
  | .region _ ⟨ops⟩ draw => sel draw (reg ih ops z t h n k) (runL P G ih ops z ops t h n k)
  | .seq a b => ih a z t h n fun x t h n => match x with
    | .normal => ih b z t h n k
    | x => k x t h n
  | .cond c a b => match evF G t.get c with
    | some (.bool true) => ih a z t h n k
    | some (.bool false) => ih b z t h n k
    | _ => false
  | .block id body => ih body z t h n fun x t h n => match x with
    | .exit j => sel (Nat.beq j id) (k .normal t h n) (k (.exit j) t h n)
    | x => k x t h n
  | .loop body => match mapLoop P G body z t h n k with
    | some b => b
    | none => ih body z t h n fun x t h n => match x with
      | .normal => ih (.loop body) z t h n k
      | x => k x t h n
  | .exit id => k (.exit id) t h n
  | .ret => k .ret t h n
  | _ => false

def exec (P : Program) [Intr P] (G : Nat) (reg : Reg) (fuel : Nat) : Ex1 :=
  Nat.rec (motive := fun _ => Ex1) (fun _ _ _ _ _ _ => false) (fun _ ih => stepK P G reg ih) fuel
theorem exec_succ (P : Program) [Intr P] (G : Nat) (reg : Reg) (f : Nat) : exec P G reg (f + 1) = stepK P G reg (exec P G reg f) := rfl

theorem Post.weaken {m m' : Mp} (hm : m.le m') {z : Nat} {k : Kt} {e : Exit} {a : Act} {w : World} {D : List Deferred} (hp : Post B w0 X m' z D k e a w) : Post B w0 X m z D k e a w := by
  obtain ⟨m2, x, t, h, n, h1, h2⟩ := hp
  exact ⟨m2, x, t, h, n, Mp.le_trans hm h1, h2⟩

theorem exec_sound {G : Nat} {reg : Reg} (hreg : RegSound P G reg) (hU : ∀ f, Ex1.Uni (exec P G reg f)) : ∀ f, Sound P G (exec P G reg f) ∧
    (∀ (body : Code) (z : Nat) (t : T Value) (h : T AO) (n : Nat) (k : Kt), exec P G reg f (.loop body) z t h n k = true → ∀ (B : Bd) (w0 : World) (m : Mp) (X : Nat → Option AO) (D : List Deferred) (a : Act) (w : World),
      GR m G → TR m t.get z a → a.defers = D → HR B w0 m h X n w → LoopW P body (Post B w0 X m z D k) a w) := by
  intro f
  induction f with
  | zero => exact ⟨fun c z t h n k hk => (by cases hk), fun body z t h n k hk => (by cases hk)⟩
  | succ f ih =>
    obtain ⟨ihS, ihR⟩ := ih
    have hround : ∀ (body : Code) (z : Nat) (t : T Value) (h : T AO) (n : Nat) (k : Kt), exec P G reg (f + 1) (.loop body) z t h n k = true → ∀ (B : Bd) (w0 : World) (m : Mp) (X : Nat → Option AO) (D : List Deferred) (a : Act) (w : World),
        GR m G → TR m t.get z a → a.defers = D → HR B w0 m h X n w → LoopW P body (Post B w0 X m z D k) a w := by
      intro body z t h n k hk B w0 m X D a w hG ht hd hr
      rw [exec_succ] at hk
      unfold stepK at hk
      simp only [] at hk
      split at hk
      · rename_i b hb
        subst hk
        exact mapLoop_sound hG hb ht hd hr
      refine LoopW.round (Code.wp_mono (fun e a' w' hp => ?_) (ihS body z t h n _ hk B w0 m X D a w hG ht hd hr))
      obtain ⟨m', x, t', h', n', hm, hx, ht', hd', hh', hkk⟩ := hp
      cases hx with
      | normal => exact LoopW.mono (fun e a w hp => Post.weaken hm hp) (ihR body z t' h' n' k hkk B w0 m' X D a' w' (hG.mono hm) ht' hd' hh')
      | exit id => exact ⟨m', .exit id, t', h', n', hm, .exit id, ht', hd', hh', hkk⟩
      | ret => exact ⟨m', .ret, t', h', n', hm, .ret, ht', hd', hh', hkk⟩
      | panic v ch hp => exact ⟨m', .panic v, t', h', n', hm, .panic v ch hp, ht', hd', hh', hkk⟩
    refine ⟨fun c z t h n k hk B w0 m X D a w hG ht hd hr => ?_, hround⟩
    rw [exec_succ] at hk
    cases c with
    | skip => exact wp_skip ⟨m, .normal, t, h, n, m.le_refl, .normal, ht, hd, hr, hk⟩
    | region id ops draw =>
      obtain ⟨ops⟩ := ops
      cases draw with
      | false =>
        refine wp_region_list ?_
        exact runL_sound ihS hk hG ht hd hr fun m' x t' h' n' e a' w' hm hx ht' hd' hh' hkk => ⟨m', x, t', h', n', hm, hx, ht', hd', hh', hkk⟩
      | true =>
        exact hreg _ ihS (hU f) ops z t h n _ hk B w0 m X D a w _ id hG ht hd hr fun m' x t' h' n' e a' w' hm hx ht' hd' hh' hkk => ⟨m', x, t', h', n', hm, hx, ht', hd', hh', hkk⟩
    | seq c1 c2 =>
      refine wp_seq (Code.wp_mono (fun e a' w' hp => ?_) (ihS c1 z t h n _ hk B w0 m X D a w hG ht hd hr))
      obtain ⟨m', x, t', h', n', hm, hx, ht', hd', hh', hkk⟩ := hp
      cases hx with
      | normal => exact Code.wp_mono (fun e a w hp => Post.weaken hm hp) (ihS c2 z t' h' n' k hkk B w0 m' X D a' w' (hG.mono hm) ht' hd' hh')
      | exit id => exact ⟨m', .exit id, t', h', n', hm, .exit id, ht', hd', hh', hkk⟩
      | ret => exact ⟨m', .ret, t', h', n', hm, .ret, ht', hd', hh', hkk⟩
      | panic v ch hp => exact ⟨m', .panic v, t', h', n', hm, .panic v ch hp, ht', hd', hh', hkk⟩
    | cond c c1 c2 =>
      unfold stepK at hk
      simp only [] at hk
      split at hk
      · rename_i hc
        have := (evF_sound hG ht _ _ hc).inv_bool
        exact wp_cond_true this (ihS c1 z t h n k hk B w0 m X D a w hG ht hd hr)
      · rename_i hc
        have := (evF_sound hG ht _ _ hc).inv_bool
        exact wp_cond_false this (ihS c2 z t h n k hk B w0 m X D a w hG ht hd hr)
      · cases hk
    | block id body =>
      refine wp_block (Code.wp_mono (fun e a' w' hp => ?_) (ihS body z t h n _ hk B w0 m X D a w hG ht hd hr))
      obtain ⟨m', x, t', h', n', hm, hx, ht', hd', hh', hkk⟩ := hp
      cases hx with
      | normal => exact ⟨m', .normal, t', h', n', hm, .normal, ht', hd', hh', hkk⟩
      | exit j =>
        by_cases hj : j = id
        · have hkk' : k .normal t' h' n' = true := by
            have : (sel (Nat.beq j id) (k .normal t' h' n') (k (.exit j) t' h' n')) = true := hkk
            rwa [beq_true hj, sel_true] at this
          show (if j = id then _ else _)
          rw [if_pos hj]
          exact ⟨m', .normal, t', h', n', hm, .normal, ht', hd', hh', hkk'⟩
        · have hkk' : k (.exit j) t' h' n' = true := by
            have : (sel (Nat.beq j id) (k .normal t' h' n') (k (.exit j) t' h' n')) = true := hkk
            rwa [beq_false hj, sel_false] at this
          show (if j = id then _ else _)
          rw [if_neg hj]
          exact ⟨m', .exit j, t', h', n', hm, .exit j, ht', hd', hh', hkk'⟩
      | ret => exact ⟨m', .ret, t', h', n', hm, .ret, ht', hd', hh', hkk⟩
      | panic v ch hp => exact ⟨m', .panic v, t', h', n', hm, .panic v ch hp, ht', hd', hh', hkk⟩
    | loop body => exact (hround body z t h n k hk B w0 m X D a w hG ht hd hr).wp
    | exit id => exact wp_exit ⟨m, .exit id, t, h, n, m.le_refl, .exit id, ht, hd, hr, hk⟩
    | ret => exact wp_ret ⟨m, .ret, t, h, n, m.le_refl, .ret, ht, hd, hr, hk⟩
    | _ => cases hk

end
end Go.Ex

/- Regions that draw their order: what depends on the operands alone; one way of each operation. -/
namespace Go.Ex
noncomputable section

variable {P : Program}
section
variable [Intr P]

/-! ### Operands that agree -/
theorem evs_congr {ev ev' : Operand → Option Value} : ∀ {l : List Operand}, (∀ x ∈ l, ev x = ev' x) → evs ev l = evs ev' l
  | [], _ => rfl
  | x :: l, h => by
    simp only [evs, h x (by simp), evs_congr (l := l) fun y hy => h y (by simp [hy])]
theorem evps_congr {ev ev' : Operand → Option Value} : ∀ {l : List (Nat × Operand)}, (∀ x ∈ l, ev x.2 = ev' x.2) → evps ev l = evps ev' l
  | [], _ => rfl
  | x :: l, h => by
    simp only [evps, h x (by simp), evps_congr (l := l) fun y hy => h y (by simp [hy])]
theorem evo_congr {ev ev' : Operand → Option Value} {x : Option Operand} (h : ∀ y ∈ x, ev y = ev' y) : evo ev x = evo ev' x := by
  cases x with
  | none => rfl
  | some x => simp only [evo, h x rfl]

end
theorem pureV_congr {ev ev' : Operand → Option Value} {o : Oper} (h : ∀ x ∈ o.op.operands, ev x = ev' x) : pureV P ev o = pureV P ev' o := by
  obtain ⟨dst, op, ty, pos, after, guard⟩ := o
  cases op <;> simp only [Op.operands] at h <;> simp only [pureV]
  case build t ps => rw [evps_congr (ev := ev) (ev' := ev') fun x hx => h x.2 (by simp; exact ⟨x.1, by simpa using hx⟩)]
  case makeFunc fn f c => rw [evs_congr (ev := ev) (ev' := ev') (l := f.toList) fun x hx => h x (by simp; exact .inl (by simpa using hx)), evs_congr (ev := ev) (ev' := ev') (l := c.toList) fun x hx => h x (by simp; exact .inr (by simpa using hx))]
  case slice t x lo hi mx =>
    rw [h x (by simp), evo_congr (ev := ev) (ev' := ev') (x := lo) fun y hy => h y (by cases hy; simp), evo_congr (ev := ev) (ev' := ev') (x := hi) fun y hy => h y (by cases hy; simp), evo_congr (ev := ev) (ev' := ev') (x := mx) fun y hy => h y (by cases hy; simp)]
  case call c =>
    have ha : ∀ x ∈ c.args.toList, ev x = ev' x := fun x hx => h x (by simp [Call.operands]; exact .inr (by simpa using hx))
    rw [evs_congr ha]
    split
    · split
      · rename_i t x ht hx; rw [ha x (by rw [hx]; simp)]
      · rfl
    · split
      · rename_i t x ht hx; rw [ha x (by rw [hx]; simp)]
      · rfl
    · rfl
    · rfl
    · rfl
  all_goals first
    | rfl
    | (simp only [List.mem_toArray, List.mem_cons, List.not_mem_nil, or_false, forall_eq_or_imp, forall_eq] at h; simp only [h])

theorem readV_congr {h : T AO} {ev ev' : Operand → Option Value} {o : Oper} (he : ∀ x ∈ o.op.operands, ev x = ev' x) : readV P h ev o = readV P h ev' o := by
  obtain ⟨dst, op, ty, pos, after, guard⟩ := o
  cases op <;> simp only [Op.operands] at he <;> simp only [readV]
  case slice t x lo hi mx =>
    rw [he x (by simp), evo_congr (ev := ev) (ev' := ev') (x := lo) fun y hy => he y (by cases hy; simp), evo_congr (ev := ev) (ev' := ev') (x := hi) fun y hy => he y (by cases hy; simp), evo_congr (ev := ev) (ev' := ev') (x := mx) fun y hy => he y (by cases hy; simp)]
  case call c =>
    have ha : ∀ x ∈ c.args.toList, ev x = ev' x := fun x hx => he x (by simp [Call.operands]; exact .inr (by simpa using hx))
    split
    · split
      · rename_i t x ht hx; rw [ha x (by rw [hx]; simp)]
      · rfl
    · split
      · rename_i t x ht hx; rw [ha x (by rw [hx]; simp)]
      · rfl
    · rfl
  all_goals first
    | rfl
    | (simp only [List.mem_toArray, List.mem_cons, List.not_mem_nil, or_false, forall_eq_or_imp, forall_eq] at he; simp only [he])

theorem allocV_congr {ev ev' : Operand → Option Value} {o : Oper} (he : ∀ x ∈ o.op.operands, ev x = ev' x) : allocV P ev o = allocV P ev' o := by
  obtain ⟨dst, op, ty, pos, after, guard⟩ := o
  cases op <;> simp only [Op.operands] at he <;> simp only [allocV]
  case buildSlice t n ps => rw [evps_congr (ev := ev) (ev' := ev') fun x hx => he x.2 (by simp; exact ⟨x.1, by simpa using hx⟩)]
  case makeMap t r => cases r <;> rfl
  all_goals first
    | rfl
    | (simp only [List.mem_toArray, List.mem_cons, List.not_mem_nil, or_false, forall_eq_or_imp, forall_eq] at he; simp only [he])

theorem effK_congr {h : T AO} {n : Nat} {ev ev' : Operand → Option Value} {o : Oper} {k : Value → T AO → Nat → Bool} (he : ∀ x ∈ o.op.operands, ev x = ev' x) : effK P h n ev o k = effK P h n ev' o k := by
  obtain ⟨dst, op, ty, pos, after, guard⟩ := o
  cases op <;> simp only [Op.operands] at he <;> simp only [effK]
  case call c =>
    have ha : ∀ x ∈ c.args.toList, ev x = ev' x := fun x hx => he x (by simp [Call.operands]; exact .inr (by simpa using hx))
    split
    · split
      · rename_i s x ht hx; rw [ha s (by rw [hx]; simp), ha x (by rw [hx]; simp)]
      · rfl
    · split
      · rename_i s x ht hx; rw [ha s (by rw [hx]; simp), ha x (by rw [hx]; simp)]
      · rfl
    · split
      · rename_i s x ht hx; rw [ha s (by rw [hx]; simp), ha x (by rw [hx]; simp)]
      · rfl
    · split
      · rename_i t x ht hx; rw [ha x (by rw [hx]; simp)]
      · rfl
    · rfl
  all_goals first
    | rfl
    | (simp only [List.mem_toArray, List.mem_cons, List.not_mem_nil, or_false, forall_eq_or_imp, forall_eq] at he; simp only [he])

theorem bytesK_congr {h : T AO} {n : Nat} {ev ev' : Operand → Option Value} {o : Oper} {k : Value → T AO → Nat → Bool} (he : ∀ x ∈ o.op.operands, ev x = ev' x) : bytesK P h n ev o k = bytesK P h n ev' o k := by
  obtain ⟨dst, op, ty, pos, after, guard⟩ := o
  cases op <;> simp only [Op.operands] at he <;> simp only [bytesK]
  case convert src dst x => rw [he x (by simp)]

section
variable [Intr P]
theorem callK_congr {G : Nat} {ih : Ex1} {h : T AO} {n : Nat} {ev ev' : Operand → Option Value} {o : Oper} {k : Value → T AO → Nat → Bool} (he : ∀ x ∈ o.op.operands, ev x = ev' x) : callK P G ih ev h n o k = callK P G ih ev' h n o k := by
  obtain ⟨dst, op, ty, pos, after, guard⟩ := o
  cases op <;> simp only [Op.operands] at he <;> simp only [callK]
  case call c =>
    have ha : evs ev c.args.toList = evs ev' c.args.toList := evs_congr fun x hx => he x (by simp [Call.operands]; exact .inr (by simpa using hx))
    rw [ha]
    split
    · rename_i f hc; rw [he f (by simp [Call.operands, hc])]
    · rename_i r name hc; rw [he r (by simp [Call.operands, hc])]
    · rfl
  case panic x => rw [he x (by simp)]

theorem opX_congr {G : Nat} {ih : Ex1} {h : T AO} {n : Nat} {ev ev' : Operand → Option Value} {o : Oper} {k : Value → T AO → Nat → Bool} (he : ∀ x ∈ o.op.operands, ev x = ev' x) : opX P G ih h n ev o k = opX P G ih h n ev' o k := by
  unfold opX opBase valK readK allocK
  rw [callK_congr he, effK_congr he, pureV_congr he, readV_congr he, allocV_congr he, bytesK_congr he]

/-! ### One way -/
/-- Whatever goes on behind it, it is handed one thing (or nothing). -/
def Uni (f : (Value → T AO → Nat → Bool) → Bool) : Prop := (∀ k, f k = false) ∨ ∃ v h n, ∀ k, f k = k v h n
theorem Uni.no : Uni fun _ => false := .inl fun _ => rfl
theorem Uni.one (v : Value) (h : T AO) (n : Nat) : Uni fun k => k v h n := .inr ⟨v, h, n, fun _ => rfl⟩
theorem Uni.sel {f g : (Value → T AO → Nat → Bool) → Bool} (b : Bool) (hf : Uni f) (hg : Uni g) : Uni fun k => Ex.sel b (f k) (g k) := by
  cases b
  · exact hg
  · exact hf

end
theorem storeK_uni (h : T AO) (n : Nat) (t : TypeId) (a v : Value) : Uni fun k => storeK P h n t a v k := by
  unfold storeK
  simp only [forceL_eq, T.setK_eq]
  split
  · split
    · split
      · exact .sel _ (.one _ _ _) .no
      · exact .no
    · exact .no
  · exact .no
theorem mapUpdateK_uni (h : T AO) (n : Nat) (t : TypeId) (x i v : Value) : Uni fun k => mapUpdateK P h n t x i v k := by
  unfold mapUpdateK mapUpdateK0
  simp only [forceL_eq, forceN_eq, T.setK_eq]
  repeat' split
  all_goals first | exact .no | exact .one _ _ _ | exact .sel _ (.one _ _ _) .no
theorem deleteK_uni (h : T AO) (n : Nat) (t : TypeId) (x i : Value) : Uni fun k => deleteK P h n t x i k := by
  unfold deleteK
  simp only [forceL_eq, T.setK_eq]
  repeat' split
  all_goals first | exact .no | exact .one _ _ _
section
variable [Intr P]
theorem inPlaceK_uni (h : T AO) (n b o at_ : Nat) (news : List Value) (v : Value) : Uni fun k => inPlaceK h n b o at_ news v k := by
  unfold inPlaceK
  simp only [forceL_eq, T.setK_eq]
  split
  · exact .sel _ (.one _ _ _) .no
  · exact .no
theorem growK_uni (h : T AO) (n e esz need bytes : Nat) (c : List Value) : Uni fun k => growK h n e esz need bytes c k := by
  unfold growK
  simp only [forceL_eq, forceN_eq, T.setK_eq]
  exact .sel _ (.one _ _ _) .no
theorem retargetK_uni (h : T AO) (n b e esz need : Nat) (c : List Value) : Uni fun k => retargetK h n b e esz need c k := by
  unfold retargetK
  simp only [forceL_eq, forceN_eq, T.setK_eq]
  exact .one _ _ _
end
theorem appendK_uni (h : T AO) (n : Nat) (sT xT : TypeId) (s x : Value) : Uni fun k => appendK P h n sT xT s x k := by
  unfold appendK
  simp only [forceN_eq]
  split
  · split
    · refine .sel _ ?_ .no
      split
      · split
        · refine .sel _ ?_ .no
          split
          · exact growK_uni ..
          · exact .no
        · exact .no
      · split
        · exact .no
        · split
          · exact .no
          · split
            · exact .sel _ (.one _ _ _) (.sel _ (growK_uni ..) .no)
            · refine .sel _ (.sel _ (.sel _ (.one _ _ _) .no) (.one _ _ _)) (.sel _ (.sel _ (.sel _ (inPlaceK_uni ..) ?_) (.sel _ ?_ .no)) .no)
              · split
                · exact growK_uni ..
                · exact .no
              · split
                · exact .sel _ (inPlaceK_uni ..) (.sel _ (retargetK_uni ..) .no)
                · exact .no
            · exact .no
    · exact .no
  · exact .no
theorem copyK_uni (h : T AO) (n : Nat) (dT : TypeId) (d x : Value) : Uni fun k => copyK P h n dT d x k := by
  unfold copyK
  simp only [forceN_eq]
  split
  · split
    · split
      · split
        · split
          · exact .one _ _ _
          · exact .sel _ (.one _ _ _) (.sel _ (inPlaceK_uni ..) .no)
          · exact .no
        · exact .no
      · exact .no
    · exact .no
  · exact .no
theorem clearK_uni (h : T AO) (n : Nat) (t : TypeId) (x : Value) : Uni fun k => clearK P h n t x k := by
  unfold clearK
  simp only [T.setK_eq]
  split
  · split
    · refine .sel _ ?_ .no
      split
      · exact .one _ _ _
      · exact .sel _ (.one _ _ _) (.sel _ (inPlaceK_uni ..) .no)
      · exact .no
    · exact .no
  · split
    · exact .one _ _ _
    · split
      · exact .one _ _ _
      · exact .no
    · exact .no
  · exact .no
theorem rangeK_uni (h : T AO) (n : Nat) (t : TypeId) (x : Value) : Uni fun k => rangeK P h n t x k := by
  unfold rangeK
  simp only [forceN_eq, T.setK_eq]
  repeat' split
  all_goals first | exact .no | exact .one _ _ _
theorem nextK_uni (h : T AO) (n : Nat) (it : Value) (s : Bool) : Uni fun k => nextK h n it s k := by
  unfold nextK
  simp only [forceL_eq, T.setK_eq]
  split
  · split
    · exact .one _ _ _
    · split
      · refine .sel _ .no ?_
        split
        · exact .one _ _ _
        · exact .one _ _ _
        · exact .no
      · exact .no
    · exact .no
  · exact .no
theorem effK_uni (h : T AO) (n : Nat) (ev : Operand → Option Value) (o : Oper) : Uni fun k => effK P h n ev o k := by
  unfold effK
  repeat' split
  all_goals first
    | exact .no
    | exact storeK_uni ..
    | exact mapUpdateK_uni ..
    | exact appendK_uni ..
    | exact copyK_uni ..
    | exact deleteK_uni ..
    | exact clearK_uni ..
    | exact rangeK_uni ..
    | exact nextK_uni ..
theorem bytesK_uni (h : T AO) (n : Nat) (ev : Operand → Option Value) (o : Oper) : Uni fun k => bytesK P h n ev o k := by
  unfold bytesK
  simp only [forceL_eq, forceN_eq, T.setK_eq]
  repeat' split
  all_goals first
    | exact .no
    | exact .one _ _ _
theorem opBase_uni (h : T AO) (n : Nat) (ev : Operand → Option Value) (o : Oper) : Uni fun k => opBase P h n ev o k := by
  unfold opBase valK readK allocK
  simp only [forceV_eq, forceAO_eq, forceN_eq, T.setK_eq]
  split
  · split
    · exact .one _ _ _
    · split
      · exact .one _ _ _
      · exact bytesK_uni ..
  · split
    · exact .one _ _ _
    · exact .no
  · split
    · exact .one _ _ _
    · exact .no
  · exact effK_uni ..

theorem mapLoop_uni {G : Nat} (body : Code) (z : Nat) (t : T Value) (h : T AO) (n : Nat) : (∀ k, mapLoop P G body z t h n k = some false) ∨ (∀ k, mapLoop P G body z t h n k = none) ∨ ∃ x t' h' n', ∀ k, mapLoop P G body z t h n k = some (k x t' h' n') := by
  unfold mapLoop
  split
  · exact .inr (.inl fun _ => rfl)
  split
  case h_2 => exact .inr (.inl fun _ => rfl)
  split
  case h_2 => exact .inr (.inl fun _ => rfl)
  split
  case h_2 => exact .inr (.inl fun _ => rfl)
  simp only [killLK_eq, T.setK_eq]
  generalize (Nat.blt 1 _ && _ && _ && _ && _ && _ && _ && _) = c
  cases c
  · exact .inr (.inl fun _ => rfl)
  · simp only [sel_true]
    generalize roAll P G _ _ _ _ _ _ _ _ _ _ = d
    cases d
    · exact .inl fun _ => rfl
    · exact .inr (.inr ⟨_, _, _, _, fun _ => rfl⟩)

/-- A drawn region, too. -/
def UniT (f : (T Value → T AO → Nat → Bool) → Bool) : Prop := (∀ k, f k = false) ∨ ∃ t h n, ∀ k, f k = k t h n
def Reg.Uni (reg : Reg) : Prop := ∀ ih : Ex1, ih.Uni → ∀ ops z t h n, UniC fun k => reg ih ops z t h n k

theorem putK_uni (z : Nat) (t : T Value) (dst : Option Tmp) (v : Value) : (∀ k, putK z t dst v k = false) ∨ ∃ t', ∀ k, putK z t dst v k = k t' := by
  unfold putK
  simp only [T.setK_eq]
  cases unpan v with
  | some u => exact .inl fun _ => rfl
  | none =>
  cases dst with
  | none => exact .inr ⟨t, fun _ => rfl⟩
  | some d =>
    simp only []
    cases Nat.blt d z
    · exact .inl fun _ => rfl
    · exact .inr ⟨_, fun _ => rfl⟩

theorem thenP {f : (T Value → Bool) → Bool} {g : T Value → (T Value → T AO → Nat → Bool) → Bool} (hf : (∀ k, f k = false) ∨ ∃ t', ∀ k, f k = k t') (hg : ∀ t, UniT (g t)) : UniT fun k => f fun t => g t k := by
  rcases hf with hf | ⟨t', hf⟩
  · exact .inl fun k => hf _
  · rcases hg t' with h1 | ⟨t2, h2, n2, h1⟩
    · exact .inl fun k => (hf _).trans (h1 k)
    · exact .inr ⟨t2, h2, n2, fun k => (hf _).trans (h1 k)⟩
theorem thenX {f : (Value → T AO → Nat → Bool) → Bool} {g : Value → T AO → Nat → (T Value → T AO → Nat → Bool) → Bool} (hf : Uni f) (hg : ∀ v h n, UniT (g v h n)) : UniT fun k => f fun v h n => g v h n k := by
  rcases hf with hf | ⟨v, h, n, hf⟩
  · exact .inl fun k => hf _
  · rcases hg v h n with h1 | ⟨t2, h2, n2, h1⟩
    · exact .inl fun k => (hf _).trans (h1 k)
    · exact .inr ⟨t2, h2, n2, fun k => (hf _).trans (h1 k)⟩


theorem runB_uni (G : Nat) (ops : List Oper) (z : Nat) : ∀ (l : List Oper) (t : T Value) (h : T AO) (n : Nat), UniT fun k => runB P G ops z l t h n k
  | [], t, h, n => .inr ⟨t, h, n, fun _ => rfl⟩
  | o :: l, t, h, n => by
    simp only [runB_cons]
    cases wantedA ops t.get o with
    | none => exact .inl fun _ => rfl
    | some b =>
      cases b with
      | false => exact thenP (putK_uni z t o.dst undefA) fun t => runB_uni G ops z l t h n
      | true => exact thenX (opBase_uni h n _ o) fun v h n => thenP (putK_uni z t o.dst v) fun t => runB_uni G ops z l t h n

def UniS (f : Ks → Bool) : Prop := (∀ k, f k = false) ∨ ∃ x t h n u, ∀ k, f k = k x t h n u
def UniD (f : Kd → Bool) : Prop := (∀ k, f k = false) ∨ ∃ x t h n d, ∀ k, f k = k x t h n d
theorem execS_uni {G : Nat} {ih : Ex1} (hih : ih.Uni) : ∀ (c : Code) (z : Nat) (t : T Value) (h : T AO) (n : Nat) (u : U1), UniS fun k => execS P G ih c z t h n u k := by
  have other : ∀ (c : Code) (z : Nat) (t : T Value) (h : T AO) (n : Nat) (u : U1), UniS fun k => ih c z t h n fun x t h n => k x t h n u := fun c z t h n u => by
    rcases hih c z t h n with h1 | ⟨x, t, h, n, h1⟩
    · exact .inl fun k => h1 _
    · exact .inr ⟨x, t, h, n, u, fun k => h1 _⟩
  intro c
  induction c with
  | seq a b iha ihb =>
    intro z t h n u
    simp only [execS_seq]
    rcases iha z t h n u with h1 | ⟨x, t', h', n', u', h1⟩
    · exact .inl fun k => h1 _
    · simp only [h1]
      cases x with
      | normal => exact ihb z t' h' n' u'
      | exit id => exact .inr ⟨.exit id, t', h', n', u', fun _ => rfl⟩
      | ret => exact .inr ⟨.ret, t', h', n', u', fun _ => rfl⟩
      | panic v => exact .inr ⟨.panic v, t', h', n', u', fun _ => rfl⟩
  | region id ops draw =>
    intro z t h n u
    obtain ⟨ops⟩ := ops
    cases draw with
    | true => simp only [execS_region]; cases ops <;> exact other ..
    | false =>
      cases ops with
      | nil => exact other ..
      | cons o rest =>
        simp only [execS_region, sRegS]
        cases isRec o
        · exact other ..
        · simp only [sel_true]
          unfold sRec
          rcases thenP (g := fun t k => runB P G (o :: rest) z rest t h n k) (putK_uni z t o.dst (recV u).1) (fun t => runB_uni G (o :: rest) z rest t h n) with h1 | ⟨t', h', n', h1⟩
          · exact .inl fun k => h1 _
          · exact .inr ⟨.normal, t', h', n', (recV u).2, fun k => h1 _⟩
  | _ => exact fun z t h n u => other ..

theorem execD_uni {G : Nat} {ih : Ex1} (hih : ih.Uni) : ∀ (c : Code) (z : Nat) (t : T Value) (h : T AO) (n : Nat) (d : Option Value), UniD fun k => execD P G ih c z t h n d k := by
  have other : ∀ (c : Code) (z : Nat) (t : T Value) (h : T AO) (n : Nat) (u : Option Value), UniD fun k => ih c z t h n fun x t h n => k x t h n u := fun c z t h n u => by
    rcases hih c z t h n with h1 | ⟨x, t, h, n, h1⟩
    · exact .inl fun k => h1 _
    · exact .inr ⟨x, t, h, n, u, fun k => h1 _⟩
  intro c
  induction c with
  | seq a b iha ihb =>
    intro z t h n u
    simp only [execD_seq]
    rcases iha z t h n u with h1 | ⟨x, t', h', n', u', h1⟩
    · exact .inl fun k => h1 _
    · simp only [h1]
      cases x with
      | normal => exact ihb z t' h' n' u'
      | exit id => exact .inr ⟨.exit id, t', h', n', u', fun _ => rfl⟩
      | ret => exact .inr ⟨.ret, t', h', n', u', fun _ => rfl⟩
      | panic v => exact .inr ⟨.panic v, t', h', n', u', fun _ => rfl⟩
  | region id ops draw =>
    intro z t h n u
    obtain ⟨ops⟩ := ops
    cases draw with
    | true => simp only [execD_region, sRegD]; exact other ..
    | false =>
      simp only [execD_region, sRegD]
      cases dfrOf ops with
      | none => exact other ..
      | some p =>
        obtain ⟨l, f, as⟩ := p
        cases u with
        | some v => exact .inl fun _ => rfl
        | none =>
          simp only []
          unfold sDfr
          rcases runB_uni (P := P) G ops z l t h n with h1 | ⟨t', h', n', h1⟩
          · exact .inl fun k => h1 _
          · simp only [h1]
            split
            · exact .inr ⟨_, _, _, _, _, fun _ => rfl⟩
            · exact .inl fun _ => rfl
  | _ => exact fun z t h n u => other ..

theorem leaveK_uni {G : Nat} {ih : Ex1} (hih : ih.Uni) (d : Option Value) (u : U1) (h : T AO) (n : Nat) : (∀ k, leaveK P G ih d u h n k = false) ∨ ∃ u' h' n', ∀ k, leaveK P G ih d u h n k = k u' h' n' := by
  unfold leaveK
  simp only [argsT_eq]
  split
  · exact .inr ⟨_, _, _, fun _ => rfl⟩
  · split
    · rename_i l r _ fn c _
      cases Nat.ble (l ++ r).length fn.ntmps
      · exact .inl fun _ => rfl
      · simp only [sel_true]
        rcases execS_uni (P := P) (G := G) hih c fn.ntmps (argsD (l ++ r) 0 .leaf) h n u with h1 | ⟨x, t', h', n', u', h1⟩
        · exact .inl fun k => h1 _
        · simp only [h1]
          cases x with
          | exit id => exact .inl fun _ => rfl
          | panic v => exact .inr ⟨_, _, _, fun _ => rfl⟩
          | normal =>
            simp only []
            split
            · exact .inr ⟨_, _, _, fun _ => rfl⟩
            · exact .inl fun _ => rfl
          | ret =>
            simp only []
            split
            · exact .inr ⟨_, _, _, fun _ => rfl⟩
            · exact .inl fun _ => rfl
    · exact .inl fun _ => rfl
  · exact .inl fun _ => rfl

theorem bodyK_uni {G : Nat} {ih : Ex1} (hih : ih.Uni) (fn : Func) (c : Code) (t : T Value) (h : T AO) (n : Nat) : Uni fun k => bodyK P G ih fn c t h n k := by
  have fin : ∀ (t : T Value) (d : Option Value) (u : U1) (h : T AO) (n : Nat), Uni fun k => leaveK P G ih d u h n (bodyEnd P fn t k) := fun t d u h n => by
    rcases leaveK_uni (P := P) (G := G) hih d u h n with h1 | ⟨u', h', n', h1⟩
    · exact .inl fun k => h1 _
    · simp only [h1]
      unfold bodyEnd
      cases u' with
      | ret =>
        simp only []
        split
        · exact .one _ _ _
        · exact .no
      | pan v => exact .one _ _ _
      | rcv => exact .no
  unfold bodyK
  rcases execD_uni (P := P) (G := G) hih c fn.ntmps t h n none with h1 | ⟨x, t', h', n', d', h1⟩
  · exact .inl fun k => h1 _
  · simp only [h1]
    cases x with
    | exit id => exact .no
    | panic v => exact fin ..
    | normal => exact fin ..
    | ret => exact fin ..

section
variable [Intr P]

theorem enterK_uni {G : Nat} {ih : Ex1} (hih : ih.Uni) (f : FuncId) (args : List Value) (h : T AO) (n : Nat) : Uni fun k => enterK P G ih f args h n k := by
  unfold enterK
  simp only [argsT_eq, forceV_eq, setLK_eq, forceN_eq]
  split
  · exact .one _ _ _
  split
  · rename_i fn c _
    refine .sel _ (.sel _ (bodyK_uni hih ..) ?_) .no
    rcases hih c fn.ntmps (argsD args 0 .leaf) h n with hn | ⟨x, t, h', n', hn⟩
    · exact .inl fun k => hn _
    · cases x with
      | exit id => exact .inl fun k => by rw [hn]
      | panic v => exact .inr ⟨pan v, h', n', fun k => by rw [hn]⟩
      | normal =>
        cases hr : resV P h' t.get fn.results.toList with
        | none => exact .inl fun k => by rw [hn]; simp only [hr]
        | some r => exact .inr ⟨oneOf r, h', n', fun k => by rw [hn]; simp only [hr]⟩
      | ret =>
        cases hr : resV P h' t.get fn.results.toList with
        | none => exact .inl fun k => by rw [hn]; simp only [hr]
        | some r => exact .inr ⟨oneOf r, h', n', fun k => by rw [hn]; simp only [hr]⟩
  · refine .sel _ ?_ .no
    split
    · exact .sel _ (.one _ _ _) .no
    · exact .no
theorem callK_uni {G : Nat} {ih : Ex1} (hih : ih.Uni) (ev : Operand → Option Value) (h : T AO) (n : Nat) (o : Oper) : Uni fun k => callK P G ih ev h n o k := by
  unfold callK
  split
  · split
    · split
      · exact enterK_uni hih ..
      · exact .no
    · split
      · split
        · exact enterK_uni hih ..
        · exact .no
      · exact .no
    · exact .no
  · split
    · exact .one _ _ _
    · exact .no
  · exact .no
theorem opX_uni {G : Nat} {ih : Ex1} (hih : ih.Uni) (h : T AO) (n : Nat) (ev : Operand → Option Value) (o : Oper) : Uni fun k => opX P G ih h n ev o k :=
  .sel _ (callK_uni hih ..) (opBase_uni ..)

theorem thenC {f : (T Value → Bool) → Bool} {g : T Value → Kt → Bool} (hf : (∀ k, f k = false) ∨ ∃ t', ∀ k, f k = k t') (hg : ∀ t, UniC (g t)) : UniC fun k => f fun t => g t k := by
  rcases hf with hf | ⟨t', hf⟩
  · exact .inl fun k => hf _
  · rcases hg t' with h1 | ⟨x2, t2, h2, n2, h1⟩
    · exact .inl fun k => (hf _).trans (h1 k)
    · exact .inr ⟨x2, t2, h2, n2, fun k => (hf _).trans (h1 k)⟩
theorem thenV {f : (Value → T AO → Nat → Bool) → Bool} {g : Value → T AO → Nat → Kt → Bool} (hf : Uni f) (hg : ∀ v h n, UniC (g v h n)) : UniC fun k => f fun v h n => g v h n k := by
  rcases hf with hf | ⟨v, h, n, hf⟩
  · exact .inl fun k => hf _
  · rcases hg v h n with h1 | ⟨x2, t2, h2, n2, h1⟩
    · exact .inl fun k => (hf _).trans (h1 k)
    · exact .inr ⟨x2, t2, h2, n2, fun k => (hf _).trans (h1 k)⟩
theorem runL_uni {ih : Ex1} (hih : ih.Uni) (G : Nat) (ops : List Oper) (z : Nat) : ∀ (l : List Oper) (t : T Value) (h : T AO) (n : Nat), UniC fun k => runL P G ih ops z l t h n k
  | [], t, h, n => .inr ⟨.normal, t, h, n, fun _ => rfl⟩
  | o :: l, t, h, n => by
    simp only [runL_cons]
    cases wantedA ops t.get o with
    | none => exact .inl fun _ => rfl
    | some b =>
      cases b with
      | false => exact thenC (putK_uni z t o.dst undefA) fun t => runL_uni hih G ops z l t h n
      | true =>
        refine thenV (g := fun v h n k => match unpan v with
          | some u => k (.panic u) t h n
          | none => putK z t o.dst v fun t => runL P G ih ops z l t h n k) (opX_uni hih h n _ o) fun v h n => ?_
        cases unpan v with
        | some u => exact .inr ⟨.panic u, t, h, n, fun _ => rfl⟩
        | none => exact thenC (putK_uni z t o.dst v) fun t => runL_uni hih G ops z l t h n

theorem stepK_uni {G : Nat} {reg : Reg} (hreg : reg.Uni) {ih : Ex1} (hih : ih.Uni) : Ex1.Uni (stepK P G reg ih) := by
  intro c z t h n
  have then_ : ∀ (f : Kt → Bool) (g : Kt → X1 → T Value → T AO → Nat → Bool), UniC f → (∀ x t h n, UniC fun k => g k x t h n) → UniC fun k => f (g k) := fun f g hf hg => by
    rcases hf with hf | ⟨x, t, h, n, hf⟩
    · exact .inl fun k => hf _
    · rcases hg x t h n with h1 | ⟨x2, t2, h2, n2, h1⟩
      · exact .inl fun k => (hf _).trans (h1 k)
      · exact .inr ⟨x2, t2, h2, n2, fun k => (hf _).trans (h1 k)⟩
  have one : ∀ x t h n, UniC fun k => k x t h n := fun x t h n => .inr ⟨x, t, h, n, fun _ => rfl⟩
  cases c with
  | skip => exact one ..
  | region id ops draw =>
    obtain ⟨ops⟩ := ops
    cases draw with
    | false => exact runL_uni hih G ops z ops t h n
    | true => exact hreg ih hih ops z t h n
  | seq a b =>
    refine then_ _ (fun k x t h n => match x with | .normal => ih b z t h n k | x => k x t h n) (hih a z t h n) fun x t h n => ?_
    cases x with
    | normal => exact hih b z t h n
    | _ => exact one ..
  | cond c a b =>
    show UniC fun k => match evF G t.get c with
      | some (.bool true) => ih a z t h n k
      | some (.bool false) => ih b z t h n k
      | _ => false
    split
    · exact hih ..
    · exact hih ..
    · exact .inl fun _ => rfl
  | block id body =>
    refine then_ _ (fun k x t h n => match x with | .exit j => sel (Nat.beq j id) (k .normal t h n) (k (.exit j) t h n) | x => k x t h n) (hih body z t h n) fun x t h n => ?_
    cases x with
    | exit j =>
      show UniC fun k => sel (Nat.beq j id) (k .normal t h n) (k (.exit j) t h n)
      cases Nat.beq j id
      · exact one ..
      · exact one ..
    | _ => exact one ..
  | loop body =>
    show UniC fun k => match mapLoop P G body z t h n k with
      | some b => b
      | none => ih body z t h n fun x t h n => match x with
        | .normal => ih (.loop body) z t h n k
        | x => k x t h n
    rcases mapLoop_uni (P := P) (G := G) body z t h n with hn | hn | ⟨x1, t1, h1, n1, hn⟩
    · simp only [hn]
      exact .inl fun _ => rfl
    case inr.inr =>
      simp only [hn]
      exact .inr ⟨x1, t1, h1, n1, fun _ => rfl⟩
    simp only [hn]
    refine then_ _ (fun k x t h n => match x with | .normal => ih (.loop body) z t h n k | x => k x t h n) (hih body z t h n) fun x t h n => ?_
    cases x with
    | normal => exact hih ..
    | _ => exact one ..
  | exit id => exact one ..
  | ret => exact one ..
  | _ => exact .inl fun _ => rfl

theorem exec_uni {G : Nat} {reg : Reg} (hreg : reg.Uni) : ∀ f, Ex1.Uni (exec P G reg f)
  | 0 => fun _ _ _ _ _ => .inl fun _ => rfl
  | f + 1 => stepK_uni hreg (exec_uni hreg f)

end
end
end Go.Ex

/- Regions that draw their order: how one is run, and what is asked of its operations' edges. -/
namespace Go.Ex
noncomputable section

/-! ### Edges -/
def edges (o : Oper) : List Nat := (o.after.toList.filter fun e => Region.binds .any e).map (·.on)
def orBits (g : Nat → Nat) : List Nat → Nat → Nat
  | [], s => s
  | e :: l, s => orBits g l (s ||| 2 ^ e ||| g e)
theorem orBits_bit (g : Nat → Nat) : ∀ (l : List Nat) (s q : Nat), (orBits g l s).testBit q = true → s.testBit q = true ∨ ∃ e ∈ l, q = e ∨ (g e).testBit q = true
  | [], s, q, h => .inl h
  | e :: l, s, q, h => by
    rcases orBits_bit g l _ q h with h1 | ⟨e', he', h1⟩
    · rw [Nat.testBit_or, Nat.testBit_or, Bool.or_eq_true, Bool.or_eq_true, Nat.testBit_two_pow] at h1
      rcases h1 with (h1 | h1) | h1
      · exact .inl h1
      · exact .inr ⟨e, by simp, .inl (by simpa using h1 : e = q).symm⟩
      · exact .inr ⟨e, by simp, .inr h1⟩
    · exact .inr ⟨e', by simp [he'], h1⟩

def ancGo : List Oper → List Nat → List Nat
  | [], acc => acc
  | o :: l, acc => ancGo l (acc ++ [orBits (fun e => acc.getD e 0) (edges o) 0])
theorem ancGo_old : ∀ (l : List Oper) (acc : List Nat) (j : Nat), j < acc.length → (ancGo l acc).getD j 0 = acc.getD j 0
  | [], _, _, _ => rfl
  | o :: l, acc, j, h => by
    show (ancGo l (acc ++ [_])).getD j 0 = _
    rw [ancGo_old l _ j (by simp; omega)]
    simp [List.getD, List.getElem?_append_left h]
theorem ancGo_bit : ∀ (l : List Oper) (acc : List Nat) (i q : Nat) (o : Oper), l[i]? = some o → ((ancGo l acc).getD (acc.length + i) 0).testBit q = true →
    ∃ e ∈ edges o, q = e ∨ (e < acc.length + i ∧ ((ancGo l acc).getD e 0).testBit q = true)
  | [], _, _, _, _, h, _ => by simp at h
  | o' :: l, acc, 0, q, o, h, hb => by
    simp only [List.getElem?_cons_zero, Option.some.injEq] at h
    subst h
    have h1 : (ancGo (o' :: l) acc).getD (acc.length + 0) 0 = orBits (fun e => acc.getD e 0) (edges o') 0 := by
      show (ancGo l (acc ++ [_])).getD _ 0 = _
      rw [ancGo_old l _ _ (by simp)]
      simp [List.getD]
    rw [h1] at hb
    rcases orBits_bit _ _ _ _ hb with h2 | ⟨e, he, h2⟩
    · simp at h2
    · refine ⟨e, he, h2.imp id fun h3 => ?_⟩
      have hlt : e < acc.length := by
        rcases Nat.lt_or_ge e acc.length with h4 | h4
        · exact h4
        · simp [List.getD, List.getElem?_eq_none h4] at h3
      refine ⟨by omega, ?_⟩
      show ((ancGo l (acc ++ [_])).getD e 0).testBit q = true
      rw [ancGo_old l _ _ (by simp; omega)]
      simpa [List.getD, List.getElem?_append_left hlt] using h3
  | o' :: l, acc, i + 1, q, o, h, hb => by
    simp only [List.getElem?_cons_succ] at h
    have := ancGo_bit l (acc ++ [orBits (fun e => acc.getD e 0) (edges o') 0]) i q o h (by
      have e1 : (acc ++ [orBits (fun e => acc.getD e 0) (edges o') 0]).length + i = acc.length + (i + 1) := by simp; omega
      rw [e1]; exact hb)
    obtain ⟨e, he, h2⟩ := this
    refine ⟨e, he, h2.imp id fun ⟨h3, h4⟩ => ⟨by simp at h3; omega, h4⟩⟩

def ancs (ops : List Oper) : List Nat := ancGo ops []
def anc (ops : List Oper) (i q : Nat) : Bool := ((ancs ops).getD i 0).testBit q

theorem anc_down {ops : List Oper} {D : Nat → Prop} (hD : ∀ p o, ops[p]? = some o → D p → ∀ e ∈ edges o, D e) : ∀ (i q : Nat) (o : Oper), ops[i]? = some o → (∀ e ∈ edges o, D e) → anc ops i q = true → D q := by
  intro i
  induction i using Nat.strongRecOn with
  | _ i ih =>
    intro q o ho he hb
    obtain ⟨e, hee, h⟩ := ancGo_bit ops [] i q o ho (by simpa [anc, ancs] using hb)
    rcases h with rfl | ⟨hlt, hb'⟩
    · exact he q hee
    · have hlt' : e < i := by simpa using hlt
      have hi : i < ops.length := (List.getElem?_eq_some_iff.1 ho).1
      have hoe : ops[e]? = some ops[e] := List.getElem?_eq_getElem (by omega)
      exact ih e hlt' q _ hoe (hD e _ hoe (he e hee)) hb'

/-! ### The plan -/
def isEff (o : Oper) : Bool := Nat.ble 3 (opClass o.op)
def effAt (ops : List Oper) (i : Nat) : Bool := match ops[i]? with | some o => isEff o | none => false
def dstIs (ops : List Oper) (i τ : Nat) : Bool := match ops[i]? with | some o => (match o.dst with | some d => Nat.beq d τ | none => false) | none => false
def sameDst (ops : List Oper) (i j : Nat) : Bool := match ops[i]? with | some o => (match o.dst with | some d => dstIs ops j d | none => false) | none => false
/-- The temporaries that an operation looks at. -/
def looksL (ops : List Oper) (o : Oper) : List Nat :=
  (o.op.operands.toList.filterMap fun | .tmp t => some t | _ => none) ++
  (match o.guard with
   | some (g, _) => match ops[g]? with
     | some og => og.dst.toList
     | none => []
   | none => [])
def plainOk (ops : List Oper) (i : Nat) : Bool :=
  (match ops[i]? with | some o => (edges o).all (fun e => Nat.blt e i) | none => true) && !anc ops i i && (List.range ops.length).all (fun j => Nat.beq i j || !sameDst ops i j) &&
  (match ops[i]? with
   | some o => (looksL ops o).all fun τ => (List.range ops.length).all fun p => !dstIs ops p τ || anc ops i p || Nat.beq p i || anc ops p i
   | none => true)
def ordOk (ops : List Oper) : List Nat → Bool
  | [] => true
  | i :: rest => (rest.all fun p => !Nat.beq p i && !anc ops i p && (!effAt ops p || anc ops p i)) && ordOk ops rest
def memN (i : Nat) : List Nat → Bool
  | [] => false
  | j :: l => Nat.beq i j || memN i l
def ordGo (ops : List Oper) : List Nat → List Nat → List Nat
  | [], done => (List.range ops.length).filter fun i => !memN i done
  | e :: es, done =>
    ((List.range ops.length).filter fun i => anc ops e i && !memN i done) ++ e :: ordGo ops es (done ++ ((List.range ops.length).filter fun i => anc ops e i && !memN i done) ++ [e])
def ord (ops : List Oper) : List Nat := ordGo ops ((List.range ops.length).filter fun i => effAt ops i) []
def planOk (ops : List Oper) : Bool :=
  (List.range ops.length).all (plainOk ops) && ordOk ops (ord ops) && (List.range ops.length).all (fun i => memN i (ord ops)) && (ord ops).all (fun i => Nat.blt i ops.length)

/-! ### One way through -/
/-- Behind each effect: which one, the heap. -/
abbrev Tl := List (Nat × T AO)
/-- What was read: by which operation, the temporaries then, the value. -/
abbrev Rd := List (Nat × T Value × Value)
abbrev Kc := X1 → T Value → T AO → Nat → Tl → Rd → Bool

def canonK (P : Program) [Intr P] (G : Nat) (ih : Ex1) (ops : List Oper) (n0 z : Nat) (l : List Nat) : T Value → T AO → Nat → Tl → Rd → Kc → Bool :=
  List.rec (motive := fun _ => T Value → T AO → Nat → Tl → Rd → Kc → Bool) (fun t h n tl rd k => k .normal t h n tl rd)
    (fun i l rest t h n tl rd k => match ops[i]? with
      | none => false
      | some o => match wantedA ops t.get o with
        | none => false
        | some b => sel b
          (sel (isEff o)
            (opX P G ih h n (evF G t.get) o fun v h n => match unpan v with
              | some u => sel (l.all fun p => anc ops p i) (k (.panic u) t h n tl rd) false
              | none => putK z t o.dst v fun t => rest t h n ((i, h) :: tl) rd k)
            (sel (Nat.beq (opClass o.op) 2)
              (match allocV P (evF G t.get) o with
              | some (ao, f) => forceN (n0 + i) fun r => forceAO ao fun ao => T.setK (some ao) h r fun h => putK z t o.dst (f r) fun t => rest t h n tl rd k
              | none => false)
              (match pureV P (evF G t.get) o with
              | some v => forceV v fun v => putK z t o.dst v fun t => rest t h n tl rd k
              | none => match readV P h (evF G t.get) o with
                | some v => forceV v fun v => putK z t o.dst v fun t' => rest t' h n tl ((i, t, v) :: rd) k
                | none => false)))
          (putK z t o.dst undefA fun t => rest t h n tl rd k)) l

/-! ### What was read stays -/
def chkV (P : Program) [Intr P] (ops : List Oper) (ev : Operand → Option Value) (u : Value) (i : Nat) (o : Oper) : Tl → T AO → List Nat → Bool
  | todo, h, done =>
    (sel ((done.all fun e => !anc ops e i) && (todo.all fun x => !anc ops i x.1)) (match readV P h ev o with
      | some v => veq 8 v u
      | none => false) true) &&
    (match todo with
     | [] => true
     | (e, h') :: rest => chkV P ops ev u i o rest h' (e :: done))

def rdOk (P : Program) [Intr P] (G : Nat) (ops : List Oper) (h0 : T AO) (tl : Tl) (x : Nat × T Value × Value) : Bool :=
  match ops[x.1]? with
  | none => false
  | some o => chkV P ops (evF G x.2.1.get) x.2.2 x.1 o tl h0 []

/-- Behind a panic nothing is known of what the region's operations yield. -/
def dstsO (ops : List Oper) : List Nat := ops.filterMap (·.dst)
def killX (ops : List Oper) (x : X1) (t : T Value) (c : T Value → Bool) : Bool :=
  match x with
  | .panic _ => killLK (dstsO ops) t c
  | _ => c t
def killY (ops : List Oper) (x : X1) (t : T Value) : T Value :=
  match x with
  | .panic _ => killL (dstsO ops) t
  | _ => t
theorem killX_eq (ops : List Oper) (x : X1) (t : T Value) (c : T Value → Bool) : killX ops x t c = c (killY ops x t) := by
  cases x with
  | panic u => exact killLK_eq ..
  | _ => rfl

/-- A region that draws its order. -/
def regK (P : Program) [Intr P] (G : Nat) : Reg := fun ih ops z t h n k =>
  sel (planOk ops) (forceN (n + ops.length) fun n1 => canonK P G ih ops n z (ord ops) t h n1 [] [] fun x t' h' n' tl rd =>
    sel (rd.all (rdOk P G ops h tl.reverse)) (killX ops x t' fun t' => k x t' h' n') false) false

end
end Go.Ex

/- Regions that draw their order: the one way, and what it leaves. -/
namespace Go.Ex
noncomputable section

variable {P : Program} [Intr P] {G : Nat} {ih : Ex1} {ops : List Oper}

/-! ### The order -/
theorem ordOk_cons {i : Nat} {rest : List Nat} (h : ordOk ops (i :: rest) = true) : (∀ p ∈ rest, p ≠ i ∧ anc ops i p = false ∧ (effAt ops p = true → anc ops p i = true)) ∧ ordOk ops rest = true := by
  simp only [ordOk, Bool.and_eq_true, List.all_eq_true, Bool.not_eq_true', Bool.or_eq_true] at h
  refine ⟨fun p hp => ?_, h.2⟩
  obtain ⟨⟨h1, h2⟩, h3⟩ := h.1 p hp
  refine ⟨fun e => ?_, h2, fun he => ?_⟩
  · rw [nbeq, decide_eq_false_iff_not] at h1; exact h1 e
  · rw [he] at h3; simpa using h3
theorem ordOk_app : ∀ {pre : List Nat} {i : Nat} {post : List Nat}, ordOk ops (pre ++ i :: post) = true → effAt ops i = true → ∀ p ∈ pre, anc ops i p = true
  | q :: pre, i, post, h, he, p, hp => by
    obtain ⟨h1, h2⟩ := ordOk_cons (rest := pre ++ i :: post) h
    rcases List.mem_cons.1 hp with rfl | hp
    · exact (h1 i (by simp)).2.2 he
    · exact ordOk_app h2 he p hp
theorem ordOk_tail : ∀ {pre post : List Nat}, ordOk ops (pre ++ post) = true → ordOk ops post = true
  | [], _, h => h
  | _ :: _, _, h => ordOk_tail (ordOk_cons h).2

structure PlanP (ops : List Oper) : Prop where
  edge : ∀ i o, ops[i]? = some o → ∀ e ∈ edges o, e < i
  irr : ∀ i, i < ops.length → anc ops i i = false
  dst : ∀ i j, i < ops.length → j < ops.length → i ≠ j → sameDst ops i j = false
  look : ∀ i o, ops[i]? = some o → ∀ τ ∈ looksL ops o, ∀ p, p < ops.length → dstIs ops p τ = true → anc ops i p = true ∨ p = i ∨ anc ops p i = true
  ordd : ordOk ops (ord ops) = true
  all : ∀ i, i < ops.length → i ∈ ord ops
  lt : ∀ i ∈ ord ops, i < ops.length

theorem memN_iff (i : Nat) : ∀ (l : List Nat), memN i l = true → i ∈ l
  | [], h => by cases h
  | j :: l, h => by
    simp only [memN, Bool.or_eq_true] at h
    rcases h with h | h
    · rw [nbeq, decide_eq_true_eq] at h; simp [h]
    · exact List.mem_cons_of_mem _ (memN_iff i l h)

theorem planOk_spec (h : planOk ops = true) : PlanP ops := by
  simp only [planOk, Bool.and_eq_true, List.all_eq_true, List.mem_range] at h
  obtain ⟨⟨⟨h1, h2⟩, h3⟩, h4⟩ := h
  have hp : ∀ i, i < ops.length → plainOk ops i = true := h1
  refine ⟨fun i o ho e he => ?_, fun i hi => ?_, fun i j hi hj hne => ?_, fun i o ho τ hτ p hp' hd => ?_, h2, fun i hi => memN_iff _ _ (h3 i hi), fun i hi => ?_⟩
  · have := hp i (List.getElem?_eq_some_iff.1 ho).1
    simp only [plainOk, ho, Bool.and_eq_true, List.all_eq_true] at this
    have := this.1.1.1 e he
    rwa [nblt, decide_eq_true_eq] at this
  · have := hp i hi
    simp only [plainOk, Bool.and_eq_true, Bool.not_eq_true'] at this
    exact this.1.1.2
  · have := hp i hi
    simp only [plainOk, Bool.and_eq_true, List.all_eq_true, List.mem_range, Bool.or_eq_true, Bool.not_eq_true'] at this
    refine (this.1.2 j hj).resolve_left fun e => hne ?_
    rwa [nbeq, decide_eq_true_eq] at e
  · have := hp i (List.getElem?_eq_some_iff.1 ho).1
    simp only [plainOk, ho, Bool.and_eq_true, List.all_eq_true, List.mem_range, Bool.or_eq_true, Bool.not_eq_true'] at this
    have := this.2 τ hτ p hp'
    rw [hd] at this
    rcases this with ((h | h) | h) | h
    · simp at h
    · exact .inl h
    · rw [nbeq, decide_eq_true_eq] at h; exact .inr (.inl h)
    · exact .inr (.inr h)
  · have := h4 i hi
    rwa [nblt, decide_eq_true_eq] at this

/-! ### What each operation does -/
inductive Did (P : Program) [Intr P] (G : Nat) (ih : Ex1) (ops : List Oper) (n0 i : Nat) (o : Oper) (f : Nat → Option Value) : T AO → Nat → Value → T AO → Nat → Nat → Prop
  | skip {h : T AO} {n : Nat} (hw : wantedA ops f o = some false) : Did P G ih ops n0 i o f h n undefA h n 0
  | pure {h : T AO} {n : Nat} {v : Value} (hw : wantedA ops f o = some true) (he : isEff o = false) (hc : opClass o.op ≠ 2) (hv : pureV P (evF G f) o = some v) : Did P G ih ops n0 i o f h n v h n 0
  | read {h : T AO} {n : Nat} {v : Value} (hw : wantedA ops f o = some true) (he : isEff o = false) (hc : opClass o.op ≠ 2) (hv : readV P h (evF G f) o = some v) : Did P G ih ops n0 i o f h n v h n 2
  | alloc {h : T AO} {n : Nat} {ao : AO} {g : Nat → Value} (hw : wantedA ops f o = some true) (hc : opClass o.op = 2) (hv : allocV P (evF G f) o = some (ao, g)) :
      Did P G ih ops n0 i o f h n (g (n0 + i)) (T.set (some ao) h (n0 + i)) n 0
  | eff {h : T AO} {n : Nat} {v : Value} {h' : T AO} {n' : Nat} (hw : wantedA ops f o = some true) (he : isEff o = true) (hv : ∀ k, opX P G ih h n (evF G f) o k = k v h' n') (hu : unpan v = none) : Did P G ih ops n0 i o f h n v h' n' 1

theorem evF_congr {f g : Nat → Option Value} {o : Oper} (e : ∀ τ ∈ looksL ops o, f τ = g τ) : ∀ x ∈ o.op.operands, evF G f x = evF G g x := by
  intro x hx
  cases x with
  | tmp t => exact e t (List.mem_append_left _ (List.mem_filterMap.2 ⟨.tmp t, by simpa using hx, rfl⟩))
  | _ => rfl
theorem wantedA_congr {f g : Nat → Option Value} {o : Oper} (e : ∀ τ ∈ looksL ops o, f τ = g τ) : wantedA ops f o = wantedA ops g o := by
  unfold wantedA
  cases hg : o.guard with
  | none => rfl
  | some jw =>
    obtain ⟨j, want⟩ := jw
    simp only []
    cases hj : ops[j]? with
    | none => rfl
    | some og =>
      simp only []
      cases hd : og.dst with
      | none => rfl
      | some d =>
        simp only []
        rw [e d (by simp [looksL, hg, hj, hd])]

theorem Did.congr {n0 i : Nat} {o : Oper} {f g : Nat → Option Value} {h h' : T AO} {n n' : Nat} {v : Value} {b : Nat} (e : ∀ τ ∈ looksL ops o, f τ = g τ) (hd : Did P G ih ops n0 i o f h n v h' n' b) : Did P G ih ops n0 i o g h n v h' n' b := by
  have he := evF_congr (G := G) e
  have hw := wantedA_congr e
  cases hd with
  | skip hw' => exact .skip (hw ▸ hw')
  | pure hw' h1 h2 h3 => exact .pure (hw ▸ hw') h1 h2 (by rw [← pureV_congr he]; exact h3)
  | read hw' h1 h2 h3 => exact .read (hw ▸ hw') h1 h2 (by rw [← readV_congr he]; exact h3)
  | alloc hw' h1 h2 => exact .alloc (hw ▸ hw') h1 (by rw [← allocV_congr he]; exact h2)
  | eff hw' h1 h2 h3 => exact .eff (hw ▸ hw') h1 (fun k => by rw [← opX_congr he]; exact h2 k) h3

def Put (z : Nat) (t : T Value) (dst : Option Tmp) (v : Value) (t1 : T Value) : Prop :=
  match dst with
  | none => t1 = t
  | some d => d < z ∧ t1 = T.set (some v) t d

theorem putK_put (z : Nat) (t : T Value) (dst : Option Tmp) (v : Value) : (∀ k, putK z t dst v k = false) ∨ ∃ t', Put z t dst v t' ∧ ∀ k, putK z t dst v k = k t' := by
  unfold putK Put
  simp only [T.setK_eq]
  cases unpan v with
  | some u => exact .inl fun _ => rfl
  | none =>
  cases dst with
  | none => exact .inr ⟨t, rfl, fun _ => rfl⟩
  | some d =>
    simp only []
    cases hd : Nat.blt d z
    · exact .inl fun _ => rfl
    · exact .inr ⟨_, ⟨by rwa [nblt, decide_eq_true_eq] at hd, rfl⟩, fun _ => rfl⟩

def consTl (b : Nat) (i : Nat) (h : T AO) (tl : Tl) : Tl := if b = 1 then (i, h) :: tl else tl
def consRd (b : Nat) (i : Nat) (t : T Value) (v : Value) (rd : Rd) : Rd := if b = 2 then (i, t, v) :: rd else rd

/-- The steps, on the temporaries as they grow. -/
inductive Run (P : Program) [Intr P] (G : Nat) (ih : Ex1) (ops : List Oper) (n0 z : Nat) : List Nat → T Value → T AO → Nat → Tl → Rd → T Value → T AO → Nat → Tl → Rd → X1 → Prop
  | done (t : T Value) (h : T AO) (n : Nat) (tl : Tl) (rd : Rd) : Run P G ih ops n0 z [] t h n tl rd t h n tl rd .normal
  | step {i : Nat} {rest : List Nat} {o : Oper} {t : T Value} {h : T AO} {n : Nat} {tl : Tl} {rd : Rd} {v : Value} {h1 : T AO} {n1 : Nat} {b : Nat} {t1 T' : T Value} {H : T AO} {N : Nat} {TL : Tl} {RD : Rd} {x : X1}
      (ho : ops[i]? = some o) (hd : Did P G ih ops n0 i o t.get h n v h1 n1 b) (hp : Put z t o.dst v t1) (hr : Run P G ih ops n0 z rest t1 h1 n1 (consTl b i h1 tl) (consRd b i t v rd) T' H N TL RD x) :
      Run P G ih ops n0 z (i :: rest) t h n tl rd T' H N TL RD x
  | pan {i : Nat} {rest : List Nat} {o : Oper} {t : T Value} {h : T AO} {n : Nat} {tl : Tl} {rd : Rd} {u v : Value} {h1 : T AO} {n1 : Nat}
      (ho : ops[i]? = some o) (hw : wantedA ops t.get o = some true) (he : isEff o = true) (hv : ∀ k, opX P G ih h n (evF G t.get) o k = k v h1 n1) (hu : unpan v = some u) (hc : ∀ p ∈ rest, anc ops p i = true) :
      Run P G ih ops n0 z (i :: rest) t h n tl rd t h1 n1 tl rd (.panic u)

/-- Whatever goes on behind it, it is handed one thing (or nothing). -/
theorem canon_run (hih : ih.Uni) {n0 z : Nat} : ∀ (l : List Nat) (t : T Value) (h : T AO) (n : Nat) (tl : Tl) (rd : Rd),
    (∀ k, canonK P G ih ops n0 z l t h n tl rd k = false) ∨ ∃ T' H N TL RD x, Run P G ih ops n0 z l t h n tl rd T' H N TL RD x ∧ ∀ k, canonK P G ih ops n0 z l t h n tl rd k = k x T' H N TL RD
  | [], t, h, n, tl, rd => .inr ⟨t, h, n, tl, rd, .normal, .done .., fun _ => rfl⟩
  | i :: rest, t, h, n, tl, rd => by
    have hstep : ∀ k, canonK P G ih ops n0 z (i :: rest) t h n tl rd k = (match ops[i]? with
      | none => false
      | some o => match wantedA ops t.get o with
        | none => false
        | some b => sel b
          (sel (isEff o)
            (opX P G ih h n (evF G t.get) o fun v h n => match unpan v with
              | some u => sel (rest.all fun p => anc ops p i) (k (.panic u) t h n tl rd) false
              | none => putK z t o.dst v fun t => canonK P G ih ops n0 z rest t h n ((i, h) :: tl) rd k)
            (sel (Nat.beq (opClass o.op) 2)
              (match allocV P (evF G t.get) o with
              | some (ao, f) => forceN (n0 + i) fun r => forceAO ao fun ao => T.setK (some ao) h r fun h => putK z t o.dst (f r) fun t => canonK P G ih ops n0 z rest t h n tl rd k
              | none => false)
              (match pureV P (evF G t.get) o with
              | some v => forceV v fun v => putK z t o.dst v fun t => canonK P G ih ops n0 z rest t h n tl rd k
              | none => match readV P h (evF G t.get) o with
                | some v => forceV v fun v => putK z t o.dst v fun t' => canonK P G ih ops n0 z rest t' h n tl ((i, t, v) :: rd) k
                | none => false)))
          (putK z t o.dst undefA fun t => canonK P G ih ops n0 z rest t h n tl rd k)) := fun _ => rfl
    simp only [hstep, forceN_eq, forceAO_eq, T.setK_eq, forceV_eq]
    cases ho : ops[i]? with
    | none => exact .inl fun _ => rfl
    | some o =>
      simp only []
      cases hw : wantedA ops t.get o with
      | none => exact .inl fun _ => rfl
      | some b =>
        have fin : ∀ {v : Value} {h1 : T AO} {n1 : Nat} {b : Nat}, Did P G ih ops n0 i o t.get h n v h1 n1 b →
            (∀ k, (putK z t o.dst v fun t' => canonK P G ih ops n0 z rest t' h1 n1 (consTl b i h1 tl) (consRd b i t v rd) k) = false) ∨
            ∃ T' H N TL RD x, Run P G ih ops n0 z (i :: rest) t h n tl rd T' H N TL RD x ∧ ∀ k, (putK z t o.dst v fun t' => canonK P G ih ops n0 z rest t' h1 n1 (consTl b i h1 tl) (consRd b i t v rd) k) = k x T' H N TL RD := fun {v h1 n1 b} hd => by
          rcases putK_put z t o.dst v with hp | ⟨t1, hp, hk⟩
          · exact .inl fun k => hp _
          · rcases canon_run hih rest t1 h1 n1 (consTl b i h1 tl) (consRd b i t v rd) with hn | ⟨T', H, N, TL, RD, x, hr, hn⟩
            · exact .inl fun k => by rw [hk, hn]
            · exact .inr ⟨T', H, N, TL, RD, x, .step ho hd hp hr, fun k => by rw [hk, hn]⟩
        cases b with
        | false => exact fin (.skip hw)
        | true =>
          simp only [sel_true]
          cases he : isEff o with
          | true =>
            simp only [sel_true]
            rcases opX_uni (P := P) hih h n (evF G t.get) o with hx | ⟨v, h1, n1, hx⟩
            · exact .inl fun k => hx _
            · simp only [hx]
              cases hu : unpan v with
              | some u =>
                simp only []
                cases hc : (rest.all fun p => anc ops p i)
                · exact .inl fun _ => rfl
                · exact .inr ⟨t, h1, n1, tl, rd, .panic u, .pan ho hw he hx hu (by simpa [List.all_eq_true] using hc), fun _ => rfl⟩
              | none => exact fin (.eff hw he hx hu)
          | false =>
            simp only [sel_false]
            cases hc : Nat.beq (opClass o.op) 2 with
            | true =>
              simp only [sel_true]
              rw [nbeq, decide_eq_true_eq] at hc
              cases hv : allocV P (evF G t.get) o with
              | none => exact .inl fun _ => rfl
              | some p =>
                obtain ⟨ao, g⟩ := p
                exact fin (.alloc hw hc hv)
            | false =>
              simp only [sel_false]
              rw [nbeq, decide_eq_false_iff_not] at hc
              cases hv : pureV P (evF G t.get) o with
              | some v => exact fin (.pure hw he hc hv)
              | none =>
                simp only []
                cases hv2 : readV P h (evF G t.get) o with
                | none => exact .inl fun _ => rfl
                | some v => exact fin (.read hw he hc hv2)

open Classical in
/-- What an operation sees of the temporaries: what those ahead of it have written; else what was there. -/
def view (ops : List Oper) (f F : Nat → Option Value) (i : Nat) : Nat → Option Value := fun τ =>
  if ∃ p, p < ops.length ∧ dstIs ops p τ = true ∧ anc ops i p = true then F τ else f τ

/-- The steps, each on what it sees. -/
inductive RunT (P : Program) [Intr P] (G : Nat) (ih : Ex1) (ops : List Oper) (n0 z : Nat) (F : Nat → Option Value) (V : Nat → Nat → Option Value) (C : Nat → Oper → Value → Prop) : List Nat → T AO → Nat → Tl → T AO → Nat → Tl → X1 → Prop
  | done (h : T AO) (n : Nat) (tl : Tl) : RunT P G ih ops n0 z F V C [] h n tl h n tl .normal
  | step {i : Nat} {rest : List Nat} {o : Oper} {h : T AO} {n : Nat} {tl : Tl} {v : Value} {h1 : T AO} {n1 : Nat} {b : Nat} {H : T AO} {N : Nat} {TL : Tl} {x : X1}
      (ho : ops[i]? = some o) (hd : Did P G ih ops n0 i o (V i) h n v h1 n1 b) (hc : b = 2 → C i o v) (hp : ∀ d, o.dst = some d → d < z ∧ F d = some v) (hr : RunT P G ih ops n0 z F V C rest h1 n1 (consTl b i h1 tl) H N TL x) :
      RunT P G ih ops n0 z F V C (i :: rest) h n tl H N TL x
  | pan {i : Nat} {rest : List Nat} {o : Oper} {h : T AO} {n : Nat} {tl : Tl} {u v : Value} {h1 : T AO} {n1 : Nat}
      (ho : ops[i]? = some o) (hw : wantedA ops (V i) o = some true) (he : isEff o = true) (hv : ∀ k, opX P G ih h n (evF G (V i)) o k = k v h1 n1) (hu : unpan v = some u) (hc : ∀ p ∈ rest, anc ops p i = true) :
      RunT P G ih ops n0 z F V C (i :: rest) h n tl h1 n1 tl (.panic u)

theorem Run.stable {n0 z : Nat} {l : List Nat} {t T' : T Value} {h H : T AO} {n N : Nat} {tl TL : Tl} {rd RD : Rd} {x : X1} (hr : Run P G ih ops n0 z l t h n tl rd T' H N TL RD x) {τ : Nat} (hτ : ∀ p ∈ l, dstIs ops p τ = false) : T'.get τ = t.get τ := by
  induction hr with
  | done => rfl
  | pan => rfl
  | @step i rest o t h n tl rd v h1 n1 b t1 T' H N TL RD x ho hd hp hr ihr =>
    rw [ihr fun p hp => hτ p (by simp [hp])]
    unfold Put at hp
    have hi := hτ i (by simp)
    simp only [dstIs, ho] at hi
    cases hd' : o.dst with
    | none => rw [hd'] at hp; rw [hp]
    | some d =>
      rw [hd'] at hp hi
      simp only [] at hp hi
      rw [nbeq, decide_eq_false_iff_not] at hi
      rw [hp.2, T.get_set, if_neg (Ne.symm hi)]

theorem Run.rd_mono {n0 z : Nat} {l : List Nat} {t T' : T Value} {h H : T AO} {n N : Nat} {tl TL : Tl} {rd RD : Rd} {y : X1} (hr : Run P G ih ops n0 z l t h n tl rd T' H N TL RD y) : ∀ x ∈ rd, x ∈ RD := by
  induction hr with
  | done => exact fun x hx => hx
  | pan => exact fun x hx => hx
  | step ho hd hp hr ihr =>
    refine fun x hx => ihr x ?_
    unfold consRd
    split
    · exact List.mem_cons_of_mem _ hx
    · exact hx

theorem dst_unique (hpl : PlanP ops) {p q τ : Nat} (hp : p < ops.length) (hq : q < ops.length) (h1 : dstIs ops p τ = true) (h2 : dstIs ops q τ = true) : p = q := by
  refine Classical.byContradiction fun hne => ?_
  have := hpl.dst p q hp hq hne
  unfold sameDst at this
  unfold dstIs at h1
  split at h1
  · rename_i o ho
    rw [ho] at this
    split at h1
    · rename_i d hd
      simp only [hd] at this
      rw [nbeq, decide_eq_true_eq] at h1
      subst h1
      rw [h2] at this; cases this
    · cases h1
  · cases h1

theorem Run.toT (hpl : PlanP ops) {n0 z : Nat} {l : List Nat} {t T' : T Value} {h H : T AO} {n N : Nat} {tl TL : Tl} {rd RD : Rd} {x : X1} (hr : Run P G ih ops n0 z l t h n tl rd T' H N TL RD x) (hl : ordOk ops l = true) (hlt : ∀ i ∈ l, i < ops.length)
    {f : Nat → Option Value} (hpre : ∀ τ, (∀ p, p < ops.length → p ∉ l → dstIs ops p τ = false) → t.get τ = f τ) (hanc : ∀ p, p < ops.length → p ∉ l → ∀ q ∈ l, anc ops p q = false)
    {C : Nat → Oper → Value → Prop} (hC : ∀ i o t v, ops[i]? = some o → (i, t, v) ∈ RD → (∀ τ ∈ looksL ops o, t.get τ = view ops f T'.get i τ) → C i o v) :
    RunT P G ih ops n0 z T'.get (view ops f T'.get) C l h n tl H N TL x := by
  induction hr with
  | done => exact .done ..
  | @pan i rest o t h n tl rd u v h1 n1 ho hw he hv hu hc =>
    obtain ⟨h1', h2⟩ := ordOk_cons hl
    have hi := hlt i (by simp)
    have hsee : ∀ τ ∈ looksL ops o, t.get τ = view ops f t.get i τ := fun τ hτ => by
      unfold view
      split
      · rfl
      · rename_i hex
        refine hpre τ fun p hp1 hp2 => ?_
        cases hpd : dstIs ops p τ
        · rfl
        · rcases hpl.look i o ho τ hτ p hp1 hpd with h3 | h3 | h3
          · exact absurd ⟨p, hp1, hpd, h3⟩ hex
          · subst h3; exact absurd (by simp) hp2
          · rw [hanc p hp1 hp2 i (by simp)] at h3; cases h3
    exact .pan ho (wantedA_congr hsee ▸ hw) he (fun k => by rw [← opX_congr (evF_congr (G := G) hsee)]; exact hv k) hu hc
  | @step i rest o t h n tl rd v h1 n1 b t1 T' H N TL RD x ho hd hp hr ihr =>
    obtain ⟨h1', h2⟩ := ordOk_cons hl
    have hi := hlt i (by simp)
    have hlt' : ∀ p ∈ rest, p < ops.length := fun p hp => hlt p (by simp [hp])
    have hall := Run.step ho hd hp hr
    have hni : i ∉ rest := fun hx => (h1' i hx).1 rfl
    have hsee : ∀ τ ∈ looksL ops o, t.get τ = view ops f T'.get i τ := fun τ hτ => by
      unfold view
      split
      · rename_i hex
        obtain ⟨p, hp1, hp2, hp3⟩ := hex
        refine (hall.stable fun q hq => ?_).symm
        cases hqd : dstIs ops q τ
        · rfl
        · have := dst_unique hpl hp1 (hlt q hq) hp2 hqd
          subst this
          rcases List.mem_cons.1 hq with rfl | hq
          · rw [hpl.irr p hi] at hp3; cases hp3
          · rw [(h1' p hq).2.1] at hp3; cases hp3
      · rename_i hex
        refine hpre τ fun p hp1 hp2 => ?_
        cases hpd : dstIs ops p τ
        · rfl
        · rcases hpl.look i o ho τ hτ p hp1 hpd with h3 | h3 | h3
          · exact absurd ⟨p, hp1, hpd, h3⟩ hex
          · subst h3; exact absurd (by simp) hp2
          · rw [hanc p hp1 hp2 i (by simp)] at h3; cases h3
    refine .step ho (hd.congr hsee) (fun hb => hC i o t v ho (hr.rd_mono _ (by simp [consRd, hb])) hsee) (fun d hdd => ?_) (ihr h2 hlt' (fun τ hτ => ?_) (fun p hp1 hp2 q hq => ?_) hC)
    · unfold Put at hp
      rw [hdd] at hp
      refine ⟨hp.1, ?_⟩
      rw [hr.stable fun p hpr => ?_, hp.2, T.get_set, if_pos rfl]
      have := hpl.dst i p hi (hlt' p hpr) (Ne.symm (h1' p hpr).1)
      simpa [sameDst, ho, hdd] using this
    · have hid := hτ i hi hni
      rw [← hpre τ fun p hp1 hp2 => hτ p hp1 fun hx => hp2 (by simp [hx])]
      unfold Put at hp
      simp only [dstIs, ho] at hid
      cases hdd : o.dst with
      | none => rw [hdd] at hp; rw [hp]
      | some d =>
        rw [hdd] at hp hid
        simp only [] at hp hid
        rw [nbeq, decide_eq_false_iff_not] at hid
        rw [hp.2, T.get_set, if_neg (Ne.symm hid)]
    · by_cases e : p = i
      · subst e; exact (h1' q hq).2.1
      · exact hanc p hp1 (by simp [e, hp2]) q (by simp [hq])

/-- An effect that is wanted. -/
def WE (ops : List Oper) (V : Nat → Nat → Option Value) (p : Nat) : Prop := ∃ o, ops[p]? = some o ∧ isEff o = true ∧ wantedA ops (V p) o = some true

theorem RunT.at {n0 z : Nat} {F : Nat → Option Value} {V : Nat → Nat → Option Value} {C : Nat → Oper → Value → Prop} {l : List Nat} {h H : T AO} {n N : Nat} {tl TL : Tl} {x : X1} (hr : RunT P G ih ops n0 z F V C l h n tl H N TL x) {i : Nat} (hi : i ∈ l) :
    (∃ o h n v h1 n1 b, ops[i]? = some o ∧ Did P G ih ops n0 i o (V i) h n v h1 n1 b ∧ (b = 2 → C i o v) ∧ ∀ d, o.dst = some d → d < z ∧ F d = some v) ∨ WE ops V i ∨ ∃ e, e ∈ l ∧ WE ops V e ∧ anc ops i e = true := by
  induction hr with
  | done => cases hi
  | @pan j rest o h n tl u v h1 n1 ho hw he hv hu hc =>
    rcases List.mem_cons.1 hi with rfl | hi
    · exact .inr (.inl ⟨o, ho, he, hw⟩)
    · exact .inr (.inr ⟨j, by simp, ⟨o, ho, he, hw⟩, hc i hi⟩)
  | @step j rest o h n tl v h1 n1 b H N TL x ho hd hc hp hr ihr =>
    rcases List.mem_cons.1 hi with rfl | hi
    · exact .inl ⟨o, h, n, v, h1, n1, b, ho, hd, hc, hp⟩
    · exact (ihr hi).imp id (Or.imp id fun ⟨e, h1, h2⟩ => ⟨e, by simp [h1], h2⟩)

theorem RunT.tl {n0 z : Nat} {F : Nat → Option Value} {V : Nat → Nat → Option Value} {C : Nat → Oper → Value → Prop} {l : List Nat} {h H : T AO} {n N : Nat} {tl TL : Tl} {x : X1} (hr : RunT P G ih ops n0 z F V C l h n tl H N TL x) : ∃ fut, TL.reverse = tl.reverse ++ fut ∧ ∀ x ∈ fut, x.1 ∈ l ∧ WE ops V x.1 := by
  induction hr with
  | done => exact ⟨[], by simp, by simp⟩
  | pan => exact ⟨[], by simp, by simp⟩
  | @step i rest o h n tl v h1 n1 b H N TL x ho hd hc hp hr ihr =>
    obtain ⟨fut, h2, h3⟩ := ihr
    cases hd with
    | eff hw he hv _ =>
      refine ⟨(i, h1) :: fut, by simp [h2, consTl], fun x hx => ?_⟩
      rcases List.mem_cons.1 hx with rfl | hx
      · exact ⟨by simp, o, ho, he, hw⟩
      · exact ⟨by simp [(h3 x hx).1], (h3 x hx).2⟩
    | _ => exact ⟨fut, h2, fun x hx => ⟨by simp [(h3 x hx).1], (h3 x hx).2⟩⟩

end
end Go.Ex

/- Regions that draw their order: every order leaves what the one way leaves. -/
namespace Go.Ex
noncomputable section

variable {P : Program} [Intr P] {G : Nat} {ih : Ex1} {ops : List Oper} {B : Bd} {w0 : World}

def Lst (listed : Array Bool) (p : Nat) : Prop := listed.getD p false = true

theorem Lst.set {listed : Array Bool} {i p : Nat} (hi : i < listed.size) : Lst (listed.setIfInBounds i true) p ↔ p = i ∨ Lst listed p := by
  unfold Lst
  by_cases e : i = p
  · subst e; simp [hi]
  · rw [getD_set_ne false e]; simp [Ne.symm e]

/-- What an operation makes. -/
def al (P : Program) [Intr P] (G : Nat) (ops : List Oper) (V : Nat → Nat → Option Value) (p : Nat) : Option AO :=
  match ops[p]? with
  | some o => if wantedA ops (V p) o = some true ∧ opClass o.op = 2 then (allocV P (evF G (V p)) o).map (·.1) else none
  | none => none

open Classical in
/-- The frame's blocks, those made here that aren't taken up yet, the numbers that are kept for those not made yet. -/
def fr (X : Nat → Option AO) (A : Nat → Option AO) (n0 N : Nat) (steps : List Nat) (S : Nat → Prop) : Nat → Option AO := fun r =>
  if n0 ≤ r ∧ r < n0 + N then (if S (r - n0) then (if r - n0 ∈ steps then A (r - n0) else none) else some .res) else X r

open Classical in
/-- The temporaries between two operations. -/
def fD (ops : List Oper) (f F : Nat → Option Value) (S : Nat → Prop) : Nat → Option Value := fun τ =>
  if ∃ p, p < ops.length ∧ ¬ S p ∧ dstIs ops p τ = true then f τ else F τ

theorem fD_done {f F : Nat → Option Value} {S : Nat → Prop} {τ : Nat} (h : ∀ p, p < ops.length → dstIs ops p τ = true → S p) : fD ops f F S τ = F τ := by
  unfold fD
  rw [if_neg]
  rintro ⟨p, hp, hs, hd⟩
  exact hs (h p hp hd)
theorem fD_old {f F : Nat → Option Value} {S : Nat → Prop} {τ p : Nat} (hp : p < ops.length) (hs : ¬ S p) (hd : dstIs ops p τ = true) : fD ops f F S τ = f τ := by
  unfold fD
  rw [if_pos ⟨p, hp, hs, hd⟩]

theorem TR.did (hpl : PlanP ops) {m m' : Mp} (hm : m.le m') {f F : Nat → Option Value} {S S' : Nat → Prop} {z : Nat} {a : Act} (ht : TR m (fD ops f F S) z a) {i : Nat} {o : Oper} (ho : ops[i]? = some o) {v v' : Value}
    (hd : ∀ d, o.dst = some d → d < z ∧ F d = some v) (hv : VR m' v v') (hS : ∀ p, S' p ↔ p = i ∨ S p) : TR m' (fD ops f F S') z (a.put o.dst v') := by
  have ht := ht.mono hm
  have hlt := (List.getElem?_eq_some_iff.1 ho).1
  have key : ∀ τ, o.dst ≠ some τ → fD ops f F S' τ = fD ops f F S τ := fun τ hne => by
    have hiff : (∃ p, p < ops.length ∧ ¬ S' p ∧ dstIs ops p τ = true) ↔ (∃ p, p < ops.length ∧ ¬ S p ∧ dstIs ops p τ = true) := by
      constructor
      · rintro ⟨p, hp, hs, hdp⟩
        exact ⟨p, hp, fun h => hs ((hS p).2 (.inr h)), hdp⟩
      · rintro ⟨p, hp, hs, hdp⟩
        refine ⟨p, hp, fun hs' => ?_, hdp⟩
        rcases (hS p).1 hs' with rfl | hs'
        · refine hne ?_
          simp only [dstIs, ho] at hdp
          cases hdd : o.dst with
          | none => rw [hdd] at hdp; cases hdp
          | some d => rw [hdd] at hdp; simp only [] at hdp; rw [nbeq, decide_eq_true_eq] at hdp; rw [hdp]
        · exact hs hs'
    unfold fD
    by_cases h : ∃ p, p < ops.length ∧ ¬ S p ∧ dstIs ops p τ = true
    · rw [if_pos h, if_pos (hiff.2 h)]
    · rw [if_neg h, if_neg fun h' => h (hiff.1 h')]
  cases hdd : o.dst with
  | none => exact ht.ext fun τ u hu => by rw [← key τ (by rw [hdd]; simp)]; exact hu
  | some d =>
    obtain ⟨hz, hF⟩ := hd d hdd
    refine (ht.put hz hv).ext fun τ u hu => ?_
    by_cases e : τ = d
    · subst e
      rw [if_pos rfl]
      rw [fD_done fun p hp hpd => ?_, hF] at hu
      · exact hu
      · have : p = i := dst_unique hpl hp hlt hpd (by simp [dstIs, ho, hdd])
        exact (hS p).2 (.inl this)
    · rw [if_neg e, ← key τ (by rw [hdd]; simpa using Ne.symm e)]
      exact hu

/-- What was made is taken up. -/
theorem RunT.advance {n0 z : Nat} {F : Nat → Option Value} {V : Nat → Nat → Option Value} {C : Nat → Oper → Value → Prop} {X : Nat → Option AO} {S : Nat → Prop} {m : Mp} {w : World} {N' : Nat} : ∀ {pre post : List Nat} {h H : T AO} {n N : Nat} {tl TL : Tl} {x : X1},
    RunT P G ih ops n0 z F V C (pre ++ post) h n tl H N TL x → ordOk ops (pre ++ post) = true → (∀ p ∈ pre, p < N' ∧ S p ∧ ¬ WE ops V p) → HR B w0 m h (fr X (al P G ops V) n0 N' (pre ++ post) S) n w →
    ∃ h1, RunT P G ih ops n0 z F V C post h1 n tl H N TL x ∧ HR B w0 m h1 (fr X (al P G ops V) n0 N' post S) n w
  | [], _, _, _, _, _, _, _, _, hr, _, _, hh => ⟨_, hr, hh⟩
  | i :: pre, post, h, H, n, N, tl, TL, x, hr, hl, hp, hh => by
    obtain ⟨hl1, hl2⟩ := ordOk_cons (rest := pre ++ post) hl
    obtain ⟨hiN, hiS, hiW⟩ := hp i (by simp)
    have hni : i ∉ pre ++ post := fun hi => (hl1 i hi).1 rfl
    have hp' : ∀ p ∈ pre, p < N' ∧ S p ∧ ¬ WE ops V p := fun p hpp => hp p (by simp [hpp])
    have frne : ∀ r, r ≠ n0 + i → fr X (al P G ops V) n0 N' (pre ++ post) S r = fr X (al P G ops V) n0 N' (i :: (pre ++ post)) S r := fun r hr => by
      unfold fr
      by_cases hrg : n0 ≤ r ∧ r < n0 + N'
      · rw [if_pos hrg, if_pos hrg]
        have : r - n0 ≠ i := fun e => hr (by omega)
        simp only [List.mem_cons, this, false_or]
      · rw [if_neg hrg, if_neg hrg]
    have frat : fr X (al P G ops V) n0 N' (i :: (pre ++ post)) S (n0 + i) = al P G ops V i := by
      unfold fr
      rw [if_pos ⟨by omega, by omega⟩]
      simp [hiS]
    have frat' : fr X (al P G ops V) n0 N' (pre ++ post) S (n0 + i) = none := by
      unfold fr
      rw [if_pos ⟨by omega, by omega⟩]
      have hni' : n0 + i - n0 ∉ pre ++ post := by simpa using hni
      rw [if_pos (by simpa using hiS), if_neg hni']
    have hh : HR B w0 m h (fr X (al P G ops V) n0 N' (i :: (pre ++ post)) S) n w := hh
    have same : al P G ops V i = none → HR B w0 m h (fr X (al P G ops V) n0 N' (pre ++ post) S) n w := fun hn => by
      have : fr X (al P G ops V) n0 N' (pre ++ post) S = fr X (al P G ops V) n0 N' (i :: (pre ++ post)) S := funext fun r => by
        by_cases e : r = n0 + i
        · rw [e, frat, frat', hn]
        · exact frne r e
      rw [this]; exact hh
    cases hr with
    | pan ho hw he hv hu hc => exact absurd ⟨_, ho, he, hw⟩ hiW
    | step ho hd hc' hdst hrr =>
      cases hd with
      | skip hw => exact RunT.advance hrr hl2 hp' (same (by simp [al, ho, hw]))
      | pure hw he hc hv => exact RunT.advance hrr hl2 hp' (same (by simp [al, ho, hc]))
      | read hw he hc hv => exact RunT.advance hrr hl2 hp' (same (by simp [al, ho, hc]))
      | @alloc ao g hw hc hv =>
        refine RunT.advance hrr hl2 hp' ⟨hh.lr.congr fun r => ?_, fun r o' hx => ?_⟩
        · unfold ov
          rw [T.get_set]
          by_cases e : r = n0 + i
          · subst e
            have : al P G ops V i = some ao := by simp [al, ho, hw, hc, hv]
            rw [if_pos rfl]
            simp only []
            have hnone := hh.apart (n0 + i) _ (frat.trans this)
            rw [hnone]
            simp only []
            rw [frat, this]
          · rw [if_neg e]
            rw [frne r e]
        · rw [T.get_set]
          by_cases e : r = n0 + i
          · subst e; rw [frat'] at hx; cases hx
          · rw [if_neg e]; exact hh.apart r o' (by rw [← frne r e]; exact hx)
      | eff hw he hv _ => exact absurd ⟨_, ho, he, hw⟩ hiW

/-! ### What was read is what is read -/
def lastH (h0 : T AO) : Tl → T AO
  | [] => h0
  | x :: _ => x.2
theorem chkV_congr {ev ev' : Operand → Option Value} {o : Oper} (he : ∀ x ∈ o.op.operands, ev x = ev' x) (u : Value) (i : Nat) : ∀ (l : Tl) (h : T AO) (done : List Nat), chkV P ops ev u i o l h done = chkV P ops ev' u i o l h done
  | [], h, done => by simp only [chkV, readV_congr he]
  | x :: l, h, done => by simp only [chkV, readV_congr he, chkV_congr he u i l]
theorem chkV_at {ev : Operand → Option Value} {u : Value} {i : Nat} {o : Oper} : ∀ (l : Tl) (fut : Tl) (h : T AO) (done : List Nat),
    chkV P ops ev u i o (l ++ fut) h done = true → ∀ h', h' = lastH h l.reverse → (∀ e ∈ l, anc ops e.1 i = false) → (∀ e ∈ done, anc ops e i = false) → (∀ x ∈ fut, anc ops i x.1 = false) →
    readV P h' ev o = some u
  | [], fut, h, done, hk, h', hh, hl, hd, hf => by
    have hk1 : sel ((done.all fun e => !anc ops e i) && (fut.all fun x => !anc ops i x.1)) (match readV P h ev o with
      | some v => veq 8 v u
      | none => false) true = true := by
      cases fut <;> (simp only [List.nil_append, chkV, Bool.and_eq_true] at hk; exact hk.1)
    have hc : ((done.all fun e => !anc ops e i) && (fut.all fun x => !anc ops i x.1)) = true := by
      simp only [Bool.and_eq_true, List.all_eq_true, Bool.not_eq_true']
      exact ⟨hd, hf⟩
    rw [hc, sel_true] at hk1
    simp only [List.reverse_nil, lastH] at hh
    subst hh
    split at hk1
    · rename_i v hv
      rw [hv, veq_eq _ _ _ hk1]
    · cases hk1
  | x :: l, fut, h, done, hk, h', hh, hl, hd, hf => by
    simp only [List.cons_append, chkV, Bool.and_eq_true] at hk
    refine chkV_at l fut x.2 (x.1 :: done) hk.2 h' ?_ (fun e he => hl e (by simp [he])) (fun e he => ?_) hf
    · rw [hh]
      simp only [List.reverse_cons]
      cases l.reverse <;> rfl
    · rcases List.mem_cons.1 he with rfl | he
      · exact hl x (by simp)
      · exact hd e he

end
end Go.Ex

/- Regions that draw their order: sound. -/
namespace Go.Ex
noncomputable section

variable {P : Program} [Intr P] {G : Nat} {ih : Ex1} {ops : List Oper} {B : Bd} {w0 : World}

theorem fr_unlisted {X A : Nat → Option AO} {n0 N : Nat} {steps : List Nat} {S : Nat → Prop} {i : Nat} (hi : i < N) (hS : ¬ S i) : fr X A n0 N steps S (n0 + i) = some .res := by
  unfold fr
  rw [if_pos ⟨by omega, by omega⟩, if_neg (by simpa using hS)]
theorem fr_done {X A : Nat → Option AO} {n0 N : Nat} {steps : List Nat} {S : Nat → Prop} {i : Nat} (hi : i < N) (hS : S i) (hs : i ∉ steps ∨ A i = none) : fr X A n0 N steps S (n0 + i) = none := by
  unfold fr
  rw [if_pos ⟨by omega, by omega⟩, if_pos (by simpa using hS)]
  have e : n0 + i - n0 = i := by omega
  rw [e]
  split
  · rename_i h
    exact hs.resolve_left fun hn => hn h
  · rfl
theorem fr_made {X A : Nat → Option AO} {n0 N : Nat} {steps : List Nat} {S : Nat → Prop} {i : Nat} (hi : i < N) (hS : S i) (hs : i ∈ steps) : fr X A n0 N steps S (n0 + i) = A i := by
  unfold fr
  rw [if_pos ⟨by omega, by omega⟩, if_pos (by simpa using hS)]
  have e : n0 + i - n0 = i := by omega
  rw [e, if_pos hs]
theorem fr_other {X A : Nat → Option AO} {n0 N : Nat} {steps steps' : List Nat} {S S' : Nat → Prop} {i r : Nat} (hr : r ≠ n0 + i) (hS : ∀ p, p ≠ i → (S p ↔ S' p)) (hs : ∀ p, p ≠ i → (p ∈ steps ↔ p ∈ steps')) :
    fr X A n0 N steps S r = fr X A n0 N steps' S' r := by
  unfold fr
  by_cases hrg : n0 ≤ r ∧ r < n0 + N
  · rw [if_pos hrg, if_pos hrg]
    have hne : r - n0 ≠ i := fun e => hr (by omega)
    simp only [hs _ hne]
    by_cases h1 : S (r - n0)
    · rw [if_pos h1, if_pos ((hS _ hne).1 h1)]
    · rw [if_neg h1, if_neg fun h2 => h1 ((hS _ hne).2 h2)]
  · rw [if_neg hrg, if_neg hrg]

theorem HR.fewer {m : Mp} {h : T AO} {X X' : Nat → Option AO} {n : Nat} {w : World} (hr : HR B w0 m h X n w) (hX : ∀ r o, X' r = some o → X r = some o) : HR B w0 m h X' n w where
  lr := hr.lr.sub fun r o ho => by
    unfold ov at ho ⊢
    split at ho
    · exact ho
    · exact hX r o ho
  apart := fun r o ho => hr.apart r o (hX r o ho)

/-- Everything that holds between two operations. -/
structure Inv (P : Program) [Intr P] (G : Nat) (ih : Ex1) (ops : List Oper) (B : Bd) (w0 : World) (X : Nat → Option AO) (n0 z : Nat) (f F : Nat → Option Value) (C : Nat → Oper → Value → Prop) (h0 H : T AO) (N : Nat) (TL : Tl) (x : X1) (m0 : Mp) (D : List Deferred)
    (listed : Array Bool) (a : Act) (w : World) (steps : List Nat) (h : T AO) (n : Nat) (tl : Tl) (m : Mp) : Prop where
  size : listed.size = ops.length
  down : ∀ p o, ops[p]? = some o → Lst listed p → ∀ e ∈ edges o, Lst listed e
  run : RunT P G ih ops n0 z F (view ops f F) C steps h n tl H N TL x
  at_ : h = lastH h0 tl
  ord : ordOk ops steps = true
  lt : ∀ p ∈ steps, p < ops.length
  out : ∀ p, p < ops.length → p ∉ steps → Lst listed p
  eff : ∀ p ∈ steps, Lst listed p → ¬ WE ops (view ops f F) p
  told : ∀ x ∈ tl, Lst listed x.1
  g : GR m G
  le : m0.le m
  tr : TR m (fD ops f F (Lst listed)) z a
  defers : a.defers = D
  hr : HR B w0 m h (fr X (al P G ops (view ops f F)) n0 ops.length steps (Lst listed)) n w

theorem Lst.lt {listed : Array Bool} {p : Nat} (h : Lst listed p) : p < listed.size := by
  unfold Lst at h
  rcases Nat.lt_or_ge p listed.size with h' | h'
  · exact h'
  · simp [Array.getElem?_eq_none h'] at h

theorem edges_mem {o : Oper} {e : Nat} : e ∈ edges o ↔ ∃ x ∈ o.after, Region.binds .any x = true ∧ x.on = e := by
  simp only [edges, List.mem_map, List.mem_filter, Array.mem_toList_iff]
  constructor
  · rintro ⟨x, ⟨h1, h2⟩, rfl⟩; exact ⟨x, h1, h2, rfl⟩
  · rintro ⟨x, h1, h2, rfl⟩; exact ⟨x, ⟨h1, h2⟩, rfl⟩

section
variable {X : Nat → Option AO} {n0 z : Nat} {f F : Nat → Option Value} {C : Nat → Oper → Value → Prop} {h0 H : T AO} {N : Nat} {TL : Tl} {x : X1} {m0 : Mp} {D : List Deferred} {listed : Array Bool} {a : Act} {w : World} {steps : List Nat} {h : T AO} {n : Nat} {tl : Tl} {m : Mp}

theorem Inv.ready (hi : Inv P G ih ops B w0 X n0 z f F C h0 H N TL x m0 D listed a w steps h n tl m) {i : Nat} (hr : i ∈ Region.ready .any ⟨ops⟩ listed) :
    ∃ o, ops[i]? = some o ∧ i < ops.length ∧ ¬ Lst listed i ∧ (∀ e ∈ edges o, Lst listed e) := by
  obtain ⟨h1, o, ho, h2⟩ := mem_ready.1 hr
  have ho' : ops[i]? = some o := by simpa using ho
  have hlt := (List.getElem?_eq_some_iff.1 ho').1
  refine ⟨o, ho', hlt, fun hl => ?_, fun e he => ?_⟩
  · have : i < listed.size := by rw [hi.size]; exact hlt
    unfold Lst at hl
    simp [this] at h1 hl
    rw [h1] at hl; cases hl
  · obtain ⟨x, hx, hb, rfl⟩ := edges_mem.1 he
    exact h2 x hx hb

theorem Inv.anc (hi : Inv P G ih ops B w0 X n0 z f F C h0 H N TL x m0 D listed a w steps h n tl m) {i : Nat} {o : Oper} (ho : ops[i]? = some o) (he : ∀ e ∈ edges o, Lst listed e) {q : Nat} (hq : Ex.anc ops i q = true) : Lst listed q :=
  anc_down (D := Lst listed) hi.down i q o ho he hq

theorem Inv.all (hi : Inv P G ih ops B w0 X n0 z f F C h0 H N TL x m0 D listed a w steps h n tl m) (hpl : PlanP ops) (hr : Region.ready .any ⟨ops⟩ listed = []) : ∀ p, p < ops.length → Lst listed p := by
  intro p
  induction p using Nat.strongRecOn with
  | _ p ihp =>
    intro hp
    refine Classical.byContradiction fun hn => ?_
    have ho : ops[p]? = some ops[p] := List.getElem?_eq_getElem hp
    have : p ∈ Region.ready .any ⟨ops⟩ listed := mem_ready.2 ⟨by
      have : p < listed.size := by rw [hi.size]; exact hp
      unfold Lst at hn
      simp [this] at hn ⊢
      exact hn, ops[p], by simp, fun e he hb => by
        have hee : e.on ∈ edges ops[p] := edges_mem.2 ⟨e, he, hb, rfl⟩
        have hlt := hpl.edge p _ ho e.on hee
        exact ihp e.on hlt (by omega)⟩
    rw [hr] at this; cases this

/-- Listed now. -/
theorem Inv.down' (hi : Inv P G ih ops B w0 X n0 z f F C h0 H N TL x m0 D listed a w steps h n tl m) {i : Nat} {o : Oper} (ho : ops[i]? = some o) (hlt : i < ops.length) (he : ∀ e ∈ edges o, Lst listed e) :
    ∀ p o, ops[p]? = some o → Lst (listed.setIfInBounds i true) p → ∀ e ∈ edges o, Lst (listed.setIfInBounds i true) e := by
  intro p o' ho' hp e hee
  have hs : i < listed.size := by rw [hi.size]; exact hlt
  rw [Lst.set hs] at hp ⊢
  rcases hp with rfl | hp
  · rw [ho] at ho'; cases ho'; exact .inr (he e hee)
  · exact .inr (hi.down p o' ho' hp e hee)

/-- An operation that leaves the place where it stands. -/
theorem Inv.stay (hpl : PlanP ops) (hi : Inv P G ih ops B w0 X n0 z f F C h0 H N TL x m0 D listed a w steps h n tl m) {i : Nat} {o : Oper} (ho : ops[i]? = some o) (hlt : i < ops.length) (he : ∀ e ∈ edges o, Lst listed e) (hw : ¬ WE ops (view ops f F) i)
    {m' : Mp} (hm : m.le m') {v v' : Value} (hd : ∀ d, o.dst = some d → d < z ∧ F d = some v) (hv : VR m' v v') {w' : World}
    (hh : HR B w0 m' h (fr X (al P G ops (view ops f F)) n0 ops.length steps (Lst (listed.setIfInBounds i true))) n w') :
    Inv P G ih ops B w0 X n0 z f F C h0 H N TL x m0 D (listed.setIfInBounds i true) (a.put o.dst v') w' steps h n tl m' := by
  have hs : i < listed.size := by rw [hi.size]; exact hlt
  exact {
    size := by simpa using hi.size
    down := hi.down' ho hlt he
    run := hi.run
    at_ := hi.at_
    ord := hi.ord
    lt := hi.lt
    out := fun p hp hn => (Lst.set hs).2 (.inr (hi.out p hp hn))
    eff := fun p hp hl => by
      rcases (Lst.set hs).1 hl with rfl | hl
      · exact hw
      · exact hi.eff p hp hl
    told := fun x hx => (Lst.set hs).2 (.inr (hi.told x hx))
    g := hi.g.mono hm
    le := Mp.le_trans hi.le hm
    tr := hi.tr.did hpl hm ho hd hv fun p => Lst.set hs
    defers := by cases o.dst <;> exact hi.defers
    hr := hh }

end

theorem any_sound (hih : Sound P G ih) (hpl : PlanP ops) {X : Nat → Option AO} {n0 z : Nat} {f F : Nat → Option Value} {C : Nat → Oper → Value → Prop} {h0 H : T AO} {N : Nat} {TL : Tl} {x : X1} {m0 : Mp} {D : List Deferred} {Q : Exit → Act → World → Prop}
    (hF : ∀ τ, (∀ p, p < ops.length → dstIs ops p τ = false) → F τ = f τ)
    (hfin : ∀ i o v, ops[i]? = some o → C i o v → chkV P ops (evF G (view ops f F i)) v i o TL.reverse h0 [] = true)
    (hQ : ∀ listed a w steps h n tl m, Inv P G ih ops B w0 X n0 z f F C h0 H N TL x m0 D listed a w steps h n tl m → (∀ p, p < ops.length → Lst listed p) → Q .normal a w)
    (hQp : ∀ listed a w steps h n tl m, Inv P G ih ops B w0 X n0 z f F C h0 H N TL x m0 D listed a w steps h n tl m → ∀ (u : Value) (ch : List PanicEntry) (m' : Mp) (w' : World) (Y : Nat → Option AO), x = .panic u → m.le m' → PR m' u ch →
      HR B w0 m' H Y N w' → (∀ r o, r < n0 → X r = some o → Y r = some o) → Q (.panic ch) a w') :
    ∀ (fuel : Nat) (listed : Array Bool) (a : Act) (w : World) (steps : List Nat) (h : T AO) (n : Nat) (tl : Tl) (m : Mp) (U : List Nat), U.length = fuel → (∀ p, p < ops.length → ¬ Lst listed p → p ∈ U) →
      Inv P G ih ops B w0 X n0 z f F C h0 H N TL x m0 D listed a w steps h n tl m → wpAny P .any ⟨ops⟩ Q fuel listed a w := by
  intro fuel
  induction fuel with
  | zero =>
    intro listed a w steps h n tl m U hUl hUm hi
    have hU0 : U = [] := by cases U <;> simp_all
    subst hU0
    have hall : ∀ p, p < ops.length → Lst listed p := fun p hp => Classical.byContradiction fun hn => by have := hUm p hp hn; cases this
    refine ⟨?_, hQ _ _ _ _ _ _ _ _ hi hall⟩
    cases hr : Region.ready .any ⟨ops⟩ listed with
    | nil => rfl
    | cons i l =>
      obtain ⟨o, ho, hlt, hn, _⟩ := hi.ready (i := i) (by rw [hr]; simp)
      exact absurd (hall i hlt) hn
  | succ fuel ihf =>
    intro listed a w steps h n tl m U hUl hUm hi
    refine ⟨fun hr => hQ _ _ _ _ _ _ _ _ hi (hi.all hpl hr), fun i hr => ?_⟩
    obtain ⟨o, ho, hlt, hni, he⟩ := hi.ready hr
    have hs : i < listed.size := by rw [hi.size]; exact hlt
    have hiU : i ∈ U := hUm i hlt hni
    have next : ∀ a w steps h n tl m, Inv P G ih ops B w0 X n0 z f F C h0 H N TL x m0 D (listed.setIfInBounds i true) a w steps h n tl m → wpAny P .any ⟨ops⟩ Q fuel (listed.setIfInBounds i true) a w := fun a w steps h n tl m hi' => by
      refine ihf _ a w steps h n tl m (U.erase i) (by rw [List.length_erase_of_mem hiU, hUl]; rfl) (fun p hp hn => ?_) hi'
      rw [Lst.set hs] at hn
      exact (List.mem_erase_of_ne fun e => hn (.inl e)).2 (hUm p hp fun hl => hn (.inr hl))
    have hist : i ∈ steps := Classical.byContradiction fun hn => hni (hi.out i hlt hn)
    have hlook : ∀ τ ∈ looksL ops o, fD ops f F (Lst listed) τ = view ops f F i τ := fun τ hτ => by
      unfold view
      split
      · rename_i hex
        obtain ⟨p, hp1, hp2, hp3⟩ := hex
        refine fD_done fun q hq hqd => ?_
        have := dst_unique hpl hp1 hq hp2 hqd
        subst this
        exact hi.anc ho he hp3
      · rename_i hex
        by_cases hu : ∃ q, q < ops.length ∧ ¬ Lst listed q ∧ dstIs ops q τ = true
        · obtain ⟨q, hq1, hq2, hq3⟩ := hu
          exact fD_old hq1 hq2 hq3
        · rw [fD_done fun q hq hqd => Classical.byContradiction fun hn => hu ⟨q, hq, hn, hqd⟩]
          refine hF τ fun q hq => ?_
          cases hqd : dstIs ops q τ
          · rfl
          · have hql : Lst listed q := Classical.byContradiction fun hn => hu ⟨q, hq, hn, hqd⟩
            rcases hpl.look i o ho τ hτ q hq hqd with h3 | h3 | h3
            · exact absurd ⟨q, hq, hqd, h3⟩ hex
            · subst h3; exact absurd hql hni
            · exact absurd (anc_down (D := Lst listed) hi.down q i _ (List.getElem?_eq_getElem hq) (hi.down q _ (List.getElem?_eq_getElem hq) hql) h3) hni
    have hev := evF_congr (G := G) hlook
    have hwa := wantedA_congr hlook
    have hevr := evF_sound hi.g hi.tr
    have ho' : (⟨ops⟩ : Array Oper)[i]? = some o := by simpa using ho
    have hfo : ∀ r, r ≠ n0 + i → fr X (al P G ops (view ops f F)) n0 ops.length steps (Lst (listed.setIfInBounds i true)) r = fr X (al P G ops (view ops f F)) n0 ops.length steps (Lst listed) r := fun r hr =>
      fr_other hr (fun p hp => by rw [Lst.set hs]; simp [hp]) (fun p hp => Iff.rfl)
    have hli : Lst (listed.setIfInBounds i true) i := (Lst.set hs).2 (.inl rfl)
    have stayH : al P G ops (view ops f F) i = none → HR B w0 m h (fr X (al P G ops (view ops f F)) n0 ops.length steps (Lst (listed.setIfInBounds i true))) n w := fun hn => hi.hr.fewer fun r o hro => by
      by_cases e : r = n0 + i
      · subst e; rw [fr_done hlt hli (.inr hn)] at hro; cases hro
      · rwa [hfo r e] at hro
    unfold wpOp
    rw [ho']
    simp only []
    by_cases hcase : isEff o = true ∧ wantedA ops (view ops f F i) o = some true
    · obtain ⟨heff, hw⟩ := hcase
      rw [wantedA_spec (hwa.trans hw) hi.tr, if_pos rfl]
      left
      obtain ⟨pre, post, rfl⟩ := List.append_of_mem hist
      have hpre : ∀ p ∈ pre, p < ops.length ∧ Lst listed p ∧ ¬ WE ops (view ops f F) p := fun p hp => by
        have hps : p ∈ pre ++ i :: post := by simp [hp]
        have hl : Lst listed p := hi.anc ho he (ordOk_app hi.ord (by simp [effAt, ho, heff]) p hp)
        exact ⟨hi.lt p hps, hl, hi.eff p hps hl⟩
      obtain ⟨h1, hrun, hh⟩ := hi.run.advance hi.ord hpre hi.hr
      have hord : ordOk ops (i :: post) = true := ordOk_tail hi.ord
      obtain ⟨hoc1, hoc2⟩ := ordOk_cons hord
      cases hrun with
      | @pan _ _ o2 _ _ _ u v hv1 n1 ho2 hw2 he2 hv2 hu2 hc2 =>
        rw [ho] at ho2; cases ho2
        have hhx : HR B w0 m h1 (fr X (al P G ops (view ops f F)) n0 ops.length post (Lst (listed.setIfInBounds i true))) n w := hh.fewer fun r o' hro => by
          have hnp : i ∉ post := fun hp => (hoc1 i hp).1 rfl
          by_cases e : r = n0 + i
          · subst e; rw [fr_done hlt hli (.inl hnp)] at hro; cases hro
          · rw [← hro]
            exact fr_other e (fun p hp => by rw [Lst.set hs]; simp [hp]) (fun p hp => by simp [hp])
        classical
        have hkk : opX P G ih h1 n (evF G (fD ops f F (Lst listed))) o (fun v' h' n' => decide (v' = v ∧ h' = H ∧ n' = N)) = true := by
          rw [opX_congr hev, hv2]; simp
        refine opX_sound hih hi.g hhx hevr hkk _ _ (fun v2 v' m' h' n' w' hm hv hh' hdec => ?_) (fun v2 ch m' h' n' w' hm hv hh' hdec => ?_)
        · obtain ⟨rfl, _, _⟩ := of_decide_eq_true hdec
          rw [hv.unpan] at hu2; cases hu2
        · obtain ⟨e1, rfl, rfl⟩ := of_decide_eq_true hdec
          rw [← e1, unpan_pan] at hu2
          cases hu2
          refine hQp _ _ _ _ _ _ _ _ hi _ ch m' w' _ rfl hm hv hh' fun r o' hr hx => ?_
          unfold fr
          rw [if_neg (by omega)]
          exact hx
      | @step _ _ o2 _ _ _ v hv1 n1 b _ _ _ _ ho2 hd2 _ hdst2 hrr =>
        rw [ho] at ho2; cases ho2
        cases hd2 with
        | skip hw2 => rw [hw] at hw2; cases hw2
        | pure _ he2 _ _ => rw [heff] at he2; cases he2
        | read _ he2 _ _ => rw [heff] at he2; cases he2
        | alloc _ hc2 _ => simp [isEff, hc2] at heff
        | eff _ _ hk hu =>
          have hhx : HR B w0 m h1 (fr X (al P G ops (view ops f F)) n0 ops.length post (Lst (listed.setIfInBounds i true))) n w := hh.fewer fun r o' hro => by
            have hnp : i ∉ post := fun hp => (hoc1 i hp).1 rfl
            by_cases e : r = n0 + i
            · subst e; rw [fr_done hlt hli (.inl hnp)] at hro; cases hro
            · rw [← hro]
              exact fr_other e (fun p hp => by rw [Lst.set hs]; simp [hp]) (fun p hp => by simp [hp])
          classical
          have hkk : opX P G ih h1 n (evF G (fD ops f F (Lst listed))) o (fun v' h' n' => decide (v' = v ∧ h' = hv1 ∧ n' = n1)) = true := by
            rw [opX_congr hev, hk]; simp
          refine opX_sound hih hi.g hhx hevr hkk _ _ (fun v2 v' m' h' n' w' hm hv hh' hdec => ?_) (fun v2 ch m' h' n' w' hm hv hh' hdec => absurd hu (by rw [← (of_decide_eq_true hdec).1]; exact fun h => by cases h))
          obtain ⟨rfl, rfl, rfl⟩ := of_decide_eq_true hdec
          refine next _ _ post h' n' ((i, h') :: tl) m' ?_
          exact {
            size := by simpa using hi.size
            down := hi.down' ho hlt he
            run := hrr
            at_ := rfl
            ord := hoc2
            lt := fun p hp => hi.lt p (by simp [hp])
            out := fun p hp hn => by
              rw [Lst.set hs]
              by_cases e : p = i
              · exact .inl e
              · by_cases hpp : p ∈ pre
                · exact .inr (hpre p hpp).2.1
                · exact .inr (hi.out p hp (by simp [hpp, e, hn]))
            eff := fun p hp hl => by
              rcases (Lst.set hs).1 hl with rfl | hl
              · exact absurd rfl (hoc1 _ hp).1
              · exact hi.eff p (by simp [hp]) hl
            told := fun x hx => by
              rw [Lst.set hs]
              rcases List.mem_cons.1 hx with rfl | hx
              · exact .inl rfl
              · exact .inr (hi.told x hx)
            g := hi.g.mono hm
            le := Mp.le_trans hi.le hm
            tr := hi.tr.did hpl hm ho hdst2 hv fun p => Lst.set hs
            defers := by cases o.dst <;> exact hi.defers
            hr := hh' }
    · rcases hi.run.at hist with ⟨oc, hc, nc, vc, hc1, nc1, bc, hoc, hdid, hcb, hdst⟩ | ⟨oc, hoc, hpe, hpw⟩ | ⟨e, hel, hwe, hae⟩
      · rw [ho] at hoc; cases hoc
        cases hdid with
        | eff hw heff _ _ => exact absurd ⟨heff, hw⟩ hcase
        | skip hw =>
          rw [wantedA_spec (hwa.trans hw) hi.tr]
          rw [if_neg (by simp)]
          exact next _ _ _ _ _ _ _ (hi.stay hpl ho hlt he (fun ⟨o2, h1, _, h2⟩ => by rw [ho] at h1; cases h1; rw [hw] at h2; cases h2) m.le_refl hdst (.tuple' VRs.nil) (stayH (by simp [al, ho, hw])))
        | pure hw hne hcl hp =>
          rw [wantedA_spec (hwa.trans hw) hi.tr, if_pos rfl]
          left
          have hWE : ¬ WE ops (view ops f F) i := fun ⟨o2, h1, h2, _⟩ => by rw [ho] at h1; cases h1; rw [hne] at h2; cases h2
          obtain ⟨v', hvr, hrun⟩ := pureV_sound hevr ((pureV_congr hev).trans hp)
          unfold Oper.wp
          rw [hrun w]
          exact next _ _ _ _ _ _ _ (hi.stay hpl ho hlt he hWE m.le_refl hdst hvr (stayH (by simp [al, ho, hcl])))
        | read hw hne hcl _ =>
          rw [wantedA_spec (hwa.trans hw) hi.tr, if_pos rfl]
          left
          have hWE : ¬ WE ops (view ops f F) i := fun ⟨o2, h1, h2, _⟩ => by rw [ho] at h1; cases h1; rw [hne] at h2; cases h2
          have hk := hfin i o vc ho (hcb rfl)
          obtain ⟨fut, hTL, hfut⟩ := hi.run.tl
          rw [hTL] at hk
          have hv := chkV_at tl.reverse fut h0 [] hk h (by rw [List.reverse_reverse]; exact hi.at_) (fun e hee => by
              have hel := hi.told e (by simpa using hee)
              have helt : e.1 < ops.length := by have := hel.lt; rwa [hi.size] at this
              cases hx : Ex.anc ops e.1 i
              · rfl
              · exact absurd (anc_down (D := Lst listed) hi.down e.1 i _ (List.getElem?_eq_getElem helt) (hi.down e.1 _ (List.getElem?_eq_getElem helt) hel) hx) hni) (by simp) (fun x hx => by
              cases hy : Ex.anc ops i x.1
              · rfl
              · exact absurd (hfut x hx).2 (hi.eff x.1 (hfut x hx).1 (hi.anc ho he hy)))
          obtain ⟨v', hvr, hrun⟩ := readV_sound hi.hr.sub hi.hr.lr hevr ((readV_congr hev).trans hv)
          unfold Oper.wp
          rw [hrun]
          exact next _ _ _ _ _ _ _ (hi.stay hpl ho hlt he hWE m.le_refl hdst hvr (stayH (by simp [al, ho, hcl])))
        | @alloc ao g hw hcl hval =>
          rw [wantedA_spec (hwa.trans hw) hi.tr, if_pos rfl]
          left
          have hWE : ¬ WE ops (view ops f F) i := fun ⟨o2, h1, h2, _⟩ => by rw [ho] at h1; cases h1; simp [isEff, hcl] at h2
          have hal : al P G ops (view ops f F) i = some ao := by simp [al, ho, hw, hcl, hval]
          obtain ⟨hl, hrw, co, hrun, hor, hvr⟩ := allocV_sound hevr ((allocV_congr hev).trans hval)
          have hres : fr X (al P G ops (view ops f F)) n0 ops.length steps (Lst listed) (n0 + i) = some .res := fr_unlisted hlt hni
          have hnone := hi.hr.apart _ _ hres
          have hov : ov h (fr X (al P G ops (view ops f F)) n0 ops.length steps (Lst listed)) (n0 + i) = some .res := by rw [ov_none hnone]; exact hres
          have hnd := hi.hr.lr.free _ hov
          have hltn := hi.hr.lr.lt _ _ hov
          have hle := Mp.le_ext (m := m) hnd w.heap.size 0 0
          have hsub : LR B w0 m (fun r => if r = n0 + i then none else ov h (fr X (al P G ops (view ops f F)) n0 ops.length steps (Lst listed)) r) n w := hi.hr.lr.sub fun r o hro => by
            by_cases e : r = n0 + i
            · rw [if_pos e] at hro; cases hro
            · rwa [if_neg e] at hro
          have hlr := hsub.alloc hnd (by simp) (Nat.le_refl n) hltn 0 0 (hor _ (n0 + i) hle)
          unfold Oper.wp
          rw [hrun w]
          refine next _ _ _ _ _ _ _ (hi.stay hpl ho hlt he hWE hle hdst ?_ ⟨hlr.congr fun r => ?_, fun r o' hx => ?_⟩)
          · have := hvr (m.ext (n0 + i) w.heap.size 0 0) (n0 + i) (Mp.ext_dom _ _ _ _ _)
            rwa [Mp.ext_mu] at this
          · by_cases e : r = n0 + i
            · subst e
              rw [ov_none hnone, fr_made hlt hli hist, upd_same, hal]
            · rw [upd_ne _ _ e, if_neg e]
              unfold ov
              rw [hfo r e]
          · by_cases e : r = n0 + i
            · subst e; exact hnone
            · rw [hfo r e] at hx; exact hi.hr.apart r o' hx
      · rw [ho] at hoc; cases hoc
        exact absurd ⟨hpe, hpw⟩ hcase
      · exact absurd hwe (hi.eff e hel (hi.anc ho he hae))

theorem regK_sound (hm : P.follows .mixedOrders = true) : RegSound P G (regK P G) := by
  intro ih hih hU ops z t h n k hk B w0 m X D a w Q id hG ht hd hr hn
  refine wp_region_any hm ?_
  unfold regK at hk
  cases hp : planOk ops
  · rw [hp] at hk; cases hk
  rw [hp, sel_true, forceN_eq] at hk
  have hpl := planOk_spec hp
  rcases canon_run (P := P) (G := G) (ops := ops) hU (n0 := n) (z := z) (ord ops) t h (n + ops.length) [] [] with hno | ⟨T', H, N, TL, RD, x, hrun, hck⟩
  · rw [hno] at hk; cases hk
  rw [hck] at hk
  cases hf : RD.all (rdOk P G ops h TL.reverse)
  · rw [hf] at hk; cases hk
  rw [hf, sel_true, killX_eq] at hk
  have hF0 : ∀ τ, (∀ p, p < ops.length → dstIs ops p τ = false) → T'.get τ = t.get τ := fun τ hτ => hrun.stable fun p hp => hτ p (hpl.lt p hp)
  have hrT := hrun.toT hpl hpl.ordd hpl.lt (f := t.get) (fun τ _ => rfl) (fun p hp hn => absurd (hpl.all p hp) hn)
    (C := fun i o v => chkV P ops (evF G (view ops t.get T'.get i)) v i o TL.reverse h [] = true) (fun i o tt v ho hmem hsee => by
      simp only [List.all_eq_true] at hf
      have := hf _ hmem
      simp only [rdOk, ho] at this
      rw [← this]
      exact (chkV_congr (evF_congr hsee) ..).symm)
  have hnot : ∀ p, ¬ Lst (Array.replicate ops.length false) p := fun p hl => by
    have := hl.lt
    unfold Lst at hl
    simp at this
    simp [this] at hl
  have hsz : (⟨ops⟩ : Array Oper).size = ops.length := rfl
  rw [hsz]
  refine any_sound hih hpl (B := B) (w0 := w0) (X := X) (n0 := n) (z := z) (f := t.get) (F := T'.get) (C := fun i o v => chkV P ops (evF G (view ops t.get T'.get i)) v i o TL.reverse h [] = true) (h0 := h) (H := H) (N := N) (TL := TL) (x := x) (m0 := m) (D := D) hF0 (fun i o v _ hc => hc) (fun listed a w steps h' n' tl m' hi hall => ?_) (fun listed a w steps h' n' tl m1 hi u ch m' w' Y hx hm1 hp hh hY => ?_) ops.length _ a _ (ord ops) h (n + ops.length) [] m (List.range ops.length) (by simp) (fun p hp _ => by simpa using hp) ?_
  · have hpre : ∀ p ∈ steps, p < ops.length ∧ Lst listed p ∧ ¬ WE ops (view ops t.get T'.get) p := fun p hp => ⟨hi.lt p hp, hall p (hi.lt p hp), hi.eff p hp (hall p (hi.lt p hp))⟩
    obtain ⟨h1, hr1, hh1⟩ := RunT.advance (pre := steps) (post := []) (by simpa using hi.run) (by simpa using hi.ord) hpre (by simpa using hi.hr)
    cases hr1 with
    | done =>
      refine hn m' .normal T' H N .normal a w hi.le .normal (hi.tr.ext fun i v hv => ?_) hi.defers (hh1.fewer fun r o hro => ?_) hk
      · rw [fD_done fun p hp _ => hall p hp]; exact hv
      · have hlt := hr.lr.lt r o (by rw [ov_none (hr.apart r o hro)]; exact hro)
        unfold fr
        rw [if_neg (by omega)]
        exact hro
  · subst hx
    refine hn m' (.panic u) (killL (dstsO ops) T') H N (.panic ch) a w' (Mp.le_trans hi.le hm1) (.panic u ch hp) ⟨hi.tr.1, fun i v hv => ?_⟩ hi.defers (hh.fewer fun r o hro => ?_) hk
    · rw [killL_get] at hv
      split at hv
      · cases hv
      rename_i hni
      refine (hi.tr.mono hm1).2 i v ?_
      rw [fD_done fun p hp' hd' => ?_]
      · exact hv
      · refine absurd ?_ hni
        unfold dstIs at hd'
        split at hd'
        · rename_i o2 ho2
          split at hd'
          · rename_i d2 hd2
            rw [nbeq, decide_eq_true_eq] at hd'
            subst hd'
            exact List.mem_filterMap.2 ⟨o2, List.mem_of_getElem? ho2, hd2⟩
          · cases hd'
        · cases hd'
    · exact hY r o (hr.lr.lt r o (by rw [ov_none (hr.apart r o hro)]; exact hro)) hro
  · exact {
      size := by simp
      down := fun p o ho hl => absurd hl (hnot p)
      run := hrT
      at_ := rfl
      ord := hpl.ordd
      lt := hpl.lt
      out := fun p hp hn => absurd (hpl.all p hp) hn
      eff := fun p hp hl => absurd hl (hnot p)
      told := fun x hx => by cases hx
      g := hG
      le := m.le_refl
      tr := ht.ext fun τ v hv => by
        rw [← hv]
        by_cases hu : ∃ q, q < ops.length ∧ dstIs ops q τ = true
        · obtain ⟨q, hq1, hq2⟩ := hu
          rw [fD_old hq1 (hnot q) hq2]
        · have hno : ∀ p, p < ops.length → dstIs ops p τ = false := fun p hp => by
            cases e : dstIs ops p τ
            · rfl
            · exact absurd ⟨p, hp, e⟩ hu
          rw [fD_done fun p hp hd => (by rw [hno p hp] at hd; cases hd), hF0 τ hno]
      defers := hd
      hr := by
        have hlr := hr.same (Same.drew w)
        have hnone : ∀ r, n ≤ r → h.get r = none := fun r hrn => by
          cases e : h.get r with
          | none => rfl
          | some o => have := hr.lr.lt r o (ov_some e); omega
        refine ⟨?_, fun r o hx => ?_⟩
        · have hold : ∀ r o, ov h (fr X (al P G ops (view ops t.get T'.get)) n ops.length (ord ops) (Lst (Array.replicate ops.length false))) r = some o → ov h X r = some o ∨ (o = .res ∧ n ≤ r ∧ r < n + ops.length) := fun r o ho => by
            unfold ov at ho ⊢
            split at ho
            · exact .inl ho
            · unfold fr at ho
              split at ho
              · rename_i hrg
                rw [if_neg (hnot _)] at ho
                cases ho
                exact .inr ⟨rfl, hrg⟩
              · exact .inl ho
          have hl := hlr.lr
          exact {
            below := hl.below
            size := hl.size
            ok := fun b o hb hlv => by
              rcases hold b o hb with hb | ⟨rfl, _⟩
              · exact hl.ok b o hb hlv
              · cases hlv
            lt := fun b o hb => by
              rcases hold b o hb with hb | ⟨_, hb⟩
              · have := hl.lt b o hb; omega
              · exact hb.2
            own := fun b o hb hlv hrw => by
              rcases hold b o hb with hb | ⟨rfl, _⟩
              · exact hl.own b o hb hlv hrw
              · cases hlv
            inj := fun b b' o o' hb hb' hlv hlv' => by
              rcases hold b o hb with hb | ⟨rfl, _⟩
              · rcases hold b' o' hb' with hb' | ⟨rfl, _⟩
                · exact hl.inj b b' o o' hb hb' hlv hlv'
                · cases hlv'
              · cases hlv
            dom := fun b hb => by have := hl.dom b hb; omega
            free := fun b hb hd => by
              rcases hold b _ hb with hb | ⟨_, hb⟩
              · exact hl.free b hb hd
              · have := hl.dom b hd; omega }
        · unfold fr at hx
          split at hx
          · rename_i hrg; exact hnone r hrg.1
          · exact hr.apart r o hx }

theorem regK_uni : (regK P G).Uni := by
  intro ih hU ops z t h n
  unfold regK
  simp only [forceN_eq, killX_eq]
  cases planOk ops
  · exact .inl fun _ => rfl
  · simp only [sel_true]
    rcases canon_run (P := P) (G := G) (ops := ops) hU (n0 := n) (z := z) (ord ops) t h (n + ops.length) [] [] with hno | ⟨T', H, N, TL, RD, x, hrun, hck⟩
    · exact .inl fun _ => hno _
    · cases hf : RD.all (rdOk P G ops h TL.reverse)
      · exact .inl fun k => (hck _).trans (by rw [hf]; rfl)
      · exact .inr ⟨x, killY ops x T', H, N, fun k => (hck _).trans (by rw [hf]; rfl)⟩

/-- The executor. -/
def run (P : Program) [Intr P] (G : Nat) (fuel : Nat) : Ex1 := exec P G (regK P G) fuel
theorem run_sound (hm : P.follows .mixedOrders = true) (fuel : Nat) : Sound P G (run P G fuel) := (exec_sound (regK_sound hm) (exec_uni regK_uni) fuel).1

end
end Go.Ex

/- A law, run: from the executor's word to the model's. -/
namespace Go.Ex
noncomputable section
open Go.RowKit (Below)

/-- The package's variables alone are known. -/
def mGS (G : Nat) (e : Nat → Nat) : Mp := { dom := fun b => b < G, mu := fun b => b, cap := fun _ => 0, esz := e }
/-- And no number is unknown. -/
abbrev mG (G : Nat) : Mp := mGS G fun _ => 0
theorem mG_GR (G : Nat) (e : Nat → Nat) : GR (mGS G e) G := fun _ hg => ⟨hg, rfl⟩
theorem mG_HR (G n : Nat) (e : Nat → Nat) (hn : G ≤ n) (w : World) : HR w.heap.size w (mGS G e) .leaf (fun _ => none) n w where
  lr := {
    below := BelowS.refl _ _
    size := Nat.le_refl _
    ok := fun b o hb => by cases hb
    lt := fun b o hb => by cases hb
    own := fun b o hb => by cases hb
    inj := fun b b' o o' hb => by cases hb
    dom := fun b hb => Nat.lt_of_lt_of_le hb hn
    free := fun b hb => by cases hb }
  apart := fun b o hb => by cases hb

def isTrue (v : Value) : Bool :=
  match v with
  | .bool b => b
  | _ => false

/-- A law's run in the executor. -/
def lawRun (P : Program) [Intr P] (G fuel : Nat) (f : FuncId) (args : List Value) : Bool := enterK P G (run P G fuel) f args .leaf (G + 1) fun v _ _ => isTrue v

theorem law_run {P : Program} [Intr P] (hm : P.follows .mixedOrders = true) {G fuel : Nat} {f : FuncId} {args args' : List Value} {es : Nat → Nat} (hb : (bodyOf P f).isSome = true) (hk : lawRun P G fuel f args = true) (ha : VRs (mGS G es) args args') (w : World) :
    Calls P f ⟨args'⟩ w fun e w' => e = .returned (.bool true) ∧ Below w.heap.size w w' := by
  have := enterK_sound (run_sound (G := G) hm fuel) (mG_GR G es) (mG_HR G (G + 1) es (Nat.le_succ G) w) hk ha (fun v w' => v = .bool true ∧ Below w.heap.size w w') (fun _ _ => False) (fun v v' m' h' n' w' _ hv hh ht => by
    refine ⟨?_, hh.lr.below.nat⟩
    unfold isTrue at ht
    split at ht
    · subst ht; exact hv.inv_bool
    · cases ht) (fun v ch m' h' n' w' _ _ _ ht => by cases ht)
  rcases this with ⟨v', w', hr, _⟩ | ⟨_, hc⟩
  · obtain ⟨⟨fn, c⟩, hbo⟩ := Option.isSome_iff_exists.1 hb
    rw [(bodyOf_spec hbo).2.2 _ w] at hr
    cases hr
  · refine hc.mono fun e w' he => ?_
    cases e with
    | returned v => exact ⟨by rw [he.1], he.2⟩
    | panicked c => exact he.elim
    | outgrown => exact he.elim

/-- An argument of a byte: its residue. -/
def u8s (q r : Nat) : Value := .complex .f64 q (16 * r + 4)
theorem u8s_VR (m : Mp) {q r : Nat} {a : Int} (hw : (Lit.int .u8 a).wf = true) (hr : a % (q : Int) = r) : VR m (u8s q r) (.int .u8 a) := by
  have h : 0 ≤ a ∧ a < 256 := by
    simp [Lit.wf, IntKind.min, IntKind.max, IntKind.signed, IntKind.bits] at hw
    omega
  refine .sym .u8 q _ a (by simp [kcode]) (.inr ⟨by simp, h.1, h.2, ?_⟩)
  rw [hr]
  congr 1
  omega

/-- An unknown number of one byte. -/
def sy8 : Value := .complex .f32 0 0
theorem sy8_VR {G : Nat} (hG : 0 < G) {a : Int} (hw : (Lit.int .i8 a).wf = true) : VR (mGS G fun _ => (a + 9223372036854775808).toNat) sy8 (.int .i8 a) := by
  have h : -128 ≤ a ∧ a ≤ 127 := by
    simp [Lit.wf, IntKind.min, IntKind.max, IntKind.signed, IntKind.bits] at hw
    omega
  have e : Int.ofNat ((a + 9223372036854775808).toNat) - 9223372036854775808 = a := by
    show ((a + 9223372036854775808).toNat : Int) - _ = a
    omega
  have := VR.symo (m := mGS G fun _ => (a + 9223372036854775808).toNat) .i8 0 0 rfl (by
    show _ ≤ Int.ofNat ((a + 9223372036854775808).toNat) - _ ∧ Int.ofNat ((a + 9223372036854775808).toNat) - _ ≤ _
    rw [e]
    have h7 : IntKind.i8.min = -128 := by decide
    have h8 : IntKind.i8.max = 127 := by decide
    rw [h7, h8]; exact h) (.inl rfl) (fun i hi => ⟨Nat.lt_of_le_of_lt hi hG, fun hl => absurd hl (by omega)⟩)
  unfold sy8
  rwa [show Int.ofNat ((mGS G fun _ => (a + 9223372036854775808).toNat).esz 0) - 9223372036854775808 = a from e] at this

/-- An unknown number's last two bits. -/
def syi (r : Nat) : Value := .complex .f32 0 (16 * (r + 1) + 3)
theorem syi_VR {G : Nat} (hG : 0 < G) {r : Nat} {a : Int} (hw : (Lit.int .i64 a).wf = true) (hr : a % 4 = (r : Int)) : VR (mGS G fun _ => (a + 9223372036854775808).toNat) (syi r) (.int .i64 a) := by
  have h : -9223372036854775808 ≤ a ∧ a ≤ 9223372036854775807 := by
    simp [Lit.wf, IntKind.min, IntKind.max, IntKind.signed, IntKind.bits] at hw
    omega
  have e : Int.ofNat ((a + 9223372036854775808).toNat) - 9223372036854775808 = a := by
    show ((a + 9223372036854775808).toNat : Int) - _ = a
    omega
  have := VR.symo (m := mGS G fun _ => (a + 9223372036854775808).toNat) .i64 0 (16 * (r + 1) + 3) (by simp only [kcode]; omega) (by
    show _ ≤ Int.ofNat ((a + 9223372036854775808).toNat) - _ ∧ Int.ofNat ((a + 9223372036854775808).toNat) - _ ≤ _
    rw [e]
    have h7 : IntKind.i64.min = -9223372036854775808 := by decide
    have h8 : IntKind.i64.max = 9223372036854775807 := by decide
    rw [h7, h8]; exact h) (.inr (.inl ⟨by omega, by
    show (Int.ofNat ((a + 9223372036854775808).toNat) - _) % 4 = _
    rw [e, hr, show (16 * (r + 1) + 3) / 16 - 1 = r by omega]; rfl⟩)) (fun i hi => ⟨Nat.lt_of_le_of_lt hi hG, fun hl => absurd hl (by omega)⟩)
  unfold syi
  rwa [show Int.ofNat ((mGS G fun _ => (a + 9223372036854775808).toNat).esz 0) - 9223372036854775808 = a from e] at this

end
end Go.Ex

/- The same, made lean for the kernel: what hangs on the code alone is a closed term of its own, which the kernel keeps. -/
namespace Go.Ex
noncomputable section

variable {P : Program} [Intr P]

abbrev Ev := Operand → Option Value
abbrev Kx := Value → T AO → Nat → Bool

def pu1 (ev : Ev) (x : Operand) (f : Value → Option Value) : Option Value := match ev x with | some a => f a | none => none
def pu2 (ev : Ev) (x y : Operand) (f : Value → Value → Option Value) : Option Value := match ev x, ev y with | some a, some b => f a b | _, _ => none

def pureC (P : Program) [Intr P] (o : Op) : Option (Ev → Option Value) :=
  match o with
  | .move x => some fun ev => ev x
  | .assign x => some fun ev => ev x
  | .pick c a b => some fun ev => match ev c with
    | some (.bool true) => ev a
    | some (.bool false) => ev b
    | _ => none
  | .build t ps => some fun ev => match evps ev ps.toList with
    | some l => buildV P t l
    | none => none
  | .nilCheck x => some fun ev => pu1 ev x nilV
  | .binOp op xt x y _ => some fun ev => pu2 ev x y (binV P op xt x y)
  | .unOp op _ x => some fun ev => pu1 ev x (unV P op)
  | .convert src dst x => some fun ev => pu1 ev x (convV P src dst)
  | .makeInterface t x => some fun ev => pu1 ev x (makeIfaceV P t)
  | .makeFunc fn first captured => some fun ev => match evs ev first.toList, evs ev captured.toList with
    | some l, some k => sel (fnOk fn) (some (.func fn ⟨l⟩ ⟨k⟩)) none
    | _, _ => none
  | .slice t x lo hi mx => some fun ev => match ev x, evo ev lo, evo ev hi, evo ev mx with
    | some a, some l, some h, some q => sliceV P t a l h q
    | _, _, _, _ => none
  | .fieldAddr s x f => some fun ev => pu1 ev x fun a => fieldAddrV P s a f
  | .field s x f => some fun ev => pu1 ev x fun a => fieldV P s a f
  | .indexAddr t x i => some fun ev => pu2 ev x i (indexAddrV P t)
  | .index t x i => some fun ev => pu2 ev x i (indexV P t)
  | .typeAssert x _ asserted ok => some fun ev => pu1 ev x (typeAssertV P asserted ok)
  | .extract x i => some fun ev => pu1 ev x fun a => extractV a i
  | .call c => match c.callee with
    | .builtin .len => match c.argTypes.toList, c.args.toList with
      | [t], [x] => some fun ev => pu1 ev x (lenV P t)
      | _, _ => none
    | .builtin .cap => match c.argTypes.toList, c.args.toList with
      | [t], [x] => some fun ev => pu1 ev x (capV P t)
      | _, _ => none
    | .builtin .max => some fun ev => match evs ev c.args.toList with
      | some l => sel (allInts l) (flatted (pr P (Builtin.max_ #[] 0 ⟨l⟩))) none
      | none => none
    | .builtin .min => some fun ev => match evs ev c.args.toList with
      | some l => sel (allInts l) (flatted (pr P (Builtin.min_ #[] 0 ⟨l⟩))) none
      | none => none
    | _ => none
  | _ => none
def runO (f : Option (Ev → Option Value)) (ev : Ev) : Option Value := Option.rec (motive := fun _ => Option Value) none (fun f => f ev) f

theorem pureC_eq (ev : Ev) (o : Oper) : runO (pureC P o.op) ev = pureV P ev o := by
  obtain ⟨dst, op, ty, pos, after, guard⟩ := o
  cases op
  case call c =>
    obtain ⟨callee, args, ats⟩ := c
    obtain ⟨args⟩ := args
    obtain ⟨ats⟩ := ats
    cases callee
    case builtin b =>
      cases b
      case len => rcases ats with _ | ⟨t, _ | ⟨t2, _ | ⟨t3, ts⟩⟩⟩ <;> rcases args with _ | ⟨x, _ | ⟨y, _ | ⟨z, r⟩⟩⟩ <;> rfl
      case cap => rcases ats with _ | ⟨t, _ | ⟨t2, _ | ⟨t3, ts⟩⟩⟩ <;> rcases args with _ | ⟨x, _ | ⟨y, _ | ⟨z, r⟩⟩⟩ <;> rfl
      all_goals rfl
    all_goals rfl
  all_goals rfl

def readC (P : Program) [Intr P] (o : Op) : Option (T AO → Ev → Option Value) :=
  match o with
  | .load t x => some fun h ev => pu1 ev x (loadV P h t)
  | .binOp op xt x y _ => some fun h ev => pu2 ev x y fun a b => match eqAddr P h xt a b with
      | some c => eqOp op c
      | none => none
  | .lookup t x i ok => some fun h ev => pu2 ev x i fun a b => lookupV P h t a b ok
  | .entry it => some fun h ev => pu1 ev it fun a => entryV h a
  | .convert src dst x => some fun h ev => pu1 ev x (strV P h src dst)
  | .slice t x lo hi mx => some fun h ev => match ev x, evo ev lo, evo ev hi, evo ev mx with
    | some a, some l, some h', some q => sliceRV P h t a l h' q
    | _, _, _, _ => none
  | .call c => match c.callee with
    | .builtin .len => match c.argTypes.toList, c.args.toList with
      | [t], [x] => some fun h ev => pu1 ev x (lenMapV P h t)
      | _, _ => none
    | .builtin .cap => match c.argTypes.toList, c.args.toList with
      | [t], [x] => some fun h ev => pu1 ev x (capRV P h t)
      | _, _ => none
    | _ => none
  | _ => none
def runR (f : Option (T AO → Ev → Option Value)) (h : T AO) (ev : Ev) : Option Value := Option.rec (motive := fun _ => Option Value) none (fun f => f h ev) f
theorem readC_eq (h : T AO) (ev : Ev) (o : Oper) : runR (readC P o.op) h ev = readV P h ev o := by
  obtain ⟨dst, op, ty, pos, after, guard⟩ := o
  cases op
  case call c =>
    obtain ⟨callee, args, ats⟩ := c
    obtain ⟨args⟩ := args
    obtain ⟨ats⟩ := ats
    cases callee
    case builtin b =>
      cases b
      case len => rcases ats with _ | ⟨t, _ | ⟨t2, _ | ⟨t3, ts⟩⟩⟩ <;> rcases args with _ | ⟨x, _ | ⟨y, _ | ⟨z, r⟩⟩⟩ <;> rfl
      case cap => rcases ats with _ | ⟨t, _ | ⟨t2, _ | ⟨t3, ts⟩⟩⟩ <;> rcases args with _ | ⟨x, _ | ⟨y, _ | ⟨z, r⟩⟩⟩ <;> rfl
      all_goals rfl
    all_goals rfl
  all_goals rfl

def effC (P : Program) [Intr P] (o : Op) : Option (T AO → Nat → Ev → Kx → Bool) :=
  match o with
  | .store t a x => some fun h n ev k => match ev a, ev x with
    | some a, some v => storeK P h n t a v k
    | _, _ => false
  | .mapUpdate t x i v => some fun h n ev k => match ev x, ev i, ev v with
    | some x, some i, some v => mapUpdateK P h n t x i v k
    | _, _, _ => false
  | .insert t x i v => some fun h n ev k => match ev x, ev i, ev v with
    | some x, some i, some v => mapUpdateK P h n t x i v k
    | _, _, _ => false
  | .call c => match c.callee with
    | .builtin .append => match c.argTypes.toList, c.args.toList with
      | [sT, xT], [s, x] => some fun h n ev k => match ev s, ev x with
        | some s, some x => appendK P h n sT xT s x k
        | _, _ => false
      | _, _ => none
    | .builtin .copy => match c.argTypes.toList, c.args.toList with
      | [dT, _], [d, x] => some fun h n ev k => match ev d, ev x with
        | some d, some x => copyK P h n dT d x k
        | _, _ => false
      | _, _ => none
    | .builtin .delete => match c.argTypes.toList, c.args.toList with
      | t :: _, [x, i] => some fun h n ev k => match ev x, ev i with
        | some x, some i => deleteK P h n t x i k
        | _, _ => false
      | _, _ => none
    | .builtin .clear => match c.argTypes.toList, c.args.toList with
      | [t], [x] => some fun h n ev k => match ev x with
        | some x => clearK P h n t x k
        | none => false
      | _, _ => none
    | _ => none
  | .range t x => some fun h n ev k => match ev x with
    | some x => rangeK P h n t x k
    | none => false
  | .next it s => some fun h n ev k => match ev it with
    | some v => nextK h n v s k
    | none => false
  | _ => none
def runE (f : Option (T AO → Nat → Ev → Kx → Bool)) (h : T AO) (n : Nat) (ev : Ev) (k : Kx) : Bool := Option.rec (motive := fun _ => Bool) false (fun f => f h n ev k) f
theorem effC_eq (h : T AO) (n : Nat) (ev : Ev) (o : Oper) (k : Kx) : runE (effC P o.op) h n ev k = effK P h n ev o k := by
  obtain ⟨dst, op, ty, pos, after, guard⟩ := o
  cases op
  case call c =>
    obtain ⟨callee, args, ats⟩ := c
    obtain ⟨args⟩ := args
    obtain ⟨ats⟩ := ats
    cases callee
    case builtin b =>
      cases b
      case append => rcases ats with _ | ⟨t, _ | ⟨t2, _ | ⟨t3, ts⟩⟩⟩ <;> rcases args with _ | ⟨x, _ | ⟨y, _ | ⟨z, r⟩⟩⟩ <;> rfl
      case copy => rcases ats with _ | ⟨t, _ | ⟨t2, _ | ⟨t3, ts⟩⟩⟩ <;> rcases args with _ | ⟨x, _ | ⟨y, _ | ⟨z, r⟩⟩⟩ <;> rfl
      case delete => rcases ats with _ | ⟨t, _ | ⟨t2, _ | ⟨t3, ts⟩⟩⟩ <;> rcases args with _ | ⟨x, _ | ⟨y, _ | ⟨z, r⟩⟩⟩ <;> rfl
      case clear => rcases ats with _ | ⟨t, _ | ⟨t2, _ | ⟨t3, ts⟩⟩⟩ <;> rcases args with _ | ⟨x, _ | ⟨y, _ | ⟨z, r⟩⟩⟩ <;> rfl
      all_goals rfl
    all_goals rfl
  all_goals rfl

def callC (P : Program) [Intr P] (G : Nat) (o : Op) : Option (Ex1 → Ev → T AO → Nat → Kx → Bool) :=
  match o with
  | .call c => match c.callee with
    | .value f => some fun ih ev h n k => match ev f, evs ev c.args.toList with
      | some (.func (.func g) ⟨first⟩ ⟨captured⟩), some args => enterK P G ih g (first ++ args ++ captured) h n k
      | _, _ => false
    | .invoke r name => some fun ih ev h n k => match ev r, evs ev c.args.toList with
      | some (.iface t v), some args => match methodA P h t v name with
        | some (g, u) => enterK P G ih g (u :: args) h n k
        | none => false
      | _, _ => false
    | _ => none
  | .panic x => some fun _ ev h n k => match ev x with
    | some (.iface t v) => k (pan (.iface t v)) h n
    | _ => false
  | _ => none
def runC (f : Option (Ex1 → Ev → T AO → Nat → Kx → Bool)) (ih : Ex1) (ev : Ev) (h : T AO) (n : Nat) (k : Kx) : Bool := Option.rec (motive := fun _ => Bool) false (fun f => f ih ev h n k) f
theorem callC_eq (G : Nat) (ih : Ex1) (ev : Ev) (h : T AO) (n : Nat) (o : Oper) (k : Kx) : runC (callC P G o.op) ih ev h n k = callK P G ih ev h n o k := by
  obtain ⟨dst, op, ty, pos, after, guard⟩ := o
  cases op
  case call c =>
    obtain ⟨callee, args, ats⟩ := c
    cases callee <;> rfl
  all_goals rfl

/-- One operation, made ready. -/
inductive Cd where
  | val (f : Option (Ev → Option Value)) (r : Option (T AO → Ev → Option Value))
  | read (r : Option (T AO → Ev → Option Value))
  | alloc
  | eff (f : Option (T AO → Nat → Ev → Kx → Bool))
  | call (f : Option (Ex1 → Ev → T AO → Nat → Kx → Bool))

def cd (P : Program) [Intr P] (G : Nat) (o : Op) : Cd :=
  match opClass o with
  | 0 => .val (pureC P o) (readC P o)
  | 1 => .read (readC P o)
  | 2 => .alloc
  | 3 => .eff (effC P o)
  | _ => .call (callC P G o)

theorem opClass_le (o : Op) : opClass o ≤ 4 := by
  cases o
  case call c =>
    simp only [opClass]
    split <;> omega
  all_goals simp [opClass]

/-! ### Branches as constants: what the kernel copies is small -/
section
variable {β : Type}
def fvB (c : Value → β) (b : Bool) : β := Bool.rec (motive := fun _ => β) (c (.bool false)) (c (.bool true)) b
def fvIp (c : Value → β) (k : IntKind) (a : Nat) : β := c (.int k (.ofNat a))
def fvIn (c : Value → β) (k : IntKind) (a : Nat) : β := c (.int k (.negSucc a))
def fvJp (c : Value → β) (k : IntKind) (a : Nat) : β := forceN a (fvIp c k)
def fvJn (c : Value → β) (k : IntKind) (a : Nat) : β := forceN a (fvIn c k)
def fvI (c : Value → β) (k : IntKind) (n : Int) : β := Int.rec (motive := fun _ => β) (fvJp c k) (fvJn c k) n
def fvF (c : Value → β) (k : FloatKind) (n : Nat) : β := c (.float k n)
def fvC (c : Value → β) (k : FloatKind) (a b : Nat) : β := c (.complex k a b)
def fvS (c : Value → β) (s : ByteArray) : β := forceB s.data.toList fun l => c (.string ⟨⟨l⟩⟩)
def fvP (c : Value → β) (a : Option Addr) : β := forceA a fun a => c (.pointer a)
def fvL (c : Value → β) (a : Option Addr) (l q : Nat) : β := forceA a fun a => forceN l fun l => forceN q fun q => c (.slice a l q)
def fvM (c : Value → β) (r : Option Nat) : β := c (.map r)
def fvH (c : Value → β) (r : Option Nat) : β := c (.chan r)
def fvU (c : Value → β) (f : Fn) (a b : Array Value) (_ _ : PUnit) : β := c (.func f a b)
def fvX (c : Value → β) (t : TypeId) (v : Value) (_ : β) : β := c (.iface t v)
def fvA (c : Value → β) (a : Array Value) (_ : PUnit) : β := Array.rec (motive := fun _ => β) (fun l => forceL l fun l => c (.agg ⟨l⟩)) a
def fvT (c : Value → β) (a : Array Value) (_ : PUnit) : β := Array.rec (motive := fun _ => β) (fun l => forceL l fun l => c (.tuple ⟨l⟩)) a
def fu2 (_ : List Value) (_ : PUnit) : PUnit := ⟨⟩
def fu3 (_ : Value) (_ : List Value) (_ : β) (_ : PUnit) : PUnit := ⟨⟩
/-- A value, handed on when it is made. -/
def forceF (v : Value) (c : Value → β) : β :=
  Value.rec (motive_1 := fun _ => β) (motive_2 := fun _ => PUnit) (motive_3 := fun _ => PUnit) (fvB c) (fvI c) (fvF c) (fvC c) (fvS c) (fvP c) (fvL c) (fvM c) (fvH c) (fvU c) (c .nilFunc) (fvX c) (c .nilIface) (fvA c) (fvT c) fu2 ⟨⟩ fu3 v
theorem forceF_eq (v : Value) (c : Value → β) : forceF v c = c v := by
  cases v with
  | bool b => cases b <;> rfl
  | int k n =>
    cases n with
    | ofNat a => exact forceN_eq a (fvIp c k)
    | negSucc a => exact forceN_eq a (fvIn c k)
  | string s => exact forceB_eq s.data.toList fun l => c (.string ⟨⟨l⟩⟩)
  | pointer a => exact forceA_eq a fun a => c (.pointer a)
  | slice a l q =>
    show forceA a (fun a => forceN l fun l => forceN q fun q => c (.slice a l q)) = _
    rw [forceA_eq, forceN_eq, forceN_eq]
  | agg a => obtain ⟨l⟩ := a; exact forceL_eq l fun l => c (.agg ⟨l⟩)
  | tuple a => obtain ⟨l⟩ := a; exact forceL_eq l fun l => c (.tuple ⟨l⟩)
  | _ => rfl

/-- Is a panic's value handed on? -/
def unB (_ : Bool) : Option Value := none
def unI (_ : IntKind) (_ : Int) : Option Value := none
def unF (_ : FloatKind) (_ : Nat) : Option Value := none
def unC (_ : FloatKind) (_ _ : Nat) : Option Value := none
def unS (_ : ByteArray) : Option Value := none
def unP (_ : Option Addr) : Option Value := none
def unL (_ : Option Addr) (_ _ : Nat) : Option Value := none
def unM (_ : Option Nat) : Option Value := none
def unU (_ : Fn) (_ _ : Array Value) (_ _ : PUnit) : Option Value := none
def unX (_ : TypeId) (_ : Value) (_ : Option Value) : Option Value := none
def unA (_ : Array Value) (_ : PUnit) : Option Value := none
def unT (a : Array Value) (_ : PUnit) : Option Value := unpan (.tuple a)
def unpanF (v : Value) : Option Value :=
  Value.rec (motive_1 := fun _ => Option Value) (motive_2 := fun _ => PUnit) (motive_3 := fun _ => PUnit) unB unI unF unC unS unP unL unM unM unU none unX none unA unT fu2 ⟨⟩ fu3 v
theorem unpanF_eq (v : Value) : unpanF v = unpan v := by cases v <;> rfl
end

abbrev Mc := Ex1 → T AO → Nat → Ev → Oper → Kx → Bool
def oFin (h : T AO) (n : Nat) (k : Kx) (v : Value) : Bool := k v h n
def oGo (h : T AO) (n : Nat) (k : Kx) (v : Value) : Bool := forceF v (oFin h n k)
def oVal2 (P : Program) (r : Option (T AO → Ev → Option Value)) (h : T AO) (n : Nat) (ev : Ev) (o : Oper) (k : Kx) : Bool := Option.rec (motive := fun _ => Bool) (bytesK P h n ev o k) (oGo h n k) (runR r h ev)
def oVal (P : Program) (f : Option (Ev → Option Value)) (r : Option (T AO → Ev → Option Value)) : Mc := fun _ h n ev o k => Option.rec (motive := fun _ => Bool) (oVal2 P r h n ev o k) (oGo h n k) (runO f ev)
def oRead (r : Option (T AO → Ev → Option Value)) : Mc := fun _ h n ev _ k => Option.rec (motive := fun _ => Bool) false (oGo h n k) (runR r h ev)
def oAlloc (P : Program) : Mc := fun _ h n ev o k => allocK P h n ev o k
def oEff (f : Option (T AO → Nat → Ev → Kx → Bool)) : Mc := fun _ h n ev _ k => runE f h n ev k
def oCall (f : Option (Ex1 → Ev → T AO → Nat → Kx → Bool)) : Mc := fun ih h n ev _ k => runC f ih ev h n k
def opF (P : Program) [Intr P] (G : Nat) (ih : Ex1) (h : T AO) (n : Nat) (ev : Ev) (o : Oper) (k : Kx) : Bool :=
  Cd.rec (motive := fun _ => Mc) (oVal P) oRead (oAlloc P) oEff oCall (cd P G o.op) ih h n ev o k

theorem oGo_eq (h : T AO) (n : Nat) (k : Kx) (v : Value) : oGo h n k v = forceV v fun v => k v h n := by
  unfold oGo
  rw [forceF_eq, forceV_eq]
  rfl

theorem opF_eq (G : Nat) (ih : Ex1) (h : T AO) (n : Nat) (ev : Ev) (o : Oper) (k : Kx) : opF P G ih h n ev o k = opX P G ih h n ev o k := by
  have hle := opClass_le o.op
  unfold opF opX opBase valK readK cd
  rcases e : opClass o.op with _ | _ | _ | _ | _ | c
  · show Option.rec (motive := fun _ => Bool) (oVal2 P (readC P o.op) h n ev o k) (oGo h n k) (runO (pureC P o.op) ev) = (match pureV P ev o with
      | some v => forceV v fun v => k v h n
      | none => match readV P h ev o with
        | some v => forceV v fun v => k v h n
        | none => bytesK P h n ev o k)
    rw [pureC_eq]
    cases pureV P ev o with
    | some v => exact oGo_eq h n k v
    | none =>
      show Option.rec (motive := fun _ => Bool) (bytesK P h n ev o k) (oGo h n k) (runR (readC P o.op) h ev) = _
      rw [readC_eq]
      cases readV P h ev o with
      | some v => exact oGo_eq h n k v
      | none => rfl
  · show Option.rec (motive := fun _ => Bool) false (oGo h n k) (runR (readC P o.op) h ev) = (match readV P h ev o with
      | some v => forceV v fun v => k v h n
      | none => false)
    rw [readC_eq]
    cases readV P h ev o with
    | some v => exact oGo_eq h n k v
    | none => rfl
  · rfl
  · show runE (effC P o.op) h n ev k = effK P h n ev o k
    exact effC_eq h n ev o k
  · show runC (callC P G o.op) ih ev h n k = callK P G ih ev h n o k
    exact callC_eq G ih ev h n o k
  · omega

end
end Go.Ex

/- The executor, lean: equal to the one that is proved sound. -/
namespace Go.Ex
noncomputable section

variable {P : Program} [Intr P] {G : Nat}

def wantC (ops : List Oper) (o : Oper) : Option (Option (Tmp × Bool)) :=
  match o.guard with
  | none => some none
  | some (j, want) => match ops[j]? with
    | some g => match g.dst with
      | some d => some (some (d, want))
      | none => none
    | none => none
def wantV (v : Option Value) (want : Bool) : Option Bool :=
  match v with
  | some (.bool b) => some (b == want)
  | some (.tuple ⟨[]⟩) => some false
  | _ => none
def wf3 (f : Nat → Option Value) (d : Tmp) (want : Bool) : Option Bool := wantV (f d) want
def wf2 (f : Nat → Option Value) (p : Tmp × Bool) : Option Bool := Prod.rec (motive := fun _ => Option Bool) (wf3 f) p
def wf1 (f : Nat → Option Value) (x : Option (Tmp × Bool)) : Option Bool := Option.rec (motive := fun _ => Option Bool) (some true) (wf2 f) x
def wantF (ops : List Oper) (f : Nat → Option Value) (o : Oper) : Option Bool :=
  Option.rec (motive := fun _ => Option Bool) none (wf1 f) (wantC ops o)
def evC (v : Value) : Option Value := Bool.rec (motive := fun _ => Option Value) none (some v) (flat 8 v)
def evG (G g : Nat) : Option Value := Bool.rec (motive := fun _ => Option Value) none (some (.pointer (some ⟨g, 0, none⟩))) (Nat.blt g G)
def evU (f : FuncId) : Option Value := some (.func (.func f) ⟨[]⟩ ⟨[]⟩)
/-- An operand's value. -/
def evQ (G : Nat) (f : Nat → Option Value) (x : Operand) : Option Value :=
  Operand.rec (motive := fun _ => Option Value) f evC (evG G) evU x
theorem evQ_eq (f : Nat → Option Value) : evQ G f = evF G f := by
  funext x
  cases x <;> rfl
theorem wantF_eq (ops : List Oper) (f : Nat → Option Value) (o : Oper) : wantF ops f o = wantedA ops f o := by
  unfold wantF wantC wantedA
  cases o.guard with
  | none => rfl
  | some jw =>
    obtain ⟨j, want⟩ := jw
    simp only []
    cases ops[j]? with
    | none => rfl
    | some g =>
      simp only []
      cases g.dst with
      | none => rfl
      | some d => rfl

/-! ### Regions that draw their order -/
abbrev Rt := T Value → T AO → Nat → Tl → Rd → Kc → Bool
def cPut (z : Nat) (dst : Option Tmp) (rest : Rt) (t : T Value) (h : T AO) (n : Nat) (tl : Tl) (rd : Rd) (k : Kc) (v : Value) : Bool := putK z t dst v fun t => rest t h n tl rd k
def cRead (z i : Nat) (dst : Option Tmp) (rest : Rt) (t : T Value) (h : T AO) (n : Nat) (tl : Tl) (rd : Rd) (k : Kc) (v : Option Value) : Bool :=
  match v with
  | some v => forceV v fun v => putK z t dst v fun t' => rest t' h n tl ((i, t, v) :: rd) k
  | none => false
def cAlloc (P : Program) [Intr P] (G n0 z i : Nat) (o : Oper) (rest : Rt) (t : T Value) (h : T AO) (n : Nat) (tl : Tl) (rd : Rd) (k : Kc) : Bool :=
  match allocV P (evF G t.get) o with
  | some (ao, f) => forceN (n0 + i) fun r => forceAO ao fun ao => T.setK (some ao) h r fun h => putK z t o.dst (f r) fun t => rest t h n tl rd k
  | none => false
def cEff (ops : List Oper) (l : List Nat) (z i : Nat) (dst : Option Tmp) (rest : Rt) (t : T Value) (tl : Tl) (rd : Rd) (k : Kc) (v : Value) (h : T AO) (n : Nat) : Bool :=
  match unpan v with
  | some u => sel (l.all fun p => anc ops p i) (k (.panic u) t h n tl rd) false
  | none => putK z t dst v fun t => rest t h n ((i, h) :: tl) rd k
def cDo (P : Program) [Intr P] (G : Nat) (ih : Ex1) (ops : List Oper) (l : List Nat) (n0 z i : Nat) (rest : Rt) (o : Oper) (t : T Value) (h : T AO) (n : Nat) (tl : Tl) (rd : Rd) (k : Kc) : Bool :=
  match cd P G o.op with
  | .val f r => match runO f (evF G t.get) with
    | some v => forceV v (cPut z o.dst rest t h n tl rd k)
    | none => cRead z i o.dst rest t h n tl rd k (runR r h (evF G t.get))
  | .read r => match pureV P (evF G t.get) o with
    | some v => forceV v (cPut z o.dst rest t h n tl rd k)
    | none => cRead z i o.dst rest t h n tl rd k (runR r h (evF G t.get))
  | .alloc => cAlloc P G n0 z i o rest t h n tl rd k
  | .eff f => runE f h n (evF G t.get) (cEff ops l z i o.dst rest t tl rd k)
  | .call f => runC f ih (evF G t.get) h n (cEff ops l z i o.dst rest t tl rd k)
def cStep (P : Program) [Intr P] (G : Nat) (ih : Ex1) (ops : List Oper) (l : List Nat) (n0 z i : Nat) (rest : Rt) : Rt := fun t h n tl rd k =>
  match ops[i]? with
  | none => false
  | some o => match wantF ops t.get o with
    | none => false
    | some b => sel b (cDo P G ih ops l n0 z i rest o t h n tl rd k) (cPut z o.dst rest t h n tl rd k undefA)
def canonF (P : Program) [Intr P] (G : Nat) (ih : Ex1) (ops : List Oper) (n0 z : Nat) (l : List Nat) : Rt :=
  List.rec (motive := fun _ => Rt) (fun t h n tl rd k => k .normal t h n tl rd) (fun i l rest => cStep P G ih ops l n0 z i rest) l

theorem canonF_eq (ih : Ex1) (ops : List Oper) (n0 z : Nat) : ∀ (l : List Nat) (t : T Value) (h : T AO) (n : Nat) (tl : Tl) (rd : Rd) (k : Kc), canonF P G ih ops n0 z l t h n tl rd k = canonK P G ih ops n0 z l t h n tl rd k
  | [], _, _, _, _, _, _ => rfl
  | i :: rest, t, h, n, tl, rd, k => by
    have e : canonF P G ih ops n0 z rest = canonK P G ih ops n0 z rest := by
      funext t h n tl rd k
      exact canonF_eq ih ops n0 z rest t h n tl rd k
    show cStep P G ih ops rest n0 z i (canonF P G ih ops n0 z rest) t h n tl rd k = (match ops[i]? with
      | none => false
      | some o => match wantedA ops t.get o with
        | none => false
        | some b => sel b
          (sel (isEff o)
            (opX P G ih h n (evF G t.get) o fun v h n => match unpan v with
              | some u => sel (rest.all fun p => anc ops p i) (k (.panic u) t h n tl rd) false
              | none => putK z t o.dst v fun t => canonK P G ih ops n0 z rest t h n ((i, h) :: tl) rd k)
            (sel (Nat.beq (opClass o.op) 2)
              (match allocV P (evF G t.get) o with
              | some (ao, f) => forceN (n0 + i) fun r => forceAO ao fun ao => T.setK (some ao) h r fun h => putK z t o.dst (f r) fun t => canonK P G ih ops n0 z rest t h n tl rd k
              | none => false)
              (match pureV P (evF G t.get) o with
              | some v => forceV v fun v => putK z t o.dst v fun t => canonK P G ih ops n0 z rest t h n tl rd k
              | none => match readV P h (evF G t.get) o with
                | some v => forceV v fun v => putK z t o.dst v fun t' => canonK P G ih ops n0 z rest t' h n tl ((i, t, v) :: rd) k
                | none => false)))
          (putK z t o.dst undefA fun t => canonK P G ih ops n0 z rest t h n tl rd k))
    rw [e]
    unfold cStep
    cases ops[i]? with
    | none => rfl
    | some o =>
      simp only [wantF_eq]
      cases wantedA ops t.get o with
      | none => rfl
      | some b =>
        cases b with
        | false => rfl
        | true =>
          simp only [sel_true]
          rw [← opF_eq]
          have hle := opClass_le o.op
          unfold cDo opF cd isEff cRead cAlloc
          rcases hc : opClass o.op with _ | _ | _ | _ | _ | c
          · simp only [pureC_eq, readC_eq]; rfl
          · simp only [readC_eq]; rfl
          · rfl
          · rfl
          · rfl
          · omega

def chkF (ops : List Oper) (f : Option (T AO → Ev → Option Value)) (ev : Ev) (u : Value) (i : Nat) : Tl → T AO → List Nat → Bool
  | todo, h, done =>
    (sel ((done.all fun e => !anc ops e i) && (todo.all fun x => !anc ops i x.1)) (match runR f h ev with
      | some v => veq 8 v u
      | none => false) true) &&
    (match todo with
     | [] => true
     | (e, h') :: rest => chkF ops f ev u i rest h' (e :: done))
theorem chkF_eq (ops : List Oper) (ev : Ev) (u : Value) (i : Nat) (o : Oper) : ∀ (l : Tl) (h : T AO) (done : List Nat), chkF ops (readC P o.op) ev u i l h done = chkV P ops ev u i o l h done
  | [], h, done => by simp only [chkF, chkV, readC_eq] <;> rfl
  | x :: l, h, done => by simp only [chkF, chkV, readC_eq, chkF_eq ops ev u i o l] <;> rfl

def rdF (P : Program) [Intr P] (G : Nat) (ops : List Oper) (h0 : T AO) (tl : Tl) (x : Nat × T Value × Value) : Bool :=
  match ops[x.1]? with
  | none => false
  | some o => chkF ops (readC P o.op) (evF G x.2.1.get) x.2.2 x.1 tl h0 []
theorem rdF_eq (ops : List Oper) (h0 : T AO) (tl : Tl) : rdF P G ops h0 tl = rdOk P G ops h0 tl := by
  funext x
  unfold rdF rdOk
  cases ops[x.1]? with
  | none => rfl
  | some o => exact chkF_eq ..

def regEnd (P : Program) [Intr P] (G : Nat) (ops : List Oper) (h : T AO) (k : Kt) : Kc := fun x t' h' n' tl rd => sel (rd.all (rdF P G ops h tl.reverse)) (killX ops x t' fun t' => k x t' h' n') false
def regF (P : Program) [Intr P] (G : Nat) : Reg := fun ih ops z t h n k =>
  sel (planOk ops) (forceN (n + ops.length) fun n1 => canonF P G ih ops n z (ord ops) t h n1 [] [] (regEnd P G ops h k)) false
theorem regF_eq : regF P G = regK P G := by
  funext ih ops z t h n k
  unfold regF regK regEnd
  simp only [canonF_eq, rdF_eq]

/-! ### Regions in the text's order -/
abbrev Rl := T Value → T AO → Nat → Kt → Bool
def putD (z : Nat) (t : T Value) (v : Value) (k : T Value → Bool) (d : Tmp) : Bool := Bool.rec (motive := fun _ => Bool) false (T.setK (some v) t d k) (Nat.blt d z)
def putF (z : Nat) (t : T Value) (dst : Option Tmp) (v : Value) (k : T Value → Bool) : Bool :=
  Option.rec (motive := fun _ => Bool) (k t) (putD z t v k) dst
theorem putF_eq (z : Nat) (t : T Value) (dst : Option Tmp) (v : Value) (k : T Value → Bool) (h : unpan v = none) : putF z t dst v k = putK z t dst v k := by
  unfold putK
  rw [h]
  cases dst <;> rfl
def lOn (rest : Rl) (h : T AO) (n : Nat) (k : Kt) (t : T Value) : Bool := rest t h n k
def lPan (t : T Value) (k : Kt) (h : T AO) (n : Nat) (u : Value) : Bool := k (.panic u) t h n
def lPut (z : Nat) (dst : Option Tmp) (rest : Rl) (t : T Value) (k : Kt) (v : Value) (h : T AO) (n : Nat) : Bool :=
  Option.rec (motive := fun _ => Bool) (putF z t dst v (lOn rest h n k)) (lPan t k h n) (unpanF v)
theorem lPut_eq (z : Nat) (dst : Option Tmp) (rest : Rl) (t : T Value) (k : Kt) (v : Value) (h : T AO) (n : Nat) : lPut z dst rest t k v h n = (match unpan v with
    | some u => k (.panic u) t h n
    | none => putK z t dst v fun t => rest t h n k) := by
  unfold lPut
  rw [unpanF_eq]
  cases e : unpan v with
  | none => exact putF_eq z t dst v _ e
  | some u => rfl
def lGo (P : Program) [Intr P] (G : Nat) (ih : Ex1) (z : Nat) (o : Oper) (rest : Rl) (t : T Value) (h : T AO) (n : Nat) (k : Kt) (b : Bool) : Bool :=
  Bool.rec (motive := fun _ => Bool) (lPut z o.dst rest t k undefA h n) (opF P G ih h n (evQ G t.get) o (lPut z o.dst rest t k)) b
def lStep (P : Program) [Intr P] (G : Nat) (ih : Ex1) (ops : List Oper) (z : Nat) (o : Oper) (rest : Rl) : Rl := fun t h n k =>
  Option.rec (motive := fun _ => Bool) false (lGo P G ih z o rest t h n k) (wantF ops t.get o)
def runF (P : Program) [Intr P] (G : Nat) (ih : Ex1) (ops : List Oper) (z : Nat) (l : List Oper) : Rl :=
  List.rec (motive := fun _ => Rl) (fun t h n k => k .normal t h n) (fun o _ rest => lStep P G ih ops z o rest) l
theorem runF_eq (ih : Ex1) (ops : List Oper) (z : Nat) : ∀ (l : List Oper) (t : T Value) (h : T AO) (n : Nat) (k : Kt), runF P G ih ops z l t h n k = runL P G ih ops z l t h n k
  | [], _, _, _, _ => rfl
  | o :: l, t, h, n, k => by
    have e : runF P G ih ops z l = runL P G ih ops z l := by
      funext t h n k
      exact runF_eq ih ops z l t h n k
    show lStep P G ih ops z o (runF P G ih ops z l) t h n k = _
    rw [e, runL_cons]
    unfold lStep
    rw [wantF_eq]
    cases wantedA ops t.get o with
    | none => rfl
    | some b =>
      cases b
      · show lPut z o.dst (runL P G ih ops z l) t k undefA h n = _
        rw [lPut_eq]; rfl
      · show opF P G ih h n (evQ G t.get) o (lPut z o.dst (runL P G ih ops z l) t k) = _
        rw [opF_eq, evQ_eq]
        have e2 : lPut z o.dst (runL P G ih ops z l) t k = fun v h n => (match unpan v with
            | some u => k (.panic u) t h n
            | none => putK z t o.dst v fun t => runL P G ih ops z l t h n k) := by
          funext v h n
          exact lPut_eq z o.dst _ t k v h n
        rw [e2]; rfl

/-! ### Code -/
def sReg (P : Program) [Intr P] (G : Nat) (ih : Ex1) (ops : Array Oper) (draw : Bool) (z : Nat) (t : T Value) (h : T AO) (n : Nat) (k : Kt) : Bool :=
  Array.rec (motive := fun _ => Bool) (fun ops => Bool.rec (motive := fun _ => Bool) (runF P G ih ops z ops t h n k) (regF P G ih ops z t h n k) draw) ops
def sSeq (ih : Ex1) (b : Code) (z : Nat) (k : Kt) : Kt := fun x t h n => X1.rec (motive := fun _ => Bool) (ih b z t h n k) (fun id => k (.exit id) t h n) (k .ret t h n) (fun v => k (.panic v) t h n) x
theorem sSeq_eq (ih : Ex1) (b : Code) (z : Nat) (k : Kt) : sSeq ih b z k = fun x t h n => match x with
  | .normal => ih b z t h n k
  | x => k x t h n := by
  funext x t h n
  cases x <;> rfl
def sCond (G : Nat) (ih : Ex1) (c : Operand) (a b : Code) (z : Nat) (t : T Value) (h : T AO) (n : Nat) (k : Kt) : Bool :=
  match evQ G t.get c with
  | some (.bool x) => Bool.rec (motive := fun _ => Bool) (ih b z t h n k) (ih a z t h n k) x
  | _ => false
def sBlock (id : Nat) (k : Kt) : Kt := fun x t h n => X1.rec (motive := fun _ => Bool) (k .normal t h n) (fun j => Bool.rec (motive := fun _ => Bool) (k (.exit j) t h n) (k .normal t h n) (Nat.beq j id)) (k .ret t h n) (fun v => k (.panic v) t h n) x
theorem sBlock_eq (id : Nat) (k : Kt) : sBlock id k = fun x t h n => match x with
  | .exit j => sel (Nat.beq j id) (k .normal t h n) (k (.exit j) t h n)
  | x => k x t h n := by
  funext x t h n
  cases x <;> rfl
def sLoop (P : Program) (G : Nat) (ih : Ex1) (body : Code) (z : Nat) (t : T Value) (h : T AO) (n : Nat) (k : Kt) : Bool :=
  match mapLoop P G body z t h n k with
  | some b => b
  | none => ih body z t h n (sSeq ih (.loop body) z k)
abbrev Mo := Nat → T Value → T AO → Nat → Kt → Bool
def cSkip : Mo := fun _ t h n k => k .normal t h n
def cReg (P : Program) [Intr P] (G : Nat) (ih : Ex1) (_ : Nat) (ops : Array Oper) (draw : Bool) : Mo := fun z t h n k => sReg P G ih ops draw z t h n k
def cSeq (ih : Ex1) (a b : Code) (_ _ : Mo) : Mo := fun z t h n k => ih a z t h n (sSeq ih b z k)
def cCond (G : Nat) (ih : Ex1) (c : Operand) (a b : Code) (_ _ : Mo) : Mo := fun z t h n k => sCond G ih c a b z t h n k
def cBlock (ih : Ex1) (id : Nat) (body : Code) (_ : Mo) : Mo := fun z t h n k => ih body z t h n (sBlock id k)
def cLoop (P : Program) [Intr P] (G : Nat) (ih : Ex1) (body : Code) (_ : Mo) : Mo := fun z t h n k => sLoop P G ih body z t h n k
def cRange (_ : Operand) (_ : Array Tmp) (_ _ : Code) (_ _ : Mo) : Mo := fun _ _ _ _ _ => false
def cExit (id : Nat) : Mo := fun _ t h n k => k (.exit id) t h n
def cScope (_ : Code) (_ : Mo) : Mo := fun _ _ _ _ _ => false
def cLabel (_ : Nat) : Mo := fun _ _ _ _ _ => false
def cRet : Mo := fun _ t h n k => k .ret t h n
def cRefuse (_ : String) : Mo := fun _ _ _ _ _ => false
def stepF (P : Program) [Intr P] (G : Nat) (ih : Ex1) (c : Code) (z : Nat) (t : T Value) (h : T AO) (n : Nat) (k : Kt) : Bool :=
  Code.rec (motive := fun _ => Mo) cSkip (cReg P G ih) (cSeq ih) (cCond G ih) (cBlock ih) (cLoop P G ih) cRange cExit cScope cLabel cLabel cRet cRefuse c z t h n k
theorem stepF_eq (ih : Ex1) : stepF P G ih = stepK P G (regK P G) ih := by
  funext c z t h n k
  unfold stepF stepK
  cases c with
  | region id ops draw =>
    obtain ⟨ops⟩ := ops
    show sReg P G ih ⟨ops⟩ draw z t h n k = _
    simp only [sReg, regF_eq, runF_eq]
    cases draw <;> rfl
  | seq a b => exact congrArg (ih a z t h n) (sSeq_eq ih b z k)
  | cond c a b =>
    show sCond G ih c a b z t h n k = _
    simp only [sCond, evQ_eq]
    cases evF G t.get c with
    | none => rfl
    | some v =>
      cases v with
      | bool b => cases b <;> rfl
      | _ => rfl
  | block id body => exact congrArg (ih body z t h n) (sBlock_eq id k)
  | loop body =>
    show sLoop P G ih body z t h n k = _
    simp only [sLoop]
    cases mapLoop P G body z t h n k with
    | some b => rfl
    | none => exact congrArg (ih body z t h n) (sSeq_eq ih (.loop body) z k)
  | _ => rfl

def execF (P : Program) [Intr P] (G : Nat) (fuel : Nat) : Ex1 := Nat.rec (motive := fun _ => Ex1) (fun _ _ _ _ _ _ => false) (fun _ ih => stepF P G ih) fuel
theorem execF_eq : ∀ f, execF P G f = run P G f
  | 0 => rfl
  | f + 1 => by
    show stepF P G (execF P G f) = stepK P G (regK P G) (exec P G (regK P G) f)
    rw [execF_eq f, stepF_eq]; rfl

/-- A law's run. -/
def lawF (P : Program) [Intr P] (G fuel : Nat) (f : FuncId) (args : List Value) : Bool := enterK P G (execF P G fuel) f args .leaf (G + 1) fun v _ _ => isTrue v
theorem lawF_eq (fuel : Nat) (f : FuncId) (args : List Value) : lawF P G fuel f args = lawRun P G fuel f args := by
  unfold lawF lawRun; rw [execF_eq]
theorem lawF_run (hm : P.follows .mixedOrders = true) {fuel : Nat} {f : FuncId} {args args' : List Value} {es : Nat → Nat} (hb : (bodyOf P f).isSome = true) (hk : lawF P G fuel f args = true) (ha : VRs (mGS G es) args args') (w : World) :
    Calls P f ⟨args'⟩ w fun e w' => e = .returned (.bool true) ∧ RowKit.Below w.heap.size w w' := law_run hm hb (by rw [← lawF_eq]; exact hk) ha w

end
end Go.Ex

/- A law, run where one of the package's variables is known. -/
namespace Go.Ex
noncomputable section
open Go.RowKit (Below)

theorem mG_HR1 (G n g : Nat) (es : Nat → Nat) (hn : G ≤ n) (hg : g < G) {v v' : Value} (hv : VR (mGS G es) v v') (ha : atom v = true) {w : World} {e : TypeId} {fz : Nat × Nat} (hw : w.heap[g]? = some (.cells #[v'] e fz)) :
    HR w.heap.size w (mGS G es) (T.set (some (.cells 2 [v] 0 0)) .leaf g) (fun _ => none) n w := by
  have hov : ∀ b o, ov (T.set (some (.cells 2 [v] 0 0)) .leaf g) (fun _ => none) b = some o → b = g ∧ o = .cells 2 [v] 0 0 := fun b o hb => by
    unfold ov at hb
    rw [T.get_set] at hb
    by_cases e : b = g
    · rw [if_pos e] at hb; cases hb; exact ⟨e, rfl⟩
    · rw [if_neg e, T.get_leaf] at hb; cases hb
  refine ⟨{
    below := BelowS.refl _ _
    size := Nat.le_refl _
    ok := fun b o hb _ => ?_
    lt := fun b o hb => ?_
    own := fun b o hb _ hrw => ?_
    inj := fun b b' o o' hb hb' _ _ _ => (hov b o hb).1.trans (hov b' o' hb').1.symm
    dom := fun b hb => Nat.lt_of_lt_of_le hb hn
    free := fun b hb => by cases (hov b _ hb).2 }, fun b o hb => by cases hb⟩
  · obtain ⟨rfl, rfl⟩ := hov b o hb
    exact ⟨hg, _, hw, .ro _ _ _ _ _ _ ⟨hv, trivial⟩ (fun u hu => by simp at hu; subst hu; exact ha)⟩
  · obtain ⟨rfl, rfl⟩ := hov b o hb
    exact Nat.lt_of_lt_of_le hg hn
  · obtain ⟨rfl, rfl⟩ := hov b o hb
    simp [AO.rw] at hrw

def lawG (P : Program) [Intr P] (G fuel : Nat) (f : FuncId) (args : List Value) (g : Nat) (v : Value) : Bool :=
  enterK P G (execF P G fuel) f args (T.set (some (.cells 2 [v] 0 0)) .leaf g) (G + 1) fun v _ _ => isTrue v

theorem lawG_run {P : Program} [Intr P] (hm : P.follows .mixedOrders = true) {G fuel : Nat} {f : FuncId} {args args' : List Value} {g : Nat} {v v' : Value} {es : Nat → Nat} (hb : (bodyOf P f).isSome = true) (hk : lawG P G fuel f args g v = true) (ha : VRs (mGS G es) args args')
    (hg : g < G) (hv : VR (mGS G es) v v') (hat : atom v = true) (w : World) {e : TypeId} {fz : Nat × Nat} (hw : w.heap[g]? = some (.cells #[v'] e fz)) :
    Calls P f ⟨args'⟩ w fun e w' => e = .returned (.bool true) ∧ Below w.heap.size w w' := by
  unfold lawG at hk
  rw [execF_eq] at hk
  have := enterK_sound (run_sound (G := G) hm fuel) (mG_GR G es) (mG_HR1 G (G + 1) g es (Nat.le_succ G) hg hv hat hw) hk ha (fun v w' => v = .bool true ∧ Below w.heap.size w w') (fun _ _ => False) (fun v v' m' h' n' w' _ hv hh ht => by
    refine ⟨?_, hh.lr.below.nat⟩
    unfold isTrue at ht
    split at ht
    · subst ht; exact hv.inv_bool
    · cases ht) (fun v ch m' h' n' w' _ _ _ ht => by cases ht)
  rcases this with ⟨v', w', hr, _⟩ | ⟨_, hc⟩
  · obtain ⟨⟨fn, c⟩, hbo⟩ := Option.isSome_iff_exists.1 hb
    rw [(bodyOf_spec hbo).2.2 _ w] at hr
    cases hr
  · refine hc.mono fun e w' he => ?_
    cases e with
    | returned v => exact ⟨by rw [he.1], he.2⟩
    | panicked c => exact he.elim
    | outgrown => exact he.elim

end
end Go.Ex

/- A function, run where some of the package's variables are known; what it hands back, as the run says. -/
namespace Go.Ex
noncomputable section
open Go.RowKit (Below)

/-- The heap in which these variables are known. -/
def glH : List (Nat × List Value) → T AO
  | [] => .leaf
  | x :: l => T.set (some (.cells 2 x.2 0 0)) (glH l) x.1
theorem glH_get : ∀ {l : List (Nat × List Value)} {b : Nat} {o : AO}, (glH l).get b = some o → ∃ x ∈ l, b = x.1 ∧ o = .cells 2 x.2 0 0
  | [], b, o, h => by cases h
  | x :: l, b, o, h => by
    unfold glH at h
    rw [T.get_set] at h
    by_cases e : b = x.1
    · rw [if_pos e] at h; cases h; exact ⟨x, by simp, e, rfl⟩
    · rw [if_neg e] at h
      obtain ⟨y, hy, h1, h2⟩ := glH_get h
      exact ⟨y, by simp [hy], h1, h2⟩

/-- The world has them. -/
def GlAt (G : Nat) (m : Mp) (w : World) (l : List (Nat × List Value)) : Prop :=
  ∀ x ∈ l, x.1 < G ∧ (∀ v ∈ x.2, atom v = true) ∧ ∃ cs e fz, w.heap[x.1]? = some (.cells cs e fz) ∧ VRs m x.2 cs.toList

theorem mG_HRs (G n : Nat) (es : Nat → Nat) (hn : G ≤ n) {l : List (Nat × List Value)} {w : World} (hl : GlAt G (mGS G es) w l) : HR w.heap.size w (mGS G es) (glH l) (fun _ => none) n w := by
  have hov : ∀ b o, ov (glH l) (fun _ => none) b = some o → ∃ x ∈ l, b = x.1 ∧ o = .cells 2 x.2 0 0 := fun b o hb => by
    unfold ov at hb
    split at hb
    · rename_i o' ho
      cases hb
      exact glH_get ho
    · cases hb
  refine ⟨{
    below := BelowS.refl _ _
    size := Nat.le_refl _
    ok := fun b o hb _ => ?_
    lt := fun b o hb => ?_
    own := fun b o hb _ hrw => ?_
    inj := fun b b' o o' hb hb' _ _ he => he
    dom := fun b hb => Nat.lt_of_lt_of_le hb hn
    free := fun b hb => by obtain ⟨x, _, _, h⟩ := hov b _ hb; cases h }, fun b o hb => by cases hb⟩
  · obtain ⟨x, hx, rfl, rfl⟩ := hov b o hb
    obtain ⟨h1, h2, cs, e, fz, h3, h4⟩ := hl x hx
    exact ⟨h1, _, h3, .ro _ _ _ _ _ _ h4 h2⟩
  · obtain ⟨x, hx, rfl, rfl⟩ := hov b o hb
    exact Nat.lt_of_lt_of_le (hl x hx).1 hn
  · obtain ⟨x, hx, rfl, rfl⟩ := hov b o hb
    simp [AO.rw] at hrw

def runM (P : Program) [Intr P] (G fuel : Nat) (f : FuncId) (args : List Value) (gl : List (Nat × List Value)) (q : Value → Bool) : Bool :=
  enterK P G (execF P G fuel) f args (glH gl) (G + 1) fun v _ _ => q v

theorem runM_run {P : Program} [Intr P] (hm : P.follows .mixedOrders = true) {G fuel : Nat} {f : FuncId} {args args' : List Value} {gl : List (Nat × List Value)} {es : Nat → Nat} {q : Value → Bool} (hb : (bodyOf P f).isSome = true) (hk : runM P G fuel f args gl q = true)
    (hq : ∀ v, q (pan v) = false) (ha : VRs (mGS G es) args args') (w : World) (hl : GlAt G (mGS G es) w gl) :
    Calls P f ⟨args'⟩ w fun e w' => (∃ v v' m', e = .returned v' ∧ VR m' v v' ∧ q v = true) ∧ Below w.heap.size w w' := by
  unfold runM at hk
  rw [execF_eq] at hk
  have := enterK_sound (run_sound (G := G) hm fuel) (mG_GR G es) (mG_HRs G (G + 1) es (Nat.le_succ G) hl) hk ha (fun v' w' => (∃ v m', VR m' v v' ∧ q v = true) ∧ Below w.heap.size w w') (fun _ _ => False) (fun v v' m' h' n' w' _ hv hh ht => ⟨⟨v, m', hv, ht⟩, hh.lr.below.nat⟩)
    (fun v ch m' h' n' w' _ _ _ ht => by rw [hq] at ht; cases ht)
  rcases this with ⟨v', w', hr, _⟩ | ⟨_, hc⟩
  · obtain ⟨⟨fn, c⟩, hbo⟩ := Option.isSome_iff_exists.1 hb
    rw [(bodyOf_spec hbo).2.2 _ w] at hr
    cases hr
  · refine hc.mono fun e w' he => ?_
    cases e with
    | returned v' =>
      obtain ⟨⟨v, m', h1, h2⟩, h3⟩ := he
      exact ⟨⟨v, v', m', rfl, h1, h2⟩, h3⟩
    | panicked c => exact he.elim
    | outgrown => exact he.elim

/-- A law's run where these variables are known. -/
def lawM (P : Program) [Intr P] (G fuel : Nat) (f : FuncId) (args : List Value) (gl : List (Nat × List Value)) : Bool := runM P G fuel f args gl isTrue
theorem lawM_run {P : Program} [Intr P] (hm : P.follows .mixedOrders = true) {G fuel : Nat} {f : FuncId} {args args' : List Value} {gl : List (Nat × List Value)} {es : Nat → Nat} (hb : (bodyOf P f).isSome = true) (hk : lawM P G fuel f args gl = true)
    (ha : VRs (mGS G es) args args') (w : World) (hl : GlAt G (mGS G es) w gl) :
    Calls P f ⟨args'⟩ w fun e w' => e = .returned (.bool true) ∧ Below w.heap.size w w' :=
  (runM_run hm hb hk (fun _ => rfl) ha w hl).mono fun e w' ⟨⟨v, v', m', h1, h2, h3⟩, h4⟩ => by
    refine ⟨?_, h4⟩
    unfold isTrue at h3
    split at h3
    · subst h3
      rw [h1, h2.inv_bool]
    · cases h3

/-! ### A slice as an argument: a window of a block -/
/-- The package's variables, and behind them one block that is seen from a place on. -/
def mGW (G : Nat) (es : Nat → Nat) (bs off : Nat) : Mp := { dom := fun b => b ≤ G, mu := fun b => if b = G then bs else b, cap := fun b => if b = G then off else 0, esz := es }
theorem mGW_GR (G : Nat) (es : Nat → Nat) (bs off : Nat) : GR (mGW G es bs off) G := fun g hg => ⟨Nat.le_of_lt hg, if_neg (by omega)⟩
theorem mGW_slice (G : Nat) (es : Nat → Nat) (bs off len cap : Nat) : VR (mGW G es bs off) (.slice (some ⟨G, 0, some 0⟩) len sent) (.slice (some ⟨bs, off, none⟩) len cap) := by
  have := VR.slw (m := mGW G es bs off) G 0 len sent cap (Nat.le_refl G) (Nat.le_refl _)
  have e1 : (mGW G es bs off).mu G = bs := if_pos rfl
  have e2 : (mGW G es bs off).cap G = off := if_pos rfl
  rw [e1, e2] at this
  exact this

theorem mGW_HR (G : Nat) (es : Nat → Nat) (bs off : Nat) {l : List (Nat × List Value)} {c : List Value} {w : World} (hl : GlAt G (mGW G es bs off) w l) (hne : ∀ x ∈ l, x.1 ≠ bs) {cs : Array Value} {e : TypeId} {fz : Nat × Nat}
    (hw : w.heap[bs]? = some (.cells cs e fz)) (hc : VRs (mGW G es bs off) c ((cs.toList.drop off).take c.length)) (ha : ∀ v ∈ c, atom v = true) :
    HR w.heap.size w (mGW G es bs off) (T.set (some (.win c)) (glH l) G) (fun _ => none) (G + 1) w := by
  have hov : ∀ b o, ov (T.set (some (.win c)) (glH l) G) (fun _ => none) b = some o → (b = G ∧ o = .win c) ∨ ∃ x ∈ l, b = x.1 ∧ o = .cells 2 x.2 0 0 := fun b o hb => by
    unfold ov at hb
    split at hb
    · rename_i o' ho
      cases hb
      rw [T.get_set] at ho
      by_cases e : b = G
      · rw [if_pos e] at ho; cases ho; exact .inl ⟨e, rfl⟩
      · rw [if_neg e] at ho; exact .inr (glH_get ho)
    · cases hb
  have hmu : ∀ x ∈ l, (mGW G es bs off).mu x.1 = x.1 := fun x hx => if_neg (by have := (hl x hx).1; omega)
  have hG : (mGW G es bs off).mu G = bs := if_pos rfl
  refine ⟨{
    below := BelowS.refl _ _
    size := Nat.le_refl _
    ok := fun b o hb _ => ?_
    lt := fun b o hb => ?_
    own := fun b o hb _ hrw => ?_
    inj := fun b b' o o' hb hb' _ _ he => ?_
    dom := fun b hb => Nat.lt_succ_of_le hb
    free := fun b hb => by
      rcases hov b _ hb with ⟨_, h⟩ | ⟨x, _, _, h⟩ <;> cases h }, fun b o hb => by cases hb⟩
  · rcases hov b o hb with ⟨rfl, rfl⟩ | ⟨x, hx, rfl, rfl⟩
    · refine ⟨Nat.le_refl _, _, by rw [hG]; exact hw, .win c cs e fz ?_ ha⟩
      rw [show (mGW b es bs off).cap b = off from if_pos rfl]
      exact hc
    · obtain ⟨h1, h2, cs', e', fz', h3, h4⟩ := hl x hx
      exact ⟨Nat.le_of_lt h1, _, by rw [hmu x hx]; exact h3, .ro _ _ _ _ _ _ h4 h2⟩
  · rcases hov b o hb with ⟨rfl, rfl⟩ | ⟨x, hx, rfl, rfl⟩
    · exact Nat.lt_succ_self _
    · exact Nat.lt_succ_of_lt (hl x hx).1
  · rcases hov b o hb with ⟨rfl, rfl⟩ | ⟨x, hx, rfl, rfl⟩
    · cases hrw
    · simp [AO.rw] at hrw
  · rcases hov b o hb with ⟨rfl, rfl⟩ | ⟨x, hx, rfl, rfl⟩
    · rcases hov b' o' hb' with ⟨rfl, _⟩ | ⟨y, hy, rfl, _⟩
      · rfl
      · rw [hG, hmu y hy] at he
        exact absurd he.symm (hne y hy)
    · rcases hov b' o' hb' with ⟨rfl, _⟩ | ⟨y, hy, rfl, _⟩
      · rw [hG, hmu x hx] at he
        exact absurd he (hne x hx)
      · rw [hmu x hx, hmu y hy] at he
        exact he

/-- A law's run, one of its arguments a slice of which the elements are these. -/
def lawW (P : Program) [Intr P] (G fuel : Nat) (f : FuncId) (args : List Value) (gl : List (Nat × List Value)) (c : List Value) : Bool :=
  enterK P G (execF P G fuel) f args (T.set (some (.win c)) (glH gl) G) (G + 1) fun v _ _ => isTrue v
theorem lawW_run {P : Program} [Intr P] (hm : P.follows .mixedOrders = true) {G fuel : Nat} {f : FuncId} {args args' : List Value} {gl : List (Nat × List Value)} {es : Nat → Nat} {bs off : Nat} {c : List Value} (hb : (bodyOf P f).isSome = true)
    (hk : lawW P G fuel f args gl c = true) (ha : VRs (mGW G es bs off) args args') (w : World) (hl : GlAt G (mGW G es bs off) w gl) (hne : ∀ x ∈ gl, x.1 ≠ bs) {cs : Array Value} {e : TypeId} {fz : Nat × Nat}
    (hw : w.heap[bs]? = some (.cells cs e fz)) (hc : VRs (mGW G es bs off) c ((cs.toList.drop off).take c.length)) (hat : ∀ v ∈ c, atom v = true) :
    Calls P f ⟨args'⟩ w fun e w' => e = .returned (.bool true) ∧ Below w.heap.size w w' := by
  unfold lawW at hk
  rw [execF_eq] at hk
  have := enterK_sound (run_sound (G := G) hm fuel) (mGW_GR G es bs off) (mGW_HR G es bs off hl hne hw hc hat) hk ha (fun v w' => v = .bool true ∧ Below w.heap.size w w') (fun _ _ => False) (fun v v' m' h' n' w' _ hv hh ht => by
    refine ⟨?_, hh.lr.below.nat⟩
    unfold isTrue at ht
    split at ht
    · subst ht; exact hv.inv_bool
    · cases ht) (fun v ch m' h' n' w' _ _ _ ht => by cases ht)
  rcases this with ⟨v', w', hr, _⟩ | ⟨_, hc⟩
  · obtain ⟨⟨fn, c⟩, hbo⟩ := Option.isSome_iff_exists.1 hb
    rw [(bodyOf_spec hbo).2.2 _ w] at hr
    cases hr
  · refine hc.mono fun e w' he => ?_
    cases e with
    | returned v => exact ⟨by rw [he.1], he.2⟩
    | panicked c => exact he.elim
    | outgrown => exact he.elim

end
end Go.Ex

/- The world has grown alone: what is known stays known. -/
namespace Go.Ex
noncomputable section
open Go.RowKit (Below)

variable {P : Program} {m : Mp} {B : Bd} {w0 w w' : World} {n : Nat} {h : T AO} {X : Nat → Option AO} {G : Nat}

theorem LR.grown {L : Nat → Option AO} (hr : LR B w0 m L n w) (hb : Below w.heap.size w w') : LR B w0 m L n w' where
  below := hr.below.trans (.ofBelow hb hr.size)
  size := Nat.le_trans hr.size hb.size
  ok := fun b o h1 h2 => by
    obtain ⟨hd, co, hco, hor⟩ := hr.ok b o h1 h2
    exact ⟨hd, co, (hb.block _ (hr.block_lt h1 h2)).trans hco, hor⟩
  lt := hr.lt
  own := hr.own
  inj := hr.inj
  dom := hr.dom
  free := hr.free
theorem HR.grown (hr : HR B w0 m h X n w) (hb : Below w.heap.size w w') : HR B w0 m h X n w' := ⟨hr.lr.grown hb, hr.apart⟩

end
end Go.Ex
