/- A verified executor of the model's code on an abstract heap, part 5: definitions and their soundness; nothing here names a program. -/
import Derived.Test.YtpbfiddnnpmblaaGreatDoorEx4

/- A callee by a run of its own, of which the caller's blocks are only read: what it tells, and that nothing of the caller's turns. -/
namespace Go.Ex
noncomputable section
open Go.RowKit (Below)

variable {P : Program} {m : Mp} {B : Nat} {w0 w : World} {n : Nat} {h : T AO} {X : Nat → Option AO}

def roAO (o : AO) : Option AO :=
  match o with
  | .cells 0 c e z => some (.cells 2 c e z)
  | .cells 1 c e z => some (.cells 6 c e z)
  | .cells 2 c e z => some (.cells 2 c e z)
  | .cells 3 c e z => some (.cells 2 c e z)
  | .cells 6 c e z => some (.cells 6 c e z)
  | _ => none
theorem roAO_spec {b : Nat} {o o' : AO} {co : Obj} (h : roAO o = some o') (ho : OR m b o co) : OR m b o' co ∧ o'.rw = false ∧ o' ≠ .res := by
  cases ho with
  | closed c e z cs hc ha => cases h; exact ⟨.ro c e z cs e _ hc ha, rfl, by simp⟩
  | opn c e cs hc hl hk he ha hat => cases h; exact ⟨.opr c e cs _ hc hl hk he ha, rfl, by simp⟩
  | full c e cs hc hk he ha => cases h; exact ⟨.ro c e _ cs e _ hc ha, rfl, by simp⟩
  | opr c e cs fz hc hl hk he ha => cases h; exact ⟨.opr c e cs fz hc hl hk he ha, rfl, by simp⟩
  | ro c e z cs e' fz hc ha => cases h; exact ⟨.ro c e z cs e' fz hc ha, rfl, by simp⟩
  | _ => cases h

def roH (h : T AO) : List Nat → T AO → T AO
  | [], t => t
  | b :: l, t => roH h l (match h.get b with
    | some o => match roAO o with
      | some o' => T.set (some o') t b
      | none => t
    | none => t)
theorem roH_get {h : T AO} {b : Nat} {o : AO} : ∀ {l : List Nat} {t : T AO}, (∀ b o, t.get b = some o → ∃ o0, h.get b = some o0 ∧ roAO o0 = some o) → (roH h l t).get b = some o → ∃ o0, h.get b = some o0 ∧ roAO o0 = some o
  | [], t, ht, hb => ht b o hb
  | a :: l, t, ht, hb => by
    refine roH_get (l := l) ?_ hb
    intro x y hx
    split at hx
    · rename_i o1 h1
      split at hx
      · rename_i o2 h2
        rw [T.get_set] at hx
        by_cases e : x = a
        · subst e
          rw [if_pos rfl] at hx
          cases hx
          exact ⟨o1, h1, h2⟩
        · rw [if_neg e] at hx
          exact ht x y hx
      · exact ht x y hx
    · exact ht x y hx

theorem ro_HR (hr : HR B w0 m h X n w) (l : List Nat) : HR w.heap.size w m (roH h l .leaf) (fun _ => none) n w := by
  have key : ∀ b o, ov (roH h l .leaf) (fun _ => none) b = some o → ∃ o0, ov h X b = some o0 ∧ o0.live = true ∧ roAO o0 = some o := fun b o hb => by
    have hb' : (roH h l .leaf).get b = some o := by
      unfold ov at hb
      split at hb
      · rename_i o1 h1; cases hb; exact h1
      · cases hb
    obtain ⟨o0, h0, h1⟩ := roH_get (fun b o hb => by rw [T.get_leaf] at hb; cases hb) hb'
    refine ⟨o0, ov_some h0, ?_, h1⟩
    unfold roAO at h1
    split at h1 <;> first | rfl | cases h1
  refine ⟨⟨Below.refl _ _, Nat.le_refl _, fun b o hb _ => ?_, fun b o hb => ?_, fun b o hb _ hrw => ?_, fun b b' o o' hb hb' _ _ he => ?_, hr.lr.dom, fun b hb => ?_⟩, fun b o hx => by cases hx⟩
  · obtain ⟨o0, h0, hl, h1⟩ := key b o hb
    obtain ⟨hd, co, hco, hor⟩ := hr.lr.ok b o0 h0 hl
    exact ⟨hd, co, hco, (roAO_spec h1 hor).1⟩
  · obtain ⟨o0, h0, _, _⟩ := key b o hb
    exact hr.lr.lt b o0 h0
  · obtain ⟨o0, h0, hl, h1⟩ := key b o hb
    obtain ⟨hd, co, hco, hor⟩ := hr.lr.ok b o0 h0 hl
    rw [(roAO_spec h1 hor).2.1] at hrw
    cases hrw
  · obtain ⟨o0, h0, hl, _⟩ := key b o hb
    obtain ⟨o1, h1, hl1, _⟩ := key b' o' hb'
    exact hr.lr.inj b b' o0 o1 h0 h1 hl hl1 he
  · obtain ⟨o0, h0, hl, h1⟩ := key b _ hb
    obtain ⟨hd, co, hco, hor⟩ := hr.lr.ok b o0 h0 hl
    exact absurd rfl (roAO_spec h1 hor).2.2

theorem callRO [Intr P] (hm : P.follows .mixedOrders = true) {G fuel : Nat} (hG : GR m G) (hr : HR B w0 m h X n w) {g : FuncId} {args args' : List Value} {l : List Nat} {k : Value → T AO → Nat → Bool} (hk : enterK P G (execF P G fuel) g args (roH h l .leaf) n k = true) (ha : VRs m args args')
    (hent : ∀ args w, (callFunc g args).run P w = .ok (.enter g args) w) (hp : ∀ v h n, k (pan v) h n = false) :
    Calls P g ⟨args'⟩ w fun e w' => ∃ v v' m' h' n', e = .returned v' ∧ VR m' v v' ∧ k v h' n' = true ∧ Below w.heap.size w w' := by
  rw [execF_eq] at hk
  rcases enterK_sound (run_sound (G := G) hm fuel) hG (ro_HR hr l) hk ha (fun v' w' => ∃ v m' h' n', VR m' v v' ∧ k v h' n' = true ∧ Below w.heap.size w w') (fun _ _ => False)
    (fun v v' m' h' n' w' _ hv hh hk => ⟨v, m', h', n', hv, hk, hh.lr.below⟩) (fun v ch m' h' n' w' _ _ _ hk => by rw [hp] at hk; cases hk) with ⟨v', w', h1, _⟩ | ⟨_, h2⟩
  · rw [hent] at h1; cases h1
  · refine h2.mono fun e w' he => ?_
    cases e with
    | returned v' => obtain ⟨v, m', h', n', h3, h4, h5⟩ := he; exact ⟨v, v', m', h', n', rfl, h3, h4, h5⟩
    | panicked c => exact he.elim
    | outgrown => exact he.elim

end
end Go.Ex

/- The search of a hash index's chains for a key that is unknown: by a contract on its own code; what it calls, by runs of their own. -/
namespace Go.Ex
noncomputable section
open Go.RowKit (Below)

variable {P : Program} {m : Mp} {B : Nat} {w0 w : World} {n : Nat} {h : T AO} {X : Nat → Option AO}

/-- What the search (ff) asks of the world and of its callees (fh: a key's hash; fr: the order of two keys): then it finds nothing. -/
structure FindC (P : Program) (ff fh fr : FuncId) : Prop where
  enters : ∀ args w, (callFunc ff args).run P w = .ok (.enter ff args) w
  entersH : ∀ args w, (callFunc fh args).run P w = .ok (.enter fh args) w
  entersR : ∀ args w, (callFunc fr args).run P w = .ok (.enter fr args) w
  gives : ∀ (w : World) (xb R : Nat) (key : Value) (es : Array MapEntry) (cl : Nat), w.cell? ⟨xb, 1, none⟩ = some (.map (some R)) → w.heap[R]? = some (.map es cl) →
    (es.toList = [] ∨ ∃ (e : MapEntry) (K0 : Int) (A o cap C : Nat) (kv : Value), es.toList = [e] ∧ e.key = .int .u64 K0 ∧ e.val = .slice (some ⟨A, o, none⟩) 1 cap ∧ w.cell? ⟨A, o, none⟩ = some (.pointer (some ⟨C, 0, none⟩)) ∧
      w.cell? ⟨C, 0, none⟩ = some kv ∧ ∀ w1, Below w.heap.size w w1 → Calls P fr #[kv, key] w1 fun e w' => ∃ z : Int, e = .returned (.int .i64 z) ∧ z ≠ 0 ∧ Below w1.heap.size w1 w') →
    (∀ w1, Below w.heap.size w w1 → Calls P fh #[key] w1 fun e w' => ∃ H : Int, e = .returned (.int .u64 H) ∧ Below w1.heap.size w1 w') →
    Calls P ff #[.pointer (some ⟨xb, 0, none⟩), key] w fun e w' => e = .returned (.pointer none) ∧ Below w.heap.size w w'

theorem enters_body {f : FuncId} (hb : (bodyOf P f).isSome = true) : ∀ args w, (callFunc f args).run P w = .ok (.enter f args) w := by
  obtain ⟨⟨fn, c⟩, hbo⟩ := Option.isSome_iff_exists.1 hb
  exact (bodyOf_spec hbo).2.2

def isNz (v : Value) : Bool :=
  match v with
  | .int .i64 z => !ieq z 0
  | _ => false
/-- The block of a key of which the number is unknown. -/
def symKey (h : T AO) (sk : Value) : Option Nat :=
  match sk with
  | .slice (some ⟨b, o, none⟩) 1 _ => match h.get b with
    | some (.cells _ c _ _) => match c[o + 1]? with
      | some (.complex .f32 _ _) => some b
      | _ => none
    | _ => none
  | _ => none
def blkOf (v : Value) : Nat :=
  match v with
  | .slice (some ⟨b, _, _⟩) _ _ => b
  | _ => 0

def chainRun (P : Program) [Intr P] (G fuel : Nat) (fr : FuncId) (sk : Value) (bk : Nat) (h : T AO) (n : Nat) (es : List (Value × Value × Nat)) : Bool :=
  match es with
  | [] => true
  | [(.int .u64 _, .slice (some ⟨A, o, none⟩) 1 _, _)] => match h.get A with
    | some (.cells _ ca _ _) => match ca[o]? with
      | some (.pointer (some ⟨C, 0, none⟩)) => match h.get C with
        | some (.cells _ cc _ _) => match cc[0]? with
          | some kv => Nat.blt o sent && enterK P G (execF P G fuel) fr [kv, sk] (roH h [bk, blkOf kv] .leaf) n fun v _ _ => isNz v
          | none => false
        | _ => false
      | _ => false
    | _ => false
  | _ => false

def findRun (P : Program) [Intr P] (G fuel : Nat) (fh fr : FuncId) (args : List Value) (h : T AO) (n : Nat) : Out :=
  match args with
  | [.pointer (some ⟨bx, 0, none⟩), sk] => match symKey h sk with
    | some bk => match h.get bx with
      | some (.cells _ c _ _) => match (c[1]? : Option Value) with
        | some (.map (some r)) => match h.get r with
          | some (.map es _) => sel (enterK P G (execF P G fuel) fh [sk] (roH h [bk] .leaf) n (fun v _ _ => Nat.beq (unkC v) 7) && chainRun P G fuel fr sk bk h n es) (some (.pointer none, [], n)) none
          | _ => none
        | _ => none
      | _ => none
    | none => none
  | _ => none

theorem chainRun_spec [Intr P] (hm : P.follows .mixedOrders = true) {G fuel : Nat} {fr : FuncId} {sk sk' : Value} {bk : Nat} (hG : GR m G) (hr : HR B w0 m h X n w) (hsk : VR m sk sk') (hent : ∀ args w, (callFunc fr args).run P w = .ok (.enter fr args) w)
    {es : List (Value × Value × Nat)} {es' : List MapEntry} (hk : chainRun P G fuel fr sk bk h n es = true) (he : ERs m es es') :
    es' = [] ∨ ∃ (e : MapEntry) (K0 : Int) (A o cap C : Nat) (kv : Value), es' = [e] ∧ e.key = .int .u64 K0 ∧ e.val = .slice (some ⟨A, o, none⟩) 1 cap ∧ w.cell? ⟨A, o, none⟩ = some (.pointer (some ⟨C, 0, none⟩)) ∧
      w.cell? ⟨C, 0, none⟩ = some kv ∧ ∀ w1, Below w.heap.size w w1 → Calls P fr #[kv, sk'] w1 fun e w' => ∃ z : Int, e = .returned (.int .i64 z) ∧ z ≠ 0 ∧ Below w1.heap.size w1 w' := by
  unfold chainRun at hk
  split at hk
  · cases es' with
    | nil => exact .inl rfl
    | cons a l => exact he.elim
  · rename_i K0 A o cap born
    split at hk
    case h_2 => cases hk
    rename_i ca _ _ hA
    split at hk
    case h_2 => cases hk
    rename_i C hp
    split at hk
    case h_2 => cases hk
    rename_i cc _ _ hC
    split at hk
    case h_2 => cases hk
    rename_i kv hkv
    rw [Bool.and_eq_true, nblt, decide_eq_true_eq] at hk
    obtain ⟨ho, hk⟩ := hk
    cases es' with
    | nil => exact he.elim
    | cons e l =>
      cases l with
      | cons a l => exact he.2.elim
      | nil =>
        obtain ⟨⟨h1, _, h3, _⟩, _⟩ := he
        obtain ⟨hd, cap', hval, _⟩ := inv_slice h3 ho
        obtain ⟨p', hp', hpr⟩ := hr.lr.cell (ov_some (X := X) hA) hp
        obtain ⟨rfl, hdC⟩ := hpr.inv_ptr
        obtain ⟨kv', hkv', hkr⟩ := hr.lr.cell (ov_some (X := X) hC) hkv
        refine .inr ⟨e, K0, m.mu A, o, cap', m.mu C, kv', rfl, h1, hval, hp', hkv', fun w1 hb => ?_⟩
        refine (callRO hm hG (hr.grown hb) hk (.cons hkr (.cons hsk .nil)) hent (fun _ _ _ => rfl)).mono fun e w' ⟨v, v', m', h', n', h5, h6, h7, h8⟩ => ?_
        unfold isNz at h7
        split at h7
        · rename_i z
          rw [h6.inv_int] at h5
          refine ⟨z, h5, fun h9 => ?_, h8⟩
          subst h9
          simp [ieq_eq] at h7
        · cases h7
  · cases hk

theorem findRun_sound [Intr P] (hm : P.follows .mixedOrders = true) {ff fh fr : FuncId} (hF : FindC P ff fh fr) {G fuel : Nat} {args : List Value} {v : Value} {l : List (Nat × AO)} {n' : Nat} (hv : findRun P G fuel fh fr args h n = some (v, l, n')) {args' : List Value} (hG : GR m G) (hr : HR B w0 m h X n w) (ha : VRs m args args') :
    (callFunc ff ⟨args'⟩).run P w = .ok (.enter ff ⟨args'⟩) w ∧ Calls P ff ⟨args'⟩ w fun e w' => ∃ v', e = .returned v' ∧ Outs P B w0 X m h v l n' v' w' := by
  refine ⟨hF.enters _ _, ?_⟩
  unfold findRun at hv
  split at hv
  case h_2 => cases hv
  rename_i bx sk
  split at hv
  case h_2 => cases hv
  rename_i bk hbk
  split at hv
  case h_2 => cases hv
  rename_i c _ _ hx
  split at hv
  case h_2 => cases hv
  rename_i r hcr
  split at hv
  case h_2 => cases hv
  rename_i es cl hes
  cases hc : (enterK P G (execF P G fuel) fh [sk] (roH h [bk] .leaf) n (fun v _ _ => Nat.beq (unkC v) 7) && chainRun P G fuel fr sk bk h n es)
  · rw [hc] at hv; cases hv
  rw [hc, sel_true] at hv
  simp only [Option.some.injEq, Prod.mk.injEq] at hv
  obtain ⟨rfl, rfl, rfl⟩ := hv
  rw [Bool.and_eq_true] at hc
  obtain ⟨hc1, hc2⟩ := hc
  obtain ⟨x', sk', rfl, hxv, hskv⟩ := vrs2 ha
  obtain ⟨rfl, _⟩ := hxv.inv_ptr
  obtain ⟨mv, hmv, hmr⟩ := hr.lr.cell (ov_some (X := X) hx) hcr
  obtain ⟨rfl, _⟩ := hmr.inv_map
  obtain ⟨_, es', hco, hers⟩ := hr.lr.map (ov_some (X := X) hes)
  refine (hF.gives w _ _ sk' es' _ hmv hco (chainRun_spec hm hG hr hskv hF.entersR hc2 hers) fun w1 hb => ?_).mono fun e w' ⟨he, hb⟩ => ⟨_, he, m, m.le_refl, .ptrN, hr.grown hb⟩
  refine (callRO hm hG (hr.grown hb) hc1 (.cons hskv .nil) hF.entersH (fun _ _ _ => rfl)).mono fun e w' ⟨v, v', m', h', n', h5, h6, h7, h8⟩ => ?_
  rw [nbeq, decide_eq_true_eq] at h7
  obtain ⟨k, H, rfl, hk⟩ := unkC_spec (by omega) h6
  obtain rfl : k = .u64 := kcode_inj (by rw [hk, h7]; rfl)
  exact ⟨H, h5, h8⟩

@[reducible] def withFind (P : Program) (I : Intr P) (hm : P.follows .mixedOrders = true) (fuel : Nat) (ff fh fr : FuncId) (hF : FindC P ff fh fr) : Intr P where
  run G g args h n := match I.run G g args h n with
    | some r => some r
    | none => sel (Nat.beq g ff) (@findRun P I G fuel fh fr args h n) none
  sound := fun {G g args h n v l n'} hv {B w0 m X w args'} hG hr ha => by
    split at hv
    · rename_i r hr1
      cases hv
      exact I.sound hr1 hG hr ha
    · cases hf : Nat.beq g ff
      · rw [hf] at hv; cases hv
      · rw [hf, sel_true] at hv
        rw [nbeq, decide_eq_true_eq] at hf
        subst hf
        exact .inr (@findRun_sound P _ _ _ _ _ _ _ I hm _ _ _ hF _ _ _ _ _ _ hv _ hG hr ha)

/-! ### A number by its order to a known one -/
def below_ (K : Nat) : Value := .complex .f32 0 (16 * (5 + 2 * K) + 3)
def above_ (K : Nat) : Value := .complex .f32 0 (16 * (6 + 2 * K) + 3)
theorem ordK_VR {G : Nat} (hG : 0 < G) {a : Int} (hw : (Lit.int .i64 a).wf = true) (K : Nat) : a = .ofNat K ∨ VR (mGS G fun _ => (a + 9223372036854775808).toNat) (below_ K) (.int .i64 a) ∨ VR (mGS G fun _ => (a + 9223372036854775808).toNat) (above_ K) (.int .i64 a) := by
  have h : -9223372036854775808 ≤ a ∧ a ≤ 9223372036854775807 := by
    simp [Lit.wf, IntKind.min, IntKind.max, IntKind.signed, IntKind.bits] at hw
    omega
  have e : Int.ofNat ((mGS G fun _ => (a + 9223372036854775808).toNat).esz 0) - 9223372036854775808 = a := by
    show ((a + 9223372036854775808).toNat : Int) - _ = a
    omega
  have hm : IntKind.i64.min ≤ Int.ofNat ((mGS G fun _ => (a + 9223372036854775808).toNat).esz 0) - 9223372036854775808 ∧ Int.ofNat ((mGS G fun _ => (a + 9223372036854775808).toNat).esz 0) - 9223372036854775808 ≤ IntKind.i64.max := by
    rw [e]
    have h7 : IntKind.i64.min = -9223372036854775808 := by decide
    have h8 : IntKind.i64.max = 9223372036854775807 := by decide
    rw [h7, h8]; exact h
  have ho : ∀ i, i ≤ 0 → (mGS G fun _ => (a + 9223372036854775808).toNat).dom i ∧ (i < 0 → (mGS G fun _ => (a + 9223372036854775808).toNat).esz i < (mGS G fun _ => (a + 9223372036854775808).toNat).esz 0) := fun i hi => ⟨Nat.lt_of_le_of_lt hi hG, fun hl => absurd hl (by omega)⟩
  rcases Int.lt_trichotomy a (.ofNat K) with hl | hl | hl
  · have := VR.symo (m := mGS G fun _ => (a + 9223372036854775808).toNat) .i64 0 (16 * (5 + 2 * K) + 3) (by simp only [kcode]; omega) hm
      (.inr (.inr (.inl ⟨by omega, by omega, by rw [e, show ((16 * (5 + 2 * K) + 3) / 16 - 5) / 2 = K by omega]; exact hl⟩))) ho
    rw [e] at this
    exact .inr (.inl this)
  · exact .inl hl
  · have := VR.symo (m := mGS G fun _ => (a + 9223372036854775808).toNat) .i64 0 (16 * (6 + 2 * K) + 3) (by simp only [kcode]; omega) hm
      (.inr (.inr (.inr ⟨by omega, by omega, by rw [e, show ((16 * (6 + 2 * K) + 3) / 16 - 5) / 2 = K by omega]; exact hl⟩))) ho
    rw [e] at this
    exact .inr (.inr this)

end
end Go.Ex
