/- A verified executor of the model's code on an abstract heap, part 4: definitions and their soundness; nothing here names a program. -/
import Derived.Test.YtihifldpknpjhaaGreatDoorEx3
import Derived.Lib.SlKeysI
import Derived.Sort.KeysCollected
import Derived.Maps.Own
import Derived.Sort.EncStr
import Derived.Lib.Join
import Derived.ChangeSlices
import Derived.ChangeSame
import Derived.OpenShut
import Derived.WalkKit

/- slices.Sorted(maps.Keys(m)), by its contract, on the abstract heap. -/
namespace Go.Ex
open Go.RowKit (Below)
open Go.WideElems (Fit rd rg)
noncomputable section

variable {P : Program} {m : Mp} {B : Bd} {w0 w w' : World} {n : Nat} {h : T AO} {X : Nat → Option AO} {G : Nat}

/-! ### A world that has grown -/
/-- A block of the world that no number stands for gets one. -/
theorem LR.adopt {L : Nat → Option AO} (hr : LR B w0 m L n w) {r g : Nat} {co : Obj} {o : AO} (hnd : ¬ m.dom r) (hL : L r = none) (hrn : r < n + 1) (hg : w.heap[g]? = some co) (hB : ¬ B.S g) (hfree : ∀ b o, L b = some o → o.live = true → m.mu b ≠ g)
    (cap esz : Nat) (hor : OR (m.ext r g cap esz) r o co) : LR B w0 (m.ext r g cap esz) (Ex.upd L r o) (n + 1) w := by
  have hle := Mp.le_ext hnd g cap esz
  have old : ∀ b o', Ex.upd L r o b = some o' → b ≠ r → L b = some o' := fun b o' hb e => by rwa [upd_ne _ _ e] at hb
  refine ⟨hr.below, hr.size, fun b o' hb hl => ?_, fun b o' hb => ?_, fun b o' hb hl hrw => ?_, fun b b' o1 o2 hb hb' hl hl' he => ?_, fun b hb => ?_, fun b hb => ?_⟩
  · by_cases e : b = r
    · subst e
      rw [upd_same] at hb; cases hb
      exact ⟨Mp.ext_dom _ _ _ _ _, co, by rw [Mp.ext_mu]; exact hg, hor⟩
    · obtain ⟨hd, co', hco, ho⟩ := hr.ok b o' (old b o' hb e) hl
      refine ⟨(hle b hd).1, co', ?_, ho.mono hle hd⟩
      rw [(hle b hd).2.1]; exact hco
  · by_cases e : b = r
    · subst e; exact hrn
    · exact Nat.lt_succ_of_lt (hr.lt b o' (old b o' hb e))
  · by_cases e : b = r
    · subst e; rw [Mp.ext_mu]; exact hB
    · rw [Mp.ext_mu_ne _ _ _ _ e]; exact hr.own b o' (old b o' hb e) hl hrw
  · by_cases e : b = r
    · by_cases e' : b' = r
      · rw [e, e']
      · have h1 := hfree b' o2 (old _ _ hb' e') hl'
        rw [e, Mp.ext_mu, Mp.ext_mu_ne _ _ _ _ e'] at he
        exact absurd he.symm h1
    · have h1 := hfree b o1 (old _ _ hb e) hl
      by_cases e' : b' = r
      · rw [e', Mp.ext_mu, Mp.ext_mu_ne _ _ _ _ e] at he
        exact absurd he h1
      · rw [Mp.ext_mu_ne _ _ _ _ e, Mp.ext_mu_ne _ _ _ _ e'] at he
        exact hr.inj b b' o1 o2 (old _ _ hb e) (old _ _ hb' e') hl hl' he
  · rcases hb with hb | rfl
    · exact Nat.lt_succ_of_lt (hr.dom b hb)
    · exact hrn
  · by_cases e : b = r
    · subst e; rw [upd_same] at hb; cases hb; have := hor.live; cases this
    · exact fun hd => hd.elim (hr.free b (old b _ hb e)) e

theorem HR.adopt (hr : HR B w0 m h X n w) (hb : Below w.heap.size w w') {g : Nat} {co : Obj} {o : AO} (hg : w'.heap[g]? = some co) (hgw : w.heap.size ≤ g) (cap esz : Nat) (hor : OR (m.ext n g cap esz) n o co) :
    HR B w0 (m.ext n g cap esz) (T.set (some o) h n) X (n + 1) w' := by
  have h1 := hr.grown hb
  exact h1.new (h1.lr.adopt hr.fresh.2.2.2 hr.fresh.2.2.1 (Nat.lt_succ_self n) hg (fun hs => absurd (B.lt _ hs) (by have := hr.lr.size; omega)) (fun b o hbo hl he => by
    have := hr.lr.block_lt hbo hl; omega) cap esz hor)

/-! ### The keys -/
def R0 : Value → Option (DataW Unit × List MemPlace) := fun _ => some (.lit (.bool true), [])

def keysI : List (Value × Value × Nat) → Option (List Int)
  | [] => some []
  | e :: l => match e.1, keysI l with
    | .int .i64 x, some r => sel ((Lit.int .i64 x).wf && r.all fun y => !ieq x y) (some (x :: r)) none
    | _, _ => none

theorem keysI_spec : ∀ {l : List (Value × Value × Nat)} {ks : List Int}, keysI l = some ks → l.map (·.1) = ks.map encZ ∧ ks.Nodup ∧ ∀ x ∈ ks, (Lit.int .i64 x).wf = true
  | [], ks, h => by cases h; simp
  | e :: l, ks, h => by
    simp only [keysI] at h
    split at h
    · rename_i x r hx hr
      cases hc : ((Lit.int .i64 x).wf && r.all fun y => !ieq x y)
      · rw [hc] at h; cases h
      rw [hc, sel_true] at h
      cases h
      simp only [Bool.and_eq_true, List.all_eq_true, Bool.not_eq_true', ieq_eq, decide_eq_false_iff_not] at hc
      obtain ⟨h1, h2, h3⟩ := keysI_spec hr
      refine ⟨by simp [h1, hx, encZ], List.nodup_cons.2 ⟨fun hm => hc.2 x hm rfl, h2⟩, fun y hy => ?_⟩
      rcases List.mem_cons.1 hy with rfl | hy
      · exact hc.1
      · exact h3 y hy
    · cases h

theorem ERs.map_key {es : List (Value × Value × Nat)} {es' : List MapEntry} (h : ERs m es es') : es'.map (·.key) = es.map (·.1) := by
  induction es generalizing es' with
  | nil => cases es' <;> first | rfl | exact h.elim
  | cons a l ih =>
    cases es' with
    | nil => exact h.elim
    | cons e r => simp [ih h.2, h.1.1]
theorem insert_perm (x : Lit × DataW Unit) : ∀ (l : List (Lit × DataW Unit)), (DataW.insert x l).Perm (x :: l)
  | [] => .refl _
  | y :: r => by
    unfold DataW.insert
    split
    · exact .refl _
    · exact ((insert_perm x r).cons y).trans (List.Perm.swap x y r)
theorem foldr_insert_perm : ∀ (l : List (Lit × DataW Unit)), (l.foldr DataW.insert []).Perm l
  | [] => .refl _
  | x :: l => (insert_perm x _).trans ((foldr_insert_perm l).cons x)

/-- The map that the abstract one stands for, in the contracts' words. -/
theorem ownsMap_int {k : TypeId} (hk : P.underlying k = some (.int .i64)) {r cl : Nat} {es : List (Value × Value × Nat)} {ks : List Int} {es' : Array MapEntry} (hks : keysI es = some ks) (hbo : bornOk es cl = true) (hsz : es.length ≤ maxLen)
    (hr : w.heap[r]? = some (.map es' cl)) (he : ERs m es es'.toList) :
    ∃ D0 : DataW Unit, w.ownsMap P k R0 r es'.size D0 ∧ (intKeys D0).Perm ks ∧ Maps.size D0 = ks.length := by
  obtain ⟨h1, h2, h3⟩ := keysI_spec hks
  obtain ⟨h4, h5⟩ := bornOk_spec hbo
  have hkey := he.map_key
  have hborn := he.map_born
  have hlen := he.length
  have hkl : ks.length = es.length := by have := congrArg List.length h1; simpa using this.symm
  have hread : ∀ x ∈ es'.toList, ∃ z ∈ ks, x.key = encZ z ∧ rd P k R0 x = some (.int .i64 z, .lit (.bool true)) := fun x hx => by
    have : x.key ∈ es'.toList.map (·.key) := List.mem_map.2 ⟨x, hx, rfl⟩
    rw [hkey, h1] at this
    obtain ⟨z, hz, hzx⟩ := List.mem_map.1 this
    refine ⟨z, hz, hzx.symm, ?_⟩
    simp only [rd, ← hzx, encZ, Maps.keyOf_int_mk hk (h3 z hz), R0, Option.bind_some, Option.map_some]
  have hrg : (es'.toList.map (rg P k R0)).map (fun p => intOf p.1) = ks := by
    have : ∀ (l : List MapEntry) (q : List Int), (∀ x ∈ l, ∃ z, x.key = encZ z ∧ rd P k R0 x = some (.int .i64 z, .lit (.bool true))) → l.map (·.key) = q.map encZ → (l.map (rg P k R0)).map (fun p => intOf p.1) = q := by
      intro l
      induction l with
      | nil => intro q _ hq; cases q <;> simp_all
      | cons a l ih =>
        intro q hl hq
        cases q with
        | nil => simp at hq
        | cons z q =>
          simp only [List.map_cons, List.cons.injEq] at hq
          obtain ⟨z', hz1, hz2⟩ := hl a (by simp)
          have : z' = z := encZ_inj (hz1.symm.trans hq.1)
          subst this
          simp only [List.map_cons, List.cons.injEq]
          refine ⟨by simp [rg, hz2, intOf], ih q (fun x hx => hl x (by simp [hx])) hq.2⟩
    exact this _ _ (fun x hx => by obtain ⟨z, _, h1, h2⟩ := hread x hx; exact ⟨z, h1, h2⟩) (by rw [hkey, h1])
  have hp := foldr_insert_perm (es'.toList.map (rg P k R0))
  refine ⟨_, ⟨es', cl, hr, ⟨by simp at hlen; omega, ?_, fun x hx => ?_⟩, Nat.le_refl _, rfl⟩, ?_, ?_⟩
  · rw [MapKept.stamped_iff]
    refine ⟨fun x hx => ?_, by rw [hborn]; exact h5, ?_⟩
    · have : x.born ∈ es'.toList.map (·.born) := List.mem_map.2 ⟨x, hx, rfl⟩
      rw [hborn] at this
      obtain ⟨e, he1, he2⟩ := List.mem_map.1 this
      rw [← he2]; exact h4 e he1
    · have hnd : (es'.toList.map (·.key)).Nodup := by
        rw [hkey, h1]
        exact List.Pairwise.map _ (fun a b hab he => hab (encZ_inj he)) h2
      exact List.pairwise_map.1 hnd
  · obtain ⟨z, _, _, h2⟩ := hread x hx; exact ⟨_, h2⟩
  · show ((((es'.toList.map (rg P k R0)).foldr DataW.insert []).map fun p => intOf p.1)).Perm ks
    rw [← hrg]
    exact hp.map _
  · show ((es'.toList.map (rg P k R0)).foldr DataW.insert []).length = ks.length
    rw [hp.length_eq]
    simp at hlen ⊢
    omega

/-! ### slices.Sorted at keys of an integer's kind -/
structure SortedI (P : Program) (fs fk : FuncId) (kt et : TypeId) : Prop where
  key : P.underlying kt = some (.int .i64)
  enters : ∀ args w, (callFunc fs args).run P w = .ok (.enter fs args) w
  gives : ∀ (Bm b nn : Nat) (D0 : DataW Unit) (w : World), Bm < w.heap.size → w.cell? ⟨Bm, 0, none⟩ = some (.map (some b)) → w.ownsMap P kt R0 b nn D0 → Maps.size D0 ≤ maxLen → Maps.size D0 * 8 ≤ 140737488355328 →
    Calls P fs #[.func (.func fk) #[] #[.pointer (some ⟨Bm, 0, none⟩)]] w fun e w' => ∃ (v : Value) (ss : List Int), e = .returned v ∧ ss.Perm (intKeys D0) ∧
      w'.ownsRow w.heap.size et 1 v ss.length ((ss.mergeSort (fun x y => decide (x ≤ y))).map encZ) ∧ (v = .slice none 0 0 ↔ ss = []) ∧ Below w.heap.size w w'
  givesNil : ∀ (Bm : Nat) (w : World), Bm < w.heap.size → w.cell? ⟨Bm, 0, none⟩ = some (.map none) →
    Calls P fs #[.func (.func fk) #[] #[.pointer (some ⟨Bm, 0, none⟩)]] w fun e w' => e = .returned (.slice none 0 0) ∧ Below w.heap.size w w'

def insI (x : Int) : List Int → List Int
  | [] => [x]
  | y :: l => sel (ilt y x) (y :: insI x l) (x :: y :: l)
def sortI : List Int → List Int
  | [] => []
  | x :: l => insI x (sortI l)
theorem insI_perm (x : Int) : ∀ l, (insI x l).Perm (x :: l)
  | [] => .refl _
  | y :: l => by
    unfold insI
    cases ilt y x
    · exact .refl _
    · exact ((insI_perm x l).cons y).trans (List.Perm.swap x y l)
theorem sortI_perm : ∀ l, (sortI l).Perm l
  | [] => .refl _
  | x :: l => (insI_perm x _).trans ((sortI_perm l).cons x)
theorem insI_sorted (x : Int) : ∀ l : List Int, l.Pairwise (· ≤ ·) → (insI x l).Pairwise (· ≤ ·)
  | [], _ => by simp [insI]
  | y :: l, h => by
    unfold insI
    rw [List.pairwise_cons] at h
    cases hc : ilt y x
    · rw [ilt_eq, decide_eq_false_iff_not] at hc
      rw [sel_false, List.pairwise_cons, List.pairwise_cons]
      refine ⟨fun z hz => ?_, h⟩
      rcases List.mem_cons.1 hz with rfl | hz
      · omega
      · have := h.1 z hz; omega
    · rw [ilt_eq, decide_eq_true_eq] at hc
      rw [sel_true, List.pairwise_cons]
      refine ⟨fun z hz => ?_, insI_sorted x l h.2⟩
      have := (insI_perm x l).mem_iff.1 hz
      rcases List.mem_cons.1 this with rfl | hz
      · omega
      · exact h.1 z hz
theorem sortI_sorted : ∀ l : List Int, (sortI l).Pairwise (· ≤ ·)
  | [] => by simp [sortI]
  | x :: l => insI_sorted x _ (sortI_sorted l)
theorem sortI_eq {ss ks : List Int} (h : ss.Perm ks) : ss.mergeSort (fun x y => decide (x ≤ y)) = sortI ks := by
  have h1 : (ss.mergeSort (fun x y => decide (x ≤ y))).Pairwise (· ≤ ·) := by
    have := List.pairwise_mergeSort (le := fun x y : Int => decide (x ≤ y)) (fun a b c h1 h2 => by simp at *; omega) (fun a b => by simp; omega) ss
    exact this.imp fun h => by simpa using h
  exact List.Perm.eq_of_pairwise (le := (· ≤ ·)) (fun a b _ _ h1 h2 => Int.le_antisymm h1 h2) h1 (sortI_sorted ks) (((List.mergeSort_perm ss _).trans h).trans (sortI_perm ks).symm)

/-- What the closure of maps.Keys goes over. -/
def keysOf (h : T AO) (fk : FuncId) (args : List Value) : Option (Option (List (Value × Value × Nat) × Nat)) :=
  match args with
  | [.func (.func f) ⟨[]⟩ ⟨[.pointer (some ⟨b, 0, none⟩)]⟩] => sel (Nat.beq f fk) (match h.get b with
    | some (.cells _ [.map none] _ _) => some none
    | some (.cells _ [.map (some r)] _ _) => match h.get r with
      | some (.map es cl) => some (some (es, cl))
      | _ => none
    | _ => none) none
  | _ => none
def KeysAt (m : Mp) (w : World) (Bm : Nat) (o : Option (List (Value × Value × Nat) × Nat)) : Prop :=
  match o with
  | none => w.cell? ⟨Bm, 0, none⟩ = some (.map none)
  | some (es, cl) => ∃ b es', w.cell? ⟨Bm, 0, none⟩ = some (.map (some b)) ∧ w.heap[b]? = some (.map es' cl) ∧ ERs m es es'.toList
theorem keysOf_spec (hr : HR B w0 m h X n w) {fk : FuncId} {args args' : List Value} {o : Option (List (Value × Value × Nat) × Nat)} (hk : keysOf h fk args = some o) (ha : VRs m args args') :
    ∃ Bm, args' = [.func (.func fk) #[] #[.pointer (some ⟨Bm, 0, none⟩)]] ∧ Bm < w.heap.size ∧ KeysAt m w Bm o := by
  unfold keysOf at hk
  split at hk
  · rename_i f b
    cases hf : Nat.beq f fk
    · rw [hf] at hk; cases hk
    rw [hf, sel_true] at hk
    rw [nbeq, decide_eq_true_eq] at hf
    subst hf
    obtain ⟨a', rfl, ha'⟩ := vrs1 ha
    obtain ⟨r, s, rfl, h1, h2, _⟩ := ha'.inv_func
    have hr0 : r = [] := by cases r with | nil => rfl | cons _ _ => exact h1.elim
    subst hr0
    obtain ⟨p', rfl, hp⟩ := vrs1 h2
    obtain ⟨rfl, hd⟩ := hp.inv_ptr
    have cell : ∀ {fl : Nat} {u : Value} {e : TypeId} {z : Nat}, h.get b = some (.cells fl [u] e z) → ∃ u', VR m u u' ∧ w.cell? ⟨m.mu b, 0, none⟩ = some u' ∧ m.mu b < w.heap.size := fun {fl u e z} hb => by
      have hb' := ov_some (X := X) hb
      obtain ⟨_, co, hco, hor⟩ := hr.lr.ok b _ hb' rfl
      have hlt := hr.lr.block_lt hb' rfl
      cases hor with
      | closed _ _ _ cs hcs _ =>
        obtain ⟨u', hcs', hu⟩ := vrs1 hcs
        refine ⟨u', hu, ?_, hlt⟩
        have h0 : cs[0]? = some u' := by rw [← Array.getElem?_toList, hcs']; rfl
        simp [World.cell?, hco, h0]
      | full _ _ cs hcs _ _ _ =>
        obtain ⟨u', hcs', hu⟩ := vrs1 hcs
        refine ⟨u', hu, ?_, hlt⟩
        have h0 : cs[0]? = some u' := by rw [← Array.getElem?_toList, hcs']; rfl
        simp [World.cell?, hco, h0]
      | opr _ _ cs fz hcs hle _ _ _ =>
        obtain ⟨u', hcs', hu⟩ := vrs1 hcs
        refine ⟨u', hu, ?_, hlt⟩
        have h0 : cs[0]? = some u' := by
          rw [← Array.getElem?_toList]
          have : (cs.toList.take 1)[0]? = some u' := by rw [show ([u] : List Value).length = 1 from rfl] at hcs'; rw [hcs']; rfl
          rw [List.getElem?_take] at this
          simpa using this
        simp [World.cell?, hco, h0]
      | opn _ _ cs hcs hle _ _ _ _ =>
        obtain ⟨u', hcs', hu⟩ := vrs1 hcs
        refine ⟨u', hu, ?_, hlt⟩
        have h0 : cs[0]? = some u' := by
          rw [← Array.getElem?_toList]
          have : (cs.toList.take 1)[0]? = some u' := by rw [show ([u] : List Value).length = 1 from rfl] at hcs'; rw [hcs']; rfl
          rw [List.getElem?_take] at this
          simpa using this
        simp [World.cell?, hco, h0]
      | ro _ _ _ cs _ fz hcs _ =>
        obtain ⟨u', hcs', hu⟩ := vrs1 hcs
        refine ⟨u', hu, ?_, hlt⟩
        have h0 : cs[0]? = some u' := by rw [← Array.getElem?_toList, hcs']; rfl
        simp [World.cell?, hco, h0]
    split at hk
    · rename_i hb
      cases hk
      obtain ⟨u', hu, hc, hlt⟩ := cell hb
      cases hu
      exact ⟨m.mu b, rfl, hlt, hc⟩
    · rename_i hb
      split at hk
      · rename_i es cl hm
        cases hk
        obtain ⟨u', hu, hc, hlt⟩ := cell hb
        obtain ⟨rfl, hdr⟩ := hu.inv_map
        obtain ⟨_, co, hco, hor⟩ := hr.lr.ok _ _ (ov_some (X := X) hm) rfl
        cases hor with
        | map _ _ es' hes => exact ⟨m.mu b, rfl, hlt, _, es', hc, hco, hes⟩
      · cases hk
    · cases hk
  · cases hk

def nSortedI (fk : FuncId) (et : TypeId) (args : List Value) (h : T AO) (n : Nat) : Out :=
  match keysOf h fk args with
  | some none => some (.slice none 0 0, [], n)
  | some (some (es, cl)) => match keysI es with
    | some ks => sel (bornOk es cl && Nat.ble es.length 1048576) (match sortI ks with
      | [] => some (.slice none 0 0, [], n)
      | z :: zs => some (.slice (some ⟨n, 0, none⟩) (z :: zs).length (sent + 1), [(n, .cells 6 ((z :: zs).map encZ) et 1)], n + 1)) none
    | none => none
  | none => none
theorem nSortedI_ok {fs fk : FuncId} {kt et : TypeId} (hS : SortedI P fs fk kt et) {args args' : List Value} {v : Value} {l : List (Nat × AO)} {n' : Nat} (hv : nSortedI fk et args h n = some (v, l, n')) (hr : HR B w0 m h X n w) (ha : VRs m args args') :
    (callFunc fs ⟨args'⟩).run P w = .ok (.enter fs ⟨args'⟩) w ∧ Calls P fs ⟨args'⟩ w fun e w' => ∃ v', e = .returned v' ∧ Outs P B w0 X m h v l n' v' w' := by
  refine ⟨hS.enters _ _, ?_⟩
  unfold nSortedI at hv
  split at hv
  · rename_i hk
    simp only [Option.some.injEq, Prod.mk.injEq] at hv
    obtain ⟨rfl, rfl, rfl⟩ := hv
    obtain ⟨Bm, rfl, hlt, hc⟩ := keysOf_spec hr hk ha
    refine (hS.givesNil Bm w hlt hc).mono fun e w' ⟨he, hb⟩ => ⟨_, he, m, m.le_refl, .slN 0 0, hr.grown hb⟩
  · rename_i es cl hk
    split at hv
    · rename_i ks hks
      cases hbo : (bornOk es cl && Nat.ble es.length 1048576)
      · rw [hbo] at hv; cases hv
      rw [hbo, sel_true] at hv
      rw [Bool.and_eq_true, nble, decide_eq_true_eq] at hbo
      obtain ⟨Bm, rfl, hlt, b, es', hc, hm, he⟩ := keysOf_spec hr hk ha
      obtain ⟨D0, hown, hperm, hsize⟩ := ownsMap_int hS.key hks hbo.1 (by have := hbo.2; unfold maxLen; omega) hm he
      have hkl : ks.length = es.length := by have := congrArg List.length (keysI_spec hks).1; simpa using this.symm
      refine (hS.gives Bm b _ D0 w hlt hc hown (by rw [hsize]; unfold maxLen; omega) (by rw [hsize]; omega)).mono fun e w' ⟨v', ss, h1, h2, h3, h4, h5⟩ => ⟨v', h1, ?_⟩
      have hss := h2.trans hperm
      rw [sortI_eq hss] at h3
      have hlen : ss.length = (sortI ks).length := by rw [hss.length_eq, (sortI_perm ks).length_eq]
      split at hv
      · rename_i h0
        simp only [Option.some.injEq, Prod.mk.injEq] at hv
        obtain ⟨rfl, rfl, rfl⟩ := hv
        have : ss = [] := List.eq_nil_of_length_eq_zero (by rw [hlen, h0]; rfl)
        rw [h4.2 this]
        exact ⟨m, m.le_refl, .slN 0 0, hr.grown h5⟩
      · rename_i z zs h0
        simp only [Option.some.injEq, Prod.mk.injEq] at hv
        obtain ⟨rfl, rfl, rfl⟩ := hv
        rcases h3.2 with ⟨_, hz⟩ | ⟨g, cap, cur, rfl, hbase, hg, hcap, hcap2, hsz, htake⟩
        · rw [hlen, h0] at hz; cases hz
        · have hnd : ¬ m.dom n := hr.fresh.2.2.2
          rw [hlen, h0] at hcap htake ⊢
          have hle := Mp.le_ext (m := m) hnd g (cap * 1) 1
          refine ⟨m.ext n g (cap * 1) 1, hle, ?_, hr.adopt h5 hg hbase (cap * 1) 1 ?_⟩
          · have := VR.slo (m := m.ext n g (cap * 1) 1) n 0 0 (z :: zs).length cap (Mp.ext_dom _ _ _ _ _) (fun _ => ⟨rfl, by rw [Mp.ext_esz, Mp.ext_cap]; omega⟩) hcap
            rwa [Mp.ext_mu, Mp.ext_esz] at this
          · have := OR.opr (m := m.ext n g (cap * 1) 1) (b := n) ((z :: zs).map encZ) et cur (0, 0) (by
              rw [List.length_map]
              have e : (z :: zs).length * 1 = (z :: zs).length := Nat.mul_one _
              rw [e] at htake
              rw [htake]
              exact VRs.refl_of fun v hv => by
                obtain ⟨x, _, rfl⟩ := List.mem_map.1 hv
                exact .int _ _) (by rw [List.length_map, hsz]; omega) (by rw [Mp.ext_cap, hsz]) (by rw [Mp.ext_esz]; omega) (fun v hv => by
                obtain ⟨x, _, rfl⟩ := List.mem_map.1 hv
                rfl)
            rwa [Mp.ext_esz] at this
    · cases hv
  · cases hv

/-! ### slices.Sorted at keys that are strings: one key at most -/
structure SortedS (P : Program) (fs fk : FuncId) (kt et : TypeId) : Prop where
  key : P.underlying kt = some .string
  enters : ∀ args w, (callFunc fs args).run P w = .ok (.enter fs args) w
  gives : ∀ (Bm b nn : Nat) (D0 : DataW Unit) (w : World), Bm < w.heap.size → w.cell? ⟨Bm, 0, none⟩ = some (.map (some b)) → w.ownsMap P kt R0 b nn D0 → Maps.size D0 ≤ maxLen → Maps.size D0 * 16 ≤ 140737488355328 →
    Calls P fs #[.func (.func fk) #[] #[.pointer (some ⟨Bm, 0, none⟩)]] w fun e w' => ∃ (v : Value) (ss : List (List UInt8)), e = .returned v ∧ ss.Perm (strKeys D0) ∧
      w'.ownsRow w.heap.size et 1 v ss.length ((ss.mergeSort (fun x y => decide (x ≤ y))).map Proofs.encStr) ∧ (v = .slice none 0 0 ↔ ss = []) ∧ Below w.heap.size w w'

theorem ownsMap_nil {k : TypeId} {r cl : Nat} (hr : w.heap[r]? = some (.map #[] cl)) : ∃ D0 : DataW Unit, w.ownsMap P k R0 r 0 D0 ∧ strKeys D0 = [] ∧ Maps.size D0 = 0 :=
  ⟨.map [], ⟨#[], cl, hr, ⟨Nat.zero_le _, MapKept.stamped_empty cl, fun x hx => by simp at hx⟩, Nat.le_refl _, rfl⟩, rfl, rfl⟩
theorem ownsMap_one {k : TypeId} (hk : P.underlying k = some .string) {r cl : Nat} {s : ByteArray} (hs : s.size ≤ maxLen) {e : MapEntry} (he : e.key = .string s) (hb : e.born < cl) (hr : w.heap[r]? = some (.map #[e] cl)) :
    ∃ D0 : DataW Unit, w.ownsMap P k R0 r 1 D0 ∧ strKeys D0 = [s.data.toList] ∧ Maps.size D0 = 1 := by
  have hrd : rd P k R0 e = some (.string s.data.toList, .lit (.bool true)) := by
    simp only [rd, he, WideMaps.keyOf_string_mk hk hs, R0, Option.bind_some, Option.map_some]
  refine ⟨.map [(.string s.data.toList, .lit (.bool true))], ⟨#[e], cl, hr, ⟨by unfold maxLen; simp, ?_, fun x hx => ?_⟩, Nat.le_refl _, ?_⟩, rfl, rfl⟩
  · rw [MapKept.stamped_iff]; simp [hb]
  · simp at hx; subst hx; exact ⟨_, hrd⟩
  · simp [rg, hrd, DataW.insert]

def nSortedS (fk : FuncId) (et : TypeId) (args : List Value) (h : T AO) (n : Nat) : Out :=
  match keysOf h fk args with
  | some (some ([], _)) => some (.slice none 0 0, [], n)
  | some (some ([(.string s, _, b)], cl)) => sel (Nat.blt b cl && Nat.ble s.data.toList.length 1048576) (some (.slice (some ⟨n, 0, none⟩) 1 (sent + 1), [(n, .cells 6 [.string s] et 1)], n + 1)) none
  | _ => none
theorem nSortedS_ok {fs fk : FuncId} {kt et : TypeId} (hS : SortedS P fs fk kt et) {args args' : List Value} {v : Value} {l : List (Nat × AO)} {n' : Nat} (hv : nSortedS fk et args h n = some (v, l, n')) (hr : HR B w0 m h X n w) (ha : VRs m args args') :
    (callFunc fs ⟨args'⟩).run P w = .ok (.enter fs ⟨args'⟩) w ∧ Calls P fs ⟨args'⟩ w fun e w' => ∃ v', e = .returned v' ∧ Outs P B w0 X m h v l n' v' w' := by
  refine ⟨hS.enters _ _, ?_⟩
  unfold nSortedS at hv
  split at hv
  · rename_i cl hk
    simp only [Option.some.injEq, Prod.mk.injEq] at hv
    obtain ⟨rfl, rfl, rfl⟩ := hv
    obtain ⟨Bm, rfl, hlt, b, es', hc, hm, he⟩ := keysOf_spec hr hk ha
    have h0 : es' = #[] := by
      cases h : es'.toList with
      | nil => exact Array.ext' (by simpa using h)
      | cons a l => rw [h] at he; exact he.elim
    subst h0
    obtain ⟨D0, hown, hk0, hsize⟩ := ownsMap_nil (P := P) (k := kt) hm
    refine (hS.gives Bm b _ D0 w hlt hc hown (by omega) (by omega)).mono fun e w' ⟨v', ss, h1, h2, h3, h4, h5⟩ => ⟨v', h1, ?_⟩
    rw [hk0] at h2
    rw [h4.2 h2.eq_nil]
    exact ⟨m, m.le_refl, .slN 0 0, hr.grown h5⟩
  · rename_i s u b cl hk
    cases hb : (Nat.blt b cl && Nat.ble s.data.toList.length 1048576)
    · rw [hb] at hv; cases hv
    rw [hb, sel_true] at hv
    rw [Bool.and_eq_true, nblt, nble, decide_eq_true_eq, decide_eq_true_eq] at hb
    simp only [Option.some.injEq, Prod.mk.injEq] at hv
    obtain ⟨rfl, rfl, rfl⟩ := hv
    obtain ⟨Bm, rfl, hlt, bb, es', hc, hm, he⟩ := keysOf_spec hr hk ha
    obtain ⟨x, hx⟩ : ∃ x, es' = #[x] := by
      cases h : es'.toList with
      | nil => rw [h] at he; exact he.elim
      | cons a l =>
        rw [h] at he
        cases l with
        | nil => exact ⟨a, Array.ext' (by simpa using h)⟩
        | cons _ _ => exact he.2.elim
    subst hx
    obtain ⟨⟨hx1, _, _, hx2⟩, _⟩ := he
    have hss : s.size ≤ maxLen := by
      have e : s.size = s.data.toList.length := (Array.length_toList).symm
      rw [e]; have := hb.2; unfold maxLen; omega
    obtain ⟨D0, hown, hk0, hsize⟩ := ownsMap_one (P := P) (k := kt) hS.key hss hx1 (by rw [hx2]; exact hb.1) hm
    refine (hS.gives Bm bb _ D0 w hlt hc hown (by rw [hsize]; unfold maxLen; omega) (by rw [hsize]; omega)).mono fun e w' ⟨v', ss, h1, h2, h3, h4, h5⟩ => ⟨v', h1, ?_⟩
    rw [hk0] at h2
    have hs1 : ss = [s.data.toList] := List.perm_singleton.1 h2
    subst hs1
    have hms : ([s.data.toList] : List (List UInt8)).mergeSort (fun x y => decide (x ≤ y)) = [s.data.toList] := by simp
    rw [hms] at h3
    rcases h3.2 with ⟨_, hz⟩ | ⟨g, cap, cur, rfl, hbase, hg, hcap, hcap2, hsz, htake⟩
    · cases hz
    · have hnd : ¬ m.dom n := hr.fresh.2.2.2
      have hle := Mp.le_ext (m := m) hnd g (cap * 1) 1
      have henc : Proofs.encStr s.data.toList = .string s := by simp [Proofs.encStr]
      refine ⟨m.ext n g (cap * 1) 1, hle, ?_, hr.adopt h5 hg hbase (cap * 1) 1 ?_⟩
      · have := VR.slo (m := m.ext n g (cap * 1) 1) n 0 0 1 cap (Mp.ext_dom _ _ _ _ _) (fun _ => ⟨rfl, by rw [Mp.ext_esz, Mp.ext_cap]; omega⟩) hcap
        rwa [Mp.ext_mu, Mp.ext_esz] at this
      · have := OR.opr (m := m.ext n g (cap * 1) 1) (b := n) [.string s] et cur (0, 0) (by
            have e : cur.toList.take [Value.string s].length = [.string s] := by simpa [henc] using htake
            rw [e]; exact ⟨.string s, trivial⟩) (by simp at hcap ⊢; omega) (by rw [Mp.ext_cap, hsz]) (by rw [Mp.ext_esz]; omega) (fun v hv => by
            simp at hv; subst hv; rfl)
        rwa [Mp.ext_esz] at this
  · cases hv

end
end Go.Ex

/- A call of which the capacity that the tape gave decides (slices.Insert, slices.Replace): run once for each of the ways; all of them must end in the same content, which is then known by one number. -/
namespace Go.Ex
noncomputable section

variable {P : Program} {m : Mp} {B : Bd} {w0 w w' : World} {n : Nat} {h : T AO} {X : Nat → Option AO}

/-- Cells of which nothing is known. -/
def tops (k : Nat) : List Value := List.replicate k (.complex .f32 0 8)
theorem tops_atom {k : Nat} : ∀ v ∈ tops k, atom v = true := fun v hv => by
  obtain ⟨_, rfl⟩ := List.mem_replicate.1 hv
  rfl
theorem tops_VRs : ∀ {k : Nat} {l : List Value}, l.length = k → (∀ v ∈ l, atom v = true) → VRs m (tops k) l
  | 0, [], _, _ => trivial
  | k + 1, [], h, _ => by simp at h
  | 0, _ :: _, h, _ => by simp at h
  | k + 1, v :: l, h, ha => ⟨.top v (ha v (by simp)), tops_VRs (k := k) (by simpa using h) fun u hu => ha u (by simp [hu])⟩

def preEq : List Value → List Value → Bool
  | [], _ => true
  | a :: l, b :: r => sel (veq 9 a b) (preEq l r) false
  | _ :: _, [] => false
theorem preEq_spec : ∀ {l r : List Value}, preEq l r = true → l = r.take l.length
  | [], _, _ => by simp
  | a :: l, b :: r, h => by
    simp only [preEq] at h
    cases hv : veq 9 a b
    · rw [hv] at h; cases h
    · rw [hv, sel_true] at h
      rw [veq_eq 9 a b hv, List.length_cons, List.take_succ_cons, ← preEq_spec h]
  | _ :: _, [], h => by cases h

/-- What each of the ways must end in: a slice at the head of an open block that has the content. -/
def fkEnd (N L e z : Nat) (E : List Value) (v : Value) (h : T AO) (n : Nat) : Bool :=
  match v with
  | .slice (some ⟨r, o, none⟩) l q => sel (Nat.beq o 0 && Nat.beq l L && Nat.beq q (sent + z) && Nat.ble n N) (match h.get r with
    | some (.cells fl c e' z') => Nat.beq fl 1 && Nat.beq e' e && Nat.beq z' z && preEq E c
    | _ => false) false
  | _ => false
theorem fkEnd_spec {N L e z : Nat} {E : List Value} {v : Value} (hk : fkEnd N L e z E v h n = true) :
    ∃ r c, v = .slice (some ⟨r, 0, none⟩) L (sent + z) ∧ n ≤ N ∧ h.get r = some (.cells 1 c e z) ∧ E = c.take E.length := by
  unfold fkEnd at hk
  split at hk
  case h_2 => cases hk
  rename_i r o l q
  cases hc : (Nat.beq o 0 && Nat.beq l L && Nat.beq q (sent + z) && Nat.ble n N)
  · rw [hc] at hk; cases hk
  rw [hc, sel_true] at hk
  simp only [Bool.and_eq_true, nbeq, nble, decide_eq_true_eq] at hc
  obtain ⟨⟨⟨rfl, rfl⟩, rfl⟩, hn⟩ := hc
  split at hk
  case h_2 => cases hk
  rename_i fl c e' z' hr
  simp only [Bool.and_eq_true, nbeq, decide_eq_true_eq] at hk
  obtain ⟨⟨⟨rfl, rfl⟩, rfl⟩, hp⟩ := hk
  exact ⟨r, c, rfl, hn, hr, preEq_spec hp⟩

def fkArgs (args : List Value) : Option (Value × List Value × Nat × Nat × Value) :=
  match args with
  | s :: r => match r with
    | [.int .i64 (.ofNat i), vs] => some (s, r, i, i, vs)
    | [.int .i64 (.ofNat i), .int .i64 (.ofNat j), vs] => some (s, r, i, j, vs)
    | _ => none
  | _ => none
theorem fkArgs_spec {args r : List Value} {s vs : Value} {i j : Nat} (h : fkArgs args = some (s, r, i, j, vs)) : args = s :: r := by
  unfold fkArgs at h
  split at h
  · split at h
    · cases h; rfl
    · cases h; rfl
    · cases h
  · cases h

/-- One way. -/
def fkOne (P : Program) [Intr P] (G fuel : Nat) (f : FuncId) (args : List Value) (b : Nat) (ab : AO) (q : Nat) (aq : AO) (n : Nat) (k : Value → T AO → Nat → Bool) : Bool :=
  T.setK (some ab) .leaf b fun h1 => T.setK (some aq) h1 q fun hs => enterK P G (execF P G fuel) f args hs n k

def fkGo (P : Program) [Intr P] (G fuel : Nat) (f : FuncId) (args : List Value) (n b len : Nat) (c : List Value) (e z q : Nat) (aq : AO) (g : Nat) (E : List Value) : Out :=
  forceL E fun E => sel (fkOne P G fuel f args b (.cells 1 (c ++ tops (g * z)) e z) q aq n (fkEnd (n + 64) (len + g) e z E) &&
    (List.range g).all fun j => fkOne P G fuel f args b (.cells 3 (c ++ tops (j * z)) e z) q aq n (fkEnd (n + 64) (len + g) e z E))
    (some (.slice (some ⟨n + 64, 0, none⟩) (len + g) (sent + z), [(b, .dead), (q, .dead), (n + 64, .cells 1 E e z)], n + 65)) none

def forkRun (P : Program) [Intr P] (G fuel : Nat) (f : FuncId) (args : List Value) (h : T AO) (n : Nat) : Out :=
  match fkArgs args with
  | some (.slice (some ⟨b, o, none⟩) len cap, _, i, j, .slice (some ⟨q, oq, none⟩) lv _) => match h.get b, h.get q with
    | some (.cells fl c e z), some aq => match aq with
      | .cells _ d _ _ => sel (Nat.beq fl 1 && Nat.beq o 0 && Nat.beq cap (sent + z) && Nat.blt 0 z && Nat.beq c.length (len * z) && !Nat.beq b q && Nat.blt oq sent && Nat.blt (j - i) lv && Nat.ble j len)
        (fkGo P G fuel f args n b len c e z q aq (lv - (j - i)) (c.take (i * z) ++ (cellsAt d oq (lv * z) ++ c.drop (j * z)))) none
      | _ => none
    | _, _ => none
  | _ => none

theorem small_heap (hr : HR B w0 m h X n w) {b q : Nat} {c : List Value} {e z : Nat} {aq ab : AO} (hb : h.get b = some (.cells 1 c e z)) (hq : h.get q = some aq) (hne : b ≠ q) {co : Obj} (hco : w.heap[m.mu b]? = some co) (hor : OR m b ab co) :
    HR B w0 m (T.set (some aq) (T.set (some ab) .leaf b) q) (fun x => if x = b ∨ x = q then none else ov h X x) n w where
  lr := by
    have h1 := hr.lr.upd (w' := w) (ov_some (X := X) hb) rfl rfl ⟨hco, fun _ _ => rfl, rfl, rfl, rfl, rfl⟩ hor
    refine h1.congr fun x => ?_
    by_cases e1 : x = q
    · rw [e1, upd_ne _ _ (fun e => hne e.symm), ov_some hq]
      exact ov_some (by rw [T.get_set, if_pos rfl])
    · by_cases e2 : x = b
      · rw [e2, upd_same]
        exact ov_some (by rw [T.get_set, if_neg hne, T.get_set, if_pos rfl])
      · rw [upd_ne _ _ e2, ov_none (by rw [T.get_set, if_neg e1, T.get_set, if_neg e2]; rfl)]
        show (if x = b ∨ x = q then none else ov h X x) = _
        rw [if_neg (by simp [e1, e2])]
  apart := fun x o hx => by
    have hx' : (if x = b ∨ x = q then none else ov h X x) = some o := hx
    split at hx'
    · cases hx'
    · rename_i hxn
      rw [T.get_set, if_neg (fun e => hxn (.inr e)), T.get_set, if_neg (fun e => hxn (.inl e)), T.get_leaf]

theorem unify_heap (hr : HR B w0 m h X n w) {b q : Nat} {c : List Value} {e z : Nat} {aq : AO} (hb : h.get b = some (.cells 1 c e z)) (hq : h.get q = some aq) {m' : Mp} {h' : T AO} {n' N r L : Nat} {c' E : List Value} (hnN : n ≤ N) (hN : n' ≤ N)
    (hr' : HR B w0 m' h' (fun x => if x = b ∨ x = q then none else ov h X x) n' w') (hm : m.le m') (hg : h'.get r = some (.cells 1 c' e z)) (hE : E = c'.take E.length) {v' : Value} (hv : VR m' (.slice (some ⟨r, 0, none⟩) L (sent + z)) v') :
    Outs P B w0 X m h (.slice (some ⟨N, 0, none⟩) L (sent + z)) [(b, .dead), (q, .dead), (N, .cells 1 E e z)] (N + 1) v' w' := by
  have hbn : b < n := hr.lr.lt b _ (ov_some hb)
  have hqn : q < n := hr.lr.lt q _ (ov_some hq)
  have hlr := hr'.lr.more hN
  have hg' := ov_some (X := fun x => if x = b ∨ x = q then none else ov h X x) hg
  obtain ⟨hd, co, hco, hor⟩ := hr'.lr.ok r _ hg' rfl
  have hnd : ¬ m'.dom N := fun hd => absurd (hr'.lr.dom N hd) (by omega)
  have hle := Mp.le_ext hnd (m'.mu r) (m'.cap r) (m'.esz r)
  have hsub : ∀ x o, (if x = b ∨ x = q then none else ov h X x) = some o → ov h' (fun x => if x = b ∨ x = q then none else ov h X x) x = some o := fun x o hx => by
    rw [ov_none (hr'.apart x o hx)]; exact hx
  have h1 : LR B w0 m' (fun x => if x = b ∨ x = q then none else ov h X x) N w' := hlr.sub hsub
  have hzz : m'.esz r = z := by cases hor; rfl
  have hEl : E.length ≤ c'.length := by
    have := congrArg List.length hE
    simp at this; omega
  have hor' : OR (m'.ext N (m'.mu r) (m'.cap r) (m'.esz r)) N (.cells 1 E e z) co := by
    cases hor with
    | opn _ _ cs hcs hl hc he ha hat =>
      have := OR.opn (m := m'.ext N (m'.mu r) (m'.cap r) (m'.esz r)) (b := N) E e cs (by
        have h2 := (hcs.mono hle).take E.length
        rw [← hE, List.take_take, Nat.min_eq_left hEl] at h2
        exact h2) (by omega) (by rw [Mp.ext_cap]; exact hc) (by rw [Mp.ext_esz]; exact he) (fun v hv => by
          rw [hE] at hv; exact ha v (List.mem_of_mem_take hv)) hat
      rw [Mp.ext_esz] at this
      exact this
  have h2 := h1.adopt (r := N) (g := m'.mu r) hnd (by
    cases e1 : (if N = b ∨ N = q then none else ov h X N) with
    | none => rfl
    | some o => exact absurd (hr'.lr.lt N o (hsub N o e1)) (by omega)) (Nat.lt_succ_self N) hco (hr'.lr.own r _ hg' rfl rfl) (fun x o hx hl he => by
      have hxr := hr'.lr.inj x r o _ (hsub x o hx) hg' hl rfl he
      subst hxr
      have := hr'.apart _ _ hx
      rw [hg] at this; cases this) (m'.cap r) (m'.esz r) hor'
  have h3 := (h2.kill (r := b) (by omega)).kill (r := q) (by omega)
  refine ⟨m'.ext N (m'.mu r) (m'.cap r) (m'.esz r), Mp.le_trans hm hle, ?_, ?_, ?_⟩
  · obtain ⟨_, cap', rfl, _, hcase⟩ := inv_slice hv (by unfold sent; omega)
    rcases hcase with ⟨hlt, _⟩ | ⟨hq, hl, hK⟩
    · omega
    have := VR.slo (m := m'.ext N (m'.mu r) (m'.cap r) (m'.esz r)) N 0 0 L cap' (Mp.ext_dom _ _ _ _ _) (fun _ => ⟨rfl, by rw [Mp.ext_esz, Mp.ext_cap]; exact hK⟩) hl
    rw [Mp.ext_mu, Mp.ext_esz] at this
    have e2 : sent + z = sent + m'.esz r := by rw [hzz]
    rw [e2]
    exact this
  · refine h3.congr fun x => ?_
    show ov (T.set (some (.cells 1 E e z)) (T.set (some .dead) (T.set (some .dead) h b) q) N) X x = _
    by_cases e1 : x = N
    · rw [e1, upd_ne _ _ (show N ≠ q by omega), upd_ne _ _ (show N ≠ b by omega), upd_same]
      exact ov_some (by rw [T.get_set, if_pos rfl])
    · by_cases e2 : x = q
      · rw [e2, upd_same]
        exact ov_some (by rw [T.get_set, if_neg (by omega), T.get_set, if_pos rfl])
      · by_cases e3 : x = b
        · rw [e3, upd_ne _ _ (fun e => e2 (e3.trans e)), upd_same]
          exact ov_some (by rw [T.get_set, if_neg (by omega), T.get_set, if_neg (fun e => e2 (e3.trans e)), T.get_set, if_pos rfl])
        · rw [upd_ne _ _ e2, upd_ne _ _ e3, upd_ne _ _ e1, if_neg (by simp [e2, e3])]
          unfold ov
          rw [T.get_set, if_neg e1, T.get_set, if_neg e2, T.get_set, if_neg e3]
  · intro x o hx
    show (T.set _ (T.set _ (T.set _ h b) q) N).get x = none
    have hax := hr.apart x o hx
    rw [T.get_set, if_neg (fun e1 => by
      have := hr.lr.lt x o (by rw [ov_none hax]; exact hx); omega), T.get_set, if_neg (fun e1 => by subst e1; rw [hq] at hax; cases hax), T.get_set, if_neg (fun e1 => by subst e1; rw [hb] at hax; cases hax)]
    exact hax

theorem forkRun_sound [Intr P] (hm : P.follows .mixedOrders = true) {G fuel : Nat} {f : FuncId} {args : List Value} {v : Value} {l : List (Nat × AO)} {n' : Nat} (hv : forkRun P G fuel f args h n = some (v, l, n')) {args' : List Value} (hG : GR m G) (hr : HR B w0 m h X n w) (ha : VRs m args args') :
    (∃ v' w', (callFunc f ⟨args'⟩).run P w = .ok (.value v') w' ∧ Outs P B w0 X m h v l n' v' w') ∨
    ((callFunc f ⟨args'⟩).run P w = .ok (.enter f ⟨args'⟩) w ∧ Calls P f ⟨args'⟩ w fun e w' => ∃ v', e = .returned v' ∧ Outs P B w0 X m h v l n' v' w') := by
  unfold forkRun at hv
  split at hv
  case h_2 => cases hv
  rename_i b o len cap rest i j q oq lv cq hargs
  have hcons := fkArgs_spec hargs
  split at hv
  case h_2 => cases hv
  rename_i fl c e z aq hb hq
  split at hv
  case h_2 => cases hv
  rename_i fq d eq zq
  cases hc : (Nat.beq fl 1 && Nat.beq o 0 && Nat.beq cap (sent + z) && Nat.blt 0 z && Nat.beq c.length (len * z) && !Nat.beq b q && Nat.blt oq sent && Nat.blt (j - i) lv && Nat.ble j len)
  · rw [hc] at hv; cases hv
  rw [hc, sel_true] at hv
  simp only [Bool.and_eq_true, Bool.not_eq_true', nbeq, nblt, nble, decide_eq_true_eq, decide_eq_false_iff_not] at hc
  obtain ⟨⟨⟨⟨⟨⟨⟨⟨rfl, rfl⟩, rfl⟩, hz⟩, hcl⟩, hne⟩, _⟩, hg0⟩, _⟩ := hc
  unfold fkGo at hv
  rw [forceL_eq] at hv
  generalize c.take (i * z) ++ (cellsAt d oq (lv * z) ++ c.drop (j * z)) = E at hv
  generalize hgd : lv - (j - i) = g at hv
  generalize hcond : (fkOne P G fuel f args b (.cells 1 (c ++ tops (g * z)) e z) q (.cells fq d eq zq) n (fkEnd (n + 64) (len + g) e z E) &&
    (List.range g).all fun j => fkOne P G fuel f args b (.cells 3 (c ++ tops (j * z)) e z) q (.cells fq d eq zq) n (fkEnd (n + 64) (len + g) e z E)) = cond at hv
  cases cond
  · cases hv
  rw [sel_true] at hv
  simp only [Option.some.injEq, Prod.mk.injEq] at hv
  obtain ⟨rfl, rfl, rfl⟩ := hv
  rw [Bool.and_eq_true, List.all_eq_true] at hcond
  obtain ⟨hA, hB⟩ := hcond
  have hb' := ov_some (X := X) hb
  obtain ⟨hd, co, hco, hor⟩ := hr.lr.ok b _ hb' rfl
  -- one way, met
  have way : ∀ ab, OR m b ab co → fkOne P G fuel f args b ab q (.cells fq d eq zq) n (fkEnd (n + 64) (len + g) e z E) = true →
      (∃ v' w', (callFunc f ⟨args'⟩).run P w = .ok (.value v') w' ∧ Outs P B w0 X m h (.slice (some ⟨n + 64, 0, none⟩) (len + g) (sent + z)) [(b, .dead), (q, .dead), (n + 64, .cells 1 E e z)] (n + 65) v' w') ∨
      ((callFunc f ⟨args'⟩).run P w = .ok (.enter f ⟨args'⟩) w ∧ Calls P f ⟨args'⟩ w fun x w' => ∃ v', x = .returned v' ∧ Outs P B w0 X m h (.slice (some ⟨n + 64, 0, none⟩) (len + g) (sent + z)) [(b, .dead), (q, .dead), (n + 64, .cells 1 E e z)] (n + 65) v' w') := fun ab hab hk => by
    unfold fkOne at hk
    rw [T.setK_eq, T.setK_eq, execF_eq] at hk
    rcases enterK_sound (run_sound (G := G) hm fuel) hG (small_heap hr hb hq hne hco hab) hk ha
      (fun v' w' => Outs P B w0 X m h (.slice (some ⟨n + 64, 0, none⟩) (len + g) (sent + z)) [(b, .dead), (q, .dead), (n + 64, .cells 1 E e z)] (n + 65) v' w') (fun _ _ => False)
      (fun v v' m' h' n' w' hm hv hh hk => by
        obtain ⟨r, c', rfl, hn', hg', hE⟩ := fkEnd_spec hk
        exact unify_heap hr hb hq (by omega) hn' hh hm hg' hE hv)
      (fun v ch m' h' n' w' _ _ _ hk => by cases hk) with h1 | ⟨h1, h2⟩
    · exact .inl h1
    · refine .inr ⟨h1, h2.mono fun x w' hx => ?_⟩
      cases x with
      | returned v => exact ⟨v, rfl, hx⟩
      | panicked c => exact hx.elim
      | outgrown => exact hx.elim
  rw [hcons] at ha
  obtain ⟨s', rest', rfl⟩ : ∃ s' rest', args' = s' :: rest' := by
    cases args' with
    | nil => exact ha.elim
    | cons a r => exact ⟨a, r, rfl⟩
  obtain ⟨_, cap', rfl, _, hcase⟩ := inv_slice ha.1 (by unfold sent; omega)
  rcases hcase with ⟨hlt, _⟩ | ⟨hq2, hll, hK⟩
  · omega
  have hez : m.esz b = z := by omega
  rw [hez, Nat.zero_add] at hK
  by_cases hroom : len + g ≤ cap'
  · refine way _ ?_ hA
    cases hor with
    | opn _ _ cs hcs hl hcc he hac hat =>
      have hsz : (len + g) * m.esz b ≤ cs.size := by rw [hcc, ← hK]; exact Nat.mul_le_mul_right _ hroom
      have hlen : (c ++ tops (g * m.esz b)).length = (len + g) * m.esz b := by simp [tops, hcl, Nat.add_mul]
      refine .opn _ _ _ ?_ (by rw [hlen]; exact hsz) hcc he (fun v hv => (List.mem_append.1 hv).elim (hac v) (tops_atom v)) hat
      have e1 : cs.toList.take ((c ++ tops (g * m.esz b)).length) = cs.toList.take c.length ++ (cs.toList.drop c.length).take (g * m.esz b) := by
        rw [hlen, hcl, Nat.add_mul, List.take_add]
      rw [e1]
      exact hcs.append (tops_VRs (by simp; rw [Nat.add_mul] at hsz; omega) fun v hv => hat v (List.mem_of_mem_drop (List.mem_of_mem_take hv)))
  · have hj : cap' - len < g := by omega
    refine way _ ?_ (hB (cap' - len) (by simpa using hj))
    cases hor with
    | opn _ _ cs hcs hl hcc he hac hat =>
      have hsz : cs.size = c.length + (cap' - len) * m.esz b := by
        rw [hcc, ← hK, hcl, ← Nat.add_mul]
        congr 1; omega
      refine .full _ _ _ ?_ hcc he (fun v hv => (List.mem_append.1 hv).elim (hac v) (tops_atom v))
      have e1 : cs.toList = cs.toList.take c.length ++ cs.toList.drop c.length := (List.take_append_drop _ _).symm
      rw [e1]
      exact hcs.append (tops_VRs (by simp; omega) fun v hv => hat v (List.mem_of_mem_drop hv))

/-- The functions taken by contract, and those of which the capacity decides. -/
@[reducible] def forked (P : Program) (I : Intr P) (hm : P.follows .mixedOrders = true) (fuel : Nat) (isF : FuncId → Bool) : Intr P where
  run G f args h n := match I.run G f args h n with
    | some r => some r
    | none => sel (isF f) (@forkRun P I G fuel f args h n) none
  sound := fun {G f args h n v l n'} hv {B w0 m X w args'} hG hr ha => by
    split at hv
    · rename_i r hr1
      cases hv
      exact I.sound hr1 hG hr ha
    · cases hf : isF f
      · rw [hf] at hv; cases hv
      · rw [hf, sel_true] at hv
        exact @forkRun_sound P _ _ _ _ _ _ _ I hm _ _ _ _ _ _ _ hv _ hG hr ha

end
end Go.Ex

/- strings.Join over strings that are known: by the library's contract. -/
namespace Go.Ex
noncomputable section

variable {P : Program} {m : Mp} {B : Bd} {w0 w w' : World} {n : Nat} {h : T AO} {X : Nat → Option AO}

def strsOf : List Value → Option (List ByteArray)
  | [] => some []
  | v :: l => match v with
    | .string s => match strsOf l with
      | some r => some (s :: r)
      | none => none
    | _ => none
theorem strsOf_spec : ∀ {l : List Value} {r : List ByteArray}, strsOf l = some r → l = r.map Value.string
  | [], r, h => by cases h; rfl
  | v :: l, r, h => by
    simp only [strsOf] at h
    split at h
    · split at h
      · rename_i r' hr
        cases h
        rw [List.map_cons, ← strsOf_spec hr]
      · cases h
    · cases h

/-- What the library's contract says of this program's strings.Join. -/
structure JoinC (P : Program) (f : FuncId) : Prop where
  enters : ∀ args w, (callFunc f args).run P w = .ok (.enter f args) w
  gives : ∀ (bk o c : Nat) (xs : List ByteArray) (sep : ByteArray) (w : World), (∀ (j : Nat) x, xs[j]? = some x → w.cell? ⟨bk, o + j, none⟩ = some (.string x)) → bk < w.heap.size → xs.length ≤ 140737488355328 → xs.length ≤ c →
    (Lib.join (xs.map (·.data.toList)) sep.data.toList).length ≤ 140737488355328 →
    Calls P f #[.slice (some ⟨bk, o, none⟩) xs.length c, .string sep] w fun e w' => e = .returned (.string ⟨(Lib.join (xs.map (·.data.toList)) sep.data.toList).toArray⟩) ∧ Go.RowKit.Below w.heap.size w w'
  givesNil : ∀ (c : Nat) (sep : ByteArray) (w : World), Calls P f #[.slice none 0 c, .string sep] w fun e w' => e = .returned (.string ⟨#[]⟩) ∧ w' = w

def nJoin (args : List Value) (h : T AO) (n : Nat) : Out :=
  match args with
  | [.slice none len _, .string _] => sel (Nat.beq len 0) (some (.string ⟨⟨[]⟩⟩, [], n)) none
  | [.slice (some ⟨b, o, none⟩) len cap, .string sep] => match h.get b with
    | some (.cells _ c _ _) => sel (Nat.blt o sent && Nat.ble (o + len) c.length && Nat.ble len 1000 && Nat.ble len cap) (match strsOf (cellsAt c o len) with
      | some xs => forceB (Lib.join (xs.map (·.data.toList)) sep.data.toList) fun r => sel (Nat.ble r.length 100000) (some (.string ⟨⟨r⟩⟩, [], n)) none
      | none => none) none
    | _ => none
  | _ => none

theorem nJoin_ok {f : FuncId} (hJ : JoinC P f) {args args' : List Value} {v : Value} {l : List (Nat × AO)} {n' : Nat} (hv : nJoin args h n = some (v, l, n')) (hr : HR B w0 m h X n w) (ha : VRs m args args') :
    (callFunc f ⟨args'⟩).run P w = .ok (.enter f ⟨args'⟩) w ∧ Calls P f ⟨args'⟩ w fun e w' => ∃ v', e = .returned v' ∧ Outs P B w0 X m h v l n' v' w' := by
  refine ⟨hJ.enters _ _, ?_⟩
  unfold nJoin at hv
  split at hv
  · rename_i len cap sep
    cases hl : Nat.beq len 0
    · rw [hl] at hv; cases hv
    rw [hl, sel_true] at hv
    simp only [Option.some.injEq, Prod.mk.injEq] at hv
    obtain ⟨rfl, rfl, rfl⟩ := hv
    rw [nbeq, decide_eq_true_eq] at hl
    subst hl
    obtain ⟨x', y', rfl, hx, hy⟩ := vrs2 ha
    cases hx
    cases hy
    refine (hJ.givesNil _ _ w).mono fun e w' ⟨he, hw⟩ => ⟨_, he, m, m.le_refl, .string _, ?_⟩
    rw [hw]
    exact hr
  · rename_i b o len cap sep
    split at hv
    case h_2 => cases hv
    rename_i fl c e z hb
    cases hk : (Nat.blt o sent && Nat.ble (o + len) c.length && Nat.ble len 1000 && Nat.ble len cap)
    · rw [hk] at hv; cases hv
    rw [hk, sel_true] at hv
    simp only [Bool.and_eq_true, nblt, nble, decide_eq_true_eq] at hk
    obtain ⟨⟨⟨h1, h2⟩, h3⟩, h4⟩ := hk
    split at hv
    case h_2 => cases hv
    rename_i xs hxs
    rw [forceB_eq] at hv
    cases hq : Nat.ble (Lib.join (xs.map (·.data.toList)) sep.data.toList).length 100000
    · rw [hq] at hv; cases hv
    rw [hq, sel_true] at hv
    simp only [Option.some.injEq, Prod.mk.injEq] at hv
    obtain ⟨rfl, rfl, rfl⟩ := hv
    rw [nble, decide_eq_true_eq] at hq
    obtain ⟨x', y', rfl, hx, hy⟩ := vrs2 ha
    obtain ⟨_, cap', rfl, _, hcase⟩ := inv_slice hx h1
    cases hy
    have hsp := strsOf_spec hxs
    have hlen : xs.length = len := by
      have := congrArg List.length hsp
      simp only [cellsAt, List.length_take, List.length_drop, List.length_map] at this
      omega
    have hcap : xs.length ≤ cap' := by
      rcases hcase with ⟨_, e⟩ | ⟨_, e, _⟩ <;> omega
    have hb' := ov_some (X := X) hb
    have hg := hJ.gives (m.mu b) o cap' xs sep w (fun j x hj => by
      have hlt := (List.getElem?_eq_some_iff.1 hj).1
      have h5 : (cellsAt c o len)[j]? = some (.string x) := by rw [hsp]; simp [hj]
      have h6 : c[o + j]? = some (.string x) := by
        rw [← h5, cellsAt, List.getElem?_take, if_pos (by omega), List.getElem?_drop]
      obtain ⟨v', hv', hvr⟩ := hr.lr.cell hb' h6
      cases hvr
      exact hv') (hr.lr.block_lt hb' rfl) (by omega) hcap (by omega)
    rw [hlen] at hg
    refine hg.mono fun e w' ⟨he, hw⟩ => ⟨_, he, m, m.le_refl, .string _, hr.grown hw⟩
  · cases hv

end
end Go.Ex

/- cmp.Compare of two numbers of which one is unknown: some number. -/
namespace Go.Ex
noncomputable section

variable {P : Program} {m : Mp} {B : Bd} {w0 w w' : World} {n : Nat} {h : T AO} {X : Nat → Option AO}

def isI64 (v : Value) : Bool :=
  match v with
  | .int .i64 _ => true
  | _ => false
/-- An unknown number with a name. -/
def syN (b : Nat) : Value := .complex .f32 b 3
theorem syN_VR {G : Nat} {es : Nat → Nat} {b : Nat} {a : Int} (hw : (Lit.int .i64 a).wf = true) (he : es b = (a + 9223372036854775808).toNat) (ho : ∀ i, i ≤ b → i < G ∧ (i < b → es i < es b)) : VR (mGS G es) (syN b) (.int .i64 a) := by
  have h : -9223372036854775808 ≤ a ∧ a ≤ 9223372036854775807 := by
    simp [Lit.wf, IntKind.min, IntKind.max, IntKind.signed, IntKind.bits] at hw
    omega
  have e : Int.ofNat ((mGS G es).esz b) - 9223372036854775808 = a := by
    show Int.ofNat (es b) - 9223372036854775808 = a
    rw [he]
    have : Int.ofNat (a + 9223372036854775808).toNat = a + 9223372036854775808 := Int.toNat_of_nonneg (by omega)
    rw [this]; omega
  have := VR.symo (m := mGS G es) .i64 b 3 rfl (by rw [e]; simp [IntKind.min, IntKind.max, IntKind.signed, IntKind.bits]; omega) (.inl rfl) ho
  rw [e] at this
  exact this

/-! ### Three numbers of one byte, by their order -/
def syB (b : Nat) : Value := .complex .f32 b 0
theorem wf_i8 {a : Int} (hw : (Lit.int .i8 a).wf = true) : -128 ≤ a ∧ a ≤ 127 := by
  simp [Lit.wf, IntKind.min, IntKind.max, IntKind.signed, IntKind.bits] at hw
  omega
theorem syB_VR {G : Nat} {es : Nat → Nat} {b : Nat} {a : Int} (hw : (Lit.int .i8 a).wf = true) (he : es b = (a + 9223372036854775808).toNat) (ho : ∀ i, i ≤ b → i < G ∧ (i < b → es i < es b)) : VR (mGS G es) (syB b) (.int .i8 a) := by
  have h := wf_i8 hw
  have e : Int.ofNat ((mGS G es).esz b) - 9223372036854775808 = a := by
    show Int.ofNat (es b) - 9223372036854775808 = a
    rw [he]
    have : Int.ofNat (a + 9223372036854775808).toNat = a + 9223372036854775808 := Int.toNat_of_nonneg (by omega)
    rw [this]; omega
  have := VR.symo (m := mGS G es) .i8 b 0 rfl (by rw [e]; simp [IntKind.min, IntKind.max, IntKind.signed, IntKind.bits]; omega) (.inl rfl) ho
  rw [e] at this
  exact this
def es3 (x y z : Int) (i : Nat) : Nat := if i = 0 then (x + 9223372036854775808).toNat else if i = 1 then (y + 9223372036854775808).toNat else (z + 9223372036854775808).toNat
theorem es3_VR {G : Nat} (hG : 3 ≤ G) {x y z : Int} (hx : (Lit.int .i8 x).wf = true) (hy : (Lit.int .i8 y).wf = true) (hz : (Lit.int .i8 z).wf = true) (hxy : x < y) (hyz : y < z) :
    VR (mGS G (es3 x y z)) (syB 0) (.int .i8 x) ∧ VR (mGS G (es3 x y z)) (syB 1) (.int .i8 y) ∧ VR (mGS G (es3 x y z)) (syB 2) (.int .i8 z) := by
  have h1 := wf_i8 hx
  have h2 := wf_i8 hy
  have h3 := wf_i8 hz
  refine ⟨syB_VR hx rfl fun i hi => ⟨by omega, fun h => by omega⟩, syB_VR hy rfl fun i hi => ⟨by omega, fun h => ?_⟩, syB_VR hz rfl fun i hi => ⟨by omega, fun h => ?_⟩⟩
  · obtain rfl : i = 0 := by omega
    show (x + 9223372036854775808).toNat < (y + 9223372036854775808).toNat
    omega
  · have : i = 0 ∨ i = 1 := by omega
    rcases this with rfl | rfl
    · show (x + 9223372036854775808).toNat < (z + 9223372036854775808).toNat
      omega
    · show (y + 9223372036854775808).toNat < (z + 9223372036854775808).toNat
      omega
theorem es2_VR {G : Nat} (hG : 3 ≤ G) {x y : Int} (hx : (Lit.int .i8 x).wf = true) (hy : (Lit.int .i8 y).wf = true) (hxy : x < y) :
    VR (mGS G (es3 x y y)) (syB 0) (.int .i8 x) ∧ VR (mGS G (es3 x y y)) (syB 1) (.int .i8 y) := by
  have h1 := wf_i8 hx
  have h2 := wf_i8 hy
  refine ⟨syB_VR hx rfl fun i hi => ⟨by omega, fun h => by omega⟩, syB_VR hy rfl fun i hi => ⟨by omega, fun h => ?_⟩⟩
  obtain rfl : i = 0 := by omega
  show (x + 9223372036854775808).toNat < (y + 9223372036854775808).toNat
  omega
/-- So three numbers stand to each other. -/
def Ord3 (G : Nat) (a b c : Int) (i j k : Nat) : Prop := ∃ es, VR (mGS G es) (syB i) (.int .i8 a) ∧ VR (mGS G es) (syB j) (.int .i8 b) ∧ VR (mGS G es) (syB k) (.int .i8 c)
theorem ord3 {G : Nat} (hG : 3 ≤ G) {a b c : Int} (ha : (Lit.int .i8 a).wf = true) (hb : (Lit.int .i8 b).wf = true) (hc : (Lit.int .i8 c).wf = true) :
    Ord3 G a b c 0 0 0 ∨ Ord3 G a b c 0 0 1 ∨ Ord3 G a b c 0 1 0 ∨ Ord3 G a b c 1 0 0 ∨ Ord3 G a b c 0 1 1 ∨ Ord3 G a b c 1 0 1 ∨ Ord3 G a b c 1 1 0 ∨
      Ord3 G a b c 0 1 2 ∨ Ord3 G a b c 0 2 1 ∨ Ord3 G a b c 1 0 2 ∨ Ord3 G a b c 1 2 0 ∨ Ord3 G a b c 2 0 1 ∨ Ord3 G a b c 2 1 0 := by
  rcases Int.lt_trichotomy a b with h1 | rfl | h1 <;> rcases Int.lt_trichotomy a c with h2 | rfl | h2
  · rcases Int.lt_trichotomy b c with h3 | rfl | h3
    · obtain ⟨x, y, z⟩ := es3_VR hG ha hb hc h1 h3
      exact .inr (.inr (.inr (.inr (.inr (.inr (.inr (.inl ⟨_, x, y, z⟩)))))))
    · obtain ⟨x, y⟩ := es2_VR hG ha hb h1
      exact .inr (.inr (.inr (.inr (.inl ⟨_, x, y, y⟩))))
    · obtain ⟨x, y, z⟩ := es3_VR hG ha hc hb h2 h3
      exact .inr (.inr (.inr (.inr (.inr (.inr (.inr (.inr (.inl ⟨_, x, z, y⟩))))))))
  · obtain ⟨x, y⟩ := es2_VR hG ha hb h1
    exact .inr (.inr (.inl ⟨_, x, y, x⟩))
  · obtain ⟨x, y, z⟩ := es3_VR hG hc ha hb h2 h1
    exact .inr (.inr (.inr (.inr (.inr (.inr (.inr (.inr (.inr (.inr (.inl ⟨_, y, z, x⟩))))))))))
  · obtain ⟨x, y⟩ := es2_VR hG ha hc h2
    exact .inr (.inl ⟨_, x, x, y⟩)
  · have x := syB_VR (G := G) (es := fun _ => (a + 9223372036854775808).toNat) (b := 0) ha rfl fun i hi => ⟨by omega, fun h => by omega⟩
    exact .inl ⟨_, x, x, x⟩
  · obtain ⟨x, y⟩ := es2_VR hG hc ha h2
    exact .inr (.inr (.inr (.inr (.inr (.inr (.inl ⟨_, y, y, x⟩))))))
  · obtain ⟨x, y, z⟩ := es3_VR hG hb ha hc h1 h2
    exact .inr (.inr (.inr (.inr (.inr (.inr (.inr (.inr (.inr (.inl ⟨_, y, x, z⟩)))))))))
  · obtain ⟨x, y⟩ := es2_VR hG hb ha h1
    exact .inr (.inr (.inr (.inr (.inr (.inl ⟨_, y, x, y⟩)))))
  · rcases Int.lt_trichotomy b c with h3 | rfl | h3
    · obtain ⟨x, y, z⟩ := es3_VR hG hb hc ha h3 h2
      exact .inr (.inr (.inr (.inr (.inr (.inr (.inr (.inr (.inr (.inr (.inr (.inl ⟨_, z, x, y⟩)))))))))))
    · obtain ⟨x, y⟩ := es2_VR hG hb ha h1
      exact .inr (.inr (.inr (.inl ⟨_, y, x, x⟩)))
    · obtain ⟨x, y, z⟩ := es3_VR hG hc hb ha h3 h1
      exact .inr (.inr (.inr (.inr (.inr (.inr (.inr (.inr (.inr (.inr (.inr (.inr ⟨_, z, y, x⟩)))))))))))

structure CmpC (P : Program) (f : FuncId) : Prop where
  enters : ∀ args w, (callFunc f args).run P w = .ok (.enter f args) w
  gives : ∀ (x y : Int), (Lit.int .i64 x).wf = true → (Lit.int .i64 y).wf = true → ∀ w, Calls P f #[.int .i64 x, .int .i64 y] w fun e w' => (∃ z, e = .returned (.int .i64 z)) ∧ Go.RowKit.Below w.heap.size w w'

theorem cmpC_of [Intr P] (hm : P.follows .mixedOrders = true) {f : FuncId} {fuel : Nat} (hb : (bodyOf P f).isSome = true) (h1 : runM P 2 fuel f [syN 0, syN 1] [] isI64 = true) (h2 : runM P 2 fuel f [syN 0, syN 0] [] isI64 = true)
    (h3 : runM P 2 fuel f [syN 1, syN 0] [] isI64 = true) : CmpC P f where
  enters := by
    obtain ⟨⟨fn, c⟩, hbo⟩ := Option.isSome_iff_exists.1 hb
    exact (bodyOf_spec hbo).2.2
  gives := fun x y hx hy w => by
    have hx' : -9223372036854775808 ≤ x := by
      simp [Lit.wf, IntKind.min, IntKind.max, IntKind.signed, IntKind.bits] at hx
      omega
    have hy' : -9223372036854775808 ≤ y := by
      simp [Lit.wf, IntKind.min, IntKind.max, IntKind.signed, IntKind.bits] at hy
      omega
    have fin : ∀ {args args' : List Value} {es : Nat → Nat}, runM P 2 fuel f args [] isI64 = true → VRs (mGS 2 es) args args' → Calls P f ⟨args'⟩ w fun e w' => (∃ z, e = .returned (.int .i64 z)) ∧ Go.RowKit.Below w.heap.size w w' := fun {args args' es} hk ha =>
      (runM_run hm hb hk (fun _ => rfl) ha w (fun x hx => by cases hx)).mono fun e w' ⟨⟨v, v', m', e1, e2, e3⟩, e4⟩ => by
        refine ⟨?_, e4⟩
        unfold isI64 at e3
        split at e3
        · cases e2
          exact ⟨_, e1⟩
        · cases e3
    rcases Int.lt_trichotomy x y with hlt | rfl | hgt
    · refine fin (es := fun b => if b = 0 then (x + 9223372036854775808).toNat else (y + 9223372036854775808).toNat) h1 (.cons (syN_VR hx rfl fun i hi => ⟨by omega, fun h => by omega⟩) (.cons (syN_VR hy rfl fun i hi => ⟨by omega, fun h => ?_⟩) .nil))
      obtain rfl : i = 0 := by omega
      simp only [if_true]
      rw [if_neg (by omega)]
      omega
    · exact fin (es := fun _ => (x + 9223372036854775808).toNat) h2 (.cons (syN_VR hx rfl fun i hi => ⟨by omega, fun h => by omega⟩) (.cons (syN_VR hx rfl fun i hi => ⟨by omega, fun h => by omega⟩) .nil))
    · refine fin (es := fun b => if b = 0 then (y + 9223372036854775808).toNat else (x + 9223372036854775808).toNat) h3 (.cons (syN_VR hx rfl fun i hi => ⟨by omega, fun h => ?_⟩) (.cons (syN_VR hy rfl fun i hi => ⟨by omega, fun h => by omega⟩) .nil))
      obtain rfl : i = 0 := by omega
      simp only [if_true]
      rw [if_neg (by omega)]
      omega

def unkI (v : Value) : Bool :=
  match v with
  | .complex .f32 _ c => Nat.beq (c % 16) 3 && Nat.blt (c / 16) 5
  | _ => false
def conI (v : Value) : Bool :=
  match v with
  | .int .i64 (.ofNat k) => Nat.blt k 9223372036854775808
  | .int .i64 (.negSucc k) => Nat.blt k 9223372036854775808
  | _ => false
theorem unkI_spec {v v' : Value} (h : unkI v = true) (hv : VR m v v') : ∃ x, v' = .int .i64 x ∧ (Lit.int .i64 x).wf = true := by
  unfold unkI at h
  split at h
  · rw [Bool.and_eq_true, nbeq, decide_eq_true_eq] at h
    have h := h.1
    cases hv with
    | symo k b c hk hw _ _ =>
      have hk3 : kcode k = 3 := by omega
      have : k = .i64 := by cases k <;> first | rfl | cases hk3
      subst this
      refine ⟨_, rfl, ?_⟩
      simp [Lit.wf]
      exact hw
    | top => exact absurd h (by decide)
    | nam => exact absurd h (by decide)
    | atl => exact absurd h (by decide)
    | slg => exact absurd h (by decide)
    | slx => exact absurd h (by decide)
  · cases h
theorem conI_spec {v v' : Value} (h : conI v = true) (hv : VR m v v') : ∃ x, v' = .int .i64 x ∧ (Lit.int .i64 x).wf = true := by
  unfold conI at h
  split at h
  · rename_i k
    rw [nblt, decide_eq_true_eq] at h
    cases hv
    exact ⟨_, rfl, by simp [Lit.wf, IntKind.min, IntKind.max, IntKind.signed, IntKind.bits]; omega⟩
  · rename_i k
    rw [nblt, decide_eq_true_eq] at h
    cases hv
    exact ⟨_, rfl, by simp [Lit.wf, IntKind.min, IntKind.max, IntKind.signed, IntKind.bits]; omega⟩
  · cases h

def nCmp (args : List Value) (_h : T AO) (n : Nat) : Out :=
  match args with
  | [a, b] => sel ((unkI a && conI b) || (conI a && unkI b)) (some (.complex .f32 0 8, [], n)) none
  | _ => none
theorem nCmp_ok {f : FuncId} (hC : CmpC P f) {args args' : List Value} {v : Value} {l : List (Nat × AO)} {n' : Nat} (hv : nCmp args h n = some (v, l, n')) (hr : HR B w0 m h X n w) (ha : VRs m args args') :
    (callFunc f ⟨args'⟩).run P w = .ok (.enter f ⟨args'⟩) w ∧ Calls P f ⟨args'⟩ w fun e w' => ∃ v', e = .returned v' ∧ Outs P B w0 X m h v l n' v' w' := by
  refine ⟨hC.enters _ _, ?_⟩
  unfold nCmp at hv
  split at hv
  case h_2 => cases hv
  rename_i a b
  cases hc : ((unkI a && conI b) || (conI a && unkI b))
  · rw [hc] at hv; cases hv
  rw [hc, sel_true] at hv
  simp only [Option.some.injEq, Prod.mk.injEq] at hv
  obtain ⟨rfl, rfl, rfl⟩ := hv
  obtain ⟨x', y', rfl, hx, hy⟩ := vrs2 ha
  have key : (∃ x, x' = .int .i64 x ∧ (Lit.int .i64 x).wf = true) ∧ ∃ y, y' = .int .i64 y ∧ (Lit.int .i64 y).wf = true := by
    rw [Bool.or_eq_true, Bool.and_eq_true, Bool.and_eq_true] at hc
    rcases hc with ⟨h1, h2⟩ | ⟨h1, h2⟩
    · exact ⟨unkI_spec h1 hx, conI_spec h2 hy⟩
    · exact ⟨conI_spec h1 hx, unkI_spec h2 hy⟩
  obtain ⟨⟨x, rfl, hxw⟩, y, rfl, hyw⟩ := key
  exact (hC.gives x y hxw hyw w).mono fun e w' ⟨⟨z, he⟩, hb⟩ => ⟨_, he, m, m.le_refl, .top _ rfl, hr.grown hb⟩

@[reducible] def withCmp (P : Program) (I : Intr P) (f : FuncId) (hC : CmpC P f) : Intr P where
  run G g args h n := match I.run G g args h n with
    | some r => some r
    | none => sel (Nat.beq g f) (nCmp args h n) none
  sound := fun {G g args h n v l n'} hv {B w0 m X w args'} hG hr ha => by
    split at hv
    · rename_i r hr1
      cases hv
      exact I.sound hr1 hG hr ha
    · cases hf : Nat.beq g f
      · rw [hf] at hv; cases hv
      · rw [hf, sel_true] at hv
        rw [nbeq, decide_eq_true_eq] at hf
        subst hf
        exact .inr (nCmp_ok hC hv hr ha)

end
end Go.Ex

/- A law of a slice of int8 and a bool: of the elements only the last one's sign is told. -/
namespace Go.Ex
noncomputable section
open Go.RowKit (Below)

/-- The elements, as the run sees them: all but the last are unknown. -/
def spanC (len : Nat) (last : Value) : List Value := List.replicate (len - 1) (.complex .f64 0 0) ++ [last]
/-- The last one: 0, below 0, above 0. -/
def lastV (s : Nat) : Value :=
  match s with
  | 0 => .int .i8 (.ofNat 0)
  | 1 => .complex .f32 0 80
  | _ => .complex .f32 0 96

theorem span_VRs {m : Mp} {u : Value} : ∀ {zs : List Int} {z : Int}, VR m u (.int .i8 z) → VRs m (List.replicate zs.length (.complex .f64 0 0) ++ [u]) ((zs ++ [z]).map (Value.int .i8))
  | [], z, h => ⟨h, trivial⟩
  | a :: zs, z, h => by
    rw [List.length_cons, List.replicate_succ]
    exact ⟨.sym .i8 0 0 a rfl (.inl rfl), span_VRs h⟩

theorem lastV_VR {m : Mp} (hd : m.dom 0) {a : Int} (hw : (Lit.int .i8 a).wf = true) (he : m.esz 0 = (a + 9223372036854775808).toNat) : ∃ s, s < 3 ∧ VR m (lastV s) (.int .i8 a) := by
  have h := wf_i8 hw
  have e : Int.ofNat (m.esz 0) - 9223372036854775808 = a := by
    rw [he]
    have : Int.ofNat (a + 9223372036854775808).toNat = a + 9223372036854775808 := Int.toNat_of_nonneg (by omega)
    rw [this]; omega
  have ho : ∀ i, i ≤ 0 → m.dom i ∧ (i < 0 → m.esz i < m.esz 0) := fun i hi => by
    obtain rfl : i = 0 := by omega
    exact ⟨hd, fun h => by omega⟩
  have hm : IntKind.i8.min ≤ Int.ofNat (m.esz 0) - 9223372036854775808 ∧ Int.ofNat (m.esz 0) - 9223372036854775808 ≤ IntKind.i8.max := by
    rw [e]; simp [IntKind.min, IntKind.max, IntKind.signed, IntKind.bits]; omega
  rcases Int.lt_trichotomy a 0 with hlt | rfl | hgt
  · have := VR.symo (m := m) .i8 0 80 rfl hm (.inr (.inr (.inl ⟨by decide, by decide, by rw [e]; exact hlt⟩))) ho
    rw [e] at this
    exact ⟨1, by omega, this⟩
  · exact ⟨0, by omega, .int _ _⟩
  · have := VR.symo (m := m) .i8 0 96 rfl hm (.inr (.inr (.inr ⟨by decide, by decide, by rw [e]; exact hgt⟩))) ho
    rw [e] at this
    exact ⟨2, by omega, this⟩

theorem window_i8 {w : World} {b off len : Nat} {zs : List Int} (hpos : 0 < len) (hlen : len ≤ zs.length) (hcell : ∀ i, i < zs.length → w.cell? ⟨b, off + i, none⟩ = some (.int .i8 (zs.getD i 0))) :
    ∃ cs e fz, w.heap[b]? = some (.cells cs e fz) ∧ (cs.toList.drop off).take len = (zs.take len).map (Value.int .i8) := by
  have h0 := hcell 0 (by omega)
  cases hh : w.heap[b]? with
  | none => simp [World.cell?, hh] at h0
  | some o =>
    cases o with
    | cells cs e fz =>
      refine ⟨cs, e, fz, rfl, ?_⟩
      apply List.ext_getElem?
      intro i
      rw [List.getElem?_take]
      by_cases hi : i < len
      · have hc := hcell i (by omega)
        have hc : cs[off + i]? = some (.int .i8 (zs.getD i 0)) := by simpa [World.cell?, hh] using hc
        rw [if_pos hi, List.getElem?_drop, Array.getElem?_toList, hc]
        have hz : i < zs.length := by omega
        simp [List.getD, hi, hz]
      · rw [if_neg hi]
        simp
        omega
    | _ => simp [World.cell?, hh] at h0

theorem lawW_i8 {P : Program} [Intr P] (hm : P.follows .mixedOrders = true) {G fuel : Nat} {f : FuncId} {gl : List (Nat × List Value)} (hb : (bodyOf P f).isSome = true) {g : Bool} {len : Nat} (hpos : 0 < len)
    (hk : ∀ s, s < 3 → lawW P G fuel f [.slice (some ⟨G, 0, some 0⟩) len sent, .bool g] gl (spanC len (lastV s)) = true) (w : World) (hl : ∀ es bs off, GlAt G (mGW G es bs off) w gl) {b off cap : Nat} {zs : List Int} (hne : ∀ x ∈ gl, x.1 ≠ b)
    (hlen : len ≤ zs.length) (hcell : ∀ i, i < zs.length → w.cell? ⟨b, off + i, none⟩ = some (.int .i8 (zs.getD i 0))) (hwf : ∀ n ∈ zs, (Lit.int .i8 n).wf = true) :
    Calls P f #[.slice (some ⟨b, off, none⟩) len cap, .bool g] w fun e w' => e = .returned (.bool true) ∧ Below w.heap.size w w' := by
  obtain ⟨cs, e, fz, hw, hcs⟩ := window_i8 hpos hlen hcell
  have hsplit : zs.take len = zs.take (len - 1) ++ [zs.getD (len - 1) 0] := by
    have : len = (len - 1) + 1 := by omega
    rw [this, List.take_succ_eq_append_getElem (by omega)]
    simp [List.getD, show len - 1 < zs.length by omega]
  have hmem : zs.getD (len - 1) 0 ∈ zs := by
    have : zs.getD (len - 1) 0 = zs[len - 1]'(by omega) := by simp [List.getD, show len - 1 < zs.length by omega]
    rw [this]; exact List.getElem_mem _
  obtain ⟨s, hs, hv⟩ := lastV_VR (m := mGW G (fun _ => (zs.getD (len - 1) 0 + 9223372036854775808).toNat) b off) (Nat.zero_le _) (hwf _ hmem) rfl
  have hl1 : (zs.take (len - 1)).length = len - 1 := by rw [List.length_take]; omega
  have hvr := span_VRs (zs := zs.take (len - 1)) hv
  rw [hl1, ← hsplit] at hvr
  refine lawW_run (es := fun _ => (zs.getD (len - 1) 0 + 9223372036854775808).toNat) hm hb (hk s hs) (.cons (mGW_slice G _ b off len cap) (.cons (.bool g) .nil)) w (hl _ _ _) hne hw ?_ ?_
  · have hc : (spanC len (lastV s)).length = len := by simp [spanC]; omega
    rw [hc, hcs]
    exact hvr
  · intro v hv'
    simp only [spanC, List.mem_append, List.mem_singleton] at hv'
    rcases hv' with hv' | rfl
    · obtain ⟨_, rfl⟩ := List.mem_replicate.1 hv'
      rfl
    · match s with
      | 0 => rfl
      | 1 => rfl
      | _ + 2 => rfl

/-- The other forms of such a slice: nil; empty; too long. -/
theorem lawM_slice {P : Program} [Intr P] (hm : P.follows .mixedOrders = true) {G fuel : Nat} {f : FuncId} {gl : List (Nat × List Value)} (hb : (bodyOf P f).isSome = true) {g : Bool} {x x' : Value} (hk : lawM P G fuel f [x, .bool g] gl = true)
    (hx : VR (mG G) x x') (w : World) (hl : GlAt G (mG G) w gl) : Calls P f #[x', .bool g] w fun e w' => e = .returned (.bool true) ∧ Below w.heap.size w w' :=
  lawM_run (es := fun _ => 0) hm hb hk (.cons hx (.cons (.bool g) .nil)) w hl

end
end Go.Ex

/- A slice of int8 that came in: opened; read again where the world has grown alone. -/
namespace Go.Ex
open Go.RowKit (Below)
open Go.ChangeShapes Go.WideShapes Go.ChangeAt

variable {H : Type} {enc : TypeId × Value → H} {P : Program} {w : World}

theorem open_i8s {t e : TypeId} {v : Value} {d : DataW H} {p : List MemPlace} (ht : P.underlying t = some (.slice e)) (he : P.underlying e = some (.int .i8)) (hc : P.cellsOf e = 1) (hv : ∃ a len cap, v = .slice a len cap)
    (h : DataW.Trod enc P w 0 (fun _ => true) true t v d p) :
    (v = .slice none 0 0 ∧ d = .nil ∧ p = [] ∧ ∀ w' sp, DataW.Trod enc P w' 0 sp true t v d p) ∨
    ∃ (a : Addr) (len cap : Nat) (zs : List Int), v = .slice (some a) len cap ∧ len ≤ cap ∧ zs.length = cap ∧ d = .slice (lits .i8 (zs.take len)) (lits .i8 (zs.drop len)) ∧ p = MemPlace.row a zs.length ∧
      (∀ i, i < zs.length → w.cell? (a.add i) = some (.int .i8 (zs.getD i 0))) ∧ (∀ n ∈ zs, (Lit.int .i8 n).wf = true) ∧
      (∀ w', Below w.heap.size w w' → ∀ sp : Nat → Bool, (∀ b, b < w.heap.size → sp b = true) → DataW.Trod enc P w' 0 sp true t v d p) := by
  obtain ⟨a0, len, cap, rfl⟩ := hv
  obtain ⟨fuel, hf⟩ := h
  rcases open_ints ht he hc hf with ⟨hcs, hx⟩ | ⟨a, len', cap', zs, hcs, _, hl, hm, hz, hx, hcell, hwz⟩
  · simp [Value.cells] at hcs
    obtain ⟨rfl, rfl, rfl⟩ := hcs
    simp only [Prod.mk.injEq] at hx
    obtain ⟨rfl, rfl⟩ := hx
    refine .inl ⟨rfl, rfl, rfl, fun w' sp => ⟨2, ?_⟩⟩
    simp [Value.cells, DataW.trod, ht]
  · simp [Value.cells] at hcs
    obtain ⟨rfl, rfl, rfl⟩ := hcs
    simp only [Prod.mk.injEq] at hx
    obtain ⟨rfl, rfl⟩ := hx
    simp only [if_true] at hz
    refine .inr ⟨a, len, cap, zs, rfl, hl, hz, rfl, rfl, hcell, hwz, fun w' hb sp hsp => ?_⟩
    have hlt : 0 < zs.length → a.block < w.heap.size := fun hp => by
      have h0 := hcell 0 hp
      obtain ⟨b, off, rfl, hcell'⟩ := ints_at hcell hp
      have h1 := hcell' 0 hp
      unfold World.cell? at h1
      split at h1
      · rename_i hh
        exact (Array.getElem?_eq_some_iff.1 hh).1
      · cases h1
    have hz' : zs.length = (if sp a.block then cap else len) := by
      rcases Nat.eq_zero_or_pos zs.length with h0 | hp
      · have : cap = 0 := by omega
        have : len = 0 := by omega
        subst_vars
        simp_all
      · rw [hsp _ (hlt hp), if_pos rfl]; exact hz
    have hcell2 : ∀ i, i < zs.length → w'.cell? (a.add i) = some (.int .i8 (zs.getD i 0)) := fun i hi => by
      have hbl : (a.add i).block < w.heap.size := by rw [block_add]; exact hlt (by omega)
      rw [hb.cell (p := a.add i) hbl]
      exact hcell i hi
    exact ⟨_, shut_ints 2 ht he hc (Nat.zero_le _) hl hm hz' hcell2 hwz⟩

end Go.Ex

/- A function without arguments that says true (a law's known()), by a contract that one run gives. -/
namespace Go.Ex
noncomputable section
open Go.RowKit (Below)

variable {P : Program} {m : Mp} {B : Bd} {w0 w w' : World} {n : Nat} {h : T AO} {X : Nat → Option AO}

/-- errors.errorType's value. -/
def hndl (rt gs err : Nat) : Value := .iface rt (.agg ⟨[.pointer (some ⟨gs, err, none⟩)]⟩)
theorem hndl_VR {m : Mp} {G rt gs err : Nat} (hG : GR m G) (hg : gs < G) : VR m (hndl rt gs err) (hndl rt gs err) := by
  obtain ⟨h1, h2⟩ := hG gs hg
  have h3 := VR.ptr (m := m) gs err h1
  rw [h2] at h3
  exact .iface _ _ _ (.agg' (fun u hu => by simp at hu; subst hu; rfl) ⟨h3, trivial⟩)
theorem hndl_eq {m : Mp} {G rt gs err : Nat} (hG : GR m G) (hg : gs < G) {x : Value} (hv : VR m (hndl rt gs err) x) : x = hndl rt gs err := by
  obtain ⟨r, rfl, h1⟩ := hv.inv_iface
  obtain ⟨l, rfl, h2, _⟩ := h1.inv_agg
  obtain ⟨y, rfl, h3⟩ := vrs1 h2
  obtain ⟨rfl, _⟩ := h3.inv_ptr
  rw [(hG gs hg).2]
  rfl

structure KnownC (P : Program) (f g0 rt gs err : Nat) : Prop where
  enters : ∀ args w, (callFunc f args).run P w = .ok (.enter f args) w
  gives : ∀ (w : World) (e : TypeId) (fz : Nat × Nat), w.heap[g0]? = some (.cells #[hndl rt gs err] e fz) → Calls P f #[] w fun e w' => e = .returned (.bool true) ∧ Below w.heap.size w w'

theorem knownC_of [Intr P] (hm : P.follows .mixedOrders = true) {G fuel f g0 rt gs err : Nat} (hb : (bodyOf P f).isSome = true) (hg : gs < G) (hg0 : g0 < G) (hk : lawM P G fuel f [] [(g0, [hndl rt gs err])] = true) : KnownC P f g0 rt gs err where
  enters := by
    obtain ⟨⟨fn, c⟩, hbo⟩ := Option.isSome_iff_exists.1 hb
    exact (bodyOf_spec hbo).2.2
  gives := fun w e fz hw => lawM_run (es := fun _ => 0) hm hb hk .nil w fun x hx => by
    obtain rfl := List.mem_singleton.1 hx
    exact ⟨hg0, fun v hv => by obtain rfl := List.mem_singleton.1 hv; rfl, _, e, fz, hw, hndl_VR (mG_GR G _) hg, trivial⟩

def nKnown (g0 rt gs err G : Nat) (args : List Value) (h : T AO) (n : Nat) : Out :=
  match args with
  | [] => match h.get g0 with
    | some (.cells fl [u] _ _) => sel (Nat.beq fl 2 && veq 6 u (hndl rt gs err) && Nat.blt gs G && Nat.blt g0 G) (some (.bool true, [], n)) none
    | _ => none
  | _ => none
theorem nKnown_ok {f g0 rt gs err G : Nat} (hC : KnownC P f g0 rt gs err) (hG : GR m G) {args args' : List Value} {v : Value} {l : List (Nat × AO)} {n' : Nat} (hv : nKnown g0 rt gs err G args h n = some (v, l, n')) (hr : HR B w0 m h X n w) (ha : VRs m args args') :
    (callFunc f ⟨args'⟩).run P w = .ok (.enter f ⟨args'⟩) w ∧ Calls P f ⟨args'⟩ w fun e w' => ∃ v', e = .returned v' ∧ Outs P B w0 X m h v l n' v' w' := by
  refine ⟨hC.enters _ _, ?_⟩
  unfold nKnown at hv
  split at hv
  case h_2 => cases hv
  split at hv
  case h_2 => cases hv
  rename_i fl u e z hb
  cases hc : (Nat.beq fl 2 && veq 6 u (hndl rt gs err) && Nat.blt gs G && Nat.blt g0 G)
  · rw [hc] at hv; cases hv
  rw [hc, sel_true] at hv
  simp only [Option.some.injEq, Prod.mk.injEq] at hv
  obtain ⟨rfl, rfl, rfl⟩ := hv
  simp only [Bool.and_eq_true, nbeq, nblt, decide_eq_true_eq] at hc
  obtain ⟨⟨⟨rfl, h2⟩, h3⟩, h4⟩ := hc
  obtain rfl := veq_eq _ _ _ h2
  obtain rfl : args' = [] := by
    cases args' with
    | nil => rfl
    | cons a r => exact ha.elim
  obtain ⟨_, co, hco, hor⟩ := hr.lr.ok g0 _ (ov_some hb) rfl
  rw [(hG g0 h4).2] at hco
  cases hor with
  | ro _ _ _ cs e' fz hcs _ =>
    obtain ⟨x, hx, hvx⟩ := vrs1 hcs
    obtain rfl := hndl_eq hG h3 hvx
    have : cs = #[hndl rt gs err] := by apply Array.ext'; rw [hx]
    rw [this] at hco
    exact (hC.gives w e' fz hco).mono fun e w' ⟨he, hb⟩ => ⟨_, he, m, m.le_refl, .bool true, hr.grown hb⟩

@[reducible] def withKnown (P : Program) (I : Intr P) (f g0 rt gs err : Nat) (hC : KnownC P f g0 rt gs err) : Intr P where
  run G g args h n := match I.run G g args h n with
    | some r => some r
    | none => sel (Nat.beq g f) (nKnown g0 rt gs err G args h n) none
  sound := fun {G g args h n v l n'} hv {B w0 m X w args'} hG hr ha => by
    split at hv
    · rename_i r hr1
      cases hv
      exact I.sound hr1 hG hr ha
    · cases hf : Nat.beq g f
      · rw [hf] at hv; cases hv
      · rw [hf, sel_true] at hv
        rw [nbeq, decide_eq_true_eq] at hf
        subst hf
        exact .inr (nKnown_ok hC hG hv hr ha)

end
end Go.Ex

/- A function called with plain arguments that are known (an error's class, say), by a contract that one run gives. -/
namespace Go.Ex
noncomputable section
open Go.RowKit (Below)

variable {P : Program} {m : Mp} {B : Bd} {w0 w w' : World} {n : Nat} {h : T AO} {X : Nat → Option AO}

structure LitC (P : Program) (f g0 rt gs err : Nat) (as : List Value) (r : Value) : Prop where
  enters : ∀ args w, (callFunc f args).run P w = .ok (.enter f args) w
  plain : as.all (flat 8) = true
  res : flat 8 r = true
  gives : ∀ (w : World) (e : TypeId) (fz : Nat × Nat), w.heap[g0]? = some (.cells #[hndl rt gs err] e fz) → Calls P f ⟨as⟩ w fun e w' => e = .returned r ∧ Below w.heap.size w w'

theorem flats {m : Mp} : ∀ {l : List Value}, l.all (flat 8) = true → VRs m l l
  | [], _ => .nil
  | v :: l, h => by
    rw [List.all_cons, Bool.and_eq_true] at h
    exact .cons (flat_refl m 8 v h.1) (flats h.2)
theorem flats_eq {m : Mp} : ∀ {l r : List Value}, l.all (flat 8) = true → VRs m l r → r = l
  | [], [], _, _ => rfl
  | v :: l, a :: r, h, hv => by
    rw [List.all_cons, Bool.and_eq_true] at h
    rw [flat_eq m 8 v h.1 a hv.1, flats_eq h.2 hv.2]
  | [], _ :: _, _, hv => hv.elim
  | _ :: _, [], _, hv => hv.elim

theorem litC_of [Intr P] (hm : P.follows .mixedOrders = true) {G fuel f g0 rt gs err : Nat} {as : List Value} {r : Value} (hb : (bodyOf P f).isSome = true) (hg : gs < G) (hg0 : g0 < G) (hp : as.all (flat 8) = true) (hr : flat 8 r = true) (hu : unpan r = none)
    (hk : runM P G fuel f as [(g0, [hndl rt gs err])] (fun v => veq 8 v r) = true) : LitC P f g0 rt gs err as r where
  enters := by
    obtain ⟨⟨fn, c⟩, hbo⟩ := Option.isSome_iff_exists.1 hb
    exact (bodyOf_spec hbo).2.2
  plain := hp
  res := hr
  gives := fun w e fz hw => (runM_run (es := fun _ => 0) hm hb hk (fun v => by
    cases hv : veq 8 (pan v) r
    · rfl
    · have := veq_eq _ _ _ hv
      rw [← this, unpan_pan] at hu; cases hu) (flats hp) w (fun x hx => by
    obtain rfl := List.mem_singleton.1 hx
    exact ⟨hg0, fun v hv => by obtain rfl := List.mem_singleton.1 hv; rfl, _, e, fz, hw, hndl_VR (mG_GR G _) hg, trivial⟩)).mono fun e w' ⟨⟨v, v', m', h1, h2, h3⟩, h4⟩ => by
      obtain rfl := veq_eq _ _ _ h3
      rw [flat_eq m' 8 v hr v' h2] at h1
      exact ⟨h1, h4⟩

def veqs : List Value → List Value → Bool
  | [], [] => true
  | a :: l, b :: r => veq 8 a b && veqs l r
  | _, _ => false
theorem veqs_eq : ∀ {l r : List Value}, veqs l r = true → l = r
  | [], [], _ => rfl
  | a :: l, b :: r, h => by
    unfold veqs at h
    rw [Bool.and_eq_true] at h
    rw [veq_eq _ _ _ h.1, veqs_eq h.2]
  | [], _ :: _, h => by cases h
  | _ :: _, [], h => by cases h

def nLit (g0 rt gs err : Nat) (as : List Value) (r : Value) (G : Nat) (args : List Value) (h : T AO) (n : Nat) : Out :=
  sel (veqs args as) (match h.get g0 with
    | some (.cells fl [u] _ _) => sel (Nat.beq fl 2 && veq 6 u (hndl rt gs err) && Nat.blt gs G && Nat.blt g0 G) (some (r, [], n)) none
    | _ => none) none
theorem nLit_ok {f g0 rt gs err G : Nat} {as : List Value} {r : Value} (hC : LitC P f g0 rt gs err as r) (hG : GR m G) {args args' : List Value} {v : Value} {l : List (Nat × AO)} {n' : Nat} (hv : nLit g0 rt gs err as r G args h n = some (v, l, n')) (hr : HR B w0 m h X n w) (ha : VRs m args args') :
    (callFunc f ⟨args'⟩).run P w = .ok (.enter f ⟨args'⟩) w ∧ Calls P f ⟨args'⟩ w fun e w' => ∃ v', e = .returned v' ∧ Outs P B w0 X m h v l n' v' w' := by
  refine ⟨hC.enters _ _, ?_⟩
  unfold nLit at hv
  cases ha0 : veqs args as
  · rw [ha0] at hv; cases hv
  rw [ha0, sel_true] at hv
  obtain rfl := veqs_eq ha0
  obtain rfl := flats_eq hC.plain ha
  split at hv
  case h_2 => cases hv
  rename_i fl u e z hb
  cases hc : (Nat.beq fl 2 && veq 6 u (hndl rt gs err) && Nat.blt gs G && Nat.blt g0 G)
  · rw [hc] at hv; cases hv
  rw [hc, sel_true] at hv
  simp only [Option.some.injEq, Prod.mk.injEq] at hv
  obtain ⟨rfl, rfl, rfl⟩ := hv
  simp only [Bool.and_eq_true, nbeq, nblt, decide_eq_true_eq] at hc
  obtain ⟨⟨⟨rfl, h2⟩, h3⟩, h4⟩ := hc
  obtain rfl := veq_eq _ _ _ h2
  obtain ⟨_, co, hco, hor⟩ := hr.lr.ok g0 _ (ov_some hb) rfl
  rw [(hG g0 h4).2] at hco
  cases hor with
  | ro _ _ _ cs e' fz hcs _ =>
    obtain ⟨x, hx, hvx⟩ := vrs1 hcs
    obtain rfl := hndl_eq hG h3 hvx
    have : cs = #[hndl rt gs err] := by apply Array.ext'; rw [hx]
    rw [this] at hco
    exact (hC.gives w e' fz hco).mono fun e w' ⟨he, hb⟩ => ⟨_, he, m, m.le_refl, flat_refl m 8 _ hC.res, hr.grown hb⟩

@[reducible] def withLit (P : Program) (I : Intr P) (f g0 rt gs err : Nat) (as : List Value) (r : Value) (hC : LitC P f g0 rt gs err as r) : Intr P where
  run G g args h n := match I.run G g args h n with
    | some r => some r
    | none => sel (Nat.beq g f) (nLit g0 rt gs err as r G args h n) none
  sound := fun {G g args h n v l n'} hv {B w0 m X w args'} hG hr ha => by
    split at hv
    · rename_i r hr1
      cases hv
      exact I.sound hr1 hG hr ha
    · cases hf : Nat.beq g f
      · rw [hf] at hv; cases hv
      · rw [hf, sel_true] at hv
        rw [nbeq, decide_eq_true_eq] at hf
        subst hf
        exact .inr (nLit_ok hC hG hv hr ha)

end
end Go.Ex

/- A call by a run on a heap of some blocks: what it leaves in them; all other blocks are as they were. -/
namespace Go.Ex
noncomputable section
open Go.RowKit (Below)

variable {P : Program} {m : Mp} {B : Bd} {w0 w w' : World} {n : Nat} {h : T AO} {X : Nat → Option AO}

/-- A call by a run from a heap that is known. -/
theorem callH [Intr P] (hm : P.follows .mixedOrders = true) {G fuel : Nat} {f : FuncId} {args args' : List Value} {k : Value → T AO → Nat → Bool} (hb : (bodyOf P f).isSome = true) (hk : enterK P G (execF P G fuel) f args h n k = true)
    (hG : GR m G) (hr : HR B w0 m h X n w) (ha : VRs m args args') (hp : ∀ v h n, k (pan v) h n = false) :
    Calls P f ⟨args'⟩ w fun e w' => ∃ v v' m' h' n', e = .returned v' ∧ m.le m' ∧ VR m' v v' ∧ HR B w0 m' h' X n' w' ∧ k v h' n' = true := by
  rw [execF_eq] at hk
  rcases enterK_sound (run_sound (G := G) hm fuel) hG hr hk ha (fun v' w' => ∃ v m' h' n', m.le m' ∧ VR m' v v' ∧ HR B w0 m' h' X n' w' ∧ k v h' n' = true) (fun _ _ => False)
    (fun v v' m' h' n' w' hm hv hh hk => ⟨v, m', h', n', hm, hv, hh, hk⟩) (fun v ch m' h' n' w' _ _ _ hk => by rw [hp] at hk; cases hk) with ⟨v', w', h1, _⟩ | ⟨_, h2⟩
  · obtain ⟨⟨fn, c⟩, hbo⟩ := Option.isSome_iff_exists.1 hb
    rw [(bodyOf_spec hbo).2.2 _ w] at h1
    cases h1
  · refine h2.mono fun e w' he => ?_
    cases e with
    | returned v' => obtain ⟨v, m', h', n', h3, h4, h5, h6⟩ := he; exact ⟨v, v', m', h', n', rfl, h3, h4, h5, h6⟩
    | panicked c => exact he.elim
    | outgrown => exact he.elim

/-- The package's variables, and some blocks, by the numbers behind. -/
def mL (G : Nat) (bs : List Nat) (cap es : Nat → Nat) (vs : Nat → Value) : Mp where
  dom := fun b => b < G + bs.length
  mu := fun b => if b < G then b else bs.getD (b - G) 0
  cap := cap
  esz := es
  val := vs
theorem mL_GR (G : Nat) (bs : List Nat) (cap es : Nat → Nat) (vs : Nat → Value) : GR (mL G bs cap es vs) G := fun _ hg => ⟨Nat.lt_add_right _ hg, if_pos hg⟩
theorem mL_mu (G : Nat) (bs : List Nat) (cap es : Nat → Nat) (vs : Nat → Value) {i b : Nat} (h : bs[i]? = some b) : (mL G bs cap es vs).mu (G + i) = b := by
  show (if G + i < G then _ else bs.getD (G + i - G) 0) = b
  rw [if_neg (by omega), Nat.add_sub_cancel_left, List.getD_eq_getElem?_getD, h]
  rfl
theorem mL_dom (G : Nat) (bs : List Nat) (cap es : Nat → Nat) (vs : Nat → Value) {i b : Nat} (h : bs[i]? = some b) : (mL G bs cap es vs).dom (G + i) := by
  show G + i < G + bs.length
  have := (List.getElem?_eq_some_iff.1 h).1
  omega

/-- A heap of these blocks over the variables that are known. -/
def layH (gl : List (Nat × List Value)) : List AO → Nat → T AO
  | [], _ => glH gl
  | o :: l, b => T.set (some o) (layH gl l (b + 1)) b
theorem layH_get {gl : List (Nat × List Value)} : ∀ {os : List AO} {a b : Nat} {o : AO}, (layH gl os a).get b = some o → (a ≤ b ∧ os[b - a]? = some o) ∨ ((b < a ∨ a + os.length ≤ b) ∧ (glH gl).get b = some o)
  | [], a, b, o, h => .inr ⟨by simp only [List.length_nil]; omega, h⟩
  | x :: l, a, b, o, h => by
    unfold layH at h
    rw [T.get_set] at h
    by_cases e : b = a
    · subst e
      rw [if_pos rfl] at h
      exact .inl ⟨Nat.le_refl _, by rw [Nat.sub_self]; exact h⟩
    · rw [if_neg e] at h
      rcases layH_get h with ⟨h1, h2⟩ | ⟨h1, h2⟩
      · refine .inl ⟨by omega, ?_⟩
        rw [show b - a = (b - (a + 1)) + 1 by omega]
        exact h2
      · refine .inr ⟨?_, h2⟩
        simp only [List.length_cons]
        omega

/-- Each block holds what the abstract one tells. -/
def LaysO (m : Mp) (w : World) (B : Bd) : List AO → List Nat → Nat → Prop
  | [], [], _ => True
  | o :: l, b :: r, a => ((o.live = true ∧ (o.rw = true → ¬ B.S b)) ∧ ∃ co, w.heap[b]? = some co ∧ OR m a o co) ∧ LaysO m w B l r (a + 1)
  | _, _, _ => False
theorem LaysO.get {m : Mp} {w : World} {B : Bd} : ∀ {os : List AO} {bs : List Nat} {a i : Nat} {o : AO}, LaysO m w B os bs a → os[i]? = some o → ∃ b, bs[i]? = some b ∧ o.live = true ∧ (o.rw = true → ¬ B.S b) ∧ ∃ co, w.heap[b]? = some co ∧ OR m (a + i) o co
  | [], [], _, i, o, _, h => by simp at h
  | x :: l, b :: r, a, 0, o, hl, h => by
    simp at h
    subst h
    exact ⟨b, rfl, hl.1.1.1, hl.1.1.2, hl.1.2⟩
  | x :: l, b :: r, a, i + 1, o, hl, h => by
    obtain ⟨b', h1, h2, h3, co, h4, h5⟩ := LaysO.get hl.2 (i := i) (by simpa using h)
    exact ⟨b', by simpa using h1, h2, h3, co, h4, by rw [show a + (i + 1) = a + 1 + i by omega]; exact h5⟩
  | [], _ :: _, _, _, _, hl, _ => hl.elim
  | _ :: _, [], _, _, _, hl, _ => hl.elim
theorem LaysO.length {m : Mp} {w : World} {B : Bd} : ∀ {os : List AO} {bs : List Nat} {a : Nat}, LaysO m w B os bs a → os.length = bs.length
  | [], [], _, _ => rfl
  | _ :: _, _ :: _, _, h => by simp [LaysO.length h.2]
  | [], _ :: _, _, h => h.elim
  | _ :: _, [], _, h => h.elim

theorem lay_HR {B : Bd} {G : Nat} {bs : List Nat} {cap es : Nat → Nat} {vs : Nat → Value} {gl : List (Nat × List Value)} {os : List AO} {w : World} (hlim : B.lim ≤ w.heap.size) (hl : GlAt G (mL G bs cap es vs) w gl)
    (hos : LaysO (mL G bs cap es vs) w B os bs G) (hnd : bs.Nodup) (hne : ∀ x ∈ gl, x.1 ∉ bs) :
    HR B w (mL G bs cap es vs) (layH gl os G) (fun _ => none) (G + bs.length) w := by
  have hlen := hos.length
  have hov : ∀ b o, ov (layH gl os G) (fun _ => none) b = some o → (∃ i k, b = G + i ∧ os[i]? = some o ∧ bs[i]? = some k ∧ (mL G bs cap es vs).mu b = k) ∨ ∃ x ∈ gl, b = x.1 ∧ o = .cells 2 x.2 0 0 ∧ (mL G bs cap es vs).mu b = x.1 ∧ b < G := fun b o hb => by
    unfold ov at hb
    split at hb
    · rename_i o' ho
      cases hb
      rcases layH_get ho with ⟨h1, h2⟩ | ⟨_, h2⟩
      · obtain ⟨k, h3, _⟩ := hos.get h2
        refine .inl ⟨b - G, k, by omega, h2, h3, ?_⟩
        have := mL_mu G bs cap es vs h3
        rwa [show G + (b - G) = b by omega] at this
      · obtain ⟨x, hx, rfl, rfl⟩ := glH_get h2
        exact .inr ⟨x, hx, rfl, rfl, if_pos (hl x hx).1, (hl x hx).1⟩
    · cases hb
  refine ⟨{
    below := BelowS.refl _ _
    size := hlim
    ok := fun b o hb hlv => ?_
    lt := fun b o hb => ?_
    own := fun b o hb _ hrw => ?_
    inj := fun b b' o o' hb hb' _ _ he => ?_
    dom := fun b hb => hb
    free := fun b hb => ?_ }, fun b o hb => by cases hb⟩
  · rcases hov b o hb with ⟨i, k, rfl, h1, h2, h3⟩ | ⟨x, hx, rfl, rfl, h3, h4⟩
    · obtain ⟨k', h4, _, _, co, h5, h6⟩ := hos.get h1
      rw [h2] at h4; cases h4
      exact ⟨mL_dom G bs cap es vs h2, co, by rw [h3]; exact h5, h6⟩
    · obtain ⟨_, h1, cs, e, fz, h5, h6⟩ := hl x hx
      exact ⟨Nat.lt_add_right _ h4, _, by rw [h3]; exact h5, .ro _ _ _ _ _ _ h6 h1⟩
  · rcases hov b o hb with ⟨i, k, rfl, h1, h2, h3⟩ | ⟨x, hx, rfl, rfl, h3, h4⟩
    · have := (List.getElem?_eq_some_iff.1 h2).1
      omega
    · omega
  · rcases hov b o hb with ⟨i, k, rfl, h1, h2, h3⟩ | ⟨x, hx, rfl, rfl, h3, h4⟩
    · obtain ⟨k', h4, _, h5, _⟩ := hos.get h1
      rw [h2] at h4; cases h4
      rw [h3]
      exact h5 hrw
    · simp [AO.rw] at hrw
  · rcases hov b o hb with ⟨i, k, rfl, h1, h2, h3⟩ | ⟨x, hx, rfl, rfl, h3, h4⟩
    · rcases hov b' o' hb' with ⟨i', k', rfl, h1', h2', h3'⟩ | ⟨y, hy, rfl, rfl, h3', h4'⟩
      · rw [h3, h3'] at he
        subst he
        have hi := (List.getElem?_eq_some_iff.1 h2).1
        have : i = i' := (List.getElem?_inj hi hnd).1 (h2.trans h2'.symm)
        rw [this]
      · rw [h3, h3'] at he
        exact absurd (he ▸ List.mem_of_getElem? h2) (hne y hy)
    · rcases hov b' o' hb' with ⟨i', k', rfl, h1', h2', h3'⟩ | ⟨y, hy, rfl, rfl, h3', h4'⟩
      · rw [h3, h3'] at he
        exact absurd (he ▸ List.mem_of_getElem? h2') (hne x hx)
      · rw [h3, h3'] at he
        exact he
  · rcases hov b _ hb with ⟨i, k, rfl, h1, h2, h3⟩ | ⟨x, hx, rfl, h, h3, h4⟩
    · obtain ⟨_, _, h4, _⟩ := hos.get h1
      cases h4
    · cases h

end
end Go.Ex
