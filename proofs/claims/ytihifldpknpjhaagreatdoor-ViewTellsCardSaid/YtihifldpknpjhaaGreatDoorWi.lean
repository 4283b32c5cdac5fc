/- One observer told of one change: what the law's variables hold then, and how it ends. -/
import Derived.Test.YtihifldpknpjhaaGreatDoorWg
namespace Go.Proofs.YtihifldpknpjhaaGreatDoor.Wk
open Go.RowKit Go.Ex

structure Env where
  B0 : Nat
  gb : Nat
  hb : Nat
  hab : Nat
  hoff : Nat
  hl : Nat
  hcap : Nat
  hv : Value
  nb : Nat → Nat
  cb : Nat → Nat
  hows : Nat → Int
structure Env.Ok (E : Env) : Prop where
  hl8 : E.hl ≤ 8
  gB : E.B0 ≤ E.gb
  cB : ∀ j, j < E.hl → E.B0 ≤ E.cb j
  hA : E.hab < E.B0
  inj : ∀ i j, i < E.hl → j < E.hl → E.cb i = E.cb j → i = j
  nc : ∀ i j, i < E.hl → j < E.hl → E.nb i ≠ E.cb j
  pos : 0 < E.B0
  hv : 0 < E.hl → E.hv = .slice (some ⟨E.hab, E.hoff, none⟩) E.hl E.hcap

/-- What the law's variables hold: xs in its list, ks told of each observer. -/
structure St (E : Env) (w : World) (xs : List Value) (ks : Nat → Int) : Prop where
  size : E.B0 ≤ w.heap.size
  got : ∃ ga gc, w.heap[E.gb]? = some (.cells #[.slice ga xs.length gc] 32 (0, 0)) ∧ w.ownsRow E.B0 2 1 (.slice ga xs.length gc) xs.length xs
  n : ∀ j, j < E.hl → w.heap[E.nb j]? = some (.cells #[.int .i64 (j : Nat)] 3 (0, 0))
  c : ∀ j, j < E.hl → w.heap[E.cb j]? = some (.cells #[.int .i64 (ks j)] 3 (0, 0))
  h : w.heap[E.hb]? = some (.cells #[E.hv] 23 (0, 0))
  how : ∀ j, j < E.hl → w.cell? ⟨E.hab, E.hoff + j, none⟩ = some (.int .i64 (E.hows j))

def cl (E : Env) (j : Nat) : Value := .func (.func 8) #[] #[.pointer (some ⟨E.gb, 0, none⟩), .pointer (some ⟨E.nb j, 0, none⟩), .pointer (some ⟨E.cb j, 0, none⟩), .pointer (some ⟨E.hb, 0, none⟩)]
/-- Does an observer fail, or panic, at its next call? -/
def hits (h k : Int) : Bool := ((bits .and .i64 h 3 == 1) || (bits .and .i64 h 3 == 2)) && (k + 1 == bits .and .i64 (h / 4) 3)

/-- What stays: all that lay there when the law began; all blocks but the law's list, its row and the counts. -/
structure Fr (E : Env) (w w' : World) : Prop where
  os : w'.os = w.os
  tape : w'.tape = w.tape
  output : w'.output = w.output
  size : w.heap.size ≤ w'.heap.size
  old : ∀ b, b < E.B0 → w'.heap[b]? = w.heap[b]?
  blk : ∀ b cs t fz, w.heap[b]? = some (.cells cs t fz) → t ≠ 2 → b ≠ E.gb → (∀ j, j < E.hl → b ≠ E.cb j) → w'.heap[b]? = some (.cells cs t fz)
theorem Fr.refl (E : Env) (w : World) : Fr E w w := ⟨rfl, rfl, rfl, Nat.le_refl _, fun _ _ => rfl, fun _ _ _ _ h _ _ _ => h⟩
theorem Fr.trans {E : Env} {a b c : World} (h : Fr E a b) (k : Fr E b c) : Fr E a c :=
  ⟨k.os.trans h.os, k.tape.trans h.tape, k.output.trans h.output, Nat.le_trans h.size k.size, fun i hi => (k.old i hi).trans (h.old i hi), fun i cs t fz h1 h2 h3 h4 => k.blk i cs t fz (h.blk i cs t fz h1 h2 h3 h4) h2 h3 h4⟩
theorem Fr.ofBelow {E : Env} {w w' : World} (h : Below w.heap.size w w') (hB : E.B0 ≤ w.heap.size) : Fr E w w' :=
  ⟨h.os, h.tape, h.output, h.size, fun b hb => h.block b (Nat.lt_of_lt_of_le hb hB), fun b _ _ _ hb _ _ _ => (h.block b (lt_of_block hb)).trans hb⟩

theorem St.below {E : Env} {w w' : World} {xs : List Value} {ks : Nat → Int} (h : St E w xs ks) (hA : E.hab < E.B0) (hb : Below w.heap.size w w') : St E w' xs ks where
  size := Nat.le_trans h.size hb.size
  got := by
    obtain ⟨ga, gc, h1, h2⟩ := h.got
    exact ⟨ga, gc, (hb.block _ (lt_of_block h1)).trans h1, owns_below h2 hb⟩
  n := fun j hj => (hb.block _ (lt_of_block (h.n j hj))).trans (h.n j hj)
  c := fun j hj => (hb.block _ (lt_of_block (h.c j hj))).trans (h.c j hj)
  h := (hb.block _ (lt_of_block h.h)).trans h.h
  how := fun j hj => by rw [World.cell?_of_block (w := w) (hb.block E.hab (Nat.lt_of_lt_of_le hA h.size))]; exact h.how j hj

def upk (ks : Nat → Int) (j : Nat) : Nat → Int := fun i => if i = j then ks j + 1 else ks i

theorem tell_one (E : Env) (ok : E.Ok) (w : World) (xs : List Value) (ks : Nat → Int) (j : Nat) (hj : j < E.hl) (tb : ByteArray) (id : Int) (A2 A3 : Option Addr) (n2 q2 n3 q3 : Nat) (hst : St E w xs ks) (hx : xs.length ≤ 1000) (hk : 0 ≤ ks j ∧ ks j < 1000)
    (h2 : Rd w (.slice A2 n2 q2)) (h3 : Rd w (.slice A3 n3 q3)) :
    Calls Tryz.prog 28 #[cl E j, .agg #[.string tb, .int .i64 id, .slice A2 n2 q2, .slice A3 n3 q3]] w fun e w' => St E w' (xs ++ [.int .i64 (j : Nat), .int .i64 id]) (upk ks j) ∧ Fr E w w' ∧
      if hits (E.hows j) (ks j) = true then ∃ fb, e = .returned (.iface 83 (.pointer (some ⟨fb, 0, none⟩))) ∧ IsFault w' fb (100 + (j : Nat)) ∧ w.heap.size ≤ fb else e = .returned .nilIface := by
  obtain ⟨ga, gc, hg, hown⟩ := hst.got
  refine (observe _ _ _ _ tb id A2 A3 n2 q2 n3 q3 w E.B0 E.gb (E.cb j) (lt_of_block hg) (lt_of_block (hst.c j hj)) (fun e wa wb => Ends (E.hows j) (ks j) j wa e wb ∧ After E.B0 E.gb (E.cb j) xs.length xs j id (ks j) wa wb) ?_ h2 h3).mono ?_
  · intro w1 A2 n2 q2 A3 n3 q3 hb
    have s1 := hst.below ok.hA hb
    obtain ⟨ga1, gc1, hg1, hown1⟩ := s1.got
    refine (clos E.B0 E.gb (E.nb j) (E.cb j) E.hb E.hab E.hoff E.hl E.hcap ga1 xs.length gc1 xs (ks j) (E.hows j) j tb id _ _ w1 hg1 hown1 (s1.n j hj) (s1.c j hj) (by have := s1.h; rwa [ok.hv (by omega)] at this) (s1.how j hj) hj (ok.nc j j hj hj) ok.gB (ok.cB j hj) ok.hA s1.size hx hk ok.hl8).mono ?_
    rintro e w' ⟨hE, hA⟩
    refine ⟨⟨hA.1, hE, hA⟩, ?_⟩
    unfold Ends at hE
    split at hE
    · obtain ⟨mb, rfl, _⟩ := hE
      exact .inr (.inl ⟨_, _, rfl⟩)
    · split at hE
      · subst hE
        exact .inr (.inr ⟨_, _, rfl, by decide⟩)
      · exact .inl hE
  · rintro e w' ⟨wa, e2, w2, n0, hn0, hba, hT, ⟨hE, hA⟩, hr1, hr2, hAf, hTo⟩
    have sa := hst.below ok.hA hba
    have hsz := hba.size
    -- blocks that lay there
    have back : ∀ b, b < w.heap.size → w'.heap[b]? = w2.heap[b]? := fun b hb => hAf.block b (Nat.lt_of_lt_of_le (Nat.lt_of_lt_of_le hb hsz) hT.size) (by omega) (by omega)
    have hfr : Fr E w w' := by
      refine ⟨hAf.os.trans (hT.os.trans hba.os), hAf.tape.trans (hT.tape.trans hba.tape), hAf.output.trans (hT.output.trans hba.output), Nat.le_trans hsz (Nat.le_trans hT.size hAf.size), fun b hb => ?_, fun b cs t fz hb ht hb1 hb2 => ?_⟩
      · have hbw := Nat.lt_of_lt_of_le hb hst.size
        rw [back b hbw, hT.block b (Nat.lt_of_lt_of_le hbw hsz) (by have := ok.gB; omega) (by have := ok.cB j hj; omega) (.inl hb)]
        exact hba.block b hbw
      · rw [back b (lt_of_block hb)]
        exact hT.heap ((hba.block b (lt_of_block hb)).trans hb) ht hb1 (hb2 j hj)
    obtain ⟨_, ⟨g, c, a1, a2⟩, a3⟩ := hA
    refine ⟨⟨Nat.le_trans hst.size hfr.size, ?_, ?_, ?_, ?_, ?_⟩, hfr, ?_⟩
    · refine ⟨some ⟨g, 0, none⟩, c, ?_, ?_⟩
      · rw [back _ (lt_of_block hg)]
        simpa using a1
      · obtain ⟨b1, b2⟩ := a2
        simp only [List.length_append, List.length_cons, List.length_nil, Nat.zero_add]
        refine ⟨b1, ?_⟩
        rcases b2 with ⟨b2, _⟩ | ⟨g', cap, cur, b2, b3, b4, b5⟩
        · cases b2
        · refine .inr ⟨g', cap, cur, b2, b3, ?_, b5⟩
          rw [hAf.block g' (lt_of_block b4) (blk_ne b4 hr1 (by decide)) (blk_ne b4 hr2 (by decide))]
          exact b4
    · intro i hi
      exact hfr.blk _ _ _ _ (hst.n i hi) (by decide) (fun e => blk_ne (hst.n i hi) hg (by decide) e) (fun j' hj' => ok.nc i j' hi hj')
    · intro i hi
      unfold upk
      by_cases hij : i = j
      · subst hij
        rw [if_pos rfl, back _ (lt_of_block (hst.c i hi))]
        exact a3
      · rw [if_neg hij, back _ (lt_of_block (hst.c i hi))]
        exact hT.heap (sa.c i hi) (by decide) (blk_ne (sa.c i hi) sa.got.choose_spec.choose_spec.1 (by decide)) (fun e => hij (ok.inj i j hi hj e))
    · exact hfr.blk _ _ _ _ hst.h (by decide) (blk_ne hst.h hg (by decide)) (fun j' hj' => blk_ne hst.h (hst.c j' hj') (by decide))
    · intro i hi
      rw [World.cell?_of_block (w := w) (hfr.old _ ok.hA)]
      exact hst.how i hi
    · have hmb : ∀ mb : Nat, w2.heap[mb]? = some (.cells #[.int .i64 (100 + (j : Nat))] 40 (0, 0)) → w'.heap[mb]? = some (.cells #[.int .i64 (100 + (j : Nat))] 40 (0, 0)) := fun mb hm => by
        rw [hAf.block mb (lt_of_block hm) (blk_ne hm hr1 (by decide)) (blk_ne hm hr2 (by decide))]
        exact hm
      unfold Ends at hE
      unfold hits
      split at hE
      · rename_i hc
        obtain ⟨mb, rfl, hm, hmw⟩ := hE
        rw [if_pos (by simp [hc.1, hc.2])]
        rcases hTo with ⟨he, _⟩ | ⟨t, x, fb, he, rfl, hfb, hF⟩ | ⟨t, x, fb, he, _⟩
        · cases he
        · cases he
          refine ⟨fb, rfl, .inl ⟨mb, hF, hmb mb hm, ?_⟩, ?_⟩
          · have := hst.size; have := ok.pos; omega
          · have := hT.size; omega
        · cases he
      · rename_i hc
        split at hE
        · rename_i hc2
          subst hE
          rw [if_pos (by simp [hc2.1, hc2.2])]
          rcases hTo with ⟨he, _⟩ | ⟨t, x, fb, he, _⟩ | ⟨t, x, fb, he, _, rfl, hfb, hF⟩
          · cases he
          · cases he
          · cases he
            refine ⟨fb, rfl, .inr hF, ?_⟩
            have := hT.size
            omega
        · rename_i hc2
          subst hE
          rw [if_neg (by
            intro h
            rw [Bool.and_eq_true, Bool.or_eq_true] at h
            rcases h with ⟨h | h, h'⟩
            · exact hc ⟨h, h'⟩
            · exact hc2 ⟨h, h'⟩)]
          rcases hTo with ⟨_, rfl⟩ | ⟨t, x, fb, he, _⟩ | ⟨t, x, fb, he, _⟩
          · rfl
          · cases he
          · cases he
end Go.Proofs.YtihifldpknpjhaaGreatDoor.Wk
