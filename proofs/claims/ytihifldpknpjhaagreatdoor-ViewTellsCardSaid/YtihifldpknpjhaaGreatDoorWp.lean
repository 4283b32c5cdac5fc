/- What came in; Tell, as the law calls it. -/
import Derived.Test.YtihifldpknpjhaaGreatDoorWn
namespace Go.Proofs.YtihifldpknpjhaaGreatDoor.Wk
open Go.RowKit Go.Ex

/-- Values that came in. -/
def Vals (W : World) (A : Option Addr) (n : Nat) : Prop := n ≤ maxLen ∧ (0 < n → A.isSome = true) ∧ ∀ a, A = some a → ∃ news : List Value, news.length = n * 4 ∧ (∀ j u, news[j]? = some u → W.cell? (a.add j) = some u) ∧ (∀ u ∈ news, u.oneCell' = true) ∧ ∀ i, i < n → ∃ s, news[i * 4 + 2]? = some (.string s)
theorem Vals.rd {W : World} {A : Option Addr} {n c : Nat} (h : Vals W A n) (hn : n ≤ 6) : Rd W (.slice A n c) :=
  ⟨A, n, c, rfl, by omega, fun a ha => by
    obtain ⟨news, h2, h3, h4, _⟩ := h.2.2 a ha
    exact ⟨news, h2, h3, h4⟩⟩
theorem Vals.few {W w : World} {A : Option Addr} {n : Nat} (h : Vals W A n) (hw : ∀ b, b < W.heap.size → w.heap[b]? = W.heap[b]?) : 0 < n → ∃ a, A = some a ∧ a.spot = none ∧ ∀ i, i < n → ∃ s, w.cell? ⟨a.block, a.off + i * 4 + 2, none⟩ = some (.string s) := fun hp => by
  obtain ⟨a, rfl⟩ := Option.isSome_iff_exists.1 (h.2.1 hp)
  obtain ⟨news, h2, h3, h4, h5⟩ := h.2.2 a rfl
  have hs : a.spot = none := by
    have := h3 0 _ (List.getElem?_eq_getElem (by omega))
    exact World.cell?_spot (a := a) this
  obtain ⟨b, o, s⟩ := a
  obtain rfl : s = none := hs
  refine ⟨_, rfl, rfl, fun i hi => ?_⟩
  obtain ⟨s, hs⟩ := h5 i hi
  have := h3 _ _ hs
  rw [Addr.add_lit] at this
  refine ⟨s, ?_⟩
  rw [Nat.add_assoc]
  exact (World.cell?_of_block (w := W) (a := ⟨b, o + (i * 4 + 2), none⟩) (hw b (World.block_lt_of_cell? W ⟨b, o + (i * 4 + 2), none⟩ this))).trans this
structure Came0 (W : World) (la : Option Addr) (cs : List Cg) (ha : Option Addr) (hows : List Int) (ra : Option Addr) (rs : List Nat) : Prop where
  err : ErrT W
  pos : 0 < W.heap.size
  lenC : cs.length ≤ maxLen
  lenH : hows.length ≤ maxLen
  lenR : rs.length ≤ maxLen
  atC : 0 < cs.length → ∃ a, la = some a ∧ a.spot = none ∧ ∀ (i : Nat) (c : Cg), cs[i]? = some c →
    W.cell? ⟨a.block, a.off + i * 4, none⟩ = some (.string c.tb) ∧ W.cell? ⟨a.block, a.off + i * 4 + 1, none⟩ = some (.int .i64 c.id) ∧ W.cell? ⟨a.block, a.off + i * 4 + 2, none⟩ = some (.slice c.A2 c.n2 c.q2) ∧
      W.cell? ⟨a.block, a.off + i * 4 + 3, none⟩ = some (.slice c.A3 c.n3 c.q3) ∧ Vals W c.A2 c.n2 ∧ Vals W c.A3 c.n3 ∧ c.tb.size ≤ maxLen
  atH : 0 < hows.length → ∃ a, ha = some a ∧ a.spot = none ∧ ∀ (i : Nat) (h : Int), hows[i]? = some h → W.cell? ⟨a.block, a.off + i, none⟩ = some (.int .i64 h)
  atR : 0 < rs.length → ∃ a, ra = some a ∧ a.spot = none ∧ ∀ (i : Nat) (r : Nat), rs[i]? = some r → W.cell? ⟨a.block, a.off + i, none⟩ = some (.int .u8 r) ∧ r < 256
/-- So many changes have been looked at. -/
def Seen (_W : World) (cs : List Cg) (i : Nat) : Prop := ∀ (j : Nat) (c : Cg), j < i → cs[j]? = some c → c.n2 ≤ 6 ∧ c.n3 ≤ 6

theorem info4 : (Tryz.prog.info? 4).map (fun i => (i.zero, i.size, i.bytes)) = some (some (.bool false), 1, 1) := by kernel_rfl
def habOf (ha : Option Addr) (n : Nat) : Nat := if n = 0 then 0 else (ha.map (·.block)).getD 0
def hoffOf (ha : Option Addr) : Nat := (ha.map (·.off)).getD 0
theorem there_cell {w : World} {tb n j : Nat} {th : Nat → Bool} (h : w.heap[tb]? = some (.cells (bools th n) 4 (0, 0))) (hj : j < n) : w.cell? ⟨tb, j, none⟩ = some (.bool (th j)) ∧ w.frozen? ⟨tb, j, none⟩ = false :=
  ⟨by unfold World.cell?; simp only [h]; exact bools_at th n j hj, by simp [World.frozen?, h]⟩
theorem L2.start {W w1 w2 : World} {ha : Option Addr} {n hc : Nat} {hows : Nat → Int} (h1 : Below W.heap.size W w1) (hx : w1.heap[W.heap.size]? = some (.cells #[.slice ha n hc] 23 (0, 0))) (hlt : W.heap.size < w1.heap.size)
    (hown : w2.ownsRow W.heap.size 4 1 (.slice (some ⟨w1.heap.size + 1 + 1, 0, none⟩) n n) n (madeCells (Value.bool false).cells n).toList)
    (hgrow : ((w1.alloc (.cells #[.slice none 0 0, .int .i64 0] 74)).alloc (.cells #[.slice none 0 0] 32)).grownBy w2 none) :
    L2 (Env.mk W.heap.size (w1.heap.size + 1) W.heap.size (habOf ha n) (hoffOf ha) n hc (.slice ha n hc) (fun _ => 0) (fun _ => 0) hows) (fun _ => 0) (fun _ => 0) W w2 w1.heap.size (w1.heap.size + 1 + 1) 0 := by
  have hw0 := heap_alloc_new w1 (.cells #[.slice none 0 0, .int .i64 0] 74)
  have hw1 := heap_alloc_new (w1.alloc (.cells #[.slice none 0 0, .int .i64 0] 74)) (.cells #[.slice none 0 0] 32)
  rw [World.size_alloc] at hw1
  have key : ∀ {b : Nat} {o : Obj}, ((w1.alloc (.cells #[.slice none 0 0, .int .i64 0] 74)).alloc (.cells #[.slice none 0 0] 32)).heap[b]? = some o → w2.heap[b]? = some o := fun hb => by
    rw [hgrow.block _ (lt_of_block hb) (fun e => by cases e)]; exact hb
  have hW := key (alloc_heap hw0)
  refine ⟨⟨hgrow.os.trans h1.os, hgrow.tape.trans h1.tape, hgrow.output.trans h1.output, ?_, fun b hb => ?_⟩, key hw1, key (alloc_heap (alloc_heap hx)), ⟨_, hW, .inl ⟨rfl, rfl⟩⟩, fun _ => hW, fun j hj => absurd hj (by omega), fun j hj => absurd hj (by omega), fun j hj => absurd hj (by omega), fun a b ha => absurd ha (by omega), fun a b ha => absurd ha (by omega), ?_, by omega, by omega⟩
  · have := hgrow.size
    simp at this
    omega
  · rw [hgrow.block b (by simp; omega) (fun e => by cases e), Below.heap_alloc _ _ _ (by simp; omega), Below.heap_alloc _ _ _ (by omega)]
    exact h1.block b hb
  · obtain ⟨_, ⟨hv, _⟩ | ⟨g, cap, cur, hv, _, hh, hn, _, hs, ht⟩⟩ := hown
    · cases hv
    · cases hv
      rw [hh]
      congr 2
      apply Array.ext'
      have hcur : cur.toList.take (n * 1) = cur.toList := List.take_of_length_le (by simp [hs])
      rw [← hcur, ht]
      apply List.ext_getElem?
      intro j
      unfold bools madeCells
      by_cases hj : j < n
      · simp [hj, Value.cells, Nat.mod_one]
      · simp [hj]


/-! ### Tell, as the law calls it -/
theorem encL_at : ∀ (L : List (Value × Int)) (q : Nat) (x : Value × Int), L[q]? = some x → (encL L)[2 * q]? = some x.1 ∧ (encL L)[2 * q + 1]? = some (.int .i64 x.2)
  | [], q, x, h => by simp at h
  | a :: L, 0, x, h => by simp at h; subst h; exact ⟨rfl, rfl⟩
  | a :: L, q + 1, x, h => by
    have := encL_at L q x (by simpa using h)
    have e : 2 * (q + 1) = 2 * q + 1 + 1 := by omega
    simp only [encL, List.flatMap_cons, List.cons_append, List.nil_append, e, List.getElem?_cons_succ] at this ⊢
    exact this
def S0 : PS := ⟨[], fun _ => 0, none⟩
def FaultV (w : World) (ev : Value) : Option Int → Prop
  | none => ev = .nilIface
  | some a => ∃ fb, ev = .iface 83 (.pointer (some ⟨fb, 0, none⟩)) ∧ IsFault w fb a ∧ fb ≠ 0
/-- What holds behind Tell. -/
structure Told2 (F : Env) (W w' : World) (tb : Nat) (th : Nat → Bool) (ids : List Int) (ev : Value) : Prop where
  base : Below W.heap.size W w'
  st : St F w' (outer F (left th F.hl) ids S0).xs (outer F (left th F.hl) ids S0).ks
  there : w'.heap[tb]? = some (.cells (bools th F.hl) 4 (0, 0))
  fault : FaultV w' ev (outer F (left th F.hl) ids S0).first
  err : ErrT w'
theorem tell_all {F : Env} {W w : World} {wb tb : Nat} {th : Nat → Bool} {la ha ra : Option Addr} {lc hc : Nat} {cs : List Cg} {hows : List Int} {rs : List Nat} (hin : Came0 W la cs ha hows ra rs) (HS : Seen W cs cs.length) (ok : F.Ok)
    (hF : F.B0 = W.heap.size ∧ F.hl = hows.length ∧ F.hb = W.heap.size ∧ F.hv = .slice ha hows.length hc ∧ F.gb = F.gb ∧ (F.hows = fun j => hows.getD j 0) ∧ F.hab = habOf ha hows.length ∧ F.hoff = hoffOf ha) (HL : L3 F W w wb tb th) (h12 : cs.length ≤ 12) :
    Calls Tryz.prog 10 #[.pointer (some ⟨wb, 0, none⟩), .slice la cs.length lc] w fun e w' => ∃ ev, e = .returned ev ∧ Told2 F W w' tb th (cs.map (·.id)) ev := by
  obtain ⟨FB, Fl, Fb, Fv, -, Fh, Fa, Fo⟩ := hF
  have hst : St F w S0.xs S0.ks := by
    refine ⟨by rw [FB]; exact HL.base.size, ⟨none, 0, HL.got, rfl, .inl ⟨rfl, rfl⟩⟩, HL.n, HL.c, HL.h, fun j hj => ?_⟩
    obtain ⟨⟨b, o, s⟩, rfl, hsp, hce⟩ := hin.atH (by omega)
    obtain rfl : s = none := hsp
    have hjl : j < hows.length := by omega
    have := hce j _ (List.getElem?_eq_getElem hjl)
    have e1 : F.hab = b := by rw [Fa]; unfold habOf; rw [if_neg (by omega)]; rfl
    have e2 : F.hoff = o := by rw [Fo]; rfl
    rw [e1, e2, Fh, World.cell?_of_block (w := W) (HL.base.block b (World.block_lt_of_cell? W ⟨b, o + j, none⟩ this)), this]
    simp [List.getD, hjl]
  have hE : ErrT w := by
    obtain ⟨e, fz, h⟩ := hin.err
    exact ⟨e, fz, (HL.base.block 0 hin.pos).trans h⟩
  have hla : 0 < cs.length → ∃ a, la = some a ∧ a.spot = none ∧ CgAt W a cs := fun hp => by
    obtain ⟨a, h1, h2, h3⟩ := hin.atC hp
    refine ⟨a, h1, h2, fun i c hc => ?_⟩
    obtain ⟨g0, g1, g2, g3, v2, v3, _⟩ := h3 i c hc
    have hs := HS i c (List.getElem?_eq_some_iff.1 hc).1 hc
    exact ⟨g0, g1, g2, g3, v2.rd hs.1, v3.rd hs.2⟩
  have hl8 := ok.hl8
  have hjl : (left th F.hl).length ≤ 8 := Nat.le_trans (left_length _ _) hl8
  have fin : ∀ e w', (Fr F w w' ∧ St F w' (outer F (left th F.hl) (cs.map (·.id)) S0).xs (outer F (left th F.hl) (cs.map (·.id)) S0).ks ∧ Faulted w' e (outer F (left th F.hl) (cs.map (·.id)) S0).first) → ∃ ev, e = .returned ev ∧ Told2 F W w' tb th (cs.map (·.id)) ev := by
    rintro e w' ⟨hf, hs, he⟩
    have hb : Below W.heap.size W w' := ⟨hf.os.trans HL.base.os, hf.tape.trans HL.base.tape, hf.output.trans HL.base.output, Nat.le_trans HL.base.size hf.size, fun b hl => (hf.old b (by rw [FB]; exact hl)).trans (HL.base.block b hl)⟩
    have ht := hf.blk _ _ _ _ HL.there (by decide) (blk_ne HL.there HL.got (by decide)) (fun j hj => blk_ne HL.there (HL.c j hj) (by decide))
    have hE' := errT_fr hE ok.pos hf
    cases hfi : (outer F (left th F.hl) (cs.map (·.id)) S0).first with
    | none =>
      rw [hfi] at he
      obtain rfl := he
      exact ⟨_, rfl, hb, hs, ht, by rw [hfi]; rfl, hE'⟩
    | some a =>
      rw [hfi] at he
      obtain ⟨fb, rfl, h1, h2⟩ := he
      exact ⟨_, rfl, hb, hs, ht, by rw [hfi]; exact ⟨fb, rfl, h1, h2⟩, hE'⟩
  obtain ⟨sv, hw, ⟨h0, rfl⟩ | ⟨A, cap, o, rfl, hA, ht⟩⟩ := HL.watch
  · have hj0 : left th F.hl = [] := by simpa [obs] using h0
    refine (tell F ok W w FB HL.base wb 0 none la 0 lc #[] (left th F.hl) cs F.hl S0 (by rw [hj0]; exact hw) (fun h => by rw [hj0] at h; cases h) (fun h => by rw [hj0] at h; cases h) (fun q j h => by rw [hj0] at h; simp at h) hjl h12 hla hst ⟨rfl, fun _ => rfl, rfl⟩ hE).mono fin
  · have hol : (obs F (left th F.hl)).length = (left th F.hl).length := by simp [obs]
    rw [hol] at hw ht
    refine (tell F ok W w FB HL.base wb A (some ⟨A, 0, none⟩) la cap lc o (left th F.hl) cs F.hl S0 hw (fun _ => hA) (fun _ => rfl) (fun q j h => ?_) hjl h12 hla hst ⟨rfl, fun _ => rfl, rfl⟩ hE).mono fin
    have hq := (List.getElem?_eq_some_iff.1 h).1
    obtain ⟨e1, e2⟩ := encL_at (obs F (left th F.hl)) q (cl F j, (j : Int) + 1) (by unfold obs; simp [h])
    rw [← ht, List.getElem?_take_of_lt (by omega)] at e1 e2
    exact ⟨by simpa using e1, by simpa using e2, (left_mem.1 (List.mem_of_getElem? h)).1⟩

/-! ### What was wanted -/
structure Inv4 (w5 : World) (fv wv : Value) (wr : World) (S : PS) (k : Nat) : Prop where
  below : Below w5.heap.size w5 wr
  own : wr.ownsRow w5.heap.size 2 1 wv S.xs.length S.xs
  ok : Ok1 S k
  fv : fv = .int .i64 (fInt S.first)
theorem Inv4.next {w5 wr w1 : World} {fv fv' wv wv' : Value} {S : PS} {k j : Nat} {E : Env} {id : Int} {x : Obj} (h : Inv4 w5 fv wv wr S k) (hj : j ≤ 8) (hown : w1.ownsRow w5.heap.size 2 1 wv' (S.xs.length + 2) (S.xs ++ [.int .i64 (j : Nat), .int .i64 id])) (hg : (wr.alloc x).grownBy w1 wv.ownBlock)
    (hf : fv' = .int .i64 (fInt (step E id S j).first)) : Inv4 w5 fv' wv' w1 (step E id S j) (k + 2) := by
  refine ⟨(h.below.alloc h.below.size _).grown hg ?_ ?_, ?_, h.ok.step hj, hf⟩
  · have := h.below.size
    simp
    omega
  · intro b hb
    exact (h.own.lt b hb).1
  · have : (step E id S j).xs.length = S.xs.length + 2 := by simp [step]
    rw [this]
    exact hown
theorem Inv4.grown {w5 wr w1 : World} {fv wv : Value} {S : PS} {k : Nat} {x : Obj} (h : Inv4 w5 fv wv wr S k) (hg : (wr.alloc x).grownBy w1 wv.ownBlock) : Below w5.heap.size w5 w1 := by
  refine (h.below.alloc h.below.size _).grown hg ?_ ?_
  · have := h.below.size
    simp
    omega
  · intro b hb
    exact (h.own.lt b hb).1
theorem Inv4.more {w5 wr : World} {fv wv : Value} {S : PS} {k k' : Nat} (h : Inv4 w5 fv wv wr S k) (hk : k ≤ k') : Inv4 w5 fv wv wr S k' :=
  ⟨h.below, h.own, ⟨Nat.le_trans h.ok.len hk, h.ok.ints, h.ok.first⟩, h.fv⟩
theorem new_cell1 (w : World) (a b : Value) (t : TypeId) {q : Nat} {u : Value} (hq : [a, b][q]? = some u) : (w.alloc (.cells #[a, b] t)).cell? ((⟨w.heap.size, 0, none⟩ : Addr).add q) = some u := by
  have hh := heap_alloc_new w (.cells #[a, b] t)
  generalize w.alloc (.cells #[a, b] t) = W at hh
  match q, hq with
  | 0, hq => simp at hq; subst hq; unfold World.cell?; simp [Addr.add, hh]
  | 1, hq => simp at hq; subst hq; unfold World.cell?; simp [Addr.add, hh]
theorem first_step (E : Env) (id : Int) (S : PS) (j : Nat) (h k : Int) (hh : E.hows j = h) (hk : S.ks j = k) : (step E id S j).first = match S.first with | some a => some a | none => if ((bits .and .i64 h 3 == 1) || (bits .and .i64 h 3 == 2)) && (bits .and .i64 (h / 4) 3 == k + 1) then some (100 + (j : Nat)) else none := by
  unfold step hits
  rw [hh, hk]
  have e : (k + 1 == bits .and .i64 (h / 4) 3) = (bits .and .i64 (h / 4) 3 == k + 1) := by
    rw [Bool.eq_iff_iff]
    simp only [beq_iff_eq]
    exact eq_comm
  rw [e]
  cases S.first <;> rfl
theorem isFault_below {w w' : World} {fb : Nat} {a : Int} (h : IsFault w fb a) (hb : Below w.heap.size w w') : IsFault w' fb a := by
  rcases h with ⟨mb, h1, h2, h3⟩ | h1
  · exact .inl ⟨mb, (hb.block _ (lt_of_block h1)).trans h1, (hb.block _ (lt_of_block h2)).trans h2, h3⟩
  · exact .inr ((hb.block _ (lt_of_block h1)).trans h1)
theorem errT_below {w w' : World} (h : ErrT w) (hb : Below w.heap.size w w') : ErrT w' := by
  obtain ⟨e, fz, h⟩ := h
  exact ⟨e, fz, (hb.block _ (lt_of_block h)).trans h⟩
theorem own_slice {w : World} {B e n : Nat} {v : Value} {xs : List Value} (h : w.ownsRow B e 1 v n xs) : ∃ A c, v = .slice A n c := by
  rcases h.2 with ⟨rfl, rfl⟩ | ⟨g, c, _, rfl, _⟩
  · exact ⟨_, _, rfl⟩
  · exact ⟨_, _, rfl⟩
end Go.Proofs.YtihifldpknpjhaaGreatDoor.Wk
