/- The law's walk. -/
import Derived.Test.YtihifldpknpjhaaGreatDoorWp
namespace Go.Proofs.YtihifldpknpjhaaGreatDoor.Wk
open Go.RowKit Go.Ex

set_option maxHeartbeats 2000000 in
set_option maxRecDepth 100000 in
theorem law (W : World) (la ha ra : Option Addr) (lc hc rc : Nat) (cs : List Cg) (hows : List Int) (rs : List Nat) (hin : Came0 W la cs ha hows ra rs) :
    Calls Tryz.prog 3 #[.slice la cs.length lc, .slice ha hows.length hc, .slice ra rs.length rc] W fun e w' => e = .returned (.bool true) ∧ Below W.heap.size W w' := by
  have HI : Hid (Came0 W la cs ha hows ra rs) := hin
  have lenC := hin.lenC
  have lenH := hin.lenH
  have lenR := hin.lenR
  have Wpos := hin.pos
  unfold maxLen at lenC lenH lenR
  have HB0 : Hid (Below W.heap.size W (W.alloc (.cells #[.slice ha hows.length hc] 23))) := below_alloc _ _
  have HE : Hid (ErrT (W.alloc (.cells #[.slice ha hows.length hc] 23))) := by
    obtain ⟨e, fz, h⟩ := hin.err
    exact ⟨e, fz, alloc_heap h⟩
  have HK : Hid (Calls Tryz.prog 4 #[] (W.alloc (.cells #[.slice ha hows.length hc] 23)) fun e w' => e = .returned (.bool true) ∧ Below (W.heap.size + 1) (W.alloc (.cells #[.slice ha hows.length hc] 23)) w') := by
    obtain ⟨e, fz, h⟩ := HE.out
    have := known4Is.gives _ e fz h
    rwa [World.size_alloc] at this
  have HX : Hid ((W.alloc (.cells #[.slice ha hows.length hc] 23)).heap[W.heap.size]? = some (.cells #[.slice ha hows.length hc] 23 (0, 0))) := heap_alloc_new _ _
  have HKK : Hid (∀ w1, Below (W.heap.size + 1) (W.alloc (.cells #[.slice ha hows.length hc] 23)) w1 → Hid (Below W.heap.size W w1) ∧ Hid (w1.heap[W.heap.size]? = some (.cells #[.slice ha hows.length hc] 23 (0, 0)))) := fun w1 hb1 =>
    ⟨⟨hb1.os, hb1.tape, hb1.output, by have := hb1.size; simp at this; omega, fun b hb => (hb1.block b (by omega)).trans (HB0.out.block b hb)⟩, (hb1.block _ (by omega)).trans HX.out⟩
  clear hin
  go_enter Tryz.func3, Tryz.ntmps3
  by_cases hC : 12 < cs.length
  · go_wp2_with (go_at_call 4; refine HK.out.mono ?_; rintro e w1 ⟨rfl, hb1⟩; obtain ⟨HB1, HX1⟩ := HKK.out w1 hb1; have ch1 := cell_of_one HX1.out)
    go_ret
    exact ⟨rfl, HB1.out⟩
  by_cases hH : 8 < hows.length
  · go_wp2_with (go_at_call 4; refine HK.out.mono ?_; rintro e w1 ⟨rfl, hb1⟩; obtain ⟨HB1, HX1⟩ := HKK.out w1 hb1; have ch1 := cell_of_one HX1.out)
    go_ret
    exact ⟨rfl, HB1.out⟩
  by_cases hR : 8 < rs.length
  · go_wp2_with (go_at_call 4; refine HK.out.mono ?_; rintro e w1 ⟨rfl, hb1⟩; obtain ⟨HB1, HX1⟩ := HKK.out w1 hb1; have ch1 := cell_of_one HX1.out)
    go_ret
    exact ⟨rfl, HB1.out⟩
  go_wp2_with (go_at_call 4; refine HK.out.mono ?_; rintro e w1 ⟨rfl, hb1⟩; obtain ⟨HB1, HX1⟩ := HKK.out w1 hb1; have ch1 := cell_of_one HX1.out)
  clear HKK HK HE HB0 HX hb1
  have E0 : Hid (∀ b, b < W.heap.size → w1.heap[b]? = W.heap[b]?) := HB1.out.block
  go_loop [7] (fun iv => ∃ i : Nat, i ≤ cs.length ∧ iv = .int .i64 i ∧ Hid (Seen W cs i)) (fun iv => cs.length - (Go.RowKit.intOf iv).toNat)
  case atStart => exact ⟨0, Nat.zero_le _, rfl, fun j c hj => absurd hj (by omega)⟩
  case round =>
    obtain ⟨i, hi, rfl, HS⟩ := hrel
    by_cases hlt : i < cs.length
    · obtain ⟨⟨ab, ao, asp⟩, rfl, hsp, hCg⟩ := HI.out.atC (by omega)
      obtain rfl : asp = none := hsp
      obtain ⟨c, hc'⟩ : ∃ c, cs[i]? = some c := ⟨_, List.getElem?_eq_getElem hlt⟩
      obtain ⟨g0, g1, g2, g3, v2, v3, tsz⟩ := hCg i c hc'
      have hab : ab < W.heap.size := World.block_lt_of_cell? W _ g0
      have d0 : w1.cell? ⟨ab, ao + i * 4, none⟩ = some (.string c.tb) := (World.cell?_of_block (w := W) (E0.out ab hab)).trans g0
      have d2 : w1.cell? ⟨ab, ao + i * 4 + 2, none⟩ = some (.slice c.A2 c.n2 c.q2) := (World.cell?_of_block (w := W) (E0.out ab hab)).trans g2
      have d3 : w1.cell? ⟨ab, ao + i * 4 + 3, none⟩ = some (.slice c.A3 c.n3 c.q3) := (World.cell?_of_block (w := W) (E0.out ab hab)).trans g3
      have V2 : Hid (Vals W c.A2 c.n2) := v2
      have V3 : Hid (Vals W c.A3 c.n3) := v3
      have FF : Hid (∀ A n q, Hid (Vals W A n) → Calls Tryz.prog 5 #[.slice A n q, .int .i64 6] w1 fun e w' => FewEnds n w1 e w') := fun A n q v => few A n q w1 v.out.1 (v.out.few E0.out)
      have HS2 : Hid (c.n2 ≤ 6 → c.n3 ≤ 6 → Seen W cs (i + 1)) := fun h2 h3 j c' hj hc'' => by
        by_cases e : j = i
        · subst e
          rw [hc'] at hc''
          cases hc''
          exact ⟨h2, h3⟩
        · exact HS.out j c' (by omega) hc''
      clear g0 g1 g2 g3 v2 v3 hCg
      unfold maxLen at tsz
      go_wp2_with (go_at_call 5; refine (FF.out _ _ _ (by first | exact V2 | exact V3)).mono ?_; rintro e w2 ⟨b2, rfl, rfl, h2⟩; cases b2)
      all_goals first
        | (go_ret; exact ⟨rfl, HB1.out⟩)
        | (go_round
           case rel => exact ⟨i + 1, by omega, by go_num, HS2.out (‹True → c.n2 ≤ 6› trivial) (‹True → c.n3 ≤ 6› trivial)⟩
           case measure => simp [Go.RowKit.intOf]; omega)
    · obtain rfl : i = cs.length := by omega
      clear hlt hi
      have lh1 := lt_of_block HX1.out
      obtain ⟨i4, hi4, hz0, hz1, hz2⟩ := info_parts info4
      go_wp2_with (first | (go_at_call 6; refine (new_watch _).mono ?_; rintro e w2 ⟨rfl, rfl⟩) | (at_make; refine wpList_make_full _ rfl (.tmp 71) (.tmp 71) 33 rfl W.heap.size 4 i4 (.bool false) 1 Tryz.underlying33 hi4 hz0 hz1 .i64 .i64 _ _ hows.length rfl rfl rfl rfl ?m1 ?m2 ?m3 ?_))
      case m1 => rw [hz2]; omega
      case m2 => unfold maxLen; omega
      case m3 => simp; omega
      intro w2 hown hgrow
      have HL : Hid (L2 (Env.mk W.heap.size (w1.heap.size + 1) W.heap.size (habOf ha hows.length) (hoffOf ha) hows.length hc (.slice ha hows.length hc) (fun _ => 0) (fun _ => 0) (fun j => hows.getD j 0)) (fun _ => 0) (fun _ => 0) W w2 w1.heap.size (w1.heap.size + 1 + 1) 0) := L2.start HB1.out HX1.out lh1 (by simpa [Value.cells] using hown) hgrow
      obtain ⟨E, hE⟩ : ∃ E : Env, E = (Env.mk W.heap.size (w1.heap.size + 1) W.heap.size (habOf ha hows.length) (hoffOf ha) hows.length hc (.slice ha hows.length hc) (fun _ => 0) (fun _ => 0) (fun j => hows.getD j 0)) := ⟨_, rfl⟩
      rw [← hE] at HL
      have HE : Hid (E = (Env.mk W.heap.size (w1.heap.size + 1) W.heap.size (habOf ha hows.length) (hoffOf ha) hows.length hc (.slice ha hows.length hc) (fun _ => 0) (fun _ => 0) (fun j => hows.getD j 0))) := hE
      clear hE hown hgrow HX1 ch1 E0 HB1
      go_wp2_with fail
      go_loopw [12] (fun iv wr => ∃ i : Nat, i ≤ hows.length ∧ iv = .int .i64 i ∧ ∃ nb cb, Hid (L2 E nb cb W wr w1.heap.size (w1.heap.size + 1 + 1) i)) (fun iv _ => hows.length - (Go.RowKit.intOf iv).toNat)
      case atStart => exact ⟨0, Nat.zero_le _, rfl, _, _, HL⟩
      case round =>
        obtain ⟨i, hi, rfl, nb, cb, HL⟩ := hrel
        rename World => wr
        have hX := HL.out.h
        have hT := HL.out.there
        have hbB : E.hb = W.heap.size := by rw [HE.out]
        have hvB : E.hv = .slice ha hows.length hc := by rw [HE.out]
        have hlB : E.hl = hows.length := by rw [HE.out]
        rw [hbB, hvB] at hX
        have ch := cell_of_one hX
        have lh := lt_of_block hX
        by_cases hlt : i < hows.length
        · have HL3 : Hid (L2 E nb cb W ((wr.alloc (.cells #[.int .i64 (i : Nat)] 3)).alloc (.cells #[.int .i64 0] 3)) w1.heap.size (w1.heap.size + 1 + 1) i) := (HL.out.below (below_alloc _ _)).below (below_alloc _ _)
          have HA : Hid (Calls Tryz.prog 7 #[.pointer (some ⟨w1.heap.size, 0, none⟩), .func (.func 8) #[] #[.pointer (some ⟨w1.heap.size + 1, 0, none⟩), .pointer (some ⟨wr.heap.size, 0, none⟩), .pointer (some ⟨wr.heap.size + 1, 0, none⟩), .pointer (some ⟨W.heap.size, 0, none⟩)]] ((wr.alloc (.cells #[.int .i64 (i : Nat)] 3)).alloc (.cells #[.int .i64 0] 3)) fun e w' => e = .returned (.int .i64 ((i : Int) + 1)) ∧
              (w'.cell? ⟨w1.heap.size + 1 + 1, i, none⟩ = some (.bool false) ∧ w'.frozen? ⟨w1.heap.size + 1 + 1, i, none⟩ = false) ∧ Hid (L2 E (fun j => if j = i then wr.heap.size else nb j) (fun j => if j = i then wr.heap.size + 1 else cb j) W (w'.setCell ⟨w1.heap.size + 1 + 1, i, none⟩ (.bool true)) w1.heap.size (w1.heap.size + 1 + 1) (i + 1))) := by
            refine (HL3.out.add (by omega) _ rfl).mono ?_
            rintro e w4 ⟨rfl, hb, hw⟩
            have e1 : ((wr.alloc (.cells #[.int .i64 (i : Nat)] 3)).alloc (.cells #[.int .i64 0] 3)).heap[wr.heap.size]? = some (.cells #[.int .i64 (i : Nat)] 3 (0, 0)) := alloc_heap (heap_alloc_new _ _)
            have e2 : ((wr.alloc (.cells #[.int .i64 (i : Nat)] 3)).alloc (.cells #[.int .i64 0] 3)).heap[wr.heap.size + 1]? = some (.cells #[.int .i64 0] 3 (0, 0)) := by
              have := heap_alloc_new (wr.alloc (.cells #[.int .i64 (i : Nat)] 3)) (.cells #[.int .i64 0] 3)
              rwa [World.size_alloc] at this
            obtain ⟨xs, hx⟩ := wt_blk HL3.out.watch
            have ht := BelowS.heap hb hx HL3.out.there (by decide)
            have hc4 := there_cell ht (j := i) (by rw [hlB]; exact hlt)
            have hgB : E.gb = w1.heap.size + 1 := by rw [HE.out]
            refine ⟨rfl, ⟨by simpa using hc4.1, hc4.2⟩, HL3.out.next e1 e2 (fun j hj => ?_) (by omega) (by have := HL.out.base.size; omega) hb ?_⟩
            · have a1 := lt_of_block (HL.out.c j hj)
              have a2 := lt_of_block (HL.out.n j hj)
              omega
            · rw [hgB, hbB]
              exact hw
          have hT2 := lt_of_block hT
          clear HL3
          go_wp2_with (go_at_call 7; refine HA.out.mono ?_; rintro e w4 ⟨rfl, ⟨c4, f4⟩, HL4⟩)
          go_roundw
          case rel => exact ⟨i + 1, by omega, by go_num, _, _, HL4⟩
          case measure => simp [Go.RowKit.intOf]; omega
        · obtain rfl : i = hows.length := by omega
          have hL3 : L3 (E.at nb cb) W wr w1.heap.size (w1.heap.size + 1 + 1) (fun j => decide (j < E.hl)) := L2.done (by rw [hlB]; exact HL.out)
          have hOK : (E.at nb cb).Ok := by
            have hl2 := HL.out
            have hg : E.gb = w1.heap.size + 1 := by rw [HE.out]
            have hB : E.B0 = W.heap.size := by rw [HE.out]
            have hab : E.hab = habOf ha hows.length := by rw [HE.out]
            have hoff : E.hoff = hoffOf ha := by rw [HE.out]
            have hcp : E.hcap = hc := by rw [HE.out]
            refine ⟨by show E.hl ≤ 8; omega, by show E.B0 ≤ E.gb; omega, fun j hj => ?_, ?_, fun a b h1 h2 he => hl2.inj a b (by rw [← hlB]; exact h1) (by rw [← hlB]; exact h2) he, fun a b h1 h2 => hl2.nc a b (by rw [← hlB]; exact h1) (by rw [← hlB]; exact h2), by show 0 < E.B0; omega, fun h0 => ?_⟩
            · show E.B0 ≤ cb j
              rw [hB]
              exact hl2.cB j (by rw [← hlB]; exact hj)
            · show E.hab < E.B0
              rw [hab, hB]
              unfold habOf
              split
              · exact Wpos
              · obtain ⟨a, rfl, hsp, hce⟩ := HI.out.atH (by omega)
                have := hce 0 _ (List.getElem?_eq_getElem (by omega))
                exact World.block_lt_of_cell? W ⟨a.block, a.off + 0, none⟩ this
            · have h0' : 0 < hows.length := by rw [← hlB]; exact h0
              show E.hv = .slice (some ⟨E.hab, E.hoff, none⟩) E.hl E.hcap
              rw [hvB, hab, hoff, hlB, hcp]
              obtain ⟨⟨b, o, s⟩, rfl, hsp, hce⟩ := HI.out.atH h0'
              obtain rfl : s = none := hsp
              unfold habOf hoffOf
              rw [if_neg (by omega)]
              rfl
          obtain ⟨F, hF⟩ : ∃ F, F = E.at nb cb := ⟨_, rfl⟩
          rw [← hF] at hL3 hOK
          have OK : Hid F.Ok := hOK
          have HM : Hid (L3 F W wr w1.heap.size (w1.heap.size + 1 + 1) (fun j => decide (j < E.hl))) := hL3
          have FB : F.B0 = W.heap.size := by rw [hF, HE.out]; rfl
          have Fl : F.hl = hows.length := by rw [hF, HE.out]; rfl
          have Fb : F.hb = W.heap.size := by rw [hF, HE.out]; rfl
          have Fv : F.hv = .slice ha hows.length hc := by rw [hF, HE.out]; rfl
          have Fg : F.gb = w1.heap.size + 1 := by rw [hF, HE.out]; rfl
          have Fh : F.hows = fun j => hows.getD j 0 := by rw [hF, HE.out]; rfl
          have Fa : F.hab = habOf ha hows.length ∧ F.hoff = hoffOf ha := by rw [hF, HE.out]; exact ⟨rfl, rfl⟩
          have HF : Hid (F.B0 = W.heap.size ∧ F.hl = hows.length ∧ F.hb = W.heap.size ∧ F.hv = .slice ha hows.length hc ∧ F.gb = w1.heap.size + 1 ∧ (F.hows = fun j => hows.getD j 0) ∧ F.hab = habOf ha hows.length ∧ F.hoff = hoffOf ha) := ⟨FB, Fl, Fb, Fv, Fg, Fh, Fa⟩
          clear hL3 hOK HL hX hT FB Fl Fb Fv Fg Fh Fa hF hlt hi
          go_wp2_with fail
          clear ch lh
          go_loopw [16] (fun iv wr => ∃ i : Nat, i ≤ rs.length ∧ iv = .int .i64 i ∧ ∃ th, Hid (L3 F W wr w1.heap.size (w1.heap.size + 1 + 1) th)) (fun iv _ => rs.length - (Go.RowKit.intOf iv).toNat)
          case atStart => exact ⟨0, Nat.zero_le _, rfl, _, HM⟩
          case round =>
            obtain ⟨i, hi, rfl, th, HL⟩ := hrel
            rename World => wr
            clear HM
            obtain ⟨FB, Fl, Fb, Fv, Fg, Fh, Fa⟩ := HF.out
            have hX := HL.out.h
            have hT := HL.out.there
            rw [Fb, Fv] at hX
            have ch := cell_of_one hX
            have lh := lt_of_block hX
            have lt := lt_of_block hT
            by_cases hlt : i < rs.length
            · obtain ⟨⟨rb, ro, rsp⟩, rfl, hsp, hRg⟩ := HI.out.atR (by omega)
              obtain rfl : rsp = none := hsp
              obtain ⟨r, hr⟩ : ∃ r, rs[i]? = some r := ⟨_, List.getElem?_eq_getElem hlt⟩
              obtain ⟨g0, hr256⟩ := hRg i r hr
              have hrb : rb < W.heap.size := World.block_lt_of_cell? W _ g0
              have d0 : wr.cell? ⟨rb, ro + i, none⟩ = some (.int .u8 r) := (World.cell?_of_block (w := W) (HL.out.base.block rb hrb)).trans g0
              have h8 : F.hl ≤ 8 := by omega
              have MISS : ∀ n : Int, 0 ≤ n ∧ n ≤ 1000 → (∀ q : Nat, q < F.hl → th q = true → n ≠ (q : Int) + 1) → Hid (Calls Tryz.prog 9 #[.pointer (some ⟨w1.heap.size, 0, none⟩), .int .i64 n] wr fun e w' => e = .returned (.bool false) ∧ Hid (L3 F W w' w1.heap.size (w1.heap.size + 1 + 1) th)) := fun n hn hno => HL.out.miss h8 n hn hno
              rcases (show (r : Int) % 10 = 0 ∨ (1 ≤ (r : Int) % 10 ∧ (hows.length : Int) < (r : Int) % 10) ∨ ∃ q : Nat, q < hows.length ∧ (r : Int) % 10 = (q : Int) + 1 by
                by_cases h0 : (r : Int) % 10 = 0
                · exact .inl h0
                · by_cases h1 : (hows.length : Int) < (r : Int) % 10
                  · exact .inr (.inl ⟨by omega, h1⟩)
                  · exact .inr (.inr ⟨r % 10 - 1, by omega, by omega⟩)) with h0 | ⟨h1, h2⟩ | ⟨q, hq, h1⟩
              · have HR := MISS 0 (by omega) (fun q _ _ => by omega)
                clear hRg g0 hX hT FB Fl Fb Fv Fg Fh Fa MISS HL
                go_wp2_with (go_at_call 9; refine HR.out.mono ?_; rintro e w4 ⟨rfl, HL4⟩)
                go_roundw
                case rel => exact ⟨i + 1, by omega, by go_num, _, HL4⟩
                case measure => simp [Go.RowKit.intOf]; omega
              · have HR := MISS ((r : Int) % 10) (by omega) (fun q hq _ => by omega)
                clear hRg g0 hX hT FB Fl Fb Fv Fg Fh Fa MISS HL
                go_wp2_with (go_at_call 9; refine HR.out.mono ?_; rintro e w4 ⟨rfl, HL4⟩)
                go_roundw
                case rel => exact ⟨i + 1, by omega, by go_num, _, HL4⟩
                case measure => simp [Go.RowKit.intOf]; omega
              · have c1 := (there_cell hT (j := q) (by omega)).1
                cases hth : th q with
                | false =>
                  have HR := MISS ((q : Int) + 1) (by omega) (fun q' _ ht' e => by
                    obtain rfl : q = q' := by omega
                    rw [hth] at ht'
                    cases ht')
                  rw [hth] at c1
                  clear hRg g0 hX hT FB Fl Fb Fv Fg Fh Fa MISS HL
                  go_wp2_with (go_at_call 9; refine HR.out.mono ?_; rintro e w4 ⟨rfl, HL4⟩)
                  go_roundw
                  case rel => exact ⟨i + 1, by omega, by go_num, _, HL4⟩
                  case measure => simp [Go.RowKit.intOf]; omega
                | true =>
                  have HR : Hid (Calls Tryz.prog 9 #[.pointer (some ⟨w1.heap.size, 0, none⟩), .int .i64 ((q : Int) + 1)] wr fun e w' => e = .returned (.bool true) ∧ (w'.cell? ⟨w1.heap.size + 1 + 1, q, none⟩ = some (.bool true) ∧ w'.frozen? ⟨w1.heap.size + 1 + 1, q, none⟩ = false) ∧ Hid (L3 F W (w'.setCell ⟨w1.heap.size + 1 + 1, q, none⟩ (.bool false)) w1.heap.size (w1.heap.size + 1 + 1) (off th q))) :=
                    (HL.out.hit h8 (by omega) hth).mono fun e w' ⟨h1, h2, h3, _⟩ => ⟨h1, by rw [← hth]; exact there_cell h3 (by omega), h2⟩
                  rw [hth] at c1
                  clear hRg g0 hX hT FB Fl Fb Fv Fg Fh Fa MISS HL
                  go_wp2_with (go_at_call 9; refine HR.out.mono ?_; rintro e w4 ⟨rfl, ⟨c4, f4⟩, HL4⟩)
                  go_roundw
                  case rel => exact ⟨i + 1, by omega, by go_num, _, HL4⟩
                  case measure => simp [Go.RowKit.intOf]; omega
            · obtain rfl : i = rs.length := by omega
              obtain ⟨i2, hi2, hy0, hy1, hy2⟩ := info_parts info2
              have HT : Hid (Calls Tryz.prog 10 #[.pointer (some ⟨w1.heap.size, 0, none⟩), .slice la cs.length lc] wr fun e w' => ∃ ev, e = .returned ev ∧ Told2 F W w' (w1.heap.size + 1 + 1) th (cs.map (·.id)) ev) :=
                tell_all HI.out HS.out OK.out ⟨FB, Fl, Fb, Fv, rfl, Fh, Fa⟩ HL.out (by omega)
              have HLE : Hid (∀ w5 ev, Told2 F W w5 (w1.heap.size + 1 + 1) th (cs.map (·.id)) ev → w5.cell? ⟨W.heap.size, 0, none⟩ = some (.slice ha hows.length hc) ∧ W.heap.size < w5.heap.size ∧ w1.heap.size + 1 + 1 < w5.heap.size ∧ w1.heap.size + 1 < w5.heap.size) := fun w5 ev h => by
                have h1 := h.st.h
                rw [Fb, Fv] at h1
                obtain ⟨ga, gc, h2, _⟩ := h.st.got
                rw [Fg] at h2
                exact ⟨cell_of_one h1, lt_of_block h1, lt_of_block h.there, lt_of_block h2⟩
              clear hX hT FB Fl Fb Fv Fg Fh Fa ch lh lt HL hlt hi
              go_wp2_with (go_at_call 10; refine HT.out.mono ?_; rintro e w5 ⟨ev, rfl, HQ⟩)
              obtain ⟨ch5, lh5, lt5, lg5⟩ := HLE.out w5 ev HQ
              have HQ5 : Hid (Told2 F W w5 (w1.heap.size + 1 + 1) th (cs.map (·.id)) ev) := HQ
              have HV0 : Hid (Inv4 w5 (.int .i64 0) (.slice none 0 0) w5 (outer F (left th F.hl) ((cs.take 0).map (·.id)) S0) (16 * 0)) := ⟨Below.refl _ _, ⟨rfl, .inl ⟨rfl, rfl⟩⟩, ⟨Nat.zero_le _, fun u hu => (by cases hu), fun a h => (by cases h)⟩, rfl⟩
              clear HQ HT HLE
              go_loopw [10, 20, 21] (fun fv wv iv wr => ∃ i : Nat, i ≤ cs.length ∧ iv = .int .i64 i ∧ Hid (Inv4 w5 fv wv wr (outer F (left th F.hl) ((cs.take i).map (·.id)) S0) (16 * i))) (fun _ _ iv _ => cs.length - (Go.RowKit.intOf iv).toNat)
              case atStart => exact ⟨0, Nat.zero_le _, rfl, HV0⟩
              case round =>
                obtain ⟨i, hi, rfl, HV⟩ := hrel
                rename World => wr
                clear HV0
                by_cases hlt : i < cs.length
                · obtain ⟨⟨ab, ao, asp⟩, rfl, hsp, hCg⟩ := HI.out.atC (by omega)
                  obtain rfl : asp = none := hsp
                  obtain ⟨c, hc'⟩ : ∃ c, cs[i]? = some c := ⟨_, List.getElem?_eq_getElem hlt⟩
                  obtain ⟨g0, g1, g2, g3, v2, v3, tsz⟩ := hCg i c hc'
                  have hab : ab < W.heap.size := World.block_lt_of_cell? W _ g0
                  have HC : Hid (cs[i]? = some c) := hc'
                  have HG : Hid (w5.cell? ⟨ab, ao + i * 4 + 1, none⟩ = some (.int .i64 c.id)) := (World.cell?_of_block (w := W) (HQ5.out.base.block ab hab)).trans g1
                  clear g0 g1 g2 g3 v2 v3 hCg hc' tsz
                  have HV1 : Hid (Inv4 w5 u10 u20 wr (inner F (left th 0) c.id (outer F (left th F.hl) ((cs.take i).map (·.id)) S0)) (16 * i + 2 * 0)) := HV
                  go_wp2_with fail
                  go_loopw [10, 20, 22] (fun fv wv iv wr => ∃ q : Nat, q ≤ hows.length ∧ iv = .int .i64 q ∧ Hid (Inv4 w5 fv wv wr (inner F (left th q) c.id (outer F (left th F.hl) ((cs.take i).map (·.id)) S0)) (16 * i + 2 * q))) (fun _ _ iv _ => hows.length - (Go.RowKit.intOf iv).toNat)
                  case atStart => exact ⟨0, Nat.zero_le _, rfl, HV1⟩
                  case round =>
                    obtain ⟨q, hq, rfl, HJ⟩ := hrel
                    rename World => w6
                    clear HV1
                    have lw6 := HJ.out.below.size
                    have ch6 : w6.cell? ⟨W.heap.size, 0, none⟩ = some (.slice ha hows.length hc) := (World.cell?_of_block (w := w5) (HJ.out.below.block _ lh5)).trans ch5
                    by_cases hql : q < hows.length
                    · obtain ⟨FB, Fl, Fb, Fv, Fg, Fh, Fa⟩ := HF.out
                      have t6 : w6.cell? ⟨w1.heap.size + 1 + 1, q, none⟩ = some (.bool (th q)) := (there_cell ((HJ.out.below.block _ lt5).trans HQ5.out.there) (by rw [Fl]; exact hql)).1
                      have lh6 : W.heap.size < w6.heap.size := by omega
                      have lt6 : w1.heap.size + 1 + 1 < w6.heap.size := by omega
                      have hw5 := HQ5.out.base.size
                      have hNN := inner_left F th c.id (outer F (left th F.hl) ((cs.take i).map (·.id)) S0) q
                      cases hth : th q with
                      | false =>
                        rw [hth] at t6 hNN
                        have HN : Hid (inner F (left th (q + 1)) c.id (outer F (left th F.hl) ((cs.take i).map (·.id)) S0) = inner F (left th q) c.id (outer F (left th F.hl) ((cs.take i).map (·.id)) S0)) := hNN
                        clear hNN FB Fl Fb Fv Fg Fh Fa
                        go_wp2_with fail
                        go_roundw
                        case rel => exact ⟨q + 1, by omega, by go_num, by rw [HN.out]; exact HJ.out.more (by omega)⟩
                        case measure => simp [Go.RowKit.intOf]; omega
                      | true =>
                        rw [hth] at t6 hNN
                        obtain ⟨⟨hab', hao, has⟩, rfl, hsp2, hHg⟩ := HI.out.atH (by omega)
                        obtain rfl : has = none := hsp2
                        have hH0 := hHg q _ (List.getElem?_eq_getElem hql)
                        have hhb : hab' < W.heap.size := World.block_lt_of_cell? W ⟨hab', hao + q, none⟩ hH0
                        obtain ⟨h, hh⟩ : ∃ h, h = hows[q] := ⟨_, rfl⟩
                        rw [← hh] at hH0
                        have hks := ks_now F th ((cs.take i).map (·.id)) c.id S0 (fun _ => rfl) q (by rw [Fl]; exact hql) hth
                        have hlen : (((cs.take i).map (·.id)).length : Int) = (i : Nat) := by simp; omega
                        rw [hlen] at hks
                        have hFq : F.hows q = h := by rw [Fh, hh]; simp [List.getD, hql]
                        obtain ⟨S, hS⟩ : ∃ S, S = inner F (left th q) c.id (outer F (left th F.hl) ((cs.take i).map (·.id)) S0) := ⟨_, rfl⟩
                        rw [← hS] at hks hNN HJ
                        have HN : Hid (inner F (left th (q + 1)) c.id (outer F (left th F.hl) ((cs.take i).map (·.id)) S0) = step F c.id S q) := hNN
                        have HH : Hid ((step F c.id S q).first = match S.first with | some a => some a | none => if ((bits .and .i64 h 3 == 1) || (bits .and .i64 h 3 == 2)) && (bits .and .i64 (h / 4) 3 == (i : Int) + 1) then some (100 + (q : Nat)) else none) := first_step F c.id S q h i hFq hks
                        have k6 : w6.cell? ⟨ab, ao + i * 4 + 1, none⟩ = some (.int .i64 c.id) := (World.cell?_of_block (w := w5) (HJ.out.below.block ab (by omega))).trans HG.out
                        have hlenS := HJ.out.ok.len
                        have HW : Hid (∀ w7, Below w5.heap.size w5 w7 → w7.cell? ⟨W.heap.size, 0, none⟩ = some (.slice (some ⟨hab', hao, none⟩) hows.length hc) ∧ w7.cell? ⟨hab', hao + q, none⟩ = some (.int .i64 h)) := fun w7 hb =>
                          ⟨(World.cell?_of_block (w := w5) (hb.block _ lh5)).trans ch5, (World.cell?_of_block (w := w5) (hb.block hab' (by omega))).trans ((World.cell?_of_block (w := W) (HQ5.out.base.block hab' hhb)).trans hH0)⟩
                        have lab : ab < w6.heap.size := by omega
                        clear hNN FB Fl Fb Fv Fg Fh Fa hHg hH0 hh hks hlen hFq hS hhb
                        go_wp2_with (at_builtin; refine wpList_append_own _ rfl (.tmp 147) (.tmp 154) 32 rfl w5.heap.size 2 i2 (.int .i64 0) 1 8 Tryz.underlying32 hi2 hy0 hy1 hy2 rfl (by decide) _ _ _ rfl (HJ.out.own.alloc _) ⟨w6.heap.size, 0, none⟩ 2 2 [.int .i64 (q : Nat), .int .i64 c.id] rfl rfl ?c1 ?c2 ?c3 ?c4 ?c5 ?_)
                        case c1 => exact fun j u hj => new_cell1 w6 _ _ _ hj
                        case c2 => intro u hu; simp at hu; rcases hu with rfl | rfl <;> rfl
                        case c3 => unfold maxLen; omega
                        case c4 => omega
                        case c5 => simp; omega
                        intro v' w7 hown' hgrow hnilx
                        have hb7 := HJ.out.grown hgrow
                        obtain ⟨ch7, hk7⟩ := HW.out w7 hb7
                        have lw7 := hb7.size
                        have HN4 : Hid (∀ fv', fv' = .int .i64 (fInt (step F c.id S q).first) → Inv4 w5 fv' v' w7 (step F c.id S q) (16 * i + 2 * q + 2)) := fun fv' hf => HJ.out.next (by omega) hown' hgrow hf
                        have hfv := HJ.out.fv
                        have hfa := HJ.out.ok.first
                        clear hown' hgrow hb7 HW t6 k6 ch6 hnilx
                        rcases (show S.first = none ∨ ∃ a0, S.first = some a0 by cases S.first with | none => exact .inl rfl | some a => exact .inr ⟨a, rfl⟩) with hfi | ⟨a0, hfi⟩
                        · rw [hfi] at hfv
                          obtain rfl : u10 = .int .i64 0 := hfv
                          clear hfa
                          cases ha1 : (bits .and .i64 h 3 == 1) <;> cases ha2 : (bits .and .i64 h 3 == 2) <;> cases ha3 : (bits .and .i64 (h / 4) 3 == (i : Int) + 1)
                          all_goals (
                            have HF0 := HH.out
                            rw [ha1, ha2, ha3, hfi] at HF0
                            have HF1 : Hid ((step F c.id S q).first = _) := HF0
                            clear HH HF0
                            go_wp2_with fail
                            go_roundw
                            case rel => exact ⟨q + 1, by omega, by go_num, by rw [HN.out]; exact (HN4.out _ (by rw [HF1.out]; rfl)).more (by omega)⟩
                            case measure => simp [Go.RowKit.intOf]; omega)
                        · rw [hfi] at hfv
                          have ha0 : a0 ≠ 0 := by have := hfa a0 hfi; omega
                          obtain rfl : u10 = .int .i64 a0 := hfv
                          have HF1 : Hid ((step F c.id S q).first = some a0) := by
                            have := HH.out
                            rw [hfi] at this
                            exact this
                          clear hfa HH
                          cases ha1 : (bits .and .i64 h 3 == 1) <;> cases ha2 : (bits .and .i64 h 3 == 2) <;> cases ha3 : (bits .and .i64 (h / 4) 3 == (i : Int) + 1)
                          all_goals (
                            go_wp2_with fail
                            all_goals go_roundw
                            all_goals first
                              | exact ⟨q + 1, by omega, by go_num, by rw [HN.out]; exact (HN4.out _ (by rw [HF1.out]; rfl)).more (by omega)⟩
                              | (simp [Go.RowKit.intOf]; omega))
                    · obtain rfl : q = hows.length := by omega
                      have hNN := outer_next F (left th F.hl) cs S0 i c HC.out
                      have hFl : F.hl = hows.length := HF.out.2.1
                      have HN : Hid (outer F (left th F.hl) ((cs.take (i + 1)).map (·.id)) S0 = inner F (left th hows.length) c.id (outer F (left th F.hl) ((cs.take i).map (·.id)) S0)) := by rw [← hFl]; exact hNN
                      clear hNN hFl
                      go_wp2_with fail
                      go_roundw
                      case rel => exact ⟨i + 1, by omega, by go_num, by rw [HN.out]; exact HJ.out.more (by omega)⟩
                      case measure => simp [Go.RowKit.intOf]; omega
                · obtain rfl : i = cs.length := by omega
                  rw [List.take_of_length_le (Nat.le_refl _)] at HV
                  obtain ⟨FB, Fl, Fb, Fv, Fg, Fh, Fa⟩ := HF.out
                  obtain ⟨ga, gc, hgot, hgo⟩ := HQ5.out.st.got
                  have hfault := HQ5.out.fault
                  obtain ⟨S, hS⟩ : ∃ S, S = outer F (left th F.hl) (cs.map (·.id)) S0 := ⟨_, rfl⟩
                  rw [← hS] at hgot hgo hfault HV
                  rw [Fg] at hgot
                  have hgw := (HV.out.below.block _ lg5).trans hgot
                  have cg := cell_of_one hgw
                  obtain ⟨A2, c2, rfl⟩ := own_slice HV.out.own
                  have hfv := HV.out.fv
                  have hlenS := HV.out.ok.len
                  have HIds : Hid (Calls Tryz.prog 11 #[.slice ga S.xs.length gc, .slice A2 S.xs.length c2] wr fun e w' => e = .returned (.bool true) ∧ Below wr.heap.size wr w') :=
                    ids ga A2 gc c2 S.xs HV.out.ok.ints wr (by unfold maxLen; omega) (Row.of (owns_below hgo HV.out.below)) (Row.of HV.out.own)
                  have HBW : Hid (∀ w6, Below wr.heap.size wr w6 → Below W.heap.size W w6) := fun w6 hb => by
                    have b1 := HQ5.out.base
                    have b2 := HV.out.below
                    exact ⟨hb.os.trans (b2.os.trans b1.os), hb.tape.trans (b2.tape.trans b1.tape), hb.output.trans (b2.output.trans b1.output), Nat.le_trans b1.size (Nat.le_trans b2.size hb.size), fun b hl => (hb.block b (by have := b1.size; have := b2.size; omega)).trans ((b2.block b (by have := b1.size; omega)).trans (b1.block b hl))⟩
                  have lgw : w1.heap.size + 1 < wr.heap.size := by have := HV.out.below.size; omega
                  have hfa := HV.out.ok.first
                  rcases (show S.first = none ∨ ∃ a0, S.first = some a0 by cases S.first with | none => exact .inl rfl | some a => exact .inr ⟨a, rfl⟩) with hfi | ⟨a0, hfi⟩
                  · rw [hfi] at hfv hfault
                    obtain rfl : u10 = .int .i64 0 := hfv
                    obtain rfl : ev = .nilIface := hfault
                    clear hgw hgot hgo hfa hfi hS FB Fl Fb Fv Fg Fh Fa
                    go_wp2_with (go_at_call 11; refine HIds.out.mono ?_; rintro e w6 ⟨rfl, hb6⟩)
                    go_ret
                    exact ⟨rfl, HBW.out _ hb6⟩
                  · have ha0 := hfa a0 hfi
                    have ha0' : a0 ≠ 0 := by omega
                    rw [hfi] at hfv hfault
                    obtain rfl : u10 = .int .i64 a0 := hfv
                    obtain ⟨fb, rfl, hF1, hF2⟩ := hfault
                    have HStr : Hid (∀ w6, Below wr.heap.size wr w6 → Calls Tryz.prog 12 #[.iface 83 (.pointer (some ⟨fb, 0, none⟩))] w6 fun e w' => e = .returned (.int .i64 a0) ∧ Below wr.heap.size wr w') := fun w6 hb =>
                      (struck w6 fb a0 (by omega) (errT_below (errT_below HQ5.out.err HV.out.below) hb) hF2 (isFault_below (isFault_below hF1 HV.out.below) hb)).mono fun e w' ⟨h1, h2⟩ =>
                        ⟨h1, h2.os.trans hb.os, h2.tape.trans hb.tape, h2.output.trans hb.output, Nat.le_trans hb.size h2.size, fun b hl => (h2.block b (Nat.lt_of_lt_of_le hl hb.size)).trans (hb.block b hl)⟩
                    clear hgw hgot hgo hfa hfi hS FB Fl Fb Fv Fg Fh Fa hF1 hF2 ha0
                    go_wp2_with (first | (go_at_call 11; refine HIds.out.mono ?_; rintro e w6 ⟨rfl, hb6⟩; have HB6 : Hid (Below wr.heap.size wr w6) := hb6) | (go_at_call 12; refine (HStr.out _ HB6).mono ?_; rintro e w7 ⟨rfl, hb7⟩; have HB7 : Hid (Below wr.heap.size wr w7) := hb7))
                    go_ret
                    refine ⟨?_, HBW.out _ HB7⟩
                    show Ending.returned (.bool (!a0 == 0)) = .returned (.bool true)
                    simp [ha0']
end Go.Proofs.YtihifldpknpjhaaGreatDoor.Wk
