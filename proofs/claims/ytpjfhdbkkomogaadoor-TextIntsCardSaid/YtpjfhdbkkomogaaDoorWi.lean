/- Walks: numbers printed and read. -/
import Derived.Test.YtpjfhdbkkomogaaDoorWk
import Derived.Test.YtpjfhdbkkomogaaDoorMi
import Derived.Test.YtpjfhdbkkomogaaDoorLayI
import Derived.Test.YtpjfhdbkkomogaaDoorLq
import Derived.Lib.LaidTab
import Derived.Shelf.Strconv.Itoa4
import Derived.Shelf.Strconv.ErrVarParseInt
import Derived.RegionTactic
import Derived.BigRegion
import Derived.ChangeAlike
namespace Go.Proofs.YtpjfhdbkkomogaaDoor.Mb
open Go.RowKit Go.Proofs.YtpjfhdbkkomogaaDoorW.PrintWords Go.Proofs.YtpjfhdbkkomogaaDoorW.PrintLast Go.Proofs.YtpjfhdbkkomogaaDoorW.PrintMore Go.Proofs.YtpjfhdbkkomogaaDoor.Px Go.Proofs.YtpjfhdbkkomogaaDoor.Gvn
open Go.Lib (decDigits itoa parseUintM parseUintB parseIntB)
attribute [local go_sem] run_store_float

theorem g1 : Tryd.prog.globalNamed "internal/strconv.uint64pow10" = some 1 := by kernel_rfl
theorem p10_list : (Lib.pow10Tab.map fun z => Value.int .u64 z).toArray = Ex.p10.toArray := by kernel_rfl
theorem tab_of {w : World} (h : Tabs w) : Lib.TabIs Tryd.prog w "internal/strconv.uint64pow10" .u64 Lib.pow10Tab := by
  obtain ⟨e, z, h1⟩ := h.t1
  unfold Lib.TabIs World.var?
  rw [g1, Option.bind_some, h1, p10_list]
theorem below_grow (w : World) (n : Nat) (os : Array Obj) : Below w.heap.size w (Sort.grow (w.drewN n) os) :=
  ⟨rfl, rfl, rfl, by simp [Sort.grow, World.drewN], fun i hi => by simp [Sort.grow, World.drewN, Array.getElem?_append, hi]⟩
theorem format_any (n : Int) (h0 : -9223372036854775808 ≤ n) (h1 : n ≤ 9223372036854775807) (w : World) (hw : Tabs w) :
    Calls Tryd.prog 25 #[.int .i64 n, .int .i64 10] w fun e w' => e = .returned (.string (B (itoa n))) ∧ Below w.heap.size w w' :=
  (Any.strconv_FormatInt_10 Tryd.fi173 n h0 h1 w (tab_of hw)).mono fun e w' ⟨he, k, os, hw'⟩ => ⟨he, by subst hw'; exact below_grow w k os⟩
/-- What the errors' variables hold. -/
structure Errs (w : World) : Prop where
  tabs : Tabs w
  syn : ∃ te pe, w.cell? ⟨3, 0, none⟩ = some (.iface te pe)
  ran : ∃ te pe, w.cell? ⟨4, 0, none⟩ = some (.iface te pe)
theorem cell_lt {w : World} {b o : Nat} {v : Value} (h : w.cell? ⟨b, o, none⟩ = some v) : b < w.heap.size := by
  unfold World.cell? at h
  split at h
  · rename_i hh
    exact (Array.getElem?_eq_some_iff.1 hh).1
  · cases h
theorem Errs.mono {w w' : World} (h : Errs w) (hb : Below w.heap.size w w') : Errs w' := by
  obtain ⟨t, ⟨te, pe, h1⟩, ⟨tr, pr, h2⟩⟩ := h
  exact ⟨t.mono hb, ⟨te, pe, by rw [hb.cell (p := ⟨3, 0, none⟩) (cell_lt h1)]; exact h1⟩, ⟨tr, pr, by rw [hb.cell (p := ⟨4, 0, none⟩) (cell_lt h2)]; exact h2⟩⟩
/-- strconv.ParseInt: what it tells. -/
def ResI (l : List UInt8) (v : Int) (b : Bool) : Prop := (parseIntB 64 l = .ok v ∧ b = true) ∨ (parseIntB 64 l = parseIntB 64 [] ∧ v = 0 ∧ b = false) ∨ (parseIntB 64 l = .range ∧ v = Lib.intSat 64 l ∧ b = false)
def IsErr (b : Bool) (ev : Value) : Prop := (b = true ∧ ev = .nilIface) ∨ (b = false ∧ ∃ te pe, ev = .iface te pe)
theorem parseint_any (l : List UInt8) (hl : l.length ≤ 1000000) (v : Int) (b : Bool) (hr : ResI l v b) (w : World) (hw : Errs w) :
    Calls Tryd.prog 53 #[.string (B l), .int .i64 10, .int .i64 64] w fun e w' => (∃ ev, e = .returned (.tuple #[.int .i64 v, ev]) ∧ IsErr b ev) ∧ Below w.heap.size w w' := by
  obtain ⟨_, ⟨te, pe, h1⟩, ⟨tr, pr, h2⟩⟩ := hw
  rcases hr with ⟨h, rfl⟩ | ⟨h, rfl, rfl⟩ | ⟨h, rfl, rfl⟩
  · refine (Any.strconv_ParseInt_10_at64_ok Tryd.pi174 (B l) (by rw [size_B]; omega) v h w).mono fun e w' ⟨he, hw'⟩ => ⟨⟨_, he, .inl ⟨rfl, rfl⟩⟩, ?_⟩
    rcases hw' with rfl | ⟨t, rfl⟩
    · exact Below.refl _ _
    · exact Lib.bytesWorld_below w _ t
  · refine (Any.strconv_ParseInt_10_at64_syntax Tryd.pi174 (B l) (by rw [size_B]; omega) h (.iface te pe) w h1 (.inr ⟨te, pe, rfl⟩)).mono fun e w' ⟨n, he, _, _, hb⟩ => ⟨⟨_, he, .inr ⟨rfl, _, _, rfl⟩⟩, hb⟩
  · refine (Any.strconv_ParseInt_10_at64_range Tryd.pi174 (B l) (by rw [size_B]; omega) h (.iface tr pr) w h2 (.inr ⟨tr, pr, rfl⟩)).mono fun e w' ⟨n, he, _, _, hb⟩ => ⟨⟨_, he, .inr ⟨rfl, _, _, rfl⟩⟩, hb⟩
theorem is_int (n : Int) : value_Is.f 0 1 n ⟨#[]⟩ 0 = some true := by
  unfold value_Is.f
  have e : (⟨#[]⟩ : ByteArray).toList = [] := toList_B []
  rw [order0, Option.bind_some, if_pos rfl, if_pos e]
  rfl
set_option maxRecDepth 100000 in
theorem print_int (n : Int) (h0 : -9223372036854775808 ≤ n) (h1 : n ≤ 9223372036854775807) (w : World) (hw : Tabs w) :
    Calls Tryd.prog 10 #[Av 1 n ⟨#[]⟩ 0] w fun e w' => e = .returned (.string (B (itoa n))) ∧ Below w.heap.size w w' := by
  have HI := Lib.hid (is_int n)
  have FM := fun (w : World) (hw : Tabs w) => format_any n h0 h1 w hw
  generalize B (itoa n) = t at FM ⊢
  have hT1 : Tabs (w.alloc (.cells #[Value.int IntKind.i64 1, Value.int IntKind.i64 n, Value.string ⟨#[]⟩, Value.float FloatKind.f64 0] 24)) := hw.mono ((Below.refl w.heap.size w).alloc (Nat.le_refl _) _)
  clear h0 h1
  go_enter Tryd.func10, Tryd.ntmps10
  go_wp2_with fail
  go_at_call 24
  refine (value_Is.calls _ _ _ _ _ _ _ HI.out).mono ?_
  rintro e w1 ⟨rfl, hb1⟩
  obtain ⟨hc1, hf1⟩ := bcell hb1
  have hT2 := hT1.mono hb1
  have hB1 : Below w.heap.size w w1 := ((Below.refl w.heap.size w).alloc (Nat.le_refl _) _).trans (hb1.mono (by simp))
  go_wp2_with fail
  go_at_call 25
  refine (FM _ hT2).mono ?_
  rintro e w2 ⟨rfl, hb2⟩
  go_wp2
  go_ret
  exact ⟨rfl, hB1.trans (hb2.mono hB1.size)⟩
theorem no_prefix (l : List UInt8) (c : UInt8) (p : List UInt8) (h : l = [] ∨ ∃ d r, l = d :: r ∧ d ≠ c) : (l.take (c :: p).length == c :: p) = false := by
  rcases h with rfl | ⟨d, r, rfl, hd⟩
  · simp
  · simp [hd]
set_option maxHeartbeats 1000000 in
set_option maxRecDepth 100000 in
/-- text.front, where a number may stand ahead. -/
theorem front_num (l : List UInt8) (hl : l.length ≤ 1000000) (hc : l = [] ∨ ∃ d r, l = d :: r ∧ d ≠ 34 ∧ d ≠ 116 ∧ d ≠ 102 ∧ d ≠ 120) (v : Int) (b : Bool) (hr : ResI (l.take (lead l)) v b) (w : World) (hw : Errs w) :
    Calls Tryd.prog 33 #[.string (B l)] w fun e w' => e = .returned (.tuple #[Av 1 v ⟨#[]⟩ 0, .string (B (l.drop (lead l))), .bool b]) ∧ Below w.heap.size w w' := by
  have np : ∀ (c : UInt8) (p : List UInt8), (l = [] ∨ ∃ d r, l = d :: r ∧ d ≠ c) → strings_HasPrefix.f (B l) (B (c :: p)) = some false := fun c p h => by
    rw [hasPrefix_is, no_prefix l c p h]
  have H1 : Hid (strings_HasPrefix.f (B l) (⟨#[34]⟩ : ByteArray) = some false) := np 34 [] (hc.imp_right fun ⟨d, r, e, h, _⟩ => ⟨d, r, e, h⟩)
  have H2 : Hid (strings_HasPrefix.f (B l) (⟨#[116, 114, 117, 101]⟩ : ByteArray) = some false) := np 116 [114, 117, 101] (hc.imp_right fun ⟨d, r, e, _, h, _⟩ => ⟨d, r, e, h⟩)
  have H3 : Hid (strings_HasPrefix.f (B l) (⟨#[102, 97, 108, 115, 101]⟩ : ByteArray) = some false) := np 102 [97, 108, 115, 101] (hc.imp_right fun ⟨d, r, e, _, _, h, _⟩ => ⟨d, r, e, h⟩)
  have H4 : Hid (strings_HasPrefix.f (B l) (⟨#[120]⟩ : ByteArray) = some false) := np 120 [] (hc.imp_right fun ⟨d, r, e, _, _, _, h⟩ => ⟨d, r, e, h⟩)
  have H5 : Hid (strings_HasPrefix.f (B l) (⟨#[102]⟩ : ByteArray) = some false) := np 102 [] (hc.imp_right fun ⟨d, r, e, _, _, h, _⟩ => ⟨d, r, e, h⟩)
  have PI := fun (w : World) (hw : Errs w) => parseint_any (l.take (lead l)) (by rw [List.length_take]; omega) v b hr w hw
  obtain ⟨m, hm⟩ : ∃ m, m = lead l := ⟨_, rfl⟩
  have hml : m ≤ (B l).size := by rw [hm, size_B]; exact lead_le l
  have hsz : (B l).size ≤ 1000000 := hl
  have HN : Hid (∀ i (h : i < (B l).size), i < m → isNum (B l)[i] = true) := fun i h hi => lead_in l i (by rw [← hm]; exact hi) h
  have HE : Hid (∀ h : m < (B l).size, isNum (B l)[m] = false) := fun h => by subst hm; exact lead_end l h
  have HC : Hid ((B l).extract 0 m = B (l.take (lead l))) := by rw [hm, extract_B]; rfl
  have HD : Hid ((B l).extract m (B l).size = B (l.drop (lead l))) := by rw [hm, tail_B]; rfl
  generalize B (l.drop (lead l)) = rest at HD ⊢
  generalize B (l.take (lead l)) = num at HC PI
  generalize B l = s at *
  have hT1 : Errs (w.alloc zeroCells) := hw.mono (below_zero w)
  have HG : ∀ n, Below (w.alloc zeroCells).heap.size (w.alloc zeroCells) ((w.alloc zeroCells).drewN n) := pw_below_drewN (Below.refl _ _)
  clear np hc hr hl hm hw
  go_enter Tryd.func33, Tryd.ntmps33
  go_wp2_with fail
  go_at_call 44
  refine (strings_HasPrefix.calls _ _ _ _ H1.out).mono ?_
  rintro e w1 ⟨rfl, ⟨n1, rfl⟩⟩
  go_wp2_with fail
  go_at_call 44
  refine (strings_HasPrefix.calls _ _ _ _ H2.out).mono ?_
  rintro e w2 ⟨rfl, ⟨n2, rfl⟩⟩
  go_wp2_with fail
  go_at_call 44
  refine (strings_HasPrefix.calls _ _ _ _ H3.out).mono ?_
  rintro e w3 ⟨rfl, ⟨n3, rfl⟩⟩
  go_wp2_with fail
  go_at_call 44
  refine (strings_HasPrefix.calls _ _ _ _ H4.out).mono ?_
  rintro e w4 ⟨rfl, ⟨n4, rfl⟩⟩
  go_wp2_with fail
  go_at_call 44
  refine (strings_HasPrefix.calls _ _ _ _ H5.out).mono ?_
  rintro e w5 ⟨rfl, ⟨n5, rfl⟩⟩
  clear H1 H2 H3 H4 H5
  go_wp2_with fail
  go_loop [12] (fun i => ∃ k : Nat, k ≤ m ∧ i = .int .i64 k) (fun i => m - (intOf i).toNat)
  case atStart => exact ⟨0, Nat.zero_le _, rfl⟩
  case round =>
    obtain ⟨k, hk, rfl⟩ := hrel
    by_cases hlt : k < s.size
    · by_cases hkm : k < m
      · have hn := (isNum_iff _).1 (HN.out k hlt hkm)
        by_cases h45 : (s[k].toNat : Int) = 45
        · clear hn
          go_wp2
          go_round
          case rel => exact ⟨k + 1, by omega, by go_num⟩
          case measure => simp [intOf]; omega
        · have e1 : ((s[k].toNat : Int) == 45) = false := beq_eq_false_iff_ne.mpr h45
          have e2 : (48 ≤ (s[k].toNat : Int)) = True := eq_true (by omega)
          have e3 : ((s[k].toNat : Int) ≤ 57) = True := eq_true (by omega)
          clear hn h45
          go_wp2
          go_round
          case rel => exact ⟨k + 1, by omega, by go_num⟩
          case measure => simp [intOf]; omega
      · obtain rfl : k = m := by omega
        have hn : ¬ (s[k].toNat = 45 ∨ (48 ≤ s[k].toNat ∧ s[k].toNat ≤ 57)) := fun h => by
          have h' := (isNum_iff _).2 h
          rw [HE.out hlt] at h'
          cases h'
        have e1 : ((s[k].toNat : Int) == 45) = false := beq_eq_false_iff_ne.mpr (by omega)
        by_cases h48 : 48 ≤ (s[k].toNat : Int)
        · have e2 : (48 ≤ (s[k].toNat : Int)) = True := eq_true h48
          have e3 : ((s[k].toNat : Int) ≤ 57) = False := eq_false (by omega)
          clear hn h48 hkm
          go_wp2_with fail
          rw [HC.out]
          go_at_call 53
          refine (PI _ (hT1.mono (HG _))).mono ?_
          rintro e w6 ⟨⟨ev, rfl, he⟩, hb6⟩
          go_wp2_with fail
          obtain ⟨hc6, hf6⟩ := bcell hb6
          have hz6 := hb6.size
          simp at hz6
          have hz6a : w.heap.size < w6.heap.size := by omega
          clear hz6
          have g0 := hc6 w.heap.size 0 (by simp)
          have g1 := hc6 w.heap.size 1 (by simp)
          have g2 := hc6 w.heap.size 2 (by simp)
          have g3 := hc6 w.heap.size 3 (by simp)
          have f0 := hf6 w.heap.size 0 (by simp)
          have f1 := hf6 w.heap.size 1 (by simp)
          have f2 := hf6 w.heap.size 2 (by simp)
          have f3 := hf6 w.heap.size 3 (by simp)
          simp [go_sem] at g0 g1 g2 g3 f0 f1 f2 f3
          clear hc6 hf6
          rcases he with ⟨rfl, rfl⟩ | ⟨rfl, te, pe, rfl⟩
          all_goals
            go_region
            go_wp2
            refine bodyPost_ret (v := .tuple #[Av 1 v ⟨#[]⟩ 0, .string rest, .bool _]) ?_ rfl ⟨rfl, ?_⟩
            · rw [← HD.out]
              simp [results, Tryd.results33, go_sem, g0, g1, g2, g3]
            · have hB6 : Below w.heap.size w w6 := ((below_zero w).trans (pw_below_drewN (Below.refl _ _) _)).trans (hb6.mono (by simp))
              repeat (first | exact hB6 | apply below_drew1 | refine below_set ?_ (Nat.le_refl _))
        · have e2 : (48 ≤ (s[k].toNat : Int)) = False := eq_false h48
          clear hn h48 hkm
          go_wp2_with fail
          rw [HC.out]
          go_at_call 53
          refine (PI _ (hT1.mono (HG _))).mono ?_
          rintro e w6 ⟨⟨ev, rfl, he⟩, hb6⟩
          go_wp2_with fail
          obtain ⟨hc6, hf6⟩ := bcell hb6
          have hz6 := hb6.size
          simp at hz6
          have hz6a : w.heap.size < w6.heap.size := by omega
          clear hz6
          have g0 := hc6 w.heap.size 0 (by simp)
          have g1 := hc6 w.heap.size 1 (by simp)
          have g2 := hc6 w.heap.size 2 (by simp)
          have g3 := hc6 w.heap.size 3 (by simp)
          have f0 := hf6 w.heap.size 0 (by simp)
          have f1 := hf6 w.heap.size 1 (by simp)
          have f2 := hf6 w.heap.size 2 (by simp)
          have f3 := hf6 w.heap.size 3 (by simp)
          simp [go_sem] at g0 g1 g2 g3 f0 f1 f2 f3
          clear hc6 hf6
          rcases he with ⟨rfl, rfl⟩ | ⟨rfl, te, pe, rfl⟩
          all_goals
            go_region
            go_wp2
            refine bodyPost_ret (v := .tuple #[Av 1 v ⟨#[]⟩ 0, .string rest, .bool _]) ?_ rfl ⟨rfl, ?_⟩
            · rw [← HD.out]
              simp [results, Tryd.results33, go_sem, g0, g1, g2, g3]
            · have hB6 : Below w.heap.size w w6 := ((below_zero w).trans (pw_below_drewN (Below.refl _ _) _)).trans (hb6.mono (by simp))
              repeat (first | exact hB6 | apply below_drew1 | refine below_set ?_ (Nat.le_refl _))
    · obtain rfl : k = m := by omega
      go_wp2_with fail
      rw [HC.out]
      go_at_call 53
      refine (PI _ (hT1.mono (HG _))).mono ?_
      rintro e w6 ⟨⟨ev, rfl, he⟩, hb6⟩
      go_wp2_with fail
      obtain ⟨hc6, hf6⟩ := bcell hb6
      have hz6 := hb6.size
      simp at hz6
      have hz6a : w.heap.size < w6.heap.size := by omega
      clear hz6
      have g0 := hc6 w.heap.size 0 (by simp)
      have g1 := hc6 w.heap.size 1 (by simp)
      have g2 := hc6 w.heap.size 2 (by simp)
      have g3 := hc6 w.heap.size 3 (by simp)
      have f0 := hf6 w.heap.size 0 (by simp)
      have f1 := hf6 w.heap.size 1 (by simp)
      have f2 := hf6 w.heap.size 2 (by simp)
      have f3 := hf6 w.heap.size 3 (by simp)
      simp [go_sem] at g0 g1 g2 g3 f0 f1 f2 f3
      clear hc6 hf6
      rcases he with ⟨rfl, rfl⟩ | ⟨rfl, te, pe, rfl⟩
      all_goals
        go_region
        go_wp2
        refine bodyPost_ret (v := .tuple #[Av 1 v ⟨#[]⟩ 0, .string rest, .bool _]) ?_ rfl ⟨rfl, ?_⟩
        · rw [← HD.out]
          simp [results, Tryd.results33, go_sem, g0, g1, g2, g3]
        · have hB6 : Below w.heap.size w w6 := ((below_zero w).trans (pw_below_drewN (Below.refl _ _) _)).trans (hb6.mono (by simp))
          repeat (first | exact hB6 | apply below_drew1 | refine below_set ?_ (Nat.le_refl _))
end Go.Proofs.YtpjfhdbkkomogaaDoor.Mb
