/- Texts of this claim, one behind the other. -/
import Derived.Test.YtpjfhdbkkomogaaDoorB4
import Derived.Test.YtpjfhdbkkomogaaDoorB0
/- Rows of values: told, and read back. -/
namespace Go.Proofs.YtpjfhdbkkomogaaDoor.Mb
open Go.RowKit Go.Proofs.YtpjfhdbkkomogaaDoorW.PrintWords Go.Proofs.YtpjfhdbkkomogaaDoorW.PrintLast Go.Proofs.YtpjfhdbkkomogaaDoorW.PrintMore Go.Proofs.YtpjfhdbkkomogaaDoor.Px Go.Proofs.YtpjfhdbkkomogaaDoor.Gvn
open Go.Lib (itoa)

theorem cutPrefix_is (l p : List UInt8) : strings_CutPrefix.f (B (p ++ l)) (B p) = some (B l, true) := by
  have h := hasPrefix_is (p ++ l) p
  unfold strings_HasPrefix.f at h
  have h2 : stringslite_HasPrefix.f (B (p ++ l)) (B p) = some ((p ++ l).take p.length == p) := by
    cases hx : stringslite_HasPrefix.f (B (p ++ l)) (B p) with
    | none => rw [hx] at h; cases h
    | some v => rw [hx] at h; exact h
  rw [List.take_left, beq_self_eq_true] at h2
  unfold strings_CutPrefix.f stringslite_CutPrefix.f
  have e : ((B p).size : Int).toNat = p.length := by rw [size_B]; omega
  rw [h2, Option.bind_some, if_pos rfl, if_pos (by omega), if_pos (by rw [size_B, size_B, List.length_append]; omega), Option.bind_some, e, tail_B, List.drop_left]
theorem joinL_is (ts : List (List UInt8)) : joinL (ts.map B) (B [44, 32]) = Lib.join ts [44, 32] := by
  unfold joinL
  rw [List.map_map, data_B]
  congr 1
  conv => rhs; rw [← List.map_id ts]
  exact List.map_congr_left fun t _ => data_B t
theorem rowT_is (ts : List (List UInt8)) : rowT ts = 40 :: (Lib.join ts [44, 32] ++ [41]) := by
  cases ts with
  | nil => rfl
  | cons t ts =>
    rw [Lib.join_cons]
    simp only [rowT, tailT, Lib.joinTail, List.flatMap, List.append_assoc]
    rfl
theorem rowT_short : ∀ ts : List (List UInt8), (∀ t ∈ ts, t.length ≤ 300) → (rowT ts).length ≤ 302 * ts.length + 2
  | [], _ => by decide
  | t :: ts, h => by
    have h1 := tail_short ts fun u hu => h u (List.mem_cons_of_mem _ hu)
    have h2 := h t (List.mem_cons_self ..)
    rw [rowT, List.length_cons, List.length_append, List.length_cons]
    omega
theorem Vt.long {k i : Int} {s : ByteArray} {f : Nat} {t : List UInt8} (h : Vt k i s f t) : 1 ≤ t.length := by
  cases h with
  | int n h0 h1 =>
    cases hx : itoa i with
    | nil =>
      exfalso
      unfold Go.Lib.itoa at hx
      split at hx
      · cases hx
      · exact (dec_digits _).2 hx
    | cons c r => rw [List.length_cons]; omega
  | yes => decide
  | no => decide
  | str s h => unfold quoteL; rw [List.length_append, List.length_cons]; omega
  | bytes s h => rw [List.length_cons]; omega
  | float f h => rw [List.length_cons]; omega
/-- A row of values and their texts. -/
structure Rt (l : List S24) (ts : List (List UInt8)) : Prop where
  len : ts.length = l.length
  few : l.length ≤ 30
  at_ : ∀ (i : Nat) (h : i < l.length) (h' : i < ts.length), Vt l[i].f0 l[i].f1 l[i].f2 l[i].f3 ts[i]
theorem Rt.short {l : List S24} {ts : List (List UInt8)} (h : Rt l ts) : ∀ t ∈ ts, t.length ≤ 300 := by
  intro t ht
  obtain ⟨i, hi, rfl⟩ := List.mem_iff_getElem.1 ht
  exact (h.at_ i (by rw [← h.len]; exact hi) hi).short
theorem Rt.size {l : List S24} {ts : List (List UInt8)} (h : Rt l ts) : (rowT ts).length ≤ 9062 := by
  have := rowT_short ts h.short
  have := h.len
  have := h.few
  omega
theorem rd_is (l : List S24) (i : Nat) (h : i < l.length) : rd_T24 l (i : Int) = l[i] := by
  unfold rd_T24
  rw [List.getD_eq_getElem?_getD, show (i : Int).toNat = i by omega, List.getElem?_eq_getElem h]
  rfl
theorem wrap_succ (i : Nat) (h : i ≤ 1000000) : wrap64 ((i : Int) + 1) = ((i + 1 : Nat) : Int) := by unfold wrap64; omega
theorem row_end (ts : List (List UInt8)) (h1 : ts.length ≤ 30) (h2 : (rowT ts).length ≤ 9062) : (strings_Join.f (ts.map B) (⟨#[44, 32]⟩ : ByteArray)).bind (fun t135 => if 1 + t135.size ≤ 9223372036854775807 then (if ((⟨#[40]⟩ : ByteArray) ++ t135).size + 1 ≤ 9223372036854775807 then (some (((⟨#[40]⟩ : ByteArray) ++ t135) ++ (⟨#[41]⟩ : ByteArray))) else (none)) else (none)) = some (B (rowT ts)) := by
  have e : rowT ts = [40] ++ Lib.join ts [44, 32] ++ [41] := by rw [rowT_is]; rfl
  have hz : (Lib.join ts [44, 32]).length + 2 = (rowT ts).length := by rw [e]; simp only [List.length_append, List.length_cons, List.length_nil]; omega
  have hj : strings_Join.f (ts.map B) (⟨#[44, 32]⟩ : ByteArray) = some (B (Lib.join ts [44, 32])) := by
    have := joinL_is ts
    unfold strings_Join.f joinF
    rw [show (⟨#[44, 32]⟩ : ByteArray) = B [44, 32] from rfl, this, if_pos ⟨by rw [List.length_map]; omega, by omega⟩]
  have ha : (⟨#[40]⟩ : ByteArray) ++ B (Lib.join ts [44, 32]) = B ([40] ++ Lib.join ts [44, 32]) := append_B [40] _
  rw [hj, Option.bind_some, ha, if_pos (by rw [size_B]; omega), if_pos (by rw [size_B, List.length_append, List.length_cons, List.length_nil]; omega)]
  rw [e]
  exact congrArg some (append_B ([40] ++ Lib.join ts [44, 32]) [41])
theorem row_loop {l : List S24} {ts : List (List UInt8)} (h : Rt l ts) (d : Nat) : ∀ (n i : Nat), i + d = l.length → d + 1 ≤ n →
    text_Row.l0 n ((ts.take i).map B) l (l.length : Int) (i : Int) = some (B (rowT ts)) := by
  have hf := h.few
  have hl := h.len
  induction d with
  | zero =>
    intro n i hi hn
    obtain ⟨n, rfl⟩ : ∃ m, n = m + 1 := ⟨n - 1, by omega⟩
    rw [text_Row.l0, if_neg (by omega), List.take_of_length_le (by omega)]
    exact row_end ts (by omega) h.size
  | succ d ih =>
    intro n i hi hn
    obtain ⟨n, rfl⟩ : ∃ m, n = m + 1 := ⟨n - 1, by omega⟩
    have hlt : i < l.length := by omega
    have hlt' : i < ts.length := by omega
    have hp : text_Print.f l[i].f0 l[i].f1 l[i].f2 l[i].f3 = some (B ts[i]) := (h.at_ i hlt hlt').printF
    have ht : (ts.take i).map B ++ [B ts[i]] = (ts.take (i + 1)).map B := by
      rw [List.take_succ_eq_append_getElem hlt', List.map_append]
      rfl
    rw [text_Row.l0, if_pos (by omega), if_pos (by omega), if_pos (by omega), rd_is l i hlt, hp, Option.bind_some, if_pos (by rw [List.length_map, List.length_take]; omega), wrap_succ i (by omega), ht]
    exact ih n (i + 1) (by omega) (by omega)
theorem row_is {l : List S24} {ts : List (List UInt8)} (h : Rt l ts) (n : Nat) (hn : l.length + 1 ≤ n) : text_Row.f n l = some (B (rowT ts)) :=
  row_loop h l.length n 0 (by omega) hn
theorem read_end {l : List S24} {ts : List (List UInt8)} (h : Rt l ts) (n : Nat) (hn : l.length + 3 ≤ n) :
    text_Read.l0 n (B (rowT ts)) (B [41]) true l = some (l, 0) := by
  obtain ⟨n, rfl⟩ : ∃ m, n = m + 2 := ⟨n - 2, by omega⟩
  have e : ((B [41]).toList != ([41] : List UInt8)) = false := by rw [toList_B]; rfl
  rw [text_Read.l0, if_pos rfl, e, text_Read.j1, if_neg (by decide), if_pos rfl, row_is h n (by omega), Option.bind_some, if_pos rfl]
theorem read_one {l : List S24} {ts : List (List UInt8)} (h : Rt l ts) (i : Nat) (hlt : i < l.length) (hlt' : i < ts.length) :
    text_front.f (B (ts[i] ++ tailT (ts.drop (i + 1)))) = some (l[i].f0, l[i].f1, l[i].f2, l[i].f3, B (tailT (ts.drop (i + 1))), true) ∧ (tailT (ts.drop (i + 1))).length ≤ 9062 := by
  have hf := h.few
  have hl := h.len
  have h1 := tail_short (ts.drop (i + 1)) fun t ht => h.short t (List.mem_of_mem_drop ht)
  have h2 := (h.at_ i hlt hlt').short
  rw [List.length_drop] at h1
  exact ⟨(h.at_ i hlt hlt').frontF _ (behind_tail _ (by omega)) (by omega), by omega⟩
theorem read_tail {l : List S24} {ts : List (List UInt8)} (h : Rt l ts) (d : Nat) : ∀ (n i : Nat), 1 ≤ i → i + d = l.length → 2 * d + l.length + 3 ≤ n →
    text_Read.l0 n (B (rowT ts)) (B (tailT (ts.drop i))) true (l.take i) = some (l, 0) := by
  have hf := h.few
  have hl := h.len
  induction d with
  | zero =>
    intro n i h1 hi hn
    rw [List.drop_eq_nil_of_le (by omega), List.take_of_length_le (by omega)]
    exact read_end h n (by omega)
  | succ d ih =>
    intro n i h1 hi hn
    obtain ⟨n, rfl⟩ : ∃ m, n = m + 2 := ⟨n - 2, by omega⟩
    have hlt : i < l.length := by omega
    have hlt' : i < ts.length := by omega
    obtain ⟨hfr, hz⟩ := read_one h i hlt hlt'
    have hcut := cutPrefix_is (ts[i] ++ tailT (ts.drop (i + 1))) [44, 32]
    have e : ((B (tailT (ts.drop i))).toList != ([41] : List UInt8)) = true := by
      rw [toList_B, List.drop_eq_getElem_cons hlt', tailT_cons, bne_iff_ne]
      intro hh
      have := congrArg List.head? hh
      simp at this
    have ht : l.take i ++ [(⟨l[i].f0, l[i].f1, l[i].f2, l[i].f3⟩ : S24)] = l.take (i + 1) := by
      rw [List.take_succ_eq_append_getElem hlt]
    rw [text_Read.l0, if_pos rfl, e, text_Read.j1, if_pos rfl, if_pos (by rw [List.length_take]; omega), List.drop_eq_getElem_cons hlt', tailT_cons]
    have hcut' : strings_CutPrefix.f (B (44 :: 32 :: (ts[i] ++ tailT (ts.drop (i + 1))))) (⟨#[44, 32]⟩ : ByteArray) = some (B (ts[i] ++ tailT (ts.drop (i + 1))), true) := hcut
    rw [hcut', Option.bind_some]
    dsimp only
    rw [hfr, Option.bind_some, if_pos (by rw [List.length_take]; omega), Option.bind_some]
    dsimp only
    rw [if_pos rfl, ht]
    exact ih n (i + 1) (by omega) (by omega) (by omega)
theorem read_is {l : List S24} {ts : List (List UInt8)} (h : Rt l ts) (n : Nat) (hn : 3 * l.length + 5 ≤ n) : text_Read.f n (B (rowT ts)) = some (l, 0) := by
  have hf := h.few
  have hl := h.len
  unfold text_Read.f
  cases hts : ts with
  | nil =>
    have hcut := cutPrefix_is [41] [40]
    have hcut' : strings_CutPrefix.f (B (rowT [])) (⟨#[40]⟩ : ByteArray) = some (B [41], true) := hcut
    rw [hcut', Option.bind_some]
    have h0 : l = [] := List.eq_nil_of_length_eq_zero (by rw [← hl, hts]; rfl)
    subst h0
    have := read_end h n (by omega)
    rw [hts] at this
    exact this
  | cons t tr =>
    rw [← hts]
    have hlt' : 0 < ts.length := by rw [hts, List.length_cons]; omega
    have hlt : 0 < l.length := by omega
    obtain ⟨hfr, hz⟩ := read_one h 0 hlt hlt'
    have e0 : rowT ts = ([40] : List UInt8) ++ (ts[0] ++ tailT (ts.drop 1)) := by simp [hts, rowT]
    have hcut := cutPrefix_is (ts[0] ++ tailT (ts.drop 1)) [40]
    rw [← e0] at hcut
    have hcut' : strings_CutPrefix.f (B (rowT ts)) (⟨#[40]⟩ : ByteArray) = some (B (ts[0] ++ tailT (ts.drop 1)), true) := hcut
    rw [hcut', Option.bind_some]
    dsimp only
    obtain ⟨n, rfl⟩ : ∃ m, n = m + 2 := ⟨n - 2, by omega⟩
    have hq := (h.at_ 0 hlt hlt')
    have e : ((B (ts[0] ++ tailT (ts.drop 1))).toList != ([41] : List UInt8)) = true := by
      rw [toList_B, bne_iff_ne]
      intro hh
      have hlen := congrArg List.length hh
      rw [List.length_append, List.length_cons, List.length_nil] at hlen
      have hT : 1 ≤ (tailT (ts.drop 1)).length := by unfold tailT; rw [List.length_append, List.length_cons]; omega
      have h1 := hq.long
      omega
    have ht : ([] : List S24) ++ [(⟨l[0].f0, l[0].f1, l[0].f2, l[0].f3⟩ : S24)] = l.take 1 := by
      rw [List.take_succ_eq_append_getElem hlt]
      rfl
    rw [text_Read.l0, if_pos rfl, e, text_Read.j1, if_pos rfl, if_neg (by simp), hfr, Option.bind_some, if_pos (by simp), Option.bind_some]
    dsimp only
    rw [if_pos rfl, ht]
    exact read_tail h (l.length - 1) n 1 (by omega) (by omega) (by omega)
end Go.Proofs.YtpjfhdbkkomogaaDoor.Mb
/- Functions of this program as Lean functions, and that the calls answer as they do: printed by this session's printmore.py. -/
namespace Go.Proofs.YtpjfhdbkkomogaaDoor.Px
noncomputable section
open Go.RowKit Go.Proofs.YtpjfhdbkkomogaaDoor.Gvn Go.Proofs.YtpjfhdbkkomogaaDoorW.PrintWords Go.Proofs.YtpjfhdbkkomogaaDoorW.PrintLast Go.Proofs.YtpjfhdbkkomogaaDoorW.PrintMore
attribute [local go_sem] run_store_float max2_int min2_int max_two min_two max_three min_three max_four min_four   -- for this text's walks alone
set_option linter.unusedVariables false
set_option linter.unusedSimpArgs false

/-! ### text_Parse: function 14 -/
def text_Parse.f (a0 : ByteArray) : Option (Int × Int × ByteArray × Nat × Int) := Mb.parseF a0
theorem text_Parse.calls (a0 : ByteArray) (r1 : Int) (r2 : Int) (r3 : ByteArray) (r4 : Nat) (r5 : Int) (w : World) (hT : Mb.Errs w) (h : text_Parse.f a0 = some (r1, r2, r3, r4, r5)) :
    Calls Tryd.prog 14 #[.string a0] w fun e w' => e = .returned (.tuple #[.agg #[.int .i64 r1, .int .i64 r2, .string r3, .float .f64 r4], .int .i64 r5]) ∧ Below w.heap.size w w' := Mb.parseF_calls a0 r1 r2 r3 r4 r5 w hT h
end
end Go.Proofs.YtpjfhdbkkomogaaDoor.Px
/- The law's known(): by a walk. -/
namespace Go.Proofs.YtpjfhdbkkomogaaDoor.Mb
open Go.RowKit Go.Proofs.YtpjfhdbkkomogaaDoorW.PrintWords Go.Proofs.YtpjfhdbkkomogaaDoorW.PrintLast Go.Proofs.YtpjfhdbkkomogaaDoorW.PrintMore Go.Proofs.YtpjfhdbkkomogaaDoor.Px Go.Proofs.YtpjfhdbkkomogaaDoor.Gvn
open Go.Lib (itoa)
attribute [local go_sem] run_store_float

theorem itoa_small (n : Nat) (h : n < 10) : itoa (n : Int) = [(48 + n).toUInt8] := by unfold itoa; rw [if_neg (by omega)]; exact dec_small n h
theorem one_text : Vt 5 0 ⟨#[]⟩ 4607182418800017408 [102, 51, 102, 102, 48, 48, 48, 48, 48, 48, 48, 48, 48, 48, 48, 48, 48] := .float 4607182418800017408 (by decide)
theorem known_one (w : World) (hw : Errs w) : Calls Tryd.prog 14 #[.string ⟨#[102, 51, 102, 102, 48, 48, 48, 48, 48, 48, 48, 48, 48, 48, 48, 48, 48]⟩] w fun e w' => e = .returned (.tuple #[Av 5 0 ⟨#[]⟩ 4607182418800017408, .int .i64 0]) ∧ Below w.heap.size w w' :=
  one_text.parse w hw
theorem known_print (w : World) (hw : Errs w) : Calls Tryd.prog 10 #[Av 5 0 ⟨#[]⟩ 4607182418800017408] w fun e w' => e = .returned (.string ⟨#[102, 51, 102, 102, 48, 48, 48, 48, 48, 48, 48, 48, 48, 48, 48, 48, 48]⟩) ∧ Below w.heap.size w w' :=
  one_text.print w hw.tabs
theorem known_five (w : World) (hw : Errs w) : Calls Tryd.prog 14 #[.string ⟨#[48, 53]⟩] w fun e w' => e = .returned (.tuple #[Av 0 0 ⟨#[]⟩ 0, .int .i64 30]) ∧ Below w.heap.size w w' := by
  have h5 : itoa (5 : Nat) = [53] := itoa_small 5 (by decide)
  have := bad_nought (5 : Nat) (by decide) (by decide) w hw
  rw [append_B, h5] at this
  exact this
def row3 : List S24 := [⟨1, 1, ⟨#[]⟩, 0⟩, ⟨3, 0, ⟨#[97, 44, 32, 98]⟩, 0⟩, ⟨2, 1, ⟨#[]⟩, 0⟩]
def row3T : List (List UInt8) := [[49], [34, 97, 44, 32, 98, 34], [116, 114, 117, 101]]
theorem row3_rt : Rt row3 row3T := by
  refine ⟨rfl, by decide, fun i h h' => ?_⟩
  have h1 : itoa (1 : Nat) = [49] := itoa_small 1 (by decide)
  match i, h, h' with
  | 0, _, _ =>
    have := Vt.int (1 : Nat) (by decide) (by decide)
    rw [h1] at this
    exact this
  | 1, _, _ => exact Vt.str ⟨#[97, 44, 32, 98]⟩ (by decide)
  | 2, _, _ => exact Vt.yes
  | n + 3, h, _ => exact absurd h (by simp [row3])
theorem known_read (w : World) (hw : Errs w) : Calls Tryd.prog 16 #[.string ⟨#[40, 49, 44, 32, 34, 97, 44, 32, 98, 34, 44, 32, 116, 114, 117, 101, 41]⟩] w fun e w' => (∃ A c, e = .returned (.tuple #[.slice A 3 c, .int .i64 0])) ∧ Below w.heap.size w w' := by
  have h := text_Read.calls 14 (B (rowT row3T)) row3 0 w hw (read_is row3_rt 14 (by decide))
  refine Calls.mono ?_ fun e w' hq => hq
  refine Calls.mono h ?_
  rintro e w' ⟨v, he, hR, hb⟩
  obtain ⟨A, c, rfl⟩ : ∃ A c, v = .slice A 3 c := by
    have := Kd.R_slice hR
    exact this
  exact ⟨⟨A, c, he⟩, hb⟩
theorem known_row (w : World) (hw : Errs w) : Calls Tryd.prog 12 #[.slice none 0 0] w fun e w' => e = .returned (.string ⟨#[40, 41]⟩) ∧ Below w.heap.size w w' :=
  text_Row.calls 1 none 0 [] _ w (row_nil w none) (by decide) hw (row_is (l := []) (ts := []) ⟨rfl, by decide, fun i h => absurd h (by simp)⟩ 1 (by decide))
theorem run_eq_f1 (w : World) : Sem.run Tryd.prog (binOp BinOp.eql 22 (Value.float FloatKind.f64 4607182418800017408) (Value.float FloatKind.f64 4607182418800017408)) w = .ok (.bool true) w := by kernel_rfl
attribute [local go_sem] run_eq_f1
set_option maxHeartbeats 4000000 in
set_option maxRecDepth 100000 in
theorem known_any (w : World) (hw : Errs w) : Calls Tryd.prog 8 #[] w fun e w' => e = .returned (.bool true) ∧ Below w.heap.size w w' := by
  go_enter Tryd.func8, Tryd.ntmps8
  go_wp2_with fail
  go_at_call 14
  refine (known_one _ hw).mono ?_
  rintro e w1 ⟨rfl, hb1⟩
  obtain ⟨c1, hc1⟩ : ∃ c1, c1 = Obj.cells #[.int .i64 5, .int .i64 0, .string ⟨#[]⟩, .float .f64 4607182418800017408] 24 := ⟨_, rfl⟩
  have hA1 : Errs (w1.alloc c1) := (hw.mono hb1).mono ((Below.refl w1.heap.size w1).alloc (Nat.le_refl _) _)
  go_wp2_with fail
  rw [← hc1]
  go_at_call 14
  refine (known_five _ hA1).mono ?_
  rintro e w2 ⟨rfl, hb2⟩
  have hz2 := hb2.size
  have g0 := (bcell hb2).1 w1.heap.size 0 (by simp)
  have g1 := (bcell hb2).1 w1.heap.size 1 (by simp)
  have g2 := (bcell hb2).1 w1.heap.size 2 (by simp)
  have g3 := (bcell hb2).1 w1.heap.size 3 (by simp)
  rw [hc1] at g0 g1 g2 g3
  simp [go_sem] at g0 g1 g2 g3 hz2
  have hA2 : Errs (w2.alloc zeroCells) := (hA1.mono hb2).mono (below_zero w2)
  go_wp2_with fail
  go_at_call 16
  refine (known_read _ hA2).mono ?_
  rintro e w3 ⟨⟨A, c, rfl⟩, hb3⟩
  have hA3 := hA2.mono hb3
  have hb23 : Below w2.heap.size w2 w3 := (below_zero w2).trans (hb3.mono (by simp))
  have k0 := (bcell hb23).1 w1.heap.size 0 (by omega)
  have k1 := (bcell hb23).1 w1.heap.size 1 (by omega)
  have k2 := (bcell hb23).1 w1.heap.size 2 (by omega)
  have k3 := (bcell hb23).1 w1.heap.size 3 (by omega)
  rw [g0] at k0
  rw [g1] at k1
  rw [g2] at k2
  rw [g3] at k3
  have hB3 : Below w.heap.size w w3 := by
    have h12 : Below w.heap.size w w2 := (hb1.trans (((Below.refl w1.heap.size w1).alloc (Nat.le_refl _) c1).mono hb1.size)).trans (hb2.mono (by have := hb1.size; simp; omega))
    exact h12.trans (hb23.mono h12.size)
  clear g0 g1 g2 g3 hz2 hb23 hb3 hb2 hb1 hc1 hA1 hA2
  go_wp2_with fail
  go_at_call 10
  refine (known_print _ hA3).mono ?_
  rintro e w4 ⟨rfl, hb4⟩
  go_wp2_with fail
  go_at_call 12
  refine (known_row _ (hA3.mono hb4)).mono ?_
  rintro e w5 ⟨rfl, hb5⟩
  go_wp2
  go_ret
  have h4 : Below w.heap.size w w4 := hB3.trans (hb4.mono hB3.size)
  exact ⟨rfl, h4.trans (hb5.mono h4.size)⟩
def knownF : Option Bool := some true
theorem knownF_calls (r : Bool) (w : World) (hT : Errs w) (h : knownF = some r) :
    Calls Tryd.prog 8 #[] w fun e w' => e = .returned (.bool r) ∧ Below w.heap.size w w' := by
  cases h
  exact known_any w hT
end Go.Proofs.YtpjfhdbkkomogaaDoor.Mb
/- Functions of this program as Lean functions, and that the calls answer as they do: printed by this session's printmore.py. -/
namespace Go.Proofs.YtpjfhdbkkomogaaDoor.Px
noncomputable section
open Go.RowKit Go.Proofs.YtpjfhdbkkomogaaDoor.Gvn Go.Proofs.YtpjfhdbkkomogaaDoorW.PrintWords Go.Proofs.YtpjfhdbkkomogaaDoorW.PrintLast Go.Proofs.YtpjfhdbkkomogaaDoorW.PrintMore
attribute [local go_sem] run_store_float max2_int min2_int max_two min_two max_three min_three max_four min_four   -- for this text's walks alone
set_option linter.unusedVariables false
set_option linter.unusedSimpArgs false

/-! ### rialtolaw4_known: function 8 -/
def rialtolaw4_known.f : Option (Bool) := Mb.knownF
theorem rialtolaw4_known.calls (r : Bool) (w : World) (hT : Mb.Errs w) (h : rialtolaw4_known.f = some r) :
    Calls Tryd.prog 8 #[] w fun e w' => e = .returned (.bool r) ∧ Below w.heap.size w w' := Mb.knownF_calls r w hT h

end
end Go.Proofs.YtpjfhdbkkomogaaDoor.Px
