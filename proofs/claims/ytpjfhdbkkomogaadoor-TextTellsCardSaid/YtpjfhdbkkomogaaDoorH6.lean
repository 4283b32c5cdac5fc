/- Texts of this claim, one behind the other. -/
import Derived.Test.YtpjfhdbkkomogaaDoorH5
import Derived.Deep.Slices
import Derived.Deep.Fields
import Derived.ChangeSame
import Derived.Lib.SmallJoins
import Derived.Test.YtpjfhdbkkomogaaDoorH1
namespace Go.Proofs.YtpjfhdbkkomogaaDoor.Mb
open Go.RowKit Go.Proofs.YtpjfhdbkkomogaaDoorW.PrintWords Go.Proofs.YtpjfhdbkkomogaaDoorW.PrintLast Go.Proofs.YtpjfhdbkkomogaaDoorW.PrintMore Go.Proofs.YtpjfhdbkkomogaaDoor.Px Go.Proofs.YtpjfhdbkkomogaaDoor.Gvn
open Go.Lib (itoa)
theorem is_val {k i : Int} {s : ByteArray} {f : Nat} {b : Bool} (hf : f < 18446744073709551616) (h : value_Is.f 1 k i s f = some b) (n : Nat) (hn : 1 ≤ n) : rialtoref2_Is.f n k i s f = some b := by
  obtain ⟨n, rfl⟩ : ∃ m, n = 1 + m := ⟨n - 1, by omega⟩
  refine grow_le (g := fun n => rialtoref2_Is.f n k i s f) (fun q => rialtoref2_Is.mono _ _ _ _ q) n ?_
  show rialtoref2_Is.f 1 k i s f = some b
  rw [ref_is k i s f hf, h]
def txt (v : S24) : List UInt8 := if value_Is.f 1 v.f0 v.f1 v.f2 v.f3 = some true then printL v.f0 v.f1 v.f2 v.f3 else [63]
theorem txt_print {v : S24} (h : In v) : text_Print.f v.f0 v.f1 v.f2 v.f3 = some (B (txt v)) := by
  have h' : -9223372036854775808 ≤ v.f1 ∧ v.f1 ≤ 9223372036854775807 ∧ v.f3 < 18446744073709551616 := h
  unfold text_Print.f printF txt
  rw [if_pos h']
  split <;> rfl
theorem txt_or {v : S24} (h : In v) : Vt v.f0 v.f1 v.f2 v.f3 (txt v) ∨ (txt v = [63] ∧ ∀ t, ¬ Vt v.f0 v.f1 v.f2 v.f3 t) := by
  rcases is_or v.f0 v.f1 v.f2 v.f3 h.1 h.2.1 h.2.2 with ⟨h1, t, ht⟩ | h1
  · left
    unfold txt
    rw [if_pos h1, ht.text]
    exact ht
  · right
    refine ⟨by unfold txt; rw [if_neg (by rw [h1]; simp)], fun t ht => ?_⟩
    rw [ht.is.1] at h1
    cases h1
theorem txt_short {v : S24} (h : In v) : (txt v).length ≤ 300 := by
  rcases txt_or h with h1 | ⟨h1, -⟩
  · exact h1.short
  · rw [h1]; decide
theorem txt_vt {v : S24} {t : List UInt8} (ht : Vt v.f0 v.f1 v.f2 v.f3 t) : txt v = t := by
  unfold txt
  rw [if_pos ht.is.1, ht.text]
theorem map_short {l : List S24} (hin : ∀ v ∈ l, In v) : ∀ t ∈ l.map txt, t.length ≤ 300 := by
  intro t ht
  obtain ⟨v, hv, rfl⟩ := List.mem_map.1 ht
  exact txt_short (hin v hv)
theorem row_any {l : List S24} (hin : ∀ v ∈ l, In v) (hl : l.length ≤ 3000) (n : Nat) (hn : l.length + 1 ≤ n) : text_Row.f n l = some (B (rowT (l.map txt))) := by
  have hz := rowT_short (l.map txt) (map_short hin)
  rw [List.length_map] at hz
  refine row_gen (by rw [List.length_map]) hl (by omega) (fun i h h' => ?_) l.length n 0 (by omega) hn
  rw [List.getElem_map]
  exact txt_print (hin _ (List.getElem_mem _))
def Good (l : List S24) (s : ByteArray) : Prop := ∃ ts, Rt l ts ∧ s = B (rowT ts)
theorem front_mark (m : List UInt8) (hm : m.length ≤ 9900) : text_front.f (B (63 :: m)) = some (1, 0, ⟨#[]⟩, 0, B (63 :: m), false) := by
  unfold text_front.f frontF
  rw [data_B]
  unfold frontL
  rw [if_neg (by rw [List.length_cons]; omega)]
  rfl
theorem not_ok (n : Nat) (x0 x4 : ByteArray) (l : List S24) : text_Read.l0 (n + 2) x0 x4 false l = some ([], 30) := by
  rw [text_Read.l0, if_neg (by decide), text_Read.j1, if_neg (by decide), if_neg (by decide)]
theorem map_tail {l : List S24} (hz : (rowT (l.map txt)).length ≤ 9062) (i : Nat) (hi : i < l.length) : (txt l[i]).length + (tailT ((l.map txt).drop (i + 1))).length ≤ 9062 := by
  have h1 := tail_drop (l.map txt) i
  have h2 := tail_row (l.map txt)
  have hi' : i < (l.map txt).length := by rw [List.length_map]; exact hi
  rw [List.drop_eq_getElem_cons hi', tailT_cons, List.length_cons, List.length_cons, List.length_append, List.getElem_map] at h1
  omega
theorem good_row {l : List S24} (hl : l.length ≤ 3000) (hz : (rowT (l.map txt)).length ≤ 9062) (h : ∀ (j : Nat) (h : j < l.length), Vt l[j].f0 l[j].f1 l[j].f2 l[j].f3 (txt l[j])) : Good l (B (rowT (l.map txt))) :=
  ⟨l.map txt, ⟨by rw [List.length_map], hl, hz, fun i h1 h2 => by rw [List.getElem_map]; exact h i h1⟩, rfl⟩
theorem read_front {l : List S24} (hin : ∀ v ∈ l, In v) (hz : (rowT (l.map txt)).length ≤ 9062) (i : Nat) (hi : i < l.length) : (Vt l[i].f0 l[i].f1 l[i].f2 l[i].f3 (txt l[i]) ∧ text_front.f (B (txt l[i] ++ tailT ((l.map txt).drop (i + 1)))) = some (l[i].f0, l[i].f1, l[i].f2, l[i].f3, B (tailT ((l.map txt).drop (i + 1))), true)) ∨
    ((∀ t, ¬ Vt l[i].f0 l[i].f1 l[i].f2 l[i].f3 t) ∧ ∃ x, text_front.f (B (txt l[i] ++ tailT ((l.map txt).drop (i + 1)))) = some x ∧ x.2.2.2.2.2 = false) := by
  have ht := map_tail hz i hi
  rcases txt_or (hin l[i] (List.getElem_mem _)) with h | ⟨h, hno⟩
  · exact .inl ⟨h, h.frontF _ (behind_tail _ (by omega)) (by omega)⟩
  · refine .inr ⟨hno, (1, 0, ⟨#[]⟩, 0, B (63 :: tailT ((l.map txt).drop (i + 1))), false), ?_, rfl⟩
    rw [h]
    exact front_mark (tailT ((l.map txt).drop (i + 1))) (by omega)
section
variable {l : List S24} (hin : ∀ v ∈ l, In v) (hl : l.length ≤ 3000) (hz : (rowT (l.map txt)).length ≤ 9062)
include hin hl hz
theorem read_mixed (d : Nat) : ∀ i, 1 ≤ i → i + d = l.length → (∀ (j : Nat) (h : j < l.length), j < i → Vt l[j].f0 l[j].f1 l[j].f2 l[j].f3 (txt l[j])) →
    ∃ k r, text_Read.l0 k (B (rowT (l.map txt))) (B (tailT ((l.map txt).drop i))) true (l.take i) = some r ∧ ((r = (l, 0) ∧ ∀ (j : Nat) (h : j < l.length), Vt l[j].f0 l[j].f1 l[j].f2 l[j].f3 (txt l[j])) ∨ r = ([], 30)) := by
  induction d with
  | zero =>
    intro i h1 hi hv
    have hall : ∀ (j : Nat) (h : j < l.length), Vt l[j].f0 l[j].f1 l[j].f2 l[j].f3 (txt l[j]) := fun j h => hv j h (by omega)
    refine ⟨l.length + 3, (l, 0), ?_, .inl ⟨rfl, hall⟩⟩
    rw [List.drop_eq_nil_of_le (by rw [List.length_map]; omega), List.take_of_length_le (by omega)]
    exact read_end ⟨by rw [List.length_map], hl, hz, fun i h h' => by rw [List.getElem_map]; exact hall i h⟩ _ (Nat.le_refl _)
  | succ d ih =>
    intro i h1 hi hv
    have hlt : i < l.length := by omega
    have hlt' : i < (l.map txt).length := by rw [List.length_map]; exact hlt
    have hcut := cutPrefix_is (txt l[i] ++ tailT ((l.map txt).drop (i + 1))) [44, 32]
    have e : ((B (tailT ((l.map txt).drop i))).toList != ([41] : List UInt8)) = true := by
      rw [toList_B, List.drop_eq_getElem_cons hlt', tailT_cons, bne_iff_ne]
      intro hh
      have := congrArg List.head? hh
      simp at this
    have hcut' : strings_CutPrefix.f (B (44 :: 32 :: (txt l[i] ++ tailT ((l.map txt).drop (i + 1))))) (⟨#[44, 32]⟩ : ByteArray) = some (B (txt l[i] ++ tailT ((l.map txt).drop (i + 1))), true) := hcut
    have hd : tailT ((l.map txt).drop i) = 44 :: 32 :: (txt l[i] ++ tailT ((l.map txt).drop (i + 1))) := by rw [List.drop_eq_getElem_cons hlt', tailT_cons, List.getElem_map]
    rw [hd] at e ⊢
    rcases read_front hin hz i hlt with ⟨hvt, hfr⟩ | ⟨-, x, hfr, hx⟩
    · have ht : l.take i ++ [(⟨l[i].f0, l[i].f1, l[i].f2, l[i].f3⟩ : S24)] = l.take (i + 1) := by
        rw [List.take_succ_eq_append_getElem hlt]
      obtain ⟨k, r, hk, hr⟩ := ih (i + 1) (by omega) (by omega) fun j h hj => by
        by_cases e : j = i
        · subst e; exact hvt
        · exact hv j h (by omega)
      refine ⟨k + 2, r, ?_, hr⟩
      rw [text_Read.l0, if_pos rfl, e, text_Read.j1, if_pos rfl, if_pos (by rw [List.length_take]; omega), hcut', Option.bind_some]
      dsimp only
      rw [hfr, Option.bind_some, if_pos (by rw [List.length_take]; omega), Option.bind_some]
      dsimp only
      rw [if_pos rfl, ht, hk]
    · refine ⟨4, ([], 30), ?_, .inr rfl⟩
      rw [text_Read.l0, if_pos rfl, e, text_Read.j1, if_pos rfl, if_pos (by rw [List.length_take]; omega), hcut', Option.bind_some]
      dsimp only
      rw [hfr, Option.bind_some, if_pos (by rw [List.length_take]; omega), Option.bind_some]
      rw [if_pos rfl, hx]
      exact not_ok 0 _ _ _
theorem read_row : ∃ k r, text_Read.f k (B (rowT (l.map txt))) = some r ∧ ((r = (l, 0) ∧ Good l (B (rowT (l.map txt)))) ∨ r = ([], 30)) := by
  match hl0 : l, hin, hl, hz with
  | [], hin, hl, hz =>
    have hg : Rt ([] : List S24) ([] : List (List UInt8)) := ⟨rfl, by decide, by decide, fun i h => absurd h (by simp)⟩
    exact ⟨5, ([], 0), read_is hg 5 (by decide), .inl ⟨rfl, [], hg, rfl⟩⟩
  | v :: l', hin, hl, hz =>
    have hlt : 0 < (v :: l').length := by rw [List.length_cons]; omega
    have e0 : rowT ((v :: l').map txt) = ([40] : List UInt8) ++ (txt v ++ tailT (((v :: l').map txt).drop 1)) := by simp [rowT]
    have hcut := cutPrefix_is (txt v ++ tailT (((v :: l').map txt).drop 1)) [40]
    rw [← e0] at hcut
    have hcut' : strings_CutPrefix.f (B (rowT ((v :: l').map txt))) (⟨#[40]⟩ : ByteArray) = some (B (txt v ++ tailT (((v :: l').map txt).drop 1)), true) := hcut
    have e : ((B (txt v ++ tailT (((v :: l').map txt).drop 1))).toList != ([41] : List UInt8)) = true := by
      rw [toList_B, bne_iff_ne]
      intro hh
      have hlen := congrArg List.length hh
      rw [List.length_append, List.length_cons, List.length_nil] at hlen
      have hT : 1 ≤ (tailT (((v :: l').map txt).drop 1)).length := by unfold tailT; rw [List.length_append, List.length_cons]; omega
      have h1 : 1 ≤ (txt v).length := by
        rcases txt_or (hin v (List.mem_cons_self ..)) with h | ⟨h, -⟩
        · exact h.long
        · rw [h]; decide
      omega
    rcases read_front hin hz 0 hlt with ⟨hvt, hfr⟩ | ⟨-, x, hfr, hx⟩
    · obtain ⟨k, r, hk, hr⟩ := read_mixed hin hl hz l'.length 1 (by omega) (by rw [List.length_cons]; omega) fun j h hj => by
        obtain rfl : j = 0 := by omega
        exact hvt
      refine ⟨k + 2, r, ?_, ?_⟩
      · unfold text_Read.f
        rw [hcut', Option.bind_some]
        dsimp only
        have hfr' : text_front.f (B (txt v ++ tailT (((v :: l').map txt).drop 1))) = some (v.f0, v.f1, v.f2, v.f3, B (tailT (((v :: l').map txt).drop 1)), true) := hfr
        rw [text_Read.l0, if_pos rfl, e, text_Read.j1, if_pos rfl, if_neg (by simp), hfr', Option.bind_some, if_pos (by simp), Option.bind_some]
        dsimp only
        rw [if_pos rfl]
        exact hk
      · rcases hr with ⟨rfl, hall⟩ | rfl
        · exact .inl ⟨rfl, good_row hl hz hall⟩
        · exact .inr rfl
    · refine ⟨4, ([], 30), ?_, .inr rfl⟩
      unfold text_Read.f
      rw [hcut', Option.bind_some]
      dsimp only
      have hfr' : text_front.f (B (txt v ++ tailT (((v :: l').map txt).drop 1))) = some x := hfr
      rw [text_Read.l0, if_pos rfl, e, text_Read.j1, if_pos rfl, if_neg (by simp), hfr', Option.bind_some, if_pos (by simp), Option.bind_some]
      rw [if_pos rfl, hx]
      exact not_ok 0 _ _ _
end
theorem cut_total (a0 : ByteArray) (p : List UInt8) : ∃ r, strings_CutPrefix.f a0 (B p) = some r ∧ r.1.size ≤ a0.size := by
  have h := hasPrefix_is a0.data.toList p
  rw [B_data] at h
  unfold strings_HasPrefix.f at h
  have h2 : stringslite_HasPrefix.f a0 (B p) = some (a0.data.toList.take p.length == p) := by
    cases hx : stringslite_HasPrefix.f a0 (B p) with
    | none => rw [hx] at h; cases h
    | some v => rw [hx] at h; exact h
  unfold strings_CutPrefix.f stringslite_CutPrefix.f
  rw [h2, Option.bind_some]
  split
  · rename_i ht
    have hle : (B p).size ≤ a0.size := by
      have := congrArg List.length (eq_of_beq ht)
      rw [List.length_take, size_data] at this
      rw [size_B]
      omega
    rw [if_pos (by omega), if_pos (by omega), Option.bind_some]
    exact ⟨_, rfl, by show (a0.extract ((B p).size : Int).toNat a0.size).size ≤ _; rw [ByteArray.size_extract]; omega⟩
  · exact ⟨_, rfl, Nat.le_refl _⟩
theorem read_total (x0 : ByteArray) : ∀ (d : Nat) (x4 : ByteArray) (x6 : List S24), x4.size ≤ d → x6.length + d ≤ 1500 → (∀ v ∈ x6, In v) →
    ∃ k r, text_Read.l0 k x0 x4 true x6 = some r ∧ (r = ([], 30) ∨ (r.2 = 0 ∧ (∀ v ∈ r.1, In v) ∧ r.1.length ≤ 1500 ∧ x0.toList = rowT (r.1.map txt))) := by
  intro d
  induction d with
  | zero =>
    intro x4 x6 hx hn hin
    have e : (x4.toList != ([41] : List UInt8)) = true := by
      rw [bne_iff_ne]
      intro hh
      rw [ByteArray.toList_eq] at hh
      have := congrArg List.length hh
      rw [size_data] at this
      simp at this
      omega
    obtain ⟨rc, hc, hcz⟩ := cut_total x4 [44, 32]
    have hc' : strings_CutPrefix.f x4 (⟨#[44, 32]⟩ : ByteArray) = some rc := hc
    obtain ⟨y, hy, hy2⟩ := front_total rc.1.data.toList (by rw [size_data]; omega)
    have hy' : text_front.f rc.1 = some y := hy
    obtain ⟨z, hz, hz2⟩ := front_total x4.data.toList (by rw [size_data]; omega)
    have hz' : text_front.f x4 = some z := hz
    have hyf : y.2.2.2.2.2 = false := by
      cases hb : y.2.2.2.2.2 with
      | false => rfl
      | true => have := hy2.2.2 hb; rw [size_data] at this; omega
    have hzf : z.2.2.2.2.2 = false := by
      cases hb : z.2.2.2.2.2 with
      | false => rfl
      | true => have := hz2.2.2 hb; rw [size_data] at this; omega
    refine ⟨4, ([], 30), ?_, .inl rfl⟩
    rw [text_Read.l0, if_pos rfl, e, text_Read.j1, if_pos rfl]
    split
    · rw [hc', Option.bind_some, hy', Option.bind_some, if_pos (by omega), Option.bind_some, hyf]
      split <;> exact not_ok 0 _ _ _
    · rw [hz', Option.bind_some, if_pos (by omega), Option.bind_some, if_pos rfl, hzf]
      exact not_ok 0 _ _ _
  | succ d ih =>
    intro x4 x6 hx hn hin
    by_cases e : x4.toList = ([41] : List UInt8)
    · have e' : (x4.toList != ([41] : List UInt8)) = false := by rw [e]; rfl
      have hrow := row_any hin (by omega) (x6.length + 1) (Nat.le_refl _)
      by_cases hq : (B (rowT (x6.map txt))).toList = x0.toList
      · refine ⟨x6.length + 1 + 2, (x6, 0), ?_, .inr ⟨rfl, hin, by show x6.length ≤ _; omega, ?_⟩⟩
        · rw [text_Read.l0, if_pos rfl, e', text_Read.j1, if_neg (by decide), if_pos rfl, hrow, Option.bind_some, if_pos hq]
        · show x0.toList = rowT (x6.map txt)
          rw [← hq, toList_B]
      · refine ⟨x6.length + 1 + 2, ([], 30), ?_, .inl rfl⟩
        rw [text_Read.l0, if_pos rfl, e', text_Read.j1, if_neg (by decide), if_pos rfl, hrow, Option.bind_some, if_neg hq]
    · have e' : (x4.toList != ([41] : List UInt8)) = true := bne_iff_ne.2 e
      have key : ∀ (y : ByteArray) (z : FR), y.size ≤ x4.size → text_front.f y = some z → FrOk y.data.toList z →
          ∃ k r, text_Read.l0 k x0 z.2.2.2.2.1 z.2.2.2.2.2 (x6 ++ [(⟨z.1, z.2.1, z.2.2.1, z.2.2.2.1⟩ : S24)]) = some r ∧ (r = ([], 30) ∨ (r.2 = 0 ∧ (∀ v ∈ r.1, In v) ∧ r.1.length ≤ 1500 ∧ x0.toList = rowT (r.1.map txt))) := by
        intro y z hy hz hok
        cases hb : z.2.2.2.2.2 with
        | false => exact ⟨2, _, not_ok 0 _ _ _, .inl rfl⟩
        | true =>
          have hlt := hok.2.2 hb
          rw [size_data] at hlt
          refine ih _ _ (by omega) (by rw [List.length_append, List.length_cons, List.length_nil]; omega) fun v hv => ?_
          rcases List.mem_append.1 hv with hv | hv
          · exact hin v hv
          · rw [List.mem_singleton.1 hv]
            exact hok.1
      by_cases h0 : (x6.length : Int) > 0
      · obtain ⟨rc, hc, hcz⟩ := cut_total x4 [44, 32]
        have hc' : strings_CutPrefix.f x4 (⟨#[44, 32]⟩ : ByteArray) = some rc := hc
        obtain ⟨y, hy, hy2⟩ := front_total rc.1.data.toList (by rw [size_data]; omega)
        have hy' : text_front.f rc.1 = some y := hy
        cases hb : rc.2 with
        | true =>
          obtain ⟨k, r, hk, hr⟩ := key rc.1 y hcz hy' hy2
          refine ⟨k + 2, r, ?_, hr⟩
          rw [text_Read.l0, if_pos rfl, e', text_Read.j1, if_pos rfl, if_pos h0, hc', Option.bind_some, hy', Option.bind_some, if_pos (by omega), Option.bind_some, hb, if_pos rfl, hk]
        | false =>
          refine ⟨4, ([], 30), ?_, .inl rfl⟩
          rw [text_Read.l0, if_pos rfl, e', text_Read.j1, if_pos rfl, if_pos h0, hc', Option.bind_some, hy', Option.bind_some, if_pos (by omega), Option.bind_some, hb, if_neg (by decide)]
          exact not_ok 0 _ _ _
      · obtain ⟨z, hz, hz2⟩ := front_total x4.data.toList (by rw [size_data]; omega)
        have hz' : text_front.f x4 = some z := hz
        obtain ⟨k, r, hk, hr⟩ := key x4 z (Nat.le_refl _) hz' hz2
        refine ⟨k + 2, r, ?_, hr⟩
        rw [text_Read.l0, if_pos rfl, e', text_Read.j1, if_pos rfl, if_neg h0, hz', Option.bind_some, if_pos (by omega), Option.bind_some, if_pos rfl, hk]
theorem read_one_way {s : ByteArray} {k j : Nat} {r q : List S24 × Int} (h : text_Read.f k s = some r) (h' : text_Read.f j s = some q) : r = q :=
  grow_one (g := fun k => text_Read.f k s) (fun k => text_Read.mono _ k) h h'
theorem read_char (s : ByteArray) (hs : s.size ≤ 1000) : ∃ k r, text_Read.f k s = some r ∧ ((∃ l, Good l s ∧ r = (l, 0)) ∨ ((¬ ∃ l, Good l s) ∧ r = ([], 30))) := by
  have hgood : ∀ l, Good l s → ∃ k, text_Read.f k s = some (l, 0) := by
    rintro l ⟨ts, hrt, rfl⟩
    exact ⟨_, read_is hrt _ (Nat.le_refl _)⟩
  obtain ⟨rc, hc, hcz⟩ := cut_total s [40]
  have hc' : strings_CutPrefix.f s (⟨#[40]⟩ : ByteArray) = some rc := hc
  have htot : ∃ k r, text_Read.f k s = some r ∧ (r = ([], 30) ∨ (r.2 = 0 ∧ (∀ v ∈ r.1, In v) ∧ r.1.length ≤ 1500 ∧ s.toList = rowT (r.1.map txt))) := by
    cases hb : rc.2 with
    | false =>
      refine ⟨2, ([], 30), ?_, .inl rfl⟩
      unfold text_Read.f
      rw [hc', Option.bind_some, hb]
      exact not_ok 0 _ _ _
    | true =>
      obtain ⟨k, r, hk, hr⟩ := read_total s 1000 rc.1 [] (by omega) (by simp) (fun v hv => absurd hv (by simp))
      refine ⟨k, r, ?_, hr⟩
      unfold text_Read.f
      rw [hc', Option.bind_some, hb, hk]
  obtain ⟨k, r, hk, hr⟩ := htot
  refine ⟨k, r, hk, ?_⟩
  rcases hr with rfl | ⟨h2, hin, hl, hx⟩
  · right
    refine ⟨?_, rfl⟩
    rintro ⟨l, hl⟩
    obtain ⟨j, hj⟩ := hgood l hl
    have := read_one_way hk hj
    cases this
  · left
    have hsz : s = B (rowT (r.1.map txt)) := by
      rw [← hx, ByteArray.toList_eq]
      rfl
    have hz : (rowT (r.1.map txt)).length ≤ 9062 := by
      rw [← hx, ByteArray.toList_eq, size_data]
      omega
    obtain ⟨j, q, hj, hq⟩ := read_row hin (by omega) hz
    rw [← hsz] at hj hq
    have e := read_one_way hk hj
    rcases hq with ⟨rfl, hg⟩ | rfl
    · exact ⟨r.1, hg, e⟩
    · rw [e] at h2
      cases h2
theorem good_one {l m : List S24} {s : ByteArray} (h : Good l s) (h' : Good m s) : l = m := by
  obtain ⟨ts, hrt, rfl⟩ := h
  obtain ⟨us, hru, hus⟩ := h'
  have h1 := read_is hrt _ (Nat.le_refl _)
  have h2 := read_is hru _ (Nat.le_refl _)
  rw [← hus] at h2
  have := read_one_way h1 h2
  cases this
  rfl
end Go.Proofs.YtpjfhdbkkomogaaDoor.Mb
namespace Go.Proofs.YtpjfhdbkkomogaaDoor.Mb
open Go.RowKit Go.ChangeShapes Go.WideShapes Go.Deep Go.Proofs.YtpjfhdbkkomogaaDoorW.PrintWords Go.Proofs.YtpjfhdbkkomogaaDoor.Px
section
variable {H : Type} {enc : TypeId × Value → H} {w : World} {base : Nat} {spare : Nat → Bool} {held : Bool}
theorem trod_f64 {P : Program} {t : TypeId} {fuel : Nat} {v : Value} {x : DataW H × List MemPlace} (ht : P.underlying t = some (.float .f64)) (h : DataW.trod enc P w base spare held fuel t [v] = some x) :
    ∃ b, v = .float .f64 b ∧ x = (.lit (.float .f64 b), []) ∧ (Lit.float .f64 b).wf = true := by
  cases fuel with
  | zero => simp [DataW.trod] at h
  | succ n =>
    unfold DataW.trod at h
    rw [ht] at h
    split at h <;> simp_all
theorem val_gen {P : Program} {t : TypeId} {f0 f1 f2 f3 : Field} {n : Nat} {cs : List Value} {x : DataW H × List MemPlace} (hs : P.underlying t = some (.struct #[f0, f1, f2, f3])) (hC : P.cellsOf t = 4)
    (o0 : f0.offset = 0) (o1 : f1.offset = 1) (o2 : f2.offset = 2) (o3 : f3.offset = 3) (c0 : P.cellsOf f0.type = 1) (c1 : P.cellsOf f1.type = 1) (c2 : P.cellsOf f2.type = 1) (c3 : P.cellsOf f3.type = 1)
    (u0 : P.underlying f0.type = some (.int .i64)) (u1 : P.underlying f1.type = some (.int .i64)) (u2 : P.underlying f2.type = some .string) (u3 : P.underlying f3.type = some (.float .f64))
    (h : DataW.trod enc P w base spare held n t cs = some x) :
    ∃ (k i : Int) (s : ByteArray) (f : Nat), cs = [.int .i64 k, .int .i64 i, .string s, .float .f64 f] ∧ x = (.agg [.lit (.int .i64 k), .lit (.int .i64 i), .lit (.string s.data.toList), .lit (.float .f64 f)], []) ∧
      (Lit.int .i64 k).wf = true ∧ (Lit.int .i64 i).wf = true ∧ s.size ≤ maxLen ∧ (Lit.float .f64 f).wf = true := by
  obtain ⟨xs, m, -, hx, hlen, hxl, hf⟩ := DataW.trod_struct hs h
  rw [hC] at hlen
  match cs, hlen with
  | [a, b, c, d], _ =>
    match xs, hxl with
    | [y0, y1, y2, y3], _ =>
      have g0 := hf 0 f0 rfl
      have g1 := hf 1 f1 rfl
      have g2 := hf 2 f2 rfl
      have g3 := hf 3 f3 rfl
      rw [o0, c0] at g0
      rw [o1, c1] at g1
      rw [o2, c2] at g2
      rw [o3, c3] at g3
      obtain ⟨k, e0, q0, w0⟩ := DataW.trod_int u0 g0
      obtain ⟨i, e1, q1, w1⟩ := DataW.trod_int u1 g1
      obtain ⟨s, e2, q2, w2⟩ := DataW.trod_string u2 g2
      obtain ⟨f, e3, q3, w3⟩ := trod_f64 u3 g3
      simp at e0 e1 e2 e3
      subst e0 e1 e2 e3 q0 q1 q2 q3
      exact ⟨k, i, s, f, rfl, hx, w0, w1, w2, w3⟩
theorem wf_i64 {n : Int} (h : (Lit.int .i64 n).wf = true) : -9223372036854775808 ≤ n ∧ n ≤ 9223372036854775807 := by
  simp [Lit.wf, IntKind.min, IntKind.max, IntKind.signed, IntKind.bits] at h
  omega
theorem wf_f64 {n : Nat} (h : (Lit.float .f64 n).wf = true) : n < 18446744073709551616 := by
  have := of_decide_eq_true h
  exact this
theorem val_cells {n : Nat} {cs : List Value} {x : DataW H × List MemPlace} (h : DataW.trod enc Tryd.prog w base spare held n 24 cs = some x) :
    ∃ v : S24, In v ∧ cs = [.int .i64 v.f0, .int .i64 v.f1, .string v.f2, .float .f64 v.f3] ∧ x = (.agg [.lit (.int .i64 v.f0), .lit (.int .i64 v.f1), .lit (.string v.f2.data.toList), .lit (.float .f64 v.f3)], []) ∧ (Lit.int .i64 v.f0).wf = true ∧ v.f2.size ≤ maxLen := by
  obtain ⟨k, i, s, f, hcs, hx, w0, w1, w2, w3⟩ := val_gen Tryd.underlying24 (by kernel_rfl) rfl rfl rfl rfl (by kernel_rfl) (by kernel_rfl) (by kernel_rfl) (by kernel_rfl) Tryd.underlying3 Tryd.underlying2 Tryd.underlying9 Tryd.underlying22 h
  exact ⟨⟨k, i, s, f⟩, ⟨(wf_i64 w1).1, (wf_i64 w1).2, wf_f64 w3⟩, hcs, hx, w0, w2⟩
theorem open_vals {fuel : Nat} {v : Value} {x : DataW H × List MemPlace} (h : DataW.trod enc Tryd.prog w base spare held fuel 25 [v] = some x) :
    ∃ (A : Option Addr) (cap : Nat) (l : List S24), v = .slice A l.length cap ∧ l.length ≤ cap ∧ cap ≤ maxLen ∧ Kd.C k24 w A l.length l ∧ ∀ v ∈ l, In v := by
  rcases open_slice Tryd.underlying25 h with ⟨hcs, -⟩ | ⟨a, len, cap, m, n, D, Pl, hcs, -, hl, hm, hmm, -, hi⟩
  · simp at hcs
    subst hcs
    exact ⟨none, 0, [], rfl, Nat.le_refl _, Nat.zero_le _, row_nil w none, fun v hv => absurd hv (by simp)⟩
  · simp at hcs
    subst hcs
    have hC : Tryd.prog.cellsOf 24 = 4 := by kernel_rfl
    have hle : len ≤ m := by rw [hmm]; split <;> omega
    have key : ∀ i : Fin len, ∃ v : S24, In v ∧ ∀ (j : Nat) u, ([.int .i64 v.f0, .int .i64 v.f1, .string v.f2, .float .f64 v.f3] : List Value)[j]? = some u → w.cell? (a.add (i.1 * 4 + j)) = some u := by
      intro ⟨i, hil⟩
      obtain ⟨cs, hc, ht⟩ := hi i (by omega)
      rw [hC] at hc
      obtain ⟨-, hcl, hat⟩ := World.cells?_some hc
      obtain ⟨v, hv, rfl, -⟩ := val_cells ht
      refine ⟨v, hv, fun j u hj => ?_⟩
      have hj4 : j < 4 := by
        have := (List.getElem?_eq_some_iff.1 hj).1
        simpa using this
      have := hat j hj4
      rw [← Go.Deep.add_add, this, hj]
    refine ⟨some a, cap, List.ofFn fun i => (key i).choose, by simp, by simpa using hl, hm, ?_, ?_⟩
    · refine row_of_cells w a _ (by simp; unfold maxLen at hm; omega) fun j v hj => ?_
      rw [List.getElem?_ofFn] at hj
      split at hj
      · rename_i hjl
        cases hj
        exact (key ⟨j, hjl⟩).choose_spec.2
      · cases hj
    · intro v hv
      rw [List.mem_ofFn] at hv
      obtain ⟨i, rfl⟩ := hv
      exact (key i).choose_spec.1
end
end Go.Proofs.YtpjfhdbkkomogaaDoor.Mb
namespace Go.Proofs.YtpjfhdbkkomogaaDoor.Px
open Go.RowKit Go.Proofs.YtpjfhdbkkomogaaDoor.Gvn Go.Proofs.YtpjfhdbkkomogaaDoorW.PrintWords Go.Proofs.YtpjfhdbkkomogaaDoorW.PrintLast Go.Proofs.YtpjfhdbkkomogaaDoorW.PrintMore
attribute [local go_sem] run_store_float min2_int min_two
set_option linter.unusedVariables false
set_option linter.unusedSimpArgs false
def rialtoref4_hex.f (a0 : Int) : Option (Int) := if 0 ≤ a0 then (if a0 < 16 then (some (bt (⟨#[48, 49, 50, 51, 52, 53, 54, 55, 56, 57, 97, 98, 99, 100, 101, 102]⟩ : ByteArray) a0)) else (none)) else (none)
set_option maxHeartbeats 8000000 in
set_option maxRecDepth 100000 in
theorem rialtoref4_hex.calls (a0 : Int) (r : Int) (w : World) (h : rialtoref4_hex.f a0 = some r) :
  Calls Tryd.prog 49 #[.int .u8 a0] w fun e w' => e = .returned (.int .u8 r) ∧ Drawn0 w w' := by
 have H : (if 0 ≤ a0 then (if a0 < 16 then (some (bt (⟨#[48, 49, 50, 51, 52, 53, 54, 55, 56, 57, 97, 98, 99, 100, 101, 102]⟩ : ByteArray) a0)) else (none)) else (none)) = some r := h
 clear h
 by_cases c2 : 0 ≤ a0
 ·rw [if_pos c2] at H
  have c2b0 : decide (0 ≤ a0) = true := decide_eq_true c2
  clear c2
  by_cases c3 : a0 < 16
  ·rw [if_pos c3] at H
   have c3b0 : decide (a0 < 16) = true := decide_eq_true c3
   clear c3
   obtain rfl := Option.some.inj H
   have p4 : 0 ≤ (a0 : Int) := of_decide_eq_true (by first | (with_reducible assumption) | assumption)
   have q4 : a0 < (16 : Int) := of_decide_eq_true (by first | (with_reducible assumption) | assumption)
   have hx4 := bt_at (⟨#[48, 49, 50, 51, 52, 53, 54, 55, 56, 57, 97, 98, 99, 100, 101, 102]⟩ : ByteArray) a0
   replace p4 := eq_true p4
   replace q4 := eq_true q4
   have k23 := run23
   have k22 := run22
   go_enter Tryd.func49, Tryd.ntmps49
   go_wp2
   go_ret
   exact ⟨by first | rfl | (simp; done) | (simp [*]; done), by repeat (first | exact Drawn0.refl _ | apply Drawn0.step)⟩
  ·rw [if_neg c3] at H
   exact absurd H (by simp)
 ·rw [if_neg c2] at H
  exact absurd H (by simp)
def rialtoref4_two.f (l0 : List Int) (a1 : Int) : Option (List Int) := (rialtoref4_hex.f ((Int.tdiv a1 16) % 256)).bind fun t198 => ((rialtoref4_hex.f (Int.tmod a1 16)).bind fun t199 => ((some (([t198, t199] : List Int) : List Int)).bind fun y200 => (if l0.length + y200.length < 140737488355328 then (some (l0 ++ y200)) else (none))))
set_option maxHeartbeats 8000000 in
set_option maxRecDepth 100000 in
theorem rialtoref4_two.calls (P0_ : Nat → Prop) (u9000_ : Value) (l0 : List Int) (a1 : Int) (r : List Int) (w0 w : World) (hB : Below w0.heap.size w0 w) (ho0 : Kd.R (Kd.int .u8) 5 w w0.heap.size P0_ u9000_ l0) (h : rialtoref4_two.f l0 a1 = some r) :
  Calls Tryd.prog 31 #[u9000_, .int .u8 a1] w fun e w' => ∃ v0_ : Value, e = .returned (v0_) ∧ Kd.R (Kd.int .u8) 5 w' w0.heap.size (fun k_ => (P0_ k_ ∨ w.heap.size ≤ k_)) v0_ r ∧ Below w0.heap.size w0 w' ∧ Kept w w' (fun k_ => P0_ k_) := by
 have HO0 := Aside0.mk (show Kd.R (Kd.int .u8) 5 w w0.heap.size (fun k_ => (P0_ k_ ∨ w.heap.size ≤ k_)) u9000_ l0 from Kd.R_mono ho0 (fun k_ hk => (.inl hk)))
 have HK := Aside0.mk (Kept.refl w (fun k_ => P0_ k_))
 have HW0 := Aside0.mk hB.size
 have HB := Aside0.mk hB
 clear hB
 have H : ((rialtoref4_hex.f ((Int.tdiv a1 16) % 256)).bind fun t198 => ((rialtoref4_hex.f (Int.tmod a1 16)).bind fun t199 => ((some (([t198, t199] : List Int) : List Int)).bind fun y200 => (if l0.length + y200.length < 140737488355328 then (some (l0 ++ y200)) else (none))))) = some r := h
 clear h
 replace H := Option.bind_eq_some_iff.mp H
 obtain ⟨t198, A30, H⟩ := H
 replace H : ((rialtoref4_hex.f (Int.tmod a1 16)).bind fun t199 => ((some (([t198, t199] : List Int) : List Int)).bind fun y200 => (if l0.length + y200.length < 140737488355328 then (some (l0 ++ y200)) else (none)))) = some r := H
 have A3 := Aside0.mk A30
 clear A30
 replace H := Option.bind_eq_some_iff.mp H
 obtain ⟨t199, A40, H⟩ := H
 replace H : ((some (([t198, t199] : List Int) : List Int)).bind fun y200 => (if l0.length + y200.length < 140737488355328 then (some (l0 ++ y200)) else (none))) = some r := H
 have A4 := Aside0.mk A40
 clear A40
 obtain ⟨y200, hy200⟩ : ∃ y_ : List Int, y_ = (([t198, t199] : List Int)) := ⟨_, rfl⟩
 replace H : (if l0.length + y200.length < 140737488355328 then (some (l0 ++ y200)) else (none)) = some r := by first | (rw [hy200]; with_reducible exact H) | (have H2_ := (Option.bind_some _ _).symm.trans H; rw [hy200]; with_reducible exact H2_) | (have H2_ := (Option.bind_some _ _).symm.trans H; with_reducible exact H2_) | with_reducible exact H | (rw [hy200]; exact H) | exact H
 have Ny200 := Aside0.mk hy200
 clear hy200
 by_cases c5 : l0.length + y200.length < 140737488355328
 ·rw [if_pos c5] at H
  have LMc5 := Aside0.mk c5
  clear c5
  obtain ⟨y203, hy203⟩ : ∃ y_ : List Int, y_ = (l0 ++ y200) := ⟨_, rfl⟩
  replace H : (some y203) = some r := by first | (rw [hy203]; with_reducible exact H) | (have H2_ := (Option.bind_some _ _).symm.trans H; rw [hy203]; with_reducible exact H2_) | (have H2_ := (Option.bind_some _ _).symm.trans H; with_reducible exact H2_) | with_reducible exact H | (rw [hy203]; exact H) | exact H
  have Ny203 := Aside0.mk hy203
  clear hy203
  obtain rfl := Option.some.inj H
  have k23 := run23
  have k22 := run22
  go_enter Tryd.func31, Tryd.ntmps31
  go_wp2_with (first | ((with_reducible refine gate_callee (f := 49) rfl ?_); refine goesL_ (some 8) rfl rfl Tryd.func49 (by kernel_rfl) rfl #[.int .u8 ((Int.tdiv a1 16) % 256)] rfl (by (try simp only [List.map_toArray, List.map_cons, List.map_nil]); first | done | rfl | (simp only [List.length_drop, List.length_take]; rfl)) ?_; (with_reducible refine (rialtoref4_hex.calls ((Int.tdiv a1 16) % 256) t198 _ A3.out).mono ?_); rintro e w' ⟨rfl, ⟨nd, rfl⟩⟩; refine ⟨_, rfl, ?_⟩) | ((with_reducible refine gate_callee (f := 49) rfl ?_); refine goesL_ (some 11) rfl rfl Tryd.func49 (by kernel_rfl) rfl #[.int .u8 (Int.tmod a1 16)] rfl (by (try simp only [List.map_toArray, List.map_cons, List.map_nil]); first | done | rfl | (simp only [List.length_drop, List.length_take]; rfl)) ?_; (with_reducible refine (rialtoref4_hex.calls (Int.tmod a1 16) t199 _ A4.out).mono ?_); rintro e w' ⟨rfl, ⟨nd, rfl⟩⟩; refine ⟨_, rfl, ?_⟩) | ((with_reducible refine gate_dst (N := 12) rfl ?_); refine Kd.R_lit (Kd.int .u8) _ 5 ?hg (N := 12) ?hd (xs := ([t198, t199] : List Int)) (inner := [.int .u8 t198, .int .u8 t199]) (ok := fun _ => True) (okp := fun _ => True) ?hr ?hp (fun _ hk => hk) trivial (Below.refl _ _) (Nat.le_refl _) (by simp) ?_; (case hd => rfl); (case hg => rfl); (case hr => first | (go_simp; done) | (go_simp; rfl)); (case hp => exact (Reps.one (show Kd.M (Kd.int .u8) _ _ _ t198 [.int .u8 t198] from rfl) (Reps.one (show Kd.M (Kd.int .u8) _ _ _ t199 [.int .u8 t199] from rfl) (Reps.none _ _)))); intro v201 w6 ho7 hb hg_ hnew_; clear hg_ hnew_; (first | rw [← Ny200.out] at ho7 | (simp only [Int.reduceToNat] at ho7; rw [← Ny200.out] at ho7)); have n0_ := Aside0.mk (Kd.R_elder' (by (with_reducible repeat (first | apply Kd.R_alloc | apply Kd.R_drewN | apply Kd.R_drew)); exact HO0.out) (Kd.R_base ho7) hb); have n1_ := Aside0.mk (Kd.R_lower (Kd.R_new' (Kd.R_newM (M := fun k_ => (P0_ k_ ∨ w.heap.size ≤ k_)) ho7 (by first | exact HK.out.1 | exact (show Kept w _ (fun k_ => P0_ k_) from by repeat (first | (with_reducible first | exact HK.out | apply Kept.alloc | apply Kept.drewN | apply Kept.drew) | exact HK.out)).1) (fun k_ h_ => .inr h_)) (Kd.R_lt (by (with_reducible repeat (first | apply Kd.R_alloc | apply Kd.R_drewN | apply Kd.R_drew)); exact HO0.out))) (below_size (by repeat (first | (with_reducible first | exact HB.out | apply below_alloc | apply pw_below_drewN | apply below_drew1) | exact HB.out)))); have n2_ := Aside0.mk (Kept.below (S := (fun k_ => P0_ k_)) (by repeat (first | (with_reducible first | exact HK.out | apply Kept.alloc | apply Kept.drewN | apply Kept.drew) | exact HK.out)) hb); have n3_ := Aside0.mk (below_step (by repeat (first | (with_reducible first | exact HB.out | apply below_alloc | apply pw_below_drewN | apply below_drew1) | exact HB.out)) hb); clear HO0; clear HK; clear HB; have HO0 := n0_; have HO202 := n1_; have HK := n2_; have HB := n3_; clear n0_ n1_ n2_ n3_; clear hb ho7; obtain ⟨Ao9, co9, eo9⟩ := Kd.R_slice HO202.out; subst eo9) | ((with_reducible refine gate_builtin (b := .append) (xs := #[.tmp 5, .tmp 12]) rfl ?_); at_builtin; refine Kd.R_append_rows (Kd.int .u8) (w0 := w0) w0.heap.size rfl (.tmp 5) (.tmp 12) 57 5 (.int .u8 0) 1 rfl Tryd.underlying57 info5 rfl (by decide) (by omega) u9000_ l0 y200 _ _ _ (fun k_ => (P0_ k_ ∨ w.heap.size ≤ k_) ∧ some k_ ≠ (.slice Ao9 y200.length co9 : Value).ownBlock) (fun _ => False) rfl rfl ?aO ?aR (fun _ _ h => h) (fun _ h => h.elim) ?aF ?aB ?aS ?aL ?_; (case aR => repeat (first | exact (Kd.R_reads' HO202.out).2.2 | (with_reducible refine Kd.C_alloc ?_ _) | (with_reducible refine Kd.C_drewN ?_ _) | (with_reducible refine Kd.C_drew ?_))); (case aB => exact (by repeat (first | (with_reducible first | exact HB.out | apply below_alloc | apply pw_below_drewN | apply below_drew1) | exact HB.out))); (case aF => exact (fun k_ hk => ⟨(.inr (Nat.le_trans (by first | exact HK.out.1 | exact (show Kept w _ (fun k_ => P0_ k_) from by repeat (first | (with_reducible first | exact HK.out | apply Kept.alloc | apply Kept.drewN | apply Kept.drew) | exact HK.out)).1) hk)), Kd.fresh' (Kd.R_lt (by (with_reducible repeat (first | apply Kd.R_alloc | apply Kd.R_drewN | apply Kd.R_drew)); exact HO202.out)) k_ hk⟩)); (case aO => exact (by (with_reducible repeat (first | apply Kd.R_alloc | apply Kd.R_drewN | apply Kd.R_drew)); exact HO0.out)); (case aS => exact (below_size (by repeat (first | (with_reducible first | exact HB.out | apply below_alloc | apply pw_below_drewN | apply below_drew1) | exact HB.out)))); (case aL => have := LMc5.out; omega); intro v204 w8 ho hb hg hat; rw [← Ny203.out] at ho; have n0_ := Aside0.mk (Kd.R_after (ok := (fun k_ => (P0_ k_ ∨ w.heap.size ≤ k_))) (by (with_reducible repeat (first | apply Kd.R_alloc | apply Kd.R_drewN | apply Kd.R_drew)); exact Kd.R_mono HO202.out (fun _ hk => ⟨hk.1.1, hk.2⟩)) hg hat); have n1_ := Aside0.mk (hb); have n2_ := Aside0.mk (Kept.of_grown (S := (fun k_ => P0_ k_)) hg (by repeat (first | (with_reducible first | exact HK.out | apply Kept.alloc | apply Kept.drewN | apply Kept.drew) | exact HK.out)) (fun k_ e_ => (HO0.out.1 k_ e_).1)); have n3_ := Aside0.mk (ho); clear HO202; clear HB; clear HK; clear HO0; have HO202 := n0_; have HB := n1_; have HK := n2_; have HO205 := n3_; clear n0_ n1_ n2_ n3_; clear ho hb hg hat))
  go_ret
  exact ⟨_, by first | rfl | (simp [errW_none, errW_some] <;> rfl) | (simp [*, errW_none, errW_some] <;> rfl), by (with_reducible repeat (first | apply Kd.R_alloc | apply Kd.R_drewN | apply Kd.R_drew)); exact Kd.R_mono HO205.out (fun _ hk => hk.1), by repeat (first | (with_reducible first | exact HB.out | apply below_alloc | apply pw_below_drewN | apply below_drew1) | exact HB.out), by repeat (first | (with_reducible first | exact HK.out | apply Kept.alloc | apply Kept.drewN | apply Kept.drew) | exact HK.out)⟩
 ·rw [if_neg c5] at H
  exact absurd H (by simp)
end Go.Proofs.YtpjfhdbkkomogaaDoor.Px
