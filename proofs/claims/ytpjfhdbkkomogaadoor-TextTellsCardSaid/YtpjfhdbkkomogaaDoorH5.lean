/- Texts of this claim, one behind the other. -/
import Derived.Test.YtpjfhdbkkomogaaDoorH3
import Derived.Test.YtpjfhdbkkomogaaDoorH4
import Derived.Test.YtpjfhdbkkomogaaDoorH1
import Derived.Lib.Join
namespace Go.Proofs.YtpjfhdbkkomogaaDoor.Mb
open Go.RowKit Go.Proofs.YtpjfhdbkkomogaaDoorW.PrintWords Go.Proofs.YtpjfhdbkkomogaaDoorW.PrintLast Go.Proofs.YtpjfhdbkkomogaaDoorW.PrintMore Go.Proofs.YtpjfhdbkkomogaaDoor.Px Go.Proofs.YtpjfhdbkkomogaaDoor.Gvn
open Go.Lib (itoa)
noncomputable section
open Classical in
def lim {α : Type} (g : Nat → Option α) : Option α := if h : ∃ k, ∃ r, g k = some r then g h.choose else none
theorem grow_le {α : Type} {g : Nat → Option α} (hm : ∀ k, LeO (g k) (g (k + 1))) {r : α} {a : Nat} (d : Nat) (h : g a = some r) : g (a + d) = some r := by
  induction d with
  | zero => exact h
  | succ d ih => exact hm _ _ ih
theorem grow_one {α : Type} {g : Nat → Option α} (hm : ∀ k, LeO (g k) (g (k + 1))) {r s : α} {a b : Nat} (h : g a = some r) (k : g b = some s) : r = s := by
  have h1 := grow_le hm b h
  have h2 := grow_le hm a k
  rw [Nat.add_comm] at h2
  exact Option.some.inj (h1.symm.trans h2)
theorem lim_some {α : Type} {g : Nat → Option α} (hm : ∀ k, LeO (g k) (g (k + 1))) {k : Nat} {r : α} (h : g k = some r) : lim g = some r := by
  have hx : ∃ k, ∃ r, g k = some r := ⟨k, r, h⟩
  unfold lim
  rw [dif_pos hx]
  obtain ⟨s, hs⟩ := hx.choose_spec
  rw [hs, grow_one hm h hs]
theorem lim_out {α : Type} {g : Nat → Option α} {r : α} (h : lim g = some r) : ∃ k, g k = some r := by
  unfold lim at h
  split at h
  · exact ⟨_, h⟩
  · cases h
def printL (k i : Int) (s : ByteArray) (f : Nat) : List UInt8 :=
  if k = 1 then itoa i else if k = 2 then (if i = 1 then [116, 114, 117, 101] else [102, 97, 108, 115, 101]) else if k = 3 then quoteL s.data.toList else if k = 4 then 120 :: hexL s.data.toList else 102 :: tells 16 f
theorem Vt.text {k i : Int} {s : ByteArray} {f : Nat} {t : List UInt8} (h : Vt k i s f t) : printL k i s f = t := by cases h <;> rfl
theorem Vt.is {k i : Int} {s : ByteArray} {f : Nat} {t : List UInt8} (h : Vt k i s f t) : value_Is.f 1 k i s f = some true ∧ -9223372036854775808 ≤ i ∧ i ≤ 9223372036854775807 ∧ f < 18446744073709551616 := by
  have e : (⟨#[]⟩ : ByteArray).toList = [] := toList_B []
  cases h with
  | int n h0 h1 =>
    refine ⟨?_, h0, h1, by decide⟩
    unfold value_Is.f
    rw [order0, Option.bind_some, if_pos rfl, if_pos e]
    rfl
  | yes =>
    refine ⟨?_, by decide, by decide, by decide⟩
    unfold value_Is.f
    rw [order0, Option.bind_some, if_neg (by decide), if_pos rfl, if_pos e]
    rfl
  | no =>
    refine ⟨?_, by decide, by decide, by decide⟩
    unfold value_Is.f
    rw [order0, Option.bind_some, if_neg (by decide), if_pos rfl, if_pos e]
    rfl
  | str s h =>
    refine ⟨?_, by decide, by decide, by decide⟩
    have h' : (s.size : Int) ≤ 60 := by omega
    unfold value_Is.f
    rw [order0, Option.bind_some, if_neg (by decide), if_neg (by decide), if_pos rfl, value_Is.j0, show ((3 : Int) == 3) = true from rfl, if_pos rfl, if_pos h', if_pos rfl]
    rfl
  | bytes s h =>
    refine ⟨?_, by decide, by decide, by decide⟩
    have h' : (s.size : Int) ≤ 60 := by omega
    unfold value_Is.f
    rw [order0, Option.bind_some, if_neg (by decide), if_neg (by decide), if_neg (by decide), value_Is.j0, show ((4 : Int) == 4) = true from rfl, if_pos rfl, if_pos h', if_pos rfl]
    rfl
  | float f h =>
    refine ⟨?_, by decide, by decide, h⟩
    obtain ⟨b, -, x, hx, -⟩ := order_zero f h
    unfold value_Is.f
    rw [hx, Option.bind_some, if_neg (by decide), if_neg (by decide), if_neg (by decide), value_Is.j0, show ((5 : Int) == 4) = false from rfl, if_neg (by decide), if_pos rfl, if_pos rfl, e]
    rfl
def printF (k i : Int) (s : ByteArray) (f : Nat) : Option ByteArray :=
  if -9223372036854775808 ≤ i ∧ i ≤ 9223372036854775807 ∧ f < 18446744073709551616 then (if value_Is.f 1 k i s f = some true then some (B (printL k i s f)) else some (B [63])) else none
theorem printF_calls (k i : Int) (s : ByteArray) (f : Nat) (r : ByteArray) (w : World) (hT : Errs w) (h : printF k i s f = some r) :
    Calls Tryd.prog 10 #[Av k i s f] w fun e w' => e = .returned (.string r) ∧ Below w.heap.size w w' := by
  unfold printF at h
  split at h
  · rename_i hb
    rcases is_or k i s f hb.1 hb.2.1 hb.2.2 with ⟨h1, t, ht⟩ | h1
    · rw [if_pos h1, ht.text] at h
      cases h
      exact ht.print w hT.tabs
    · rw [if_neg (by rw [h1]; simp)] at h
      cases h
      exact print_bad k i s f h1 w
  · cases h
theorem Vt.printF {k i : Int} {s : ByteArray} {f : Nat} {t : List UInt8} (h : Vt k i s f t) : printF k i s f = some (B t) := by
  obtain ⟨h1, h2⟩ := h.is
  unfold Mb.printF
  rw [if_pos h2, if_pos h1, h.text]
abbrev FR := Int × Int × ByteArray × Nat × ByteArray × Bool
def numL (l : List UInt8) : FR := match Lib.parseIntB 64 (l.take (lead l)) with
  | .ok v => (1, v, ⟨#[]⟩, 0, B (l.drop (lead l)), true)
  | .range => (1, Lib.intSat 64 (l.take (lead l)), ⟨#[]⟩, 0, B (l.drop (lead l)), false)
  | _ => (1, 0, ⟨#[]⟩, 0, B (l.drop (lead l)), false)
open Classical in
def frontL (l : List UInt8) : Option FR :=
  if 10000 < l.length then none else
  match l with
  | [] => some (numL [])
  | c :: r =>
    if c = 34 then (lim fun k => text_unquoted.f k (B r)).map fun x => (3, 0, x.1, 0, x.2.1, x.2.2)
    else if c = 116 then (if [114, 117, 101] <+: r then some (2, 1, ⟨#[]⟩, 0, B (r.drop 3), true) else some (numL (c :: r)))
    else if c = 120 then (lim fun k => text_unhexed.f k (B r)).map fun x => (4, 0, x.1, 0, x.2, true)
    else if c = 102 then (if [97, 108, 115, 101] <+: r then some (2, 0, ⟨#[]⟩, 0, B (r.drop 4), true)
      else if 16 ≤ r.length then some (5, 0, ⟨#[]⟩, (hxs 0 (r.take 16)).getD 0, B (r.drop 16), (hxs 0 (r.take 16)).isSome) else some (numL (c :: r)))
    else some (numL (c :: r))
def frontF (s : ByteArray) : Option FR := frontL s.data.toList
def Plain (l : List UInt8) : Prop := strings_HasPrefix.f (B l) (B [34]) = some false ∧ strings_HasPrefix.f (B l) (B [116, 114, 117, 101]) = some false ∧ strings_HasPrefix.f (B l) (B [102, 97, 108, 115, 101]) = some false ∧
  strings_HasPrefix.f (B l) (B [120]) = some false ∧ (strings_HasPrefix.f (B l) (B [102]) = some false ∨ (strings_HasPrefix.f (B l) (B [102]) = some true ∧ l.length ≤ 16))
theorem plain_calls (l : List UInt8) (hl : l.length ≤ 1000000) (hp : Plain l) (v : Int) (b : Bool) (hr : ResI (l.take (lead l)) v b) (w : World) (hT : Errs w) :
    Calls Tryd.prog 33 #[.string (B l)] w fun e w' => e = .returned (.tuple #[Av 1 v ⟨#[]⟩ 0, .string (B (l.drop (lead l))), .bool b]) ∧ Below w.heap.size w w' := by
  obtain ⟨h1, h2, h3, h4, h5 | ⟨h5, hq⟩⟩ := hp
  · exact front_plain l hl h1 h2 h3 h4 h5 v b hr w hT
  · exact front_short_f l hl h1 h2 h3 h4 h5 hq v b hr w hT
theorem num_calls (l : List UInt8) (hl : l.length ≤ 1000000) (hp : Plain l) (r1 r2 : Int) (r3 : ByteArray) (r4 : Nat) (r5 : ByteArray) (r6 : Bool) (w : World) (hT : Errs w) (h : numL l = (r1, r2, r3, r4, r5, r6)) :
    Calls Tryd.prog 33 #[.string (B l)] w fun e w' => e = .returned (.tuple #[Av r1 r2 r3 r4, .string r5, .bool r6]) ∧ Below w.heap.size w w' := by
  unfold numL at h
  split at h
  · rename_i v hv
    cases h
    exact plain_calls l hl hp r2 true (.inl ⟨hv, rfl⟩) w hT
  · rename_i hv
    cases h
    exact plain_calls l hl hp _ false (.inr (.inr ⟨hv, rfl, rfl⟩)) w hT
  · rename_i hv1 hv2
    cases h
    refine plain_calls l hl hp 0 false (.inr (.inl ⟨?_, rfl, rfl⟩)) w hT
    cases hx : Lib.parseIntB 64 (l.take (lead l)) with
    | ok v => exact absurd hx (hv1 v)
    | range => exact absurd hx hv2
    | _ => rfl
theorem pre_head (l p : List UInt8) (c d : UInt8) (h : d ≠ c) : strings_HasPrefix.f (B (d :: l)) (B (c :: p)) = some false := by
  rw [hasPrefix_is, no_prefix (d :: l) c p (.inr ⟨d, l, rfl, h⟩)]
theorem pre_same (l p : List UInt8) (c : UInt8) (h : ¬ p <+: l) : strings_HasPrefix.f (B (c :: l)) (B (c :: p)) = some false := by
  rw [hasPrefix_is]
  congr 1
  rw [beq_eq_false_iff_ne]
  intro he
  simp only [List.length_cons, List.take_succ_cons, List.cons.injEq, true_and] at he
  exact h ⟨l.drop p.length, by conv => lhs; lhs; rw [← he]
                               exact List.take_append_drop _ _⟩
theorem plain_nil : Plain [] := ⟨rfl, rfl, rfl, rfl, .inl rfl⟩
theorem plain_other (c : UInt8) (r : List UInt8) (c1 : c ≠ 34) (c2 : c ≠ 116) (c3 : c ≠ 120) (c4 : c ≠ 102) : Plain (c :: r) :=
  ⟨pre_head r [] 34 c c1, pre_head r _ 116 c c2, pre_head r _ 102 c c4, pre_head r [] 120 c c3, .inl (pre_head r [] 102 c c4)⟩
theorem plain_t (r : List UInt8) (h : ¬ [114, 117, 101] <+: r) : Plain (116 :: r) :=
  ⟨pre_head r [] 34 116 (by decide), pre_same r _ 116 h, pre_head r _ 102 116 (by decide), pre_head r [] 120 116 (by decide), .inl (pre_head r [] 102 116 (by decide))⟩
theorem plain_f (r : List UInt8) (h : ¬ [97, 108, 115, 101] <+: r) (hr : r.length < 16) : Plain (102 :: r) :=
  ⟨pre_head r [] 34 102 (by decide), pre_head r _ 116 102 (by decide), pre_same r _ 102 h, pre_head r [] 120 102 (by decide), .inr ⟨(hasPrefix_is (102 :: r) [102]).trans (by simp), by rw [List.length_cons]; omega⟩⟩
theorem pre_take (r : List UInt8) (h : ¬ [97, 108, 115, 101] <+: r) : ¬ [97, 108, 115, 101] <+: r.take 16 := fun ⟨z, hz⟩ => h ⟨z ++ r.drop 16, by rw [← List.append_assoc, hz, List.take_append_drop]⟩
theorem low_dgt : ∀ n : Fin 256, 97 ≤ n.val → n.val ≤ 102 → (n.val.toUInt8 ||| 32).toNat = n.val := by decide +kernel
theorem hxv_dgt {c : UInt8} (h : isDgt c) : hxv c = some (dgv c) := by
  unfold hxv dgv
  rcases h with ⟨h1, h2⟩ | ⟨h1, h2⟩
  · rw [if_pos ⟨h1, h2⟩, if_pos h2]
  · have := low_dgt ⟨c.toNat, c.toNat_lt⟩ h1 h2
    have ec : c.toNat.toUInt8 = c := by simp
    simp only [ec] at this
    have hl : low c = c.toNat := this
    rw [if_neg (show ¬ (48 ≤ c.toNat ∧ c.toNat ≤ 57) by omega), hl, if_pos ⟨h1, h2⟩, if_neg (show ¬ c.toNat ≤ 57 by omega)]
theorem hxs_dgt (l : List UInt8) (h : ∀ c ∈ l, isDgt c) : ∀ a, hxs a l = some (l.foldl (fun a c => a * 16 + dgv c) a) := by
  induction l with
  | nil => intro a; rfl
  | cons c l ih =>
    intro a
    rw [hxs, hxv_dgt (h c (List.mem_cons_self ..)), Option.bind_some, ih fun d hd => h d (List.mem_cons_of_mem _ hd)]
    rfl
theorem frontF_calls (a0 : ByteArray) (r1 r2 : Int) (r3 : ByteArray) (r4 : Nat) (r5 : ByteArray) (r6 : Bool) (w : World) (hT : Errs w) (h : frontF a0 = some (r1, r2, r3, r4, r5, r6)) :
    Calls Tryd.prog 33 #[.string a0] w fun e w' => e = .returned (.tuple #[Av r1 r2 r3 r4, .string r5, .bool r6]) ∧ Below w.heap.size w w' := by
  obtain ⟨l, rfl⟩ : ∃ l, a0 = B l := ⟨a0.data.toList, rfl⟩
  unfold frontF at h
  rw [data_B] at h
  unfold frontL at h
  split at h
  · cases h
  rename_i hl
  split at h
  · exact num_calls [] (by decide) plain_nil r1 r2 r3 r4 r5 r6 w hT (Option.some.inj h)
  · rename_i c r
    rw [List.length_cons] at hl
    by_cases c1 : c = 34
    · rw [if_pos c1] at h
      subst c1
      obtain ⟨⟨o, x, b⟩, hx, he⟩ := Option.map_eq_some_iff.1 h
      obtain ⟨k, hk⟩ := lim_out hx
      cases he
      exact front_quote r k _ _ _ w hk
    rw [if_neg c1] at h
    by_cases c2 : c = 116
    · rw [if_pos c2] at h
      subst c2
      split at h
      · rename_i hp
        obtain ⟨m, rfl⟩ := hp
        cases h
        refine front_true m ?_ w
        rw [List.length_append] at hl
        omega
      · rename_i hp
        exact num_calls (116 :: r) (by rw [List.length_cons]; omega) (plain_t r hp) r1 r2 r3 r4 r5 r6 w hT (Option.some.inj h)
    rw [if_neg c2] at h
    by_cases c3 : c = 120
    · rw [if_pos c3] at h
      subst c3
      obtain ⟨⟨o, x⟩, hx, he⟩ := Option.map_eq_some_iff.1 h
      obtain ⟨k, hk⟩ := lim_out hx
      cases he
      exact front_bytes r k _ _ w hk
    rw [if_neg c3] at h
    by_cases c4 : c = 102
    · rw [if_pos c4] at h
      subst c4
      split at h
      · rename_i hp
        obtain ⟨m, rfl⟩ := hp
        cases h
        refine front_false m ?_ w
        rw [List.length_append] at hl
        omega
      · rename_i hp
        split at h
        · rename_i hd
          cases h
          have := front_floatg (r.take 16) (r.drop 16) (by rw [List.length_take]; omega) (by rw [List.length_drop]; omega) (pre_take r hp) ((hxs 0 (r.take 16)).getD 0) ((hxs 0 (r.take 16)).isSome) (by
            cases hx : hxs 0 (r.take 16) with
            | some n => exact .inl ⟨n, hx, rfl, rfl⟩
            | none => exact .inr ⟨hx, rfl, rfl⟩) w hT
          rw [List.take_append_drop] at this
          exact this
        · rename_i hd
          exact num_calls (102 :: r) (by rw [List.length_cons]; omega) (plain_f r hp (by omega)) r1 r2 r3 r4 r5 r6 w hT (Option.some.inj h)
    rw [if_neg c4] at h
    exact num_calls (c :: r) (by rw [List.length_cons]; omega) (plain_other c r c1 c2 c3 c4) r1 r2 r3 r4 r5 r6 w hT (Option.some.inj h)
theorem num_itoa (n : Int) (h0 : -9223372036854775808 ≤ n) (h1 : n ≤ 9223372036854775807) (m : List UInt8) (hm : m = [] ∨ ∃ c r, m = c :: r ∧ isNum c = false) : numL (itoa n ++ m) = (1, n, ⟨#[]⟩, 0, B m, true) := by
  have hl := lead_all (itoa n) m (itoa_num n) hm
  unfold numL
  rw [hl, List.take_left, List.drop_left, parse_itoa n h0 h1]
theorem Vt.frontF {k i : Int} {s : ByteArray} {f : Nat} {t : List UInt8} (h : Vt k i s f t) (m : List UInt8) (hm : Behind m) (hl : t.length + m.length ≤ 10000) : frontF (B (t ++ m)) = some (k, i, s, f, B m, true) := by
  unfold Mb.frontF
  rw [data_B]
  unfold frontL
  rw [if_neg (by rw [List.length_append]; omega)]
  cases h with
  | int n h0 h1 =>
    have hp := itoa_plain i m
    have hn := num_itoa i h0 h1 m hm.num
    rcases hp with hp | ⟨c, r, hp, d1, d2, d3, d4⟩
    · rw [hp] at hn ⊢
      simp only [hn]
    · rw [hp] at hn ⊢
      simp only [if_neg d1, if_neg d2, if_neg d3, if_neg d4, hn]
  | yes =>
    simp only [List.cons_append, List.nil_append]
    rw [if_neg (by decide), if_pos trivial, if_pos (show [114, 117, 101] <+: 114 :: 117 :: 101 :: m from List.prefix_append [114, 117, 101] m)]
    rfl
  | no =>
    simp only [List.cons_append, List.nil_append]
    rw [if_neg (by decide), if_neg (by decide), if_neg (by decide), if_pos trivial, if_pos (show [97, 108, 115, 101] <+: 97 :: 108 :: 115 :: 101 :: m from List.prefix_append [97, 108, 115, 101] m)]
    rfl
  | str s h =>
    obtain ⟨k, hk⟩ := unquoted_back s.data.toList m (by rw [size_data]; omega)
    rw [B_data] at hk
    have e : quoteL s.data.toList ++ m = 34 :: (s.data.toList.flatMap esc ++ 34 :: m) := by simp [quoteL]
    rw [e]
    simp only [if_pos]
    rw [lim_some (fun k => text_unquoted.mono _ k) hk]
    rfl
  | bytes s h =>
    obtain ⟨k, hk⟩ := unhexed_is s.data.toList m [] hm.dig (by rw [size_data]; simp; omega)
    rw [List.nil_append, B_data] at hk
    simp only [List.cons_append]
    rw [if_neg (by decide), if_neg (by decide), if_pos trivial]
    have hk' : text_unhexed.f k (B (hexL s.data.toList ++ m)) = some (s, B m) := hk
    rw [lim_some (fun k => text_unhexed.mono _ k) hk']
    rfl
  | float f h =>
    simp only [List.cons_append]
    have hx := tells_hex 16 f
    have hz := tells_length 16 f
    rw [if_neg (by decide), if_neg (by decide), if_neg (by decide), if_pos trivial]
    have np : ¬ [97, 108, 115, 101] <+: tells 16 f ++ m := by
      rintro ⟨z, hz'⟩
      have := not_false_ahead (tells 16 f) m hz hx
      rw [← hz'] at this
      simp at this
    have ht : (tells 16 f ++ m).take 16 = tells 16 f := List.take_left' hz
    have hd : (tells 16 f ++ m).drop 16 = m := List.drop_left' hz
    have hv : hxs 0 (tells 16 f) = some f := by
      rw [hxs_dgt _ hx]
      exact congrArg some (hval_tells 16 f h)
    rw [if_neg np, if_pos (by rw [List.length_append, hz]; omega), ht, hd, hv]
    rfl
def parseF (s : ByteArray) : Option (Int × Int × ByteArray × Nat × Int) := match frontF s with
  | none => none
  | some (k, i, b, f, r, ok) => if ok = false ∨ r.toList.isEmpty = false then some (0, 0, ⟨#[]⟩, 0, 30) else match printF k i b f with
    | none => none
    | some t => if t = s then some (k, i, b, f, 0) else some (0, 0, ⟨#[]⟩, 0, 30)
theorem parseF_calls (a0 : ByteArray) (r1 r2 : Int) (r3 : ByteArray) (r4 : Nat) (r5 : Int) (w : World) (hT : Errs w) (h : parseF a0 = some (r1, r2, r3, r4, r5)) :
    Calls Tryd.prog 14 #[.string a0] w fun e w' => e = .returned (.tuple #[Av r1 r2 r3 r4, .int .i64 r5]) ∧ Below w.heap.size w w' := by
  unfold parseF at h
  split at h
  · cases h
  rename_i k i b f r ok hf
  split at h
  · rename_i hc
    cases h
    exact parse_bad (T := Errs) Errs.mono a0 r ok hc k i b f w hT fun w hw => frontF_calls a0 k i b f r ok w hw hf
  · rename_i hc
    obtain ⟨hok, hr⟩ : ok = true ∧ r.toList.isEmpty = true := by
      constructor
      · cases ok with
        | true => rfl
        | false => exact absurd (.inl rfl) hc
      · cases hx : r.toList.isEmpty with
        | true => rfl
        | false => exact absurd (.inr hx) hc
    subst hok
    split at h
    · cases h
    rename_i t hp
    split at h
    · rename_i e
      cases h
      subst e
      exact parse_ok (T := Errs) Errs.mono t r (List.isEmpty_iff.1 hr) _ _ _ _ w hT (fun w hw => frontF_calls t _ _ _ _ r true w hw hf) (fun w hw => printF_calls _ _ _ _ t w hw hp)
    · rename_i e
      cases h
      refine parse_other (T := Errs) Errs.mono a0 r t (List.isEmpty_iff.1 hr) ?_ k i b f w hT (fun w hw => frontF_calls a0 k i b f r true w hw hf) (fun w hw => printF_calls k i b f t w hw hp)
      rw [beq_eq_false_iff_ne]
      intro he
      rw [ByteArray.toList_eq, ByteArray.toList_eq] at he
      exact e (ext_data he)
theorem Vt.parseF {k i : Int} {s : ByteArray} {f : Nat} {t : List UInt8} (h : Vt k i s f t) (hl : t.length ≤ 10000) : parseF (B t) = some (k, i, s, f, 0) := by
  have hf := h.frontF [] ⟨by decide, .inl rfl⟩ (by simpa using hl)
  rw [List.append_nil] at hf
  unfold Mb.parseF
  rw [hf]
  simp only
  rw [if_neg (by rw [toList_B]; simp), h.printF]
  simp only [if_pos]
theorem parseF_bad : parseF (B [63]) = some (0, 0, ⟨#[]⟩, 0, 30) := by
  have hn : frontF (B [63]) = some (1, 0, ⟨#[]⟩, 0, B [63], false) := by
    unfold frontF
    rw [data_B]
    unfold frontL
    rw [if_neg (by decide)]
    rfl
  unfold parseF
  rw [hn]
  simp only
  rw [if_pos (.inl trivial)]
end
end Go.Proofs.YtpjfhdbkkomogaaDoor.Mb
namespace Go.Proofs.YtpjfhdbkkomogaaDoor.Mb
open Go.RowKit Go.Proofs.YtpjfhdbkkomogaaDoorW.PrintWords Go.Proofs.YtpjfhdbkkomogaaDoorW.PrintLast Go.Proofs.YtpjfhdbkkomogaaDoorW.PrintMore Go.Proofs.YtpjfhdbkkomogaaDoor.Px Go.Proofs.YtpjfhdbkkomogaaDoor.Gvn
theorem joinExtra : Builder.Extra Tryd.prog Tryd.join156_ren where
  sizeBuilder := by kernel_rfl
  liesBuilder := by kernel_rfl
  t5 := Tryd.underlying5
  a5 := Tryd.isAgg5
  z5 := Tryd.sizeOf5
  v5 := Tryd.zeroValue5
  infoByte := by kernel_rfl
  cellsByte := by kernel_rfl
  sizeByte := by kernel_rfl
  neB5 := by decide
theorem join_none (A : Option Addr) (c : Nat) (sep : ByteArray) (w : World) :
    Calls Tryd.prog 32 #[.slice A 0 c, .string sep] w fun e w' => e = .returned (.string ⟨#[]⟩) ∧ Below w.heap.size w w' := by
  go_enter Tryd.func32, Tryd.ntmps32
  go_wp2
  go_ret
  exact ⟨rfl, Below.refl _ _⟩
def joinL (l : List ByteArray) (sep : ByteArray) : List UInt8 := Lib.join (l.map (·.data.toList)) sep.data.toList
def joinF (l : List ByteArray) (sep : ByteArray) : Option ByteArray := if l.length ≤ 1000000 ∧ (joinL l sep).length ≤ 1000000 then some (B (joinL l sep)) else none
theorem joinF_calls (A0 : Option Addr) (c0 : Nat) (l0 : List ByteArray) (a1 : ByteArray) (r : ByteArray) (w : World) (hr0 : Kd.C Kd.string w A0 l0.length l0) (hc0 : l0.length ≤ c0) (h : joinF l0 a1 = some r) :
    Calls Tryd.prog 32 #[.slice A0 l0.length c0, .string a1] w fun e w' => e = .returned (.string r) ∧ Below w.heap.size w w' := by
  unfold joinF at h
  split at h
  · rename_i hb
    cases h
    by_cases h0 : 0 < l0.length
    · obtain ⟨-, -, hr⟩ := Kd.reads_of_C (enc := Value.string) (d := ByteArray.empty) (h1 := fun _ => rfl) hr0
      obtain ⟨⟨bk, o, sp⟩, rfl, hc⟩ := hr h0
      have hz := hc 0 h0
      have hsp : sp = none := by
        cases sp with
        | none => rfl
        | some s =>
          simp [Addr.add, World.cell?] at hz
          split at hz <;> cases hz
      subst hsp
      have hbk : bk < w.heap.size := by
        simp only [Addr.add, if_pos] at hz
        exact cell_lt hz
      refine Any.strings_Join Tryd.join156 joinExtra bk o c0 l0 a1 w (fun j x hj => ?_) hbk (by omega) hc0 (by have := hb.2; unfold joinL at this; omega)
      have hlt := (List.getElem?_eq_some_iff.1 hj).1
      have h1 := hc j hlt
      rw [List.getD_eq_getElem?_getD, hj, Option.getD_some] at h1
      unfold Addr.add at h1
      by_cases hj0 : j = 0
      · subst hj0
        rw [if_pos rfl] at h1
        exact h1
      · rw [if_neg hj0] at h1
        exact h1
    · obtain rfl : l0 = [] := by
        cases l0 with
        | nil => rfl
        | cons _ _ => simp at h0
      have : joinL [] a1 = [] := rfl
      rw [this]
      exact join_none A0 c0 a1 w
  · cases h
end Go.Proofs.YtpjfhdbkkomogaaDoor.Mb
namespace Go.Proofs.YtpjfhdbkkomogaaDoor.Px
noncomputable section
open Go.RowKit Go.Proofs.YtpjfhdbkkomogaaDoor.Gvn Go.Proofs.YtpjfhdbkkomogaaDoorW.PrintWords Go.Proofs.YtpjfhdbkkomogaaDoorW.PrintLast Go.Proofs.YtpjfhdbkkomogaaDoorW.PrintMore
attribute [local go_sem] run_store_float min2_int min_two
set_option linter.unusedVariables false
set_option linter.unusedSimpArgs false
def text_Print.f (a0_0 : Int) (a0_1 : Int) (a0_2 : ByteArray) (a0_3 : Nat) : Option (ByteArray) := Mb.printF a0_0 a0_1 a0_2 a0_3
theorem text_Print.calls (a0_0 : Int) (a0_1 : Int) (a0_2 : ByteArray) (a0_3 : Nat) (r : ByteArray) (w : World) (hT : Mb.Errs w) (h : text_Print.f a0_0 a0_1 a0_2 a0_3 = some r) :
  Calls Tryd.prog 10 #[.agg #[.int .i64 a0_0, .int .i64 a0_1, .string a0_2, .float .f64 a0_3]] w fun e w' => e = .returned (.string r) ∧ Below w.heap.size w w' := Mb.printF_calls a0_0 a0_1 a0_2 a0_3 r w hT h
def strings_Join.f (l0 : List ByteArray) (a1 : ByteArray) : Option (ByteArray) := Mb.joinF l0 a1
theorem strings_Join.calls (A0 : Option Addr) (c0 : Nat) (l0 : List ByteArray) (a1 : ByteArray) (r : ByteArray) (w : World) (hr0 : Kd.C Kd.string w A0 l0.length l0) (hc0 : l0.length ≤ c0) (h : strings_Join.f l0 a1 = some r) :
  Calls Tryd.prog 32 #[.slice A0 l0.length c0, .string a1] w fun e w' => e = .returned (.string r) ∧ Below w.heap.size w w' := Mb.joinF_calls A0 c0 l0 a1 r w hr0 hc0 h
def text_Row.l0 : Nat → List ByteArray → List (S24) → Int → Int → Option (ByteArray)
 | 0, _, _, _, _ => none
 | k + 1, x3, x6, x7, x8 => if x8 < x7 then (if 0 ≤ x8 then (if x8 < (x6.length : Int) then ((text_Print.f ((rd_T24 x6 x8).f0) ((rd_T24 x6 x8).f1) ((rd_T24 x6 x8).f2) ((rd_T24 x6 x8).f3)).bind fun t131 => (if x3.length < 8796093022208 then (text_Row.l0 k (x3 ++ [t131]) x6 x7 (wrap64 (x8 + 1))) else (none))) else (none)) else (none)) else ((strings_Join.f x3 (⟨#[44, 32]⟩ : ByteArray)).bind fun t135 => (if 1 + t135.size ≤ 9223372036854775807 then (if ((⟨#[40]⟩ : ByteArray) ++ t135).size + 1 ≤ 9223372036854775807 then (some (((⟨#[40]⟩ : ByteArray) ++ t135) ++ (⟨#[41]⟩ : ByteArray))) else (none)) else (none)))
def text_Row.f (k : Nat) (l0 : List (S24)) : Option (ByteArray) := text_Row.l0 k ([] : List ByteArray) l0 (l0.length : Int) 0
theorem text_Row.mono_l : ∀ k, (∀ y0 y1 y2 y3, LeO (text_Row.l0 k y0 y1 y2 y3) (text_Row.l0 (k + 1) y0 y1 y2 y3))
 | 0 => fun _ _ _ _ r h => by simp [text_Row.l0] at h
 | k + 1 => by
  have ih0 := text_Row.mono_l k
  ·intro y0 y1 y2 y3
   unfold text_Row.l0
   repeat' first
   | (with_reducible exact ih0 _ _ _ _)
   | (with_reducible exact LeO.refl _)
   | (with_reducible exact LeO.none _)
   | (with_reducible refine LeO.ite ?_ ?_)
   | (with_reducible refine LeO.bind ?_ (fun _ => ?_))
   | exact ih0 _ _ _ _
   | exact LeO.none _
   | refine LeO.ite ?_ ?_
   | refine LeO.bind ?_ (fun _ => ?_)
theorem text_Row.mono : ∀ a0 k, LeO (text_Row.f k a0) (text_Row.f (k + 1) a0) := by
 intro a0 k
 have ih0 := text_Row.mono_l k
 unfold text_Row.f
 repeat' first
   | (with_reducible exact ih0 _ _ _ _)
   | (with_reducible exact LeO.refl _)
   | (with_reducible exact LeO.none _)
   | (with_reducible refine LeO.ite ?_ ?_)
   | (with_reducible refine LeO.bind ?_ (fun _ => ?_))
   | exact ih0 _ _ _ _
   | exact LeO.none _
   | refine LeO.ite ?_ ?_
   | refine LeO.bind ?_ (fun _ => ?_)
set_option maxHeartbeats 8000000 in
set_option maxRecDepth 100000 in
theorem text_Row.calls (k : Nat) (A0 : Option Addr) (c0 : Nat) (l0 : List (S24)) (r : ByteArray) (w : World) (hr0 : Kd.C k24 w A0 l0.length l0) (hc0 : l0.length ≤ c0) (hT : Mb.Errs w) (h : text_Row.f k l0 = some r) :
  Calls Tryd.prog 12 #[.slice A0 l0.length c0] w fun e w' => e = .returned (.string r) ∧ Below w.heap.size w w' := by
 have hu24 := Tryd.underlying24
 have HR0 := Aside0.mk hr0
 have HC0 := Aside0.mk hc0
 clear hr0 hc0
 have HB := Aside0.mk (Below.refl w.heap.size w)
 have HT := Aside0.mk hT
 clear hT
 have H : (text_Row.l0 k ([] : List ByteArray) l0 (l0.length : Int) 0) = some r := h
 clear h
 have H' := Aside0.mk H
 clear H
 have k23 := run23
 have k22 := run22
 go_enter Tryd.func12, Tryd.ntmps12
 go_wp2
 go_loopg [3, 8] k (fun kq v3 v8 w' => ∃ (x3_1 : List ByteArray) (x8_1 : Int), v8 = .int .i64 x8_1 ∧ Aside0 (text_Row.l0 kq x3_1 l0 (l0.length : Int) x8_1 = some r) ∧ Aside0 (kq ≤ k) ∧ Aside0 (Kd.R Kd.string 9 w' w.heap.size (fun _ => True) v3 x3_1) ∧ Aside0 (Below w.heap.size w w'))
 case atStart => exact ⟨(([] : List ByteArray)), (0), (by first | rfl | (simp; done) | (simp [*]; done)), H', ⟨Nat.le_refl _⟩, ⟨by first | exact Kd.R_nil _ _ _ _ _ | exact Kd.N_nil _ _ _ _ _ | exact Kd.V_nil _ _ _ _ _ | exact Kd.Q_nil _ _ _ _ _ | exact Kd.S_nil _ _ _ _ _⟩, ⟨by repeat (first | (with_reducible first | exact HB.out | apply below_alloc | apply pw_below_drewN | apply below_drew1) | exact HB.out)⟩⟩
 case round =>
  clear H'
  try clear c1
  obtain ⟨x3_1, x8_1, rfl, HA, HK1, HO_3, HB⟩ := hrel
  cases gk with
  | zero => exact absurd HA.out (by simp [text_Row.l0])
  | succ k1 =>
   have H := HA.out
   clear HA
   simp only [text_Row.l0] at H
   by_cases c2 : x8_1 < (l0.length : Int)
   ·rw [if_pos c2] at H
    have c2b0 : decide (x8_1 < (l0.length : Int)) = true := decide_eq_true c2
    clear c2
    by_cases c3 : 0 ≤ x8_1
    ·rw [if_pos c3] at H
     have c3b0 : decide (0 ≤ x8_1) = true := decide_eq_true c3
     clear c3
     by_cases c4 : x8_1 < (l0.length : Int)
     ·rw [if_pos c4] at H
      have c4b0 : decide (x8_1 < (l0.length : Int)) = true := decide_eq_true c4
      clear c4
      replace H := Option.bind_eq_some_iff.mp H
      obtain ⟨t131, A50, H⟩ := H
      replace H : (if x3_1.length < 8796093022208 then (text_Row.l0 k1 (x3_1 ++ [t131]) l0 (l0.length : Int) (wrap64 (x8_1 + 1))) else (none)) = some r := H
      have A5 := Aside0.mk A50
      clear A50
      by_cases c6 : x3_1.length < 8796093022208
      ·rw [if_pos c6] at H
       have LMc6 := Aside0.mk c6
       clear c6
       obtain ⟨y132, hy132⟩ : ∃ y_ : List ByteArray, y_ = (x3_1 ++ [t131]) := ⟨_, rfl⟩
       replace H : (text_Row.l0 k1 y132 l0 (l0.length : Int) (wrap64 (x8_1 + 1))) = some r := by first | (rw [hy132]; with_reducible exact H) | (have H2_ := (Option.bind_some _ _).symm.trans H; rw [hy132]; with_reducible exact H2_) | (have H2_ := (Option.bind_some _ _).symm.trans H; with_reducible exact H2_) | with_reducible exact H | (rw [hy132]; exact H) | exact H
       have Ny132 := Aside0.mk hy132
       clear hy132
       have H' := Aside0.mk H
       clear H
       have p129 : 0 ≤ (x8_1 : Int) := of_decide_eq_true (by first | (with_reducible assumption) | assumption)
       have q129 : x8_1 < (l0.length : Int) := of_decide_eq_true (by first | (with_reducible assumption) | assumption)
       obtain ⟨ad129, e129, hx129_0, hx129_1, hx129_2, hx129_3⟩ := at_T24 HR0.out x8_1 p129 q129
       cases e129
       replace hx129_0 := (HB.out.cell (World.block_lt_of_cell? w _ hx129_0)).trans hx129_0
       replace hx129_1 := (HB.out.cell (World.block_lt_of_cell? w _ hx129_1)).trans hx129_1
       replace hx129_2 := (HB.out.cell (World.block_lt_of_cell? w _ hx129_2)).trans hx129_2
       replace hx129_3 := (HB.out.cell (World.block_lt_of_cell? w _ hx129_3)).trans hx129_3
       replace p129 := eq_true p129
       replace q129 := eq_true q129
       go_wp2_with (first | ((with_reducible refine gate_dst (N := 5) rfl ?_); refine box_event ?hg (N := 5) ?hd (cs := #[.int .i64 0, .int .i64 0, .string (⟨#[]⟩ : ByteArray), .float .f64 0]) (t := 24) ?hr ?_; (case hd => rfl); (case hg => rfl); (case hr => first | (go_simp; done) | (go_simp; rfl)); intro gb130 hg w7 hbox hb; have n0_ := Aside0.mk (Kd.R_below (by (with_reducible repeat (first | apply Kd.R_alloc | apply Kd.R_drewN | apply Kd.R_drew)); exact HO_3.out) hb); have n1_ := Aside0.mk (below_step (by repeat (first | (with_reducible first | exact HB.out | apply below_alloc | apply pw_below_drewN | apply below_drew1) | exact HB.out)) hb); have n2_ := Aside0.mk (hbox); have n3_ := Aside0.mk ((by rw [hg]; exact (below_size (by repeat (first | (with_reducible first | exact HB.out | apply below_alloc | apply pw_below_drewN | apply below_drew1) | exact HB.out))) : w.heap.size ≤ gb130)); have n4_ := Aside0.mk ((by rw [hg]; exact (below_size (by repeat (first | (with_reducible first | exact HB.out | apply below_alloc | apply pw_below_drewN | apply below_drew1) | exact HB.out))) : w.heap.size ≤ gb130)); clear HO_3; clear HB; have HO_3 := n0_; have HB := n1_; have BK130 := n2_; have GW130 := n3_; have GE130 := n4_; clear n0_ n1_ n2_ n3_ n4_; clear hb hbox hg; have hcz8_0 : w7.cell? ⟨gb130, 0, none⟩ = some (.int .i64 0) := (blk_cell BK130.out 0).trans rfl; have hcz8_1 : w7.cell? ⟨gb130, 1, none⟩ = some (.int .i64 0) := (blk_cell BK130.out 1).trans rfl; have hcz8_2 : w7.cell? ⟨gb130, 2, none⟩ = some (.string (⟨#[]⟩ : ByteArray)) := (blk_cell BK130.out 2).trans rfl; have hcz8_3 : w7.cell? ⟨gb130, 3, none⟩ = some (.float .f64 0) := (blk_cell BK130.out 3).trans rfl; have hfz8_0 := blk_frozen BK130.out 0; have hfz8_1 := blk_frozen BK130.out 1; have hfz8_2 := blk_frozen BK130.out 2; have hfz8_3 := blk_frozen BK130.out 3) | ((with_reducible refine gate_callee (f := 10) rfl ?_); refine goesL_ (some 14) rfl rfl Tryd.func10 (by kernel_rfl) rfl #[.agg #[.int .i64 ((rd_T24 l0 x8_1).f0), .int .i64 ((rd_T24 l0 x8_1).f1), .string ((rd_T24 l0 x8_1).f2), .float .f64 ((rd_T24 l0 x8_1).f3)]] rfl (by (try simp only [List.map_toArray, List.map_cons, List.map_nil]); first | done | rfl | (simp only [List.length_drop, List.length_take]; rfl)) ?_; (with_reducible refine (text_Print.calls ((rd_T24 l0 x8_1).f0) ((rd_T24 l0 x8_1).f1) ((rd_T24 l0 x8_1).f2) ((rd_T24 l0 x8_1).f3) t131 _ ?side1 A5.out).mono ?_); (case side1 => exact Mb.Errs.mono HT.out (by repeat (first | (with_reducible first | exact HB.out | apply below_alloc | apply pw_below_drewN | apply below_drew1 | refine below_set ?_ GE130.out) | exact HB.out))); rintro e w9 ⟨rfl, hb⟩; refine ⟨_, rfl, ?_⟩; have n0_ := Aside0.mk (Kd.R_below (by (with_reducible repeat (first | apply Kd.R_alloc | apply Kd.R_drewN | apply Kd.R_drew)); exact (Kd.R_mono (Kd.R_far (p := ⟨gb130, 3, none⟩) (Kd.R_far (p := ⟨gb130, 2, none⟩) (Kd.R_far (p := ⟨gb130, 1, none⟩) (Kd.R_far (p := ⟨gb130, 0, none⟩) (Kd.R_types HO_3.out BK130.out (by decide)) (fun _ hk => hk.2) (.int .i64 ((rd_T24 l0 x8_1).f0))) (fun _ hk => hk.2) (.int .i64 ((rd_T24 l0 x8_1).f1))) (fun _ hk => hk.2) (.string ((rd_T24 l0 x8_1).f2))) (fun _ hk => hk.2) (.float .f64 ((rd_T24 l0 x8_1).f3))) (fun _ h_ => h_.1))) hb); have n1_ := Aside0.mk (blk_below (g := gb130) (o := .cells #[.int .i64 ((rd_T24 l0 x8_1).f0), .int .i64 ((rd_T24 l0 x8_1).f1), .string ((rd_T24 l0 x8_1).f2), .float .f64 ((rd_T24 l0 x8_1).f3)] 24 (0, 0)) (by (with_reducible repeat (first | refine blk_drewN ?_ _ | refine blk_drew ?_ | refine blk_alloc ?_ _)); refine blk_put (cs := #[.int .i64 ((rd_T24 l0 x8_1).f0), .int .i64 ((rd_T24 l0 x8_1).f1), .string ((rd_T24 l0 x8_1).f2), .float .f64 0]) ?_ 3 _ rfl; (with_reducible repeat (first | refine blk_drewN ?_ _ | refine blk_drew ?_ | refine blk_alloc ?_ _)); refine blk_put (cs := #[.int .i64 ((rd_T24 l0 x8_1).f0), .int .i64 ((rd_T24 l0 x8_1).f1), .string (⟨#[]⟩ : ByteArray), .float .f64 0]) ?_ 2 _ rfl; (with_reducible repeat (first | refine blk_drewN ?_ _ | refine blk_drew ?_ | refine blk_alloc ?_ _)); refine blk_put (cs := #[.int .i64 ((rd_T24 l0 x8_1).f0), .int .i64 0, .string (⟨#[]⟩ : ByteArray), .float .f64 0]) ?_ 1 _ rfl; (with_reducible repeat (first | refine blk_drewN ?_ _ | refine blk_drew ?_ | refine blk_alloc ?_ _)); refine blk_put (cs := #[.int .i64 0, .int .i64 0, .string (⟨#[]⟩ : ByteArray), .float .f64 0]) ?_ 0 _ rfl; (with_reducible repeat (first | refine blk_drewN ?_ _ | refine blk_drew ?_ | refine blk_alloc ?_ _)); exact BK130.out) hb); have n2_ := Aside0.mk (below_step (by repeat (first | (with_reducible first | exact HB.out | apply below_alloc | apply pw_below_drewN | apply below_drew1 | refine below_set ?_ GE130.out) | exact HB.out)) hb); clear HO_3; clear BK130; clear HB; have HO_3 := n0_; have BK130 := n1_; have HB := n2_; clear n0_ n1_ n2_; (try clear hb); (try clear hb2); (try clear hk); (try clear hi)) | ((with_reducible refine gate_builtin (b := .append) (xs := #[.tmp 12, .tmp 15]) rfl ?_); at_builtin; refine Kd.R_append Kd.string (w0 := w) w.heap.size rfl (.tmp 12) (.tmp 15) 59 9 (.string ⟨#[]⟩) 16 rfl Tryd.underlying59 info9 rfl (by decide) (by omega) u3 x3_1 t131 [.string t131] (fun _ => True) (fun _ => False) rfl rfl ?aP (fun _ hk => hk.elim) ?aF ?aO ?aB ?aS ?aL ?_; (case aP => exact rfl); (case aB => exact (by repeat (first | (with_reducible first | exact HB.out | apply below_alloc | apply pw_below_drewN | apply below_drew1 | refine below_set ?_ GE130.out) | exact HB.out))); (case aF => exact (fun _ _ => trivial)); (case aO => exact (by (with_reducible repeat (first | apply Kd.R_alloc | apply Kd.R_drewN | apply Kd.R_drew)); exact HO_3.out)); (case aS => exact (below_size (by repeat (first | (with_reducible first | exact HB.out | apply below_alloc | apply pw_below_drewN | apply below_drew1 | refine below_set ?_ GE130.out) | exact HB.out)))); (case aL => have := LMc6.out; omega); intro v133 w10 ho hb hg hat; rw [← Ny132.out] at ho; have n0_ := Aside0.mk (blk_grown (g := gb130) (o := .cells #[.int .i64 ((rd_T24 l0 x8_1).f0), .int .i64 ((rd_T24 l0 x8_1).f1), .string ((rd_T24 l0 x8_1).f2), .float .f64 ((rd_T24 l0 x8_1).f3)] 24 (0, 0)) (by (with_reducible repeat (first | refine blk_drewN ?_ _ | refine blk_drew ?_ | refine blk_alloc ?_ _)); exact BK130.out) hg (Kd.R_ne HO_3.out BK130.out (by decide))); have n1_ := Aside0.mk (hb); have n2_ := Aside0.mk (ho); clear BK130; clear HB; clear HO_3; have BK130 := n0_; have HB := n1_; have HO134 := n2_; clear n0_ n1_ n2_; clear ho hb hg hat))
       go_roundg k1
       case measure => have := HK1.out; omega
       case rel => exact ⟨(y132), (wrap64 (x8_1 + 1)), (by first | rfl | (simp; done) | (simp [*]; done)), H', ⟨by have := HK1.out; omega⟩, ⟨by (with_reducible repeat (first | apply Kd.R_alloc | apply Kd.R_drewN | apply Kd.R_drew)); exact HO134.out⟩, ⟨by repeat (first | (with_reducible first | exact HB.out | apply below_alloc | apply pw_below_drewN | apply below_drew1 | refine below_set ?_ GE130.out) | exact HB.out)⟩⟩
      ·rw [if_neg c6] at H
       exact absurd H (by simp)
     ·rw [if_neg c4] at H
      exact absurd H (by simp)
    ·rw [if_neg c3] at H
     exact absurd H (by simp)
   ·rw [if_neg c2] at H
    have c2b0 : decide (x8_1 < (l0.length : Int)) = false := decide_eq_false c2
    clear c2
    replace H := Option.bind_eq_some_iff.mp H
    obtain ⟨t135, A110, H⟩ := H
    replace H : (if 1 + t135.size ≤ 9223372036854775807 then (if ((⟨#[40]⟩ : ByteArray) ++ t135).size + 1 ≤ 9223372036854775807 then (some (((⟨#[40]⟩ : ByteArray) ++ t135) ++ (⟨#[41]⟩ : ByteArray))) else (none)) else (none)) = some r := H
    have A11 := Aside0.mk A110
    clear A110
    by_cases c12 : 1 + t135.size ≤ 9223372036854775807
    ·rw [if_pos c12] at H
     have c12b0 := eq_true c12
     have c12b1 : decide (1 + t135.size ≤ 9223372036854775807) = true := decide_eq_true c12
     try have c12b2 : (9223372036854775807 < 1 + t135.size) = False := eq_false (Nat.not_lt.2 c12)
     try (have c12b3 := c12b2; simp only [ByteArray.size_append, ByteArray.size_extract] at c12b3)
     try have c12b4 : (9223372036854775807 < 1 + t135.size) = False := eq_false (by have h_ := c12; (try simp only [ByteArray.size_append, ByteArray.size_extract] at h_); first | omega | (simp only [Nat.add_zero] at h_; omega))
     by_cases c13 : ((⟨#[40]⟩ : ByteArray) ++ t135).size + 1 ≤ 9223372036854775807
     ·rw [if_pos c13] at H
      have c13b0 := eq_true c13
      have c13b1 : decide (((⟨#[40]⟩ : ByteArray) ++ t135).size + 1 ≤ 9223372036854775807) = true := decide_eq_true c13
      try have c13b2 : (9223372036854775807 < ((⟨#[40]⟩ : ByteArray) ++ t135).size + 1) = False := eq_false (Nat.not_lt.2 c13)
      try (have c13b3 := c13b2; simp only [ByteArray.size_append, ByteArray.size_extract] at c13b3)
      try have c13b4 : (9223372036854775807 < (1 + t135.size) + 1) = False := eq_false (by have h_ := c13; (try simp only [ByteArray.size_append, ByteArray.size_extract] at h_); first | omega | (simp only [show (⟨#[40]⟩ : ByteArray).size = 1 from rfl] at h_; omega))
      obtain rfl := Option.some.inj H
      obtain ⟨Ao14, co14, eo14⟩ := Kd.R_slice HO_3.out
      subst eo14
      go_wp2_with (first | ((with_reducible refine gate_callee (f := 32) rfl ?_); refine goesL_ (some 19) rfl rfl Tryd.func32 (by kernel_rfl) rfl #[.slice Ao14 x3_1.length co14, .string (⟨#[44, 32]⟩ : ByteArray)] rfl (by (try simp only [List.map_toArray, List.map_cons, List.map_nil]); first | done | rfl | (simp only [List.length_drop, List.length_take]; rfl)) ?_; (with_reducible refine (strings_Join.calls _ _ x3_1 (⟨#[44, 32]⟩ : ByteArray) t135 _ ?side1 ?side2 A11.out).mono ?_); (case side1 => repeat (first | exact (Kd.R_reads' HO_3.out).2.2 | (with_reducible refine Kd.C_alloc ?_ _) | (with_reducible refine Kd.C_drewN ?_ _) | (with_reducible refine Kd.C_drew ?_))); (case side2 => exact (Kd.R_reads' HO_3.out).2.1); rintro e w15 ⟨rfl, hb⟩; refine ⟨_, rfl, ?_⟩; have n0_ := Aside0.mk (Kd.R_below (by (with_reducible repeat (first | apply Kd.R_alloc | apply Kd.R_drewN | apply Kd.R_drew)); exact HO_3.out) hb); have n1_ := Aside0.mk (below_step (by repeat (first | (with_reducible first | exact HB.out | apply below_alloc | apply pw_below_drewN | apply below_drew1) | exact HB.out)) hb); clear HO_3; clear HB; have HO_3 := n0_; have HB := n1_; clear n0_ n1_; (try clear hb); (try clear hb2); (try clear hk); (try clear hi)))
      go_ret
      exact ⟨by first | rfl | (simp [errW_none, errW_some] <;> rfl) | (simp [*, errW_none, errW_some] <;> rfl), by repeat (first | (with_reducible first | exact HB.out | apply below_alloc | apply pw_below_drewN | apply below_drew1) | exact HB.out)⟩
     ·rw [if_neg c13] at H
      exact absurd H (by simp)
    ·rw [if_neg c12] at H
     exact absurd H (by simp)
def text_front.f (a0 : ByteArray) : Option (Int × Int × ByteArray × Nat × ByteArray × Bool) := Mb.frontF a0
theorem text_front.calls (a0 : ByteArray) (r1 : Int) (r2 : Int) (r3 : ByteArray) (r4 : Nat) (r5 : ByteArray) (r6 : Bool) (w : World) (hT : Mb.Errs w) (h : text_front.f a0 = some (r1, r2, r3, r4, r5, r6)) :
  Calls Tryd.prog 33 #[.string a0] w fun e w' => e = .returned (.tuple #[.agg #[.int .i64 r1, .int .i64 r2, .string r3, .float .f64 r4], .string r5, .bool r6]) ∧ Below w.heap.size w w' := Mb.frontF_calls a0 r1 r2 r3 r4 r5 r6 w hT h
end
end Go.Proofs.YtpjfhdbkkomogaaDoor.Px
namespace Go.Proofs.YtpjfhdbkkomogaaDoor.Px
open Go.RowKit Go.Proofs.YtpjfhdbkkomogaaDoor.Gvn Go.Proofs.YtpjfhdbkkomogaaDoorW.PrintWords Go.Proofs.YtpjfhdbkkomogaaDoorW.PrintLast Go.Proofs.YtpjfhdbkkomogaaDoorW.PrintMore
attribute [local go_sem] run_store_float min2_int min_two
set_option linter.unusedVariables false
set_option linter.unusedSimpArgs false
def stringslite_CutPrefix.f (a0 : ByteArray) (a1 : ByteArray) : Option (ByteArray × Bool) := (stringslite_HasPrefix.f a0 a1).bind fun t160 => (if t160 = true then (if 0 ≤ (a1.size : Int) then (if (a1.size : Int) ≤ (a0.size : Int) then (some (a0.extract ((a1.size : Int) : Int).toNat a0.size, true)) else (none)) else (none)) else (some (a0, false)))
set_option maxHeartbeats 8000000 in
set_option maxRecDepth 100000 in
theorem stringslite_CutPrefix.calls (a0 : ByteArray) (a1 : ByteArray) (r1 : ByteArray) (r2 : Bool) (w : World) (h : stringslite_CutPrefix.f a0 a1 = some (r1, r2)) :
  Calls Tryd.prog 56 #[.string a0, .string a1] w fun e w' => e = .returned (.tuple #[.string r1, .bool r2]) ∧ Drawn0 w w' := by
 have H : ((stringslite_HasPrefix.f a0 a1).bind fun t160 => (if t160 = true then (if 0 ≤ (a1.size : Int) then (if (a1.size : Int) ≤ (a0.size : Int) then (some (a0.extract ((a1.size : Int) : Int).toNat a0.size, true)) else (none)) else (none)) else (some (a0, false)))) = some (r1, r2) := h
 clear h
 replace H := Option.bind_eq_some_iff.mp H
 obtain ⟨t160, A30, H⟩ := H
 replace H : (if t160 = true then (if 0 ≤ (a1.size : Int) then (if (a1.size : Int) ≤ (a0.size : Int) then (some (a0.extract ((a1.size : Int) : Int).toNat a0.size, true)) else (none)) else (none)) else (some (a0, false))) = some (r1, r2) := H
 have A3 := Aside0.mk A30
 clear A30
 by_cases c4 : t160 = true
 ·subst c4
  have H1 : (if 0 ≤ (a1.size : Int) then (if (a1.size : Int) ≤ (a0.size : Int) then (some (a0.extract ((a1.size : Int) : Int).toNat a0.size, true)) else (none)) else (none)) = some (r1, r2) := by rw [if_pos rfl] at H; exact H
  clear H
  have H := H1
  clear H1
  by_cases c5 : 0 ≤ (a1.size : Int)
  ·rw [if_pos c5] at H
   have c5b0 := eq_true c5
   have c5b1 : decide (0 ≤ (a1.size : Int)) = true := decide_eq_true c5
   clear c5
   by_cases c6 : (a1.size : Int) ≤ (a0.size : Int)
   ·rw [if_pos c6] at H
    have c6b0 := eq_true c6
    have c6b1 : decide ((a1.size : Int) ≤ (a0.size : Int)) = true := decide_eq_true c6
    clear c6
    simp only [Option.some.injEq, Prod.mk.injEq] at H
    obtain ⟨rfl, rfl⟩ := H
    have k23 := run23
    have k22 := run22
    go_enter Tryd.func56, Tryd.ntmps56
    go_wp2_with (first | ((with_reducible refine gate_callee (f := 66) rfl ?_); refine goesL_ (some 8) rfl rfl Tryd.func66 (by kernel_rfl) rfl #[.string a0, .string a1] rfl (by (try simp only [List.map_toArray, List.map_cons, List.map_nil]); first | done | rfl | (simp only [List.length_drop, List.length_take]; rfl)) ?_; (with_reducible refine (stringslite_HasPrefix.calls a0 a1 true _ A3.out).mono ?_); rintro e w' ⟨rfl, ⟨nd, rfl⟩⟩; refine ⟨_, rfl, ?_⟩))
    go_ret2
    exact ⟨by first | rfl | (simp; done) | (simp [*]; done), by repeat (first | exact Drawn0.refl _ | apply Drawn0.step)⟩
   ·rw [if_neg c6] at H
    exact absurd H (by simp)
  ·rw [if_neg c5] at H
   exact absurd H (by simp)
 ·replace c4 := Bool.eq_false_iff.mpr c4
  subst c4
  have H1 : (some (a0, false)) = some (r1, r2) := by rw [if_neg (show ¬ (false = true) by decide)] at H; exact H
  clear H
  have H := H1
  clear H1
  simp only [Option.some.injEq, Prod.mk.injEq] at H
  obtain ⟨rfl, rfl⟩ := H
  have k23 := run23
  have k22 := run22
  go_enter Tryd.func56, Tryd.ntmps56
  go_wp2_with (first | ((with_reducible refine gate_callee (f := 66) rfl ?_); refine goesL_ (some 8) rfl rfl Tryd.func66 (by kernel_rfl) rfl #[.string a0, .string a1] rfl (by (try simp only [List.map_toArray, List.map_cons, List.map_nil]); first | done | rfl | (simp only [List.length_drop, List.length_take]; rfl)) ?_; (with_reducible refine (stringslite_HasPrefix.calls a0 a1 false _ A3.out).mono ?_); rintro e w' ⟨rfl, ⟨nd, rfl⟩⟩; refine ⟨_, rfl, ?_⟩))
  go_ret2
  exact ⟨by first | rfl | (simp; done) | (simp [*]; done), by repeat (first | exact Drawn0.refl _ | apply Drawn0.step)⟩
def strings_CutPrefix.f (a0 : ByteArray) (a1 : ByteArray) : Option (ByteArray × Bool) := (stringslite_CutPrefix.f a0 a1).bind fun bt161 => (some (bt161.1, bt161.2))
set_option maxHeartbeats 8000000 in
set_option maxRecDepth 100000 in
theorem strings_CutPrefix.calls (a0 : ByteArray) (a1 : ByteArray) (r1 : ByteArray) (r2 : Bool) (w : World) (h : strings_CutPrefix.f a0 a1 = some (r1, r2)) :
  Calls Tryd.prog 35 #[.string a0, .string a1] w fun e w' => e = .returned (.tuple #[.string r1, .bool r2]) ∧ Drawn0 w w' := by
 have H : ((stringslite_CutPrefix.f a0 a1).bind fun bt161 => (some (bt161.1, bt161.2))) = some (r1, r2) := h
 clear h
 replace H := Option.bind_eq_some_iff.mp H
 obtain ⟨⟨t161, t162⟩, A30, H⟩ := H
 replace H : (some (t161, t162)) = some (r1, r2) := H
 have A3 := Aside0.mk A30
 clear A30
 simp only [Option.some.injEq, Prod.mk.injEq] at H
 obtain ⟨rfl, rfl⟩ := H
 have k23 := run23
 have k22 := run22
 go_enter Tryd.func35, Tryd.ntmps35
 go_wp2_with (first | ((with_reducible refine gate_callee (f := 56) rfl ?_); refine goesL_ (some 8) rfl rfl Tryd.func56 (by kernel_rfl) rfl #[.string a0, .string a1] rfl (by (try simp only [List.map_toArray, List.map_cons, List.map_nil]); first | done | rfl | (simp only [List.length_drop, List.length_take]; rfl)) ?_; (with_reducible refine (stringslite_CutPrefix.calls a0 a1 t161 t162 _ A3.out).mono ?_); rintro e w' ⟨rfl, ⟨nd, rfl⟩⟩; refine ⟨_, rfl, ?_⟩))
 go_ret2
 exact ⟨by first | rfl | (simp; done) | (simp [*]; done), by repeat (first | exact Drawn0.refl _ | apply Drawn0.step)⟩
end Go.Proofs.YtpjfhdbkkomogaaDoor.Px
namespace Go.Proofs.YtpjfhdbkkomogaaDoor.Px
noncomputable section
open Go.RowKit Go.Proofs.YtpjfhdbkkomogaaDoor.Gvn Go.Proofs.YtpjfhdbkkomogaaDoorW.PrintWords Go.Proofs.YtpjfhdbkkomogaaDoorW.PrintLast Go.Proofs.YtpjfhdbkkomogaaDoorW.PrintMore
attribute [local go_sem] run_store_float min2_int min_two
set_option linter.unusedVariables false
set_option linter.unusedSimpArgs false
mutual
def text_Read.l0 : Nat → ByteArray → ByteArray → Bool → List (S24) → Option ((List (S24)) × Int)
 | 0, _, _, _, _ => none
 | k + 1, x0, x4, x5, x6 => if x5 = true then (text_Read.j1 k x0 x4 x5 x6 (x4.toList != ([41] : List UInt8))) else (text_Read.j1 k x0 x4 x5 x6 false)
def text_Read.j1 : Nat → ByteArray → ByteArray → Bool → List (S24) → Bool → Option ((List (S24)) × Int)
 | 0, _, _, _, _, _ => none
 | k + 1, x0, x4, x5, x6, x19 => if x19 = true then (if (x6.length : Int) > 0 then ((strings_CutPrefix.f x4 (⟨#[44, 32]⟩ : ByteArray)).bind fun bt166 => ((text_front.f bt166.1).bind fun bt168 => (if x6.length < 3518437208883 then ((some (x6 ++ [(⟨bt168.1, bt168.2.1, bt168.2.2.1, bt168.2.2.2.1⟩ : S24)] : List (S24))).bind fun y175 => (if bt166.2 = true then (text_Read.l0 k x0 bt168.2.2.2.2.1 bt168.2.2.2.2.2 y175) else (text_Read.l0 k x0 bt168.2.2.2.2.1 false y175))) else (none)))) else ((text_front.f x4).bind fun bt178 => (if x6.length < 3518437208883 then ((some (x6 ++ [(⟨bt178.1, bt178.2.1, bt178.2.2.1, bt178.2.2.2.1⟩ : S24)] : List (S24))).bind fun y185 => (if x5 = true then (text_Read.l0 k x0 bt178.2.2.2.2.1 bt178.2.2.2.2.2 y185) else (text_Read.l0 k x0 bt178.2.2.2.2.1 false y185))) else (none)))) else (if x5 = true then ((text_Row.f k x6).bind fun t165 => (if t165.toList = x0.toList then (some (x6, 0)) else (some (([] : List (S24)), 30)))) else (some (([] : List (S24)), 30)))
end
def text_Read.f (k : Nat) (a0 : ByteArray) : Option ((List (S24)) × Int) := (strings_CutPrefix.f a0 (⟨#[40]⟩ : ByteArray)).bind fun bt163 => (text_Read.l0 k a0 bt163.1 bt163.2 ([] : List (S24)))
theorem text_Read.mono_l : ∀ k, (∀ y0 y1 y2 y3, LeO (text_Read.l0 k y0 y1 y2 y3) (text_Read.l0 (k + 1) y0 y1 y2 y3)) ∧ (∀ y0 y1 y2 y3 y4, LeO (text_Read.j1 k y0 y1 y2 y3 y4) (text_Read.j1 (k + 1) y0 y1 y2 y3 y4))
 | 0 => ⟨fun _ _ _ _ r h => by simp [text_Read.l0] at h, fun _ _ _ _ _ r h => by simp [text_Read.j1] at h⟩
 | k + 1 => by
  obtain ⟨ih0, ih1⟩ := text_Read.mono_l k
  refine ⟨?_, ?_⟩
  ·intro y0 y1 y2 y3
   unfold text_Read.l0
   repeat' first
   | (with_reducible exact ih0 _ _ _ _)
   | (with_reducible exact ih1 _ _ _ _ _)
   | (with_reducible exact text_Row.mono _ _)
   | (with_reducible exact LeO.refl _)
   | (with_reducible exact LeO.none _)
   | (with_reducible refine LeO.ite ?_ ?_)
   | (with_reducible refine LeO.bind ?_ (fun _ => ?_))
   | exact ih0 _ _ _ _
   | exact ih1 _ _ _ _ _
   | exact text_Row.mono _ _
   | exact LeO.none _
   | refine LeO.ite ?_ ?_
   | refine LeO.bind ?_ (fun _ => ?_)
  ·intro y0 y1 y2 y3 y4
   unfold text_Read.j1
   repeat' first
   | (with_reducible exact ih0 _ _ _ _)
   | (with_reducible exact ih1 _ _ _ _ _)
   | (with_reducible exact text_Row.mono _ _)
   | (with_reducible exact LeO.refl _)
   | (with_reducible exact LeO.none _)
   | (with_reducible refine LeO.ite ?_ ?_)
   | (with_reducible refine LeO.bind ?_ (fun _ => ?_))
   | exact ih0 _ _ _ _
   | exact ih1 _ _ _ _ _
   | exact text_Row.mono _ _
   | exact LeO.none _
   | refine LeO.ite ?_ ?_
   | refine LeO.bind ?_ (fun _ => ?_)
theorem text_Read.mono : ∀ a0 k, LeO (text_Read.f k a0) (text_Read.f (k + 1) a0) := by
 intro a0 k
 obtain ⟨ih0, ih1⟩ := text_Read.mono_l k
 unfold text_Read.f
 repeat' first
   | (with_reducible exact ih0 _ _ _ _)
   | (with_reducible exact ih1 _ _ _ _ _)
   | (with_reducible exact text_Row.mono _ _)
   | (with_reducible exact LeO.refl _)
   | (with_reducible exact LeO.none _)
   | (with_reducible refine LeO.ite ?_ ?_)
   | (with_reducible refine LeO.bind ?_ (fun _ => ?_))
   | exact ih0 _ _ _ _
   | exact ih1 _ _ _ _ _
   | exact text_Row.mono _ _
   | exact LeO.none _
   | refine LeO.ite ?_ ?_
   | refine LeO.bind ?_ (fun _ => ?_)
set_option maxHeartbeats 8000000 in
set_option maxRecDepth 100000 in
theorem text_Read.calls (k : Nat) (a0 : ByteArray) (r1 : List (S24)) (r2 : Int) (w : World) (hT : Mb.Errs w) (h : text_Read.f k a0 = some (r1, r2)) :
  Calls Tryd.prog 16 #[.string a0] w fun e w' => ∃ v0_ : Value, e = .returned (.tuple #[v0_, .int .i64 r2]) ∧ Kd.R k24 24 w' w.heap.size (fun _ => True) v0_ r1 ∧ Below w.heap.size w w' := by
 have hu24 := Tryd.underlying24
 have HB := Aside0.mk (Below.refl w.heap.size w)
 have HT := Aside0.mk hT
 clear hT
 have H : ((strings_CutPrefix.f a0 (⟨#[40]⟩ : ByteArray)).bind fun bt163 => (text_Read.l0 k a0 bt163.1 bt163.2 ([] : List (S24)))) = some (r1, r2) := h
 clear h
 replace H := Option.bind_eq_some_iff.mp H
 obtain ⟨⟨t163, t164⟩, A20, H⟩ := H
 replace H : (text_Read.l0 k a0 t163 t164 ([] : List (S24))) = some (r1, r2) := H
 have A2 := Aside0.mk A20
 clear A20
 have H' := Aside0.mk H
 clear H
 have k23 := run23
 have k22 := run22
 go_enter Tryd.func16, Tryd.ntmps16
 go_wp2_with (first | ((with_reducible refine gate_callee (f := 35) rfl ?_); refine goesL_ (some 12) rfl rfl Tryd.func35 (by kernel_rfl) rfl #[.string a0, .string (⟨#[40]⟩ : ByteArray)] rfl (by (try simp only [List.map_toArray, List.map_cons, List.map_nil]); first | done | rfl | (simp only [List.length_drop, List.length_take]; rfl)) ?_; (with_reducible refine (strings_CutPrefix.calls a0 (⟨#[40]⟩ : ByteArray) t163 t164 _ A2.out).mono ?_); rintro e w' ⟨rfl, ⟨nd, rfl⟩⟩; refine ⟨_, rfl, ?_⟩))
 go_loopg [4, 5, 6] k (fun kq v4 v5 v6 w' => ∃ (x4_1 : ByteArray) (x5_1 : Bool) (x6_1 : List (S24)), v4 = .string x4_1 ∧ v5 = .bool x5_1 ∧ Aside0 (text_Read.l0 kq a0 x4_1 x5_1 x6_1 = some (r1, r2)) ∧ Aside0 (kq ≤ k) ∧ Aside0 (Kd.R k24 24 w' w.heap.size (fun _ => True) v6 x6_1) ∧ Aside0 (Below w.heap.size w w'))
 case atStart => exact ⟨(t163), (t164), (([] : List (S24))), (by first | rfl | (simp; done) | (simp [*]; done)), (by first | rfl | (simp; done) | (simp [*]; done)), H', ⟨Nat.le_refl _⟩, ⟨by first | exact Kd.R_nil _ _ _ _ _ | exact Kd.N_nil _ _ _ _ _ | exact Kd.V_nil _ _ _ _ _ | exact Kd.Q_nil _ _ _ _ _ | exact Kd.S_nil _ _ _ _ _⟩, ⟨by repeat (first | (with_reducible first | exact HB.out | apply below_alloc | apply pw_below_drewN | apply below_drew1) | exact HB.out)⟩⟩
 case round =>
  clear H'
  try clear c1;try clear p2
  obtain ⟨x4_1, x5_1, x6_1, rfl, rfl, HA, HK1, HO_6, HB⟩ := hrel
  cases gk with
  | zero => exact absurd HA.out (by simp [text_Read.l0])
  | succ k1 =>
   have H := HA.out
   clear HA
   simp only [text_Read.l0] at H
   have HC3 := Aside0.mk H
   clear H
   go_upto_region 3 with (fail)
   go_cut [19] (fun v19 wc => ∃ (kq : Nat) (x19_2 : Bool), v19 = .bool x19_2 ∧ Aside0 (text_Read.j1 kq a0 x4_1 x5_1 x6_1 x19_2 = some (r1, r2)) ∧ Aside0 (kq ≤ k1) ∧ Aside0 (Kd.R k24 24 wc w.heap.size (fun _ => True) u6 x6_1) ∧ Aside0 (Below w.heap.size w wc))
   case first =>
    have H := HC3.out
    clear HC3
    by_cases c4 : x5_1 = true
    ·subst c4
     have H1 : (text_Read.j1 k1 a0 x4_1 true x6_1 (x4_1.toList != ([41] : List UInt8))) = some (r1, r2) := by rw [if_pos rfl] at H; exact H
     clear H
     have H := H1
     clear H1
     have H' := Aside0.mk H
     clear H
     go_wp2
     go_meet
     case rel => exact ⟨_, ((x4_1.toList != ([41] : List UInt8))), (by first | rfl | (simp; done) | (simp [*]; done)), H', ⟨by have := HK1.out; first | omega | exact Nat.le_refl _⟩, ⟨by (with_reducible repeat (first | apply Kd.R_alloc | apply Kd.R_drewN | apply Kd.R_drew)); exact HO_6.out⟩, ⟨by repeat (first | (with_reducible first | exact HB.out | apply below_alloc | apply pw_below_drewN | apply below_drew1) | exact HB.out)⟩⟩
    ·replace c4 := Bool.eq_false_iff.mpr c4
     subst c4
     have H1 : (text_Read.j1 k1 a0 x4_1 false x6_1 false) = some (r1, r2) := by rw [if_neg (show ¬ (false = true) by decide)] at H; exact H
     clear H
     have H := H1
     clear H1
     have H' := Aside0.mk H
     clear H
     go_wp2
     go_meet
     case rel => exact ⟨_, (false), (by first | rfl | (simp; done) | (simp [*]; done)), H', ⟨by have := HK1.out; first | omega | exact Nat.le_refl _⟩, ⟨by (with_reducible repeat (first | apply Kd.R_alloc | apply Kd.R_drewN | apply Kd.R_drew)); exact HO_6.out⟩, ⟨by repeat (first | (with_reducible first | exact HB.out | apply below_alloc | apply pw_below_drewN | apply below_drew1) | exact HB.out)⟩⟩
   case rest =>
    clear HC3
    try clear c1;try clear p2;try clear c3;try clear c4;try clear p2
    obtain ⟨kq, x19_2, rfl, HA, HJ2, HO_6, HB⟩ := hcut
    cases kq with
    | zero => exact absurd HA.out (by simp [text_Read.j1])
    | succ kj2 =>
     have H := HA.out
     clear HA
     simp only [text_Read.j1] at H
     by_cases c5 : x19_2 = true
     ·subst c5
      have H1 : (if (x6_1.length : Int) > 0 then ((strings_CutPrefix.f x4_1 (⟨#[44, 32]⟩ : ByteArray)).bind fun bt166 => ((text_front.f bt166.1).bind fun bt168 => (if x6_1.length < 3518437208883 then ((some (x6_1 ++ [(⟨bt168.1, bt168.2.1, bt168.2.2.1, bt168.2.2.2.1⟩ : S24)] : List (S24))).bind fun y175 => (if bt166.2 = true then (text_Read.l0 kj2 a0 bt168.2.2.2.2.1 bt168.2.2.2.2.2 y175) else (text_Read.l0 kj2 a0 bt168.2.2.2.2.1 false y175))) else (none)))) else ((text_front.f x4_1).bind fun bt178 => (if x6_1.length < 3518437208883 then ((some (x6_1 ++ [(⟨bt178.1, bt178.2.1, bt178.2.2.1, bt178.2.2.2.1⟩ : S24)] : List (S24))).bind fun y185 => (if x5_1 = true then (text_Read.l0 kj2 a0 bt178.2.2.2.2.1 bt178.2.2.2.2.2 y185) else (text_Read.l0 kj2 a0 bt178.2.2.2.2.1 false y185))) else (none)))) = some (r1, r2) := by rw [if_pos rfl] at H; exact H
      clear H
      have H := H1
      clear H1
      by_cases c6 : (x6_1.length : Int) > 0
      ·rw [if_pos c6] at H
       have c6b0 : decide (0 < (x6_1.length : Int)) = true := decide_eq_true c6
       have c6b1 : decide (0 < x6_1.length) = true := decide_eq_true (by omega)
       clear c6
       replace H := Option.bind_eq_some_iff.mp H
       obtain ⟨⟨t166, t167⟩, A70, H⟩ := H
       replace H : ((text_front.f t166).bind fun bt168 => (if x6_1.length < 3518437208883 then ((some (x6_1 ++ [(⟨bt168.1, bt168.2.1, bt168.2.2.1, bt168.2.2.2.1⟩ : S24)] : List (S24))).bind fun y175 => (if t167 = true then (text_Read.l0 kj2 a0 bt168.2.2.2.2.1 bt168.2.2.2.2.2 y175) else (text_Read.l0 kj2 a0 bt168.2.2.2.2.1 false y175))) else (none))) = some (r1, r2) := H
       have A7 := Aside0.mk A70
       clear A70
       replace H := Option.bind_eq_some_iff.mp H
       obtain ⟨⟨t168, t169, t170, t171, t172, t173⟩, A80, H⟩ := H
       replace H : (if x6_1.length < 3518437208883 then ((some (x6_1 ++ [(⟨t168, t169, t170, t171⟩ : S24)] : List (S24))).bind fun y175 => (if t167 = true then (text_Read.l0 kj2 a0 t172 t173 y175) else (text_Read.l0 kj2 a0 t172 false y175))) else (none)) = some (r1, r2) := H
       have A8 := Aside0.mk A80
       clear A80
       by_cases c9 : x6_1.length < 3518437208883
       ·rw [if_pos c9] at H
        have LMc9 := Aside0.mk c9
        clear c9
        obtain ⟨y175, hy175⟩ : ∃ y_ : List (S24), y_ = (x6_1 ++ [(⟨t168, t169, t170, t171⟩ : S24)]) := ⟨_, rfl⟩
        replace H : (if t167 = true then (text_Read.l0 kj2 a0 t172 t173 y175) else (text_Read.l0 kj2 a0 t172 false y175)) = some (r1, r2) := by first | (rw [hy175]; with_reducible exact H) | (have H2_ := (Option.bind_some _ _).symm.trans H; rw [hy175]; with_reducible exact H2_) | (have H2_ := (Option.bind_some _ _).symm.trans H; with_reducible exact H2_) | with_reducible exact H | (rw [hy175]; exact H) | exact H
        have Ny175 := Aside0.mk hy175
        clear hy175
        by_cases c10 : t167 = true
        ·subst c10
         have H1 : (text_Read.l0 kj2 a0 t172 t173 y175) = some (r1, r2) := by rw [if_pos rfl] at H; exact H
         clear H
         have H := H1
         clear H1
         have H' := Aside0.mk H
         clear H
         obtain ⟨Ao11, co11, eo11⟩ := Kd.R_slice HO_6.out
         subst eo11
         go_wp2_with (first | ((with_reducible refine gate_callee (f := 35) rfl ?_); refine goesL_ (some 25) rfl rfl Tryd.func35 (by kernel_rfl) rfl #[.string x4_1, .string (⟨#[44, 32]⟩ : ByteArray)] rfl (by (try simp only [List.map_toArray, List.map_cons, List.map_nil]); first | done | rfl | (simp only [List.length_drop, List.length_take]; rfl)) ?_; (with_reducible refine (strings_CutPrefix.calls x4_1 (⟨#[44, 32]⟩ : ByteArray) t166 true _ A7.out).mono ?_); rintro e w' ⟨rfl, ⟨nd, rfl⟩⟩; refine ⟨_, rfl, ?_⟩; (try (rw [drewN_self wc]; generalize hq_ : World.drewN wc _ = wc; have n0_ : Aside0 (Kd.R k24 24 wc w.heap.size (fun _ => True) (.slice Ao11 x6_1.length co11) x6_1) := ⟨by rw [← hq_]; exact (by (with_reducible repeat (first | apply Kd.R_alloc | apply Kd.R_drewN | apply Kd.R_drew)); exact HO_6.out)⟩; have n1_ : Aside0 (Below w.heap.size w wc) := ⟨by rw [← hq_]; exact (by repeat (first | (with_reducible first | exact HB.out | apply below_alloc | apply pw_below_drewN | apply below_drew1) | exact HB.out))⟩; clear HO_6 HB hq_; have HO_6 := n0_; have HB := n1_; clear n0_ n1_))) | ((with_reducible refine gate_callee (f := 33) rfl ?_); refine goesL_ (some 30) rfl rfl Tryd.func33 (by kernel_rfl) rfl #[.string t166] rfl (by (try simp only [List.map_toArray, List.map_cons, List.map_nil]); first | done | rfl | (simp only [List.length_drop, List.length_take]; rfl)) ?_; (with_reducible refine (text_front.calls t166 t168 t169 t170 t171 t172 t173 _ ?side1 A8.out).mono ?_); (case side1 => exact Mb.Errs.mono HT.out (by repeat (first | (with_reducible first | exact HB.out | apply below_alloc | apply pw_below_drewN | apply below_drew1) | exact HB.out))); rintro e w12 ⟨rfl, hb⟩; refine ⟨_, rfl, ?_⟩; have n0_ := Aside0.mk (Kd.R_below (by (with_reducible repeat (first | apply Kd.R_alloc | apply Kd.R_drewN | apply Kd.R_drew)); exact HO_6.out) hb); have n1_ := Aside0.mk (below_step (by repeat (first | (with_reducible first | exact HB.out | apply below_alloc | apply pw_below_drewN | apply below_drew1) | exact HB.out)) hb); clear HO_6; clear HB; have HO_6 := n0_; have HB := n1_; clear n0_ n1_; (try clear hb); (try clear hb2); (try clear hk); (try clear hi)) | ((with_reducible refine gate_dst (N := 7) rfl ?_); refine box_event ?hg (N := 7) ?hd (cs := #[.int .i64 0, .int .i64 0, .string (⟨#[]⟩ : ByteArray), .float .f64 0]) (t := 24) ?hr ?_; (case hd => rfl); (case hg => rfl); (case hr => first | (go_simp; done) | (go_simp; rfl)); intro gb174 hg w13 hbox hb; have n0_ := Aside0.mk (Kd.R_below (Kd.R_elderB (by (with_reducible repeat (first | apply Kd.R_alloc | apply Kd.R_drewN | apply Kd.R_drew)); exact HO_6.out) gb174 (Nat.le_of_eq hg.symm)) hb); have n1_ := Aside0.mk (below_step (by repeat (first | (with_reducible first | exact HB.out | apply below_alloc | apply pw_below_drewN | apply below_drew1) | exact HB.out)) hb); have n2_ := Aside0.mk (hbox); have n3_ := Aside0.mk ((by rw [hg]; exact (below_size (by repeat (first | (with_reducible first | exact HB.out | apply below_alloc | apply pw_below_drewN | apply below_drew1) | exact HB.out))) : w.heap.size ≤ gb174)); have n4_ := Aside0.mk ((by rw [hg]; exact (below_size (by repeat (first | (with_reducible first | exact HB.out | apply below_alloc | apply pw_below_drewN | apply below_drew1) | exact HB.out))) : w.heap.size ≤ gb174)); clear HO_6; clear HB; have HO_6 := n0_; have HB := n1_; have BK174 := n2_; have GW174 := n3_; have GE174 := n4_; clear n0_ n1_ n2_ n3_ n4_; clear hb hbox hg; have hcz14_0 : w13.cell? ⟨gb174, 0, none⟩ = some (.int .i64 0) := (blk_cell BK174.out 0).trans rfl; have hcz14_1 : w13.cell? ⟨gb174, 1, none⟩ = some (.int .i64 0) := (blk_cell BK174.out 1).trans rfl; have hcz14_2 : w13.cell? ⟨gb174, 2, none⟩ = some (.string (⟨#[]⟩ : ByteArray)) := (blk_cell BK174.out 2).trans rfl; have hcz14_3 : w13.cell? ⟨gb174, 3, none⟩ = some (.float .f64 0) := (blk_cell BK174.out 3).trans rfl; have hfz14_0 := blk_frozen BK174.out 0; have hfz14_1 := blk_frozen BK174.out 1; have hfz14_2 := blk_frozen BK174.out 2; have hfz14_3 := blk_frozen BK174.out 3) | ((with_reducible refine gate_builtin (b := .append) (xs := #[.tmp 34, .tmp 36]) rfl ?_); at_builtin; refine Kd.R_append k24 (w0 := w) w.heap.size rfl (.tmp 34) (.tmp 36) 25 24 (.agg #[(.int .i64 0), (.int .i64 0), (.string ⟨#[]⟩), (.float .f64 0)]) 40 rfl Tryd.underlying25 info24 rfl (by decide) (by omega) (.slice Ao11 x6_1.length co11) x6_1 (⟨t168, t169, t170, t171⟩ : S24) [.int .i64 t168, .int .i64 t169, .string t170, .float .f64 t171] (fun k_ => k_ ≠ gb174) (fun _ => False) rfl (by first | (go_simp; done) | (go_simp; rfl)) ?aP (fun _ hk => hk.elim) ?aF ?aO ?aB ?aS ?aL ?_; (case aP => exact k24_mkM _ _ _ (⟨t168, t169, t170, t171⟩ : S24)); (case aB => exact (by repeat (first | (with_reducible first | exact HB.out | apply below_alloc | apply pw_below_drewN | apply below_drew1 | refine below_set ?_ GE174.out) | exact HB.out))); (case aF => exact (fun k_ hk => Kd.freshB (g := gb174) (o := .cells #[.int .i64 t168, .int .i64 t169, .string t170, .float .f64 t171] 24 (0, 0)) (by (with_reducible repeat (first | refine blk_drewN ?_ _ | refine blk_drew ?_ | refine blk_alloc ?_ _)); refine blk_put (cs := #[.int .i64 t168, .int .i64 t169, .string t170, .float .f64 0]) ?_ 3 _ rfl; (with_reducible repeat (first | refine blk_drewN ?_ _ | refine blk_drew ?_ | refine blk_alloc ?_ _)); refine blk_put (cs := #[.int .i64 t168, .int .i64 t169, .string (⟨#[]⟩ : ByteArray), .float .f64 0]) ?_ 2 _ rfl; (with_reducible repeat (first | refine blk_drewN ?_ _ | refine blk_drew ?_ | refine blk_alloc ?_ _)); refine blk_put (cs := #[.int .i64 t168, .int .i64 0, .string (⟨#[]⟩ : ByteArray), .float .f64 0]) ?_ 1 _ rfl; (with_reducible repeat (first | refine blk_drewN ?_ _ | refine blk_drew ?_ | refine blk_alloc ?_ _)); refine blk_put (cs := #[.int .i64 0, .int .i64 0, .string (⟨#[]⟩ : ByteArray), .float .f64 0]) ?_ 0 _ rfl; (with_reducible repeat (first | refine blk_drewN ?_ _ | refine blk_drew ?_ | refine blk_alloc ?_ _)); exact BK174.out) k_ hk)); (case aO => exact (by (with_reducible repeat (first | apply Kd.R_alloc | apply Kd.R_drewN | apply Kd.R_drew)); exact Kd.R_mono (Kd.R_far (p := ⟨gb174, 3, none⟩) (Kd.R_far (p := ⟨gb174, 2, none⟩) (Kd.R_far (p := ⟨gb174, 1, none⟩) (Kd.R_far (p := ⟨gb174, 0, none⟩) (Kd.R_mono HO_6.out (fun k_ hk => (⟨hk, hk.2⟩ : _ ∧ k_ ≠ gb174))) (fun _ hk => hk.2) (.int .i64 t168)) (fun _ hk => hk.2) (.int .i64 t169)) (fun _ hk => hk.2) (.string t170)) (fun _ hk => hk.2) (.float .f64 t171)) (fun _ hk => hk.1.2))); (case aS => exact (below_size (by repeat (first | (with_reducible first | exact HB.out | apply below_alloc | apply pw_below_drewN | apply below_drew1 | refine below_set ?_ GE174.out) | exact HB.out)))); (case aL => have := LMc9.out; omega); intro v176 w15 ho hb hg hat; rw [← Ny175.out] at ho; have n0_ := Aside0.mk (blk_grown (g := gb174) (o := .cells #[.int .i64 t168, .int .i64 t169, .string t170, .float .f64 t171] 24 (0, 0)) (by (with_reducible repeat (first | refine blk_drewN ?_ _ | refine blk_drew ?_ | refine blk_alloc ?_ _)); refine blk_put (cs := #[.int .i64 t168, .int .i64 t169, .string t170, .float .f64 0]) ?_ 3 _ rfl; (with_reducible repeat (first | refine blk_drewN ?_ _ | refine blk_drew ?_ | refine blk_alloc ?_ _)); refine blk_put (cs := #[.int .i64 t168, .int .i64 t169, .string (⟨#[]⟩ : ByteArray), .float .f64 0]) ?_ 2 _ rfl; (with_reducible repeat (first | refine blk_drewN ?_ _ | refine blk_drew ?_ | refine blk_alloc ?_ _)); refine blk_put (cs := #[.int .i64 t168, .int .i64 0, .string (⟨#[]⟩ : ByteArray), .float .f64 0]) ?_ 1 _ rfl; (with_reducible repeat (first | refine blk_drewN ?_ _ | refine blk_drew ?_ | refine blk_alloc ?_ _)); refine blk_put (cs := #[.int .i64 0, .int .i64 0, .string (⟨#[]⟩ : ByteArray), .float .f64 0]) ?_ 0 _ rfl; (with_reducible repeat (first | refine blk_drewN ?_ _ | refine blk_drew ?_ | refine blk_alloc ?_ _)); exact BK174.out) hg (Kd.R_away HO_6.out (fun _ hk => hk.2))); have n1_ := Aside0.mk (hb); have n2_ := Aside0.mk (ho); clear BK174; clear HB; clear HO_6; have BK174 := n0_; have HB := n1_; have HO177 := n2_; clear n0_ n1_ n2_; clear ho hb hg hat))
         go_roundg kj2
         case measure => have := HK1.out; have := HJ2.out; omega
         case rel => exact ⟨(t172), (t173), (y175), (by first | rfl | (simp; done) | (simp [*]; done)), (by first | rfl | (simp; done) | (simp [*]; done)), H', ⟨by have := HK1.out; have := HJ2.out; omega⟩, ⟨by (with_reducible repeat (first | apply Kd.R_alloc | apply Kd.R_drewN | apply Kd.R_drew)); exact Kd.R_mono HO177.out (fun _ hk => trivial)⟩, ⟨by repeat (first | (with_reducible first | exact HB.out | apply below_alloc | apply pw_below_drewN | apply below_drew1 | refine below_set ?_ GE174.out) | exact HB.out)⟩⟩
        ·replace c10 := Bool.eq_false_iff.mpr c10
         subst c10
         have H1 : (text_Read.l0 kj2 a0 t172 false y175) = some (r1, r2) := by rw [if_neg (show ¬ (false = true) by decide)] at H; exact H
         clear H
         have H := H1
         clear H1
         have H' := Aside0.mk H
         clear H
         obtain ⟨Ao16, co16, eo16⟩ := Kd.R_slice HO_6.out
         subst eo16
         go_wp2_with (first | ((with_reducible refine gate_callee (f := 35) rfl ?_); refine goesL_ (some 25) rfl rfl Tryd.func35 (by kernel_rfl) rfl #[.string x4_1, .string (⟨#[44, 32]⟩ : ByteArray)] rfl (by (try simp only [List.map_toArray, List.map_cons, List.map_nil]); first | done | rfl | (simp only [List.length_drop, List.length_take]; rfl)) ?_; (with_reducible refine (strings_CutPrefix.calls x4_1 (⟨#[44, 32]⟩ : ByteArray) t166 false _ A7.out).mono ?_); rintro e w' ⟨rfl, ⟨nd, rfl⟩⟩; refine ⟨_, rfl, ?_⟩; (try (rw [drewN_self wc]; generalize hq_ : World.drewN wc _ = wc; have n0_ : Aside0 (Kd.R k24 24 wc w.heap.size (fun _ => True) (.slice Ao16 x6_1.length co16) x6_1) := ⟨by rw [← hq_]; exact (by (with_reducible repeat (first | apply Kd.R_alloc | apply Kd.R_drewN | apply Kd.R_drew)); exact HO_6.out)⟩; have n1_ : Aside0 (Below w.heap.size w wc) := ⟨by rw [← hq_]; exact (by repeat (first | (with_reducible first | exact HB.out | apply below_alloc | apply pw_below_drewN | apply below_drew1) | exact HB.out))⟩; clear HO_6 HB hq_; have HO_6 := n0_; have HB := n1_; clear n0_ n1_))) | ((with_reducible refine gate_callee (f := 33) rfl ?_); refine goesL_ (some 30) rfl rfl Tryd.func33 (by kernel_rfl) rfl #[.string t166] rfl (by (try simp only [List.map_toArray, List.map_cons, List.map_nil]); first | done | rfl | (simp only [List.length_drop, List.length_take]; rfl)) ?_; (with_reducible refine (text_front.calls t166 t168 t169 t170 t171 t172 t173 _ ?side1 A8.out).mono ?_); (case side1 => exact Mb.Errs.mono HT.out (by repeat (first | (with_reducible first | exact HB.out | apply below_alloc | apply pw_below_drewN | apply below_drew1) | exact HB.out))); rintro e w17 ⟨rfl, hb⟩; refine ⟨_, rfl, ?_⟩; have n0_ := Aside0.mk (Kd.R_below (by (with_reducible repeat (first | apply Kd.R_alloc | apply Kd.R_drewN | apply Kd.R_drew)); exact HO_6.out) hb); have n1_ := Aside0.mk (below_step (by repeat (first | (with_reducible first | exact HB.out | apply below_alloc | apply pw_below_drewN | apply below_drew1) | exact HB.out)) hb); clear HO_6; clear HB; have HO_6 := n0_; have HB := n1_; clear n0_ n1_; (try clear hb); (try clear hb2); (try clear hk); (try clear hi)) | ((with_reducible refine gate_dst (N := 7) rfl ?_); refine box_event ?hg (N := 7) ?hd (cs := #[.int .i64 0, .int .i64 0, .string (⟨#[]⟩ : ByteArray), .float .f64 0]) (t := 24) ?hr ?_; (case hd => rfl); (case hg => rfl); (case hr => first | (go_simp; done) | (go_simp; rfl)); intro gb174 hg w18 hbox hb; have n0_ := Aside0.mk (Kd.R_below (Kd.R_elderB (by (with_reducible repeat (first | apply Kd.R_alloc | apply Kd.R_drewN | apply Kd.R_drew)); exact HO_6.out) gb174 (Nat.le_of_eq hg.symm)) hb); have n1_ := Aside0.mk (below_step (by repeat (first | (with_reducible first | exact HB.out | apply below_alloc | apply pw_below_drewN | apply below_drew1) | exact HB.out)) hb); have n2_ := Aside0.mk (hbox); have n3_ := Aside0.mk ((by rw [hg]; exact (below_size (by repeat (first | (with_reducible first | exact HB.out | apply below_alloc | apply pw_below_drewN | apply below_drew1) | exact HB.out))) : w.heap.size ≤ gb174)); have n4_ := Aside0.mk ((by rw [hg]; exact (below_size (by repeat (first | (with_reducible first | exact HB.out | apply below_alloc | apply pw_below_drewN | apply below_drew1) | exact HB.out))) : w.heap.size ≤ gb174)); clear HO_6; clear HB; have HO_6 := n0_; have HB := n1_; have BK174 := n2_; have GW174 := n3_; have GE174 := n4_; clear n0_ n1_ n2_ n3_ n4_; clear hb hbox hg; have hcz19_0 : w18.cell? ⟨gb174, 0, none⟩ = some (.int .i64 0) := (blk_cell BK174.out 0).trans rfl; have hcz19_1 : w18.cell? ⟨gb174, 1, none⟩ = some (.int .i64 0) := (blk_cell BK174.out 1).trans rfl; have hcz19_2 : w18.cell? ⟨gb174, 2, none⟩ = some (.string (⟨#[]⟩ : ByteArray)) := (blk_cell BK174.out 2).trans rfl; have hcz19_3 : w18.cell? ⟨gb174, 3, none⟩ = some (.float .f64 0) := (blk_cell BK174.out 3).trans rfl; have hfz19_0 := blk_frozen BK174.out 0; have hfz19_1 := blk_frozen BK174.out 1; have hfz19_2 := blk_frozen BK174.out 2; have hfz19_3 := blk_frozen BK174.out 3) | ((with_reducible refine gate_builtin (b := .append) (xs := #[.tmp 34, .tmp 36]) rfl ?_); at_builtin; refine Kd.R_append k24 (w0 := w) w.heap.size rfl (.tmp 34) (.tmp 36) 25 24 (.agg #[(.int .i64 0), (.int .i64 0), (.string ⟨#[]⟩), (.float .f64 0)]) 40 rfl Tryd.underlying25 info24 rfl (by decide) (by omega) (.slice Ao16 x6_1.length co16) x6_1 (⟨t168, t169, t170, t171⟩ : S24) [.int .i64 t168, .int .i64 t169, .string t170, .float .f64 t171] (fun k_ => k_ ≠ gb174) (fun _ => False) rfl (by first | (go_simp; done) | (go_simp; rfl)) ?aP (fun _ hk => hk.elim) ?aF ?aO ?aB ?aS ?aL ?_; (case aP => exact k24_mkM _ _ _ (⟨t168, t169, t170, t171⟩ : S24)); (case aB => exact (by repeat (first | (with_reducible first | exact HB.out | apply below_alloc | apply pw_below_drewN | apply below_drew1 | refine below_set ?_ GE174.out) | exact HB.out))); (case aF => exact (fun k_ hk => Kd.freshB (g := gb174) (o := .cells #[.int .i64 t168, .int .i64 t169, .string t170, .float .f64 t171] 24 (0, 0)) (by (with_reducible repeat (first | refine blk_drewN ?_ _ | refine blk_drew ?_ | refine blk_alloc ?_ _)); refine blk_put (cs := #[.int .i64 t168, .int .i64 t169, .string t170, .float .f64 0]) ?_ 3 _ rfl; (with_reducible repeat (first | refine blk_drewN ?_ _ | refine blk_drew ?_ | refine blk_alloc ?_ _)); refine blk_put (cs := #[.int .i64 t168, .int .i64 t169, .string (⟨#[]⟩ : ByteArray), .float .f64 0]) ?_ 2 _ rfl; (with_reducible repeat (first | refine blk_drewN ?_ _ | refine blk_drew ?_ | refine blk_alloc ?_ _)); refine blk_put (cs := #[.int .i64 t168, .int .i64 0, .string (⟨#[]⟩ : ByteArray), .float .f64 0]) ?_ 1 _ rfl; (with_reducible repeat (first | refine blk_drewN ?_ _ | refine blk_drew ?_ | refine blk_alloc ?_ _)); refine blk_put (cs := #[.int .i64 0, .int .i64 0, .string (⟨#[]⟩ : ByteArray), .float .f64 0]) ?_ 0 _ rfl; (with_reducible repeat (first | refine blk_drewN ?_ _ | refine blk_drew ?_ | refine blk_alloc ?_ _)); exact BK174.out) k_ hk)); (case aO => exact (by (with_reducible repeat (first | apply Kd.R_alloc | apply Kd.R_drewN | apply Kd.R_drew)); exact Kd.R_mono (Kd.R_far (p := ⟨gb174, 3, none⟩) (Kd.R_far (p := ⟨gb174, 2, none⟩) (Kd.R_far (p := ⟨gb174, 1, none⟩) (Kd.R_far (p := ⟨gb174, 0, none⟩) (Kd.R_mono HO_6.out (fun k_ hk => (⟨hk, hk.2⟩ : _ ∧ k_ ≠ gb174))) (fun _ hk => hk.2) (.int .i64 t168)) (fun _ hk => hk.2) (.int .i64 t169)) (fun _ hk => hk.2) (.string t170)) (fun _ hk => hk.2) (.float .f64 t171)) (fun _ hk => hk.1.2))); (case aS => exact (below_size (by repeat (first | (with_reducible first | exact HB.out | apply below_alloc | apply pw_below_drewN | apply below_drew1 | refine below_set ?_ GE174.out) | exact HB.out)))); (case aL => have := LMc9.out; omega); intro v176 w20 ho hb hg hat; rw [← Ny175.out] at ho; have n0_ := Aside0.mk (blk_grown (g := gb174) (o := .cells #[.int .i64 t168, .int .i64 t169, .string t170, .float .f64 t171] 24 (0, 0)) (by (with_reducible repeat (first | refine blk_drewN ?_ _ | refine blk_drew ?_ | refine blk_alloc ?_ _)); refine blk_put (cs := #[.int .i64 t168, .int .i64 t169, .string t170, .float .f64 0]) ?_ 3 _ rfl; (with_reducible repeat (first | refine blk_drewN ?_ _ | refine blk_drew ?_ | refine blk_alloc ?_ _)); refine blk_put (cs := #[.int .i64 t168, .int .i64 t169, .string (⟨#[]⟩ : ByteArray), .float .f64 0]) ?_ 2 _ rfl; (with_reducible repeat (first | refine blk_drewN ?_ _ | refine blk_drew ?_ | refine blk_alloc ?_ _)); refine blk_put (cs := #[.int .i64 t168, .int .i64 0, .string (⟨#[]⟩ : ByteArray), .float .f64 0]) ?_ 1 _ rfl; (with_reducible repeat (first | refine blk_drewN ?_ _ | refine blk_drew ?_ | refine blk_alloc ?_ _)); refine blk_put (cs := #[.int .i64 0, .int .i64 0, .string (⟨#[]⟩ : ByteArray), .float .f64 0]) ?_ 0 _ rfl; (with_reducible repeat (first | refine blk_drewN ?_ _ | refine blk_drew ?_ | refine blk_alloc ?_ _)); exact BK174.out) hg (Kd.R_away HO_6.out (fun _ hk => hk.2))); have n1_ := Aside0.mk (hb); have n2_ := Aside0.mk (ho); clear BK174; clear HB; clear HO_6; have BK174 := n0_; have HB := n1_; have HO177 := n2_; clear n0_ n1_ n2_; clear ho hb hg hat))
         go_roundg kj2
         case measure => have := HK1.out; have := HJ2.out; omega
         case rel => exact ⟨(t172), (false), (y175), (by first | rfl | (simp; done) | (simp [*]; done)), (by first | rfl | (simp; done) | (simp [*]; done)), H', ⟨by have := HK1.out; have := HJ2.out; omega⟩, ⟨by (with_reducible repeat (first | apply Kd.R_alloc | apply Kd.R_drewN | apply Kd.R_drew)); exact Kd.R_mono HO177.out (fun _ hk => trivial)⟩, ⟨by repeat (first | (with_reducible first | exact HB.out | apply below_alloc | apply pw_below_drewN | apply below_drew1 | refine below_set ?_ GE174.out) | exact HB.out)⟩⟩
       ·rw [if_neg c9] at H
        exact absurd H (by simp)
      ·rw [if_neg c6] at H
       have c6b0 : decide (0 < (x6_1.length : Int)) = false := decide_eq_false c6
       have c6b1 : decide (0 < x6_1.length) = false := decide_eq_false (by omega)
       clear c6
       replace H := Option.bind_eq_some_iff.mp H
       obtain ⟨⟨t178, t179, t180, t181, t182, t183⟩, A210, H⟩ := H
       replace H : (if x6_1.length < 3518437208883 then ((some (x6_1 ++ [(⟨t178, t179, t180, t181⟩ : S24)] : List (S24))).bind fun y185 => (if x5_1 = true then (text_Read.l0 kj2 a0 t182 t183 y185) else (text_Read.l0 kj2 a0 t182 false y185))) else (none)) = some (r1, r2) := H
       have A21 := Aside0.mk A210
       clear A210
       by_cases c22 : x6_1.length < 3518437208883
       ·rw [if_pos c22] at H
        have LMc22 := Aside0.mk c22
        clear c22
        obtain ⟨y185, hy185⟩ : ∃ y_ : List (S24), y_ = (x6_1 ++ [(⟨t178, t179, t180, t181⟩ : S24)]) := ⟨_, rfl⟩
        replace H : (if x5_1 = true then (text_Read.l0 kj2 a0 t182 t183 y185) else (text_Read.l0 kj2 a0 t182 false y185)) = some (r1, r2) := by first | (rw [hy185]; with_reducible exact H) | (have H2_ := (Option.bind_some _ _).symm.trans H; rw [hy185]; with_reducible exact H2_) | (have H2_ := (Option.bind_some _ _).symm.trans H; with_reducible exact H2_) | with_reducible exact H | (rw [hy185]; exact H) | exact H
        have Ny185 := Aside0.mk hy185
        clear hy185
        by_cases c23 : x5_1 = true
        ·subst c23
         have H1 : (text_Read.l0 kj2 a0 t182 t183 y185) = some (r1, r2) := by rw [if_pos rfl] at H; exact H
         clear H
         have H := H1
         clear H1
         have H' := Aside0.mk H
         clear H
         obtain ⟨Ao24, co24, eo24⟩ := Kd.R_slice HO_6.out
         subst eo24
         go_wp2_with (first | ((with_reducible refine gate_callee (f := 33) rfl ?_); refine goesL_ (some 30) rfl rfl Tryd.func33 (by kernel_rfl) rfl #[.string x4_1] rfl (by (try simp only [List.map_toArray, List.map_cons, List.map_nil]); first | done | rfl | (simp only [List.length_drop, List.length_take]; rfl)) ?_; (with_reducible refine (text_front.calls x4_1 t178 t179 t180 t181 t182 t183 _ ?side1 A21.out).mono ?_); (case side1 => exact Mb.Errs.mono HT.out (by repeat (first | (with_reducible first | exact HB.out | apply below_alloc | apply pw_below_drewN | apply below_drew1) | exact HB.out))); rintro e w25 ⟨rfl, hb⟩; refine ⟨_, rfl, ?_⟩; have n0_ := Aside0.mk (Kd.R_below (by (with_reducible repeat (first | apply Kd.R_alloc | apply Kd.R_drewN | apply Kd.R_drew)); exact HO_6.out) hb); have n1_ := Aside0.mk (below_step (by repeat (first | (with_reducible first | exact HB.out | apply below_alloc | apply pw_below_drewN | apply below_drew1) | exact HB.out)) hb); clear HO_6; clear HB; have HO_6 := n0_; have HB := n1_; clear n0_ n1_; (try clear hb); (try clear hb2); (try clear hk); (try clear hi)) | ((with_reducible refine gate_dst (N := 7) rfl ?_); refine box_event ?hg (N := 7) ?hd (cs := #[.int .i64 0, .int .i64 0, .string (⟨#[]⟩ : ByteArray), .float .f64 0]) (t := 24) ?hr ?_; (case hd => rfl); (case hg => rfl); (case hr => first | (go_simp; done) | (go_simp; rfl)); intro gb184 hg w26 hbox hb; have n0_ := Aside0.mk (Kd.R_below (Kd.R_elderB (by (with_reducible repeat (first | apply Kd.R_alloc | apply Kd.R_drewN | apply Kd.R_drew)); exact HO_6.out) gb184 (Nat.le_of_eq hg.symm)) hb); have n1_ := Aside0.mk (below_step (by repeat (first | (with_reducible first | exact HB.out | apply below_alloc | apply pw_below_drewN | apply below_drew1) | exact HB.out)) hb); have n2_ := Aside0.mk (hbox); have n3_ := Aside0.mk ((by rw [hg]; exact (below_size (by repeat (first | (with_reducible first | exact HB.out | apply below_alloc | apply pw_below_drewN | apply below_drew1) | exact HB.out))) : w.heap.size ≤ gb184)); have n4_ := Aside0.mk ((by rw [hg]; exact (below_size (by repeat (first | (with_reducible first | exact HB.out | apply below_alloc | apply pw_below_drewN | apply below_drew1) | exact HB.out))) : w.heap.size ≤ gb184)); clear HO_6; clear HB; have HO_6 := n0_; have HB := n1_; have BK184 := n2_; have GW184 := n3_; have GE184 := n4_; clear n0_ n1_ n2_ n3_ n4_; clear hb hbox hg; have hcz27_0 : w26.cell? ⟨gb184, 0, none⟩ = some (.int .i64 0) := (blk_cell BK184.out 0).trans rfl; have hcz27_1 : w26.cell? ⟨gb184, 1, none⟩ = some (.int .i64 0) := (blk_cell BK184.out 1).trans rfl; have hcz27_2 : w26.cell? ⟨gb184, 2, none⟩ = some (.string (⟨#[]⟩ : ByteArray)) := (blk_cell BK184.out 2).trans rfl; have hcz27_3 : w26.cell? ⟨gb184, 3, none⟩ = some (.float .f64 0) := (blk_cell BK184.out 3).trans rfl; have hfz27_0 := blk_frozen BK184.out 0; have hfz27_1 := blk_frozen BK184.out 1; have hfz27_2 := blk_frozen BK184.out 2; have hfz27_3 := blk_frozen BK184.out 3) | ((with_reducible refine gate_builtin (b := .append) (xs := #[.tmp 34, .tmp 36]) rfl ?_); at_builtin; refine Kd.R_append k24 (w0 := w) w.heap.size rfl (.tmp 34) (.tmp 36) 25 24 (.agg #[(.int .i64 0), (.int .i64 0), (.string ⟨#[]⟩), (.float .f64 0)]) 40 rfl Tryd.underlying25 info24 rfl (by decide) (by omega) (.slice Ao24 x6_1.length co24) x6_1 (⟨t178, t179, t180, t181⟩ : S24) [.int .i64 t178, .int .i64 t179, .string t180, .float .f64 t181] (fun k_ => k_ ≠ gb184) (fun _ => False) rfl (by first | (go_simp; done) | (go_simp; rfl)) ?aP (fun _ hk => hk.elim) ?aF ?aO ?aB ?aS ?aL ?_; (case aP => exact k24_mkM _ _ _ (⟨t178, t179, t180, t181⟩ : S24)); (case aB => exact (by repeat (first | (with_reducible first | exact HB.out | apply below_alloc | apply pw_below_drewN | apply below_drew1 | refine below_set ?_ GE184.out) | exact HB.out))); (case aF => exact (fun k_ hk => Kd.freshB (g := gb184) (o := .cells #[.int .i64 t178, .int .i64 t179, .string t180, .float .f64 t181] 24 (0, 0)) (by (with_reducible repeat (first | refine blk_drewN ?_ _ | refine blk_drew ?_ | refine blk_alloc ?_ _)); refine blk_put (cs := #[.int .i64 t178, .int .i64 t179, .string t180, .float .f64 0]) ?_ 3 _ rfl; (with_reducible repeat (first | refine blk_drewN ?_ _ | refine blk_drew ?_ | refine blk_alloc ?_ _)); refine blk_put (cs := #[.int .i64 t178, .int .i64 t179, .string (⟨#[]⟩ : ByteArray), .float .f64 0]) ?_ 2 _ rfl; (with_reducible repeat (first | refine blk_drewN ?_ _ | refine blk_drew ?_ | refine blk_alloc ?_ _)); refine blk_put (cs := #[.int .i64 t178, .int .i64 0, .string (⟨#[]⟩ : ByteArray), .float .f64 0]) ?_ 1 _ rfl; (with_reducible repeat (first | refine blk_drewN ?_ _ | refine blk_drew ?_ | refine blk_alloc ?_ _)); refine blk_put (cs := #[.int .i64 0, .int .i64 0, .string (⟨#[]⟩ : ByteArray), .float .f64 0]) ?_ 0 _ rfl; (with_reducible repeat (first | refine blk_drewN ?_ _ | refine blk_drew ?_ | refine blk_alloc ?_ _)); exact BK184.out) k_ hk)); (case aO => exact (by (with_reducible repeat (first | apply Kd.R_alloc | apply Kd.R_drewN | apply Kd.R_drew)); exact Kd.R_mono (Kd.R_far (p := ⟨gb184, 3, none⟩) (Kd.R_far (p := ⟨gb184, 2, none⟩) (Kd.R_far (p := ⟨gb184, 1, none⟩) (Kd.R_far (p := ⟨gb184, 0, none⟩) (Kd.R_mono HO_6.out (fun k_ hk => (⟨hk, hk.2⟩ : _ ∧ k_ ≠ gb184))) (fun _ hk => hk.2) (.int .i64 t178)) (fun _ hk => hk.2) (.int .i64 t179)) (fun _ hk => hk.2) (.string t180)) (fun _ hk => hk.2) (.float .f64 t181)) (fun _ hk => hk.1.2))); (case aS => exact (below_size (by repeat (first | (with_reducible first | exact HB.out | apply below_alloc | apply pw_below_drewN | apply below_drew1 | refine below_set ?_ GE184.out) | exact HB.out)))); (case aL => have := LMc22.out; omega); intro v186 w28 ho hb hg hat; rw [← Ny185.out] at ho; have n0_ := Aside0.mk (blk_grown (g := gb184) (o := .cells #[.int .i64 t178, .int .i64 t179, .string t180, .float .f64 t181] 24 (0, 0)) (by (with_reducible repeat (first | refine blk_drewN ?_ _ | refine blk_drew ?_ | refine blk_alloc ?_ _)); refine blk_put (cs := #[.int .i64 t178, .int .i64 t179, .string t180, .float .f64 0]) ?_ 3 _ rfl; (with_reducible repeat (first | refine blk_drewN ?_ _ | refine blk_drew ?_ | refine blk_alloc ?_ _)); refine blk_put (cs := #[.int .i64 t178, .int .i64 t179, .string (⟨#[]⟩ : ByteArray), .float .f64 0]) ?_ 2 _ rfl; (with_reducible repeat (first | refine blk_drewN ?_ _ | refine blk_drew ?_ | refine blk_alloc ?_ _)); refine blk_put (cs := #[.int .i64 t178, .int .i64 0, .string (⟨#[]⟩ : ByteArray), .float .f64 0]) ?_ 1 _ rfl; (with_reducible repeat (first | refine blk_drewN ?_ _ | refine blk_drew ?_ | refine blk_alloc ?_ _)); refine blk_put (cs := #[.int .i64 0, .int .i64 0, .string (⟨#[]⟩ : ByteArray), .float .f64 0]) ?_ 0 _ rfl; (with_reducible repeat (first | refine blk_drewN ?_ _ | refine blk_drew ?_ | refine blk_alloc ?_ _)); exact BK184.out) hg (Kd.R_away HO_6.out (fun _ hk => hk.2))); have n1_ := Aside0.mk (hb); have n2_ := Aside0.mk (ho); clear BK184; clear HB; clear HO_6; have BK184 := n0_; have HB := n1_; have HO187 := n2_; clear n0_ n1_ n2_; clear ho hb hg hat))
         go_roundg kj2
         case measure => have := HK1.out; have := HJ2.out; omega
         case rel => exact ⟨(t182), (t183), (y185), (by first | rfl | (simp; done) | (simp [*]; done)), (by first | rfl | (simp; done) | (simp [*]; done)), H', ⟨by have := HK1.out; have := HJ2.out; omega⟩, ⟨by (with_reducible repeat (first | apply Kd.R_alloc | apply Kd.R_drewN | apply Kd.R_drew)); exact Kd.R_mono HO187.out (fun _ hk => trivial)⟩, ⟨by repeat (first | (with_reducible first | exact HB.out | apply below_alloc | apply pw_below_drewN | apply below_drew1 | refine below_set ?_ GE184.out) | exact HB.out)⟩⟩
        ·replace c23 := Bool.eq_false_iff.mpr c23
         subst c23
         have H1 : (text_Read.l0 kj2 a0 t182 false y185) = some (r1, r2) := by rw [if_neg (show ¬ (false = true) by decide)] at H; exact H
         clear H
         have H := H1
         clear H1
         have H' := Aside0.mk H
         clear H
         obtain ⟨Ao29, co29, eo29⟩ := Kd.R_slice HO_6.out
         subst eo29
         go_wp2_with (first | ((with_reducible refine gate_callee (f := 33) rfl ?_); refine goesL_ (some 30) rfl rfl Tryd.func33 (by kernel_rfl) rfl #[.string x4_1] rfl (by (try simp only [List.map_toArray, List.map_cons, List.map_nil]); first | done | rfl | (simp only [List.length_drop, List.length_take]; rfl)) ?_; (with_reducible refine (text_front.calls x4_1 t178 t179 t180 t181 t182 t183 _ ?side1 A21.out).mono ?_); (case side1 => exact Mb.Errs.mono HT.out (by repeat (first | (with_reducible first | exact HB.out | apply below_alloc | apply pw_below_drewN | apply below_drew1) | exact HB.out))); rintro e w30 ⟨rfl, hb⟩; refine ⟨_, rfl, ?_⟩; have n0_ := Aside0.mk (Kd.R_below (by (with_reducible repeat (first | apply Kd.R_alloc | apply Kd.R_drewN | apply Kd.R_drew)); exact HO_6.out) hb); have n1_ := Aside0.mk (below_step (by repeat (first | (with_reducible first | exact HB.out | apply below_alloc | apply pw_below_drewN | apply below_drew1) | exact HB.out)) hb); clear HO_6; clear HB; have HO_6 := n0_; have HB := n1_; clear n0_ n1_; (try clear hb); (try clear hb2); (try clear hk); (try clear hi)) | ((with_reducible refine gate_dst (N := 7) rfl ?_); refine box_event ?hg (N := 7) ?hd (cs := #[.int .i64 0, .int .i64 0, .string (⟨#[]⟩ : ByteArray), .float .f64 0]) (t := 24) ?hr ?_; (case hd => rfl); (case hg => rfl); (case hr => first | (go_simp; done) | (go_simp; rfl)); intro gb184 hg w31 hbox hb; have n0_ := Aside0.mk (Kd.R_below (Kd.R_elderB (by (with_reducible repeat (first | apply Kd.R_alloc | apply Kd.R_drewN | apply Kd.R_drew)); exact HO_6.out) gb184 (Nat.le_of_eq hg.symm)) hb); have n1_ := Aside0.mk (below_step (by repeat (first | (with_reducible first | exact HB.out | apply below_alloc | apply pw_below_drewN | apply below_drew1) | exact HB.out)) hb); have n2_ := Aside0.mk (hbox); have n3_ := Aside0.mk ((by rw [hg]; exact (below_size (by repeat (first | (with_reducible first | exact HB.out | apply below_alloc | apply pw_below_drewN | apply below_drew1) | exact HB.out))) : w.heap.size ≤ gb184)); have n4_ := Aside0.mk ((by rw [hg]; exact (below_size (by repeat (first | (with_reducible first | exact HB.out | apply below_alloc | apply pw_below_drewN | apply below_drew1) | exact HB.out))) : w.heap.size ≤ gb184)); clear HO_6; clear HB; have HO_6 := n0_; have HB := n1_; have BK184 := n2_; have GW184 := n3_; have GE184 := n4_; clear n0_ n1_ n2_ n3_ n4_; clear hb hbox hg; have hcz32_0 : w31.cell? ⟨gb184, 0, none⟩ = some (.int .i64 0) := (blk_cell BK184.out 0).trans rfl; have hcz32_1 : w31.cell? ⟨gb184, 1, none⟩ = some (.int .i64 0) := (blk_cell BK184.out 1).trans rfl; have hcz32_2 : w31.cell? ⟨gb184, 2, none⟩ = some (.string (⟨#[]⟩ : ByteArray)) := (blk_cell BK184.out 2).trans rfl; have hcz32_3 : w31.cell? ⟨gb184, 3, none⟩ = some (.float .f64 0) := (blk_cell BK184.out 3).trans rfl; have hfz32_0 := blk_frozen BK184.out 0; have hfz32_1 := blk_frozen BK184.out 1; have hfz32_2 := blk_frozen BK184.out 2; have hfz32_3 := blk_frozen BK184.out 3) | ((with_reducible refine gate_builtin (b := .append) (xs := #[.tmp 34, .tmp 36]) rfl ?_); at_builtin; refine Kd.R_append k24 (w0 := w) w.heap.size rfl (.tmp 34) (.tmp 36) 25 24 (.agg #[(.int .i64 0), (.int .i64 0), (.string ⟨#[]⟩), (.float .f64 0)]) 40 rfl Tryd.underlying25 info24 rfl (by decide) (by omega) (.slice Ao29 x6_1.length co29) x6_1 (⟨t178, t179, t180, t181⟩ : S24) [.int .i64 t178, .int .i64 t179, .string t180, .float .f64 t181] (fun k_ => k_ ≠ gb184) (fun _ => False) rfl (by first | (go_simp; done) | (go_simp; rfl)) ?aP (fun _ hk => hk.elim) ?aF ?aO ?aB ?aS ?aL ?_; (case aP => exact k24_mkM _ _ _ (⟨t178, t179, t180, t181⟩ : S24)); (case aB => exact (by repeat (first | (with_reducible first | exact HB.out | apply below_alloc | apply pw_below_drewN | apply below_drew1 | refine below_set ?_ GE184.out) | exact HB.out))); (case aF => exact (fun k_ hk => Kd.freshB (g := gb184) (o := .cells #[.int .i64 t178, .int .i64 t179, .string t180, .float .f64 t181] 24 (0, 0)) (by (with_reducible repeat (first | refine blk_drewN ?_ _ | refine blk_drew ?_ | refine blk_alloc ?_ _)); refine blk_put (cs := #[.int .i64 t178, .int .i64 t179, .string t180, .float .f64 0]) ?_ 3 _ rfl; (with_reducible repeat (first | refine blk_drewN ?_ _ | refine blk_drew ?_ | refine blk_alloc ?_ _)); refine blk_put (cs := #[.int .i64 t178, .int .i64 t179, .string (⟨#[]⟩ : ByteArray), .float .f64 0]) ?_ 2 _ rfl; (with_reducible repeat (first | refine blk_drewN ?_ _ | refine blk_drew ?_ | refine blk_alloc ?_ _)); refine blk_put (cs := #[.int .i64 t178, .int .i64 0, .string (⟨#[]⟩ : ByteArray), .float .f64 0]) ?_ 1 _ rfl; (with_reducible repeat (first | refine blk_drewN ?_ _ | refine blk_drew ?_ | refine blk_alloc ?_ _)); refine blk_put (cs := #[.int .i64 0, .int .i64 0, .string (⟨#[]⟩ : ByteArray), .float .f64 0]) ?_ 0 _ rfl; (with_reducible repeat (first | refine blk_drewN ?_ _ | refine blk_drew ?_ | refine blk_alloc ?_ _)); exact BK184.out) k_ hk)); (case aO => exact (by (with_reducible repeat (first | apply Kd.R_alloc | apply Kd.R_drewN | apply Kd.R_drew)); exact Kd.R_mono (Kd.R_far (p := ⟨gb184, 3, none⟩) (Kd.R_far (p := ⟨gb184, 2, none⟩) (Kd.R_far (p := ⟨gb184, 1, none⟩) (Kd.R_far (p := ⟨gb184, 0, none⟩) (Kd.R_mono HO_6.out (fun k_ hk => (⟨hk, hk.2⟩ : _ ∧ k_ ≠ gb184))) (fun _ hk => hk.2) (.int .i64 t178)) (fun _ hk => hk.2) (.int .i64 t179)) (fun _ hk => hk.2) (.string t180)) (fun _ hk => hk.2) (.float .f64 t181)) (fun _ hk => hk.1.2))); (case aS => exact (below_size (by repeat (first | (with_reducible first | exact HB.out | apply below_alloc | apply pw_below_drewN | apply below_drew1 | refine below_set ?_ GE184.out) | exact HB.out)))); (case aL => have := LMc22.out; omega); intro v186 w33 ho hb hg hat; rw [← Ny185.out] at ho; have n0_ := Aside0.mk (blk_grown (g := gb184) (o := .cells #[.int .i64 t178, .int .i64 t179, .string t180, .float .f64 t181] 24 (0, 0)) (by (with_reducible repeat (first | refine blk_drewN ?_ _ | refine blk_drew ?_ | refine blk_alloc ?_ _)); refine blk_put (cs := #[.int .i64 t178, .int .i64 t179, .string t180, .float .f64 0]) ?_ 3 _ rfl; (with_reducible repeat (first | refine blk_drewN ?_ _ | refine blk_drew ?_ | refine blk_alloc ?_ _)); refine blk_put (cs := #[.int .i64 t178, .int .i64 t179, .string (⟨#[]⟩ : ByteArray), .float .f64 0]) ?_ 2 _ rfl; (with_reducible repeat (first | refine blk_drewN ?_ _ | refine blk_drew ?_ | refine blk_alloc ?_ _)); refine blk_put (cs := #[.int .i64 t178, .int .i64 0, .string (⟨#[]⟩ : ByteArray), .float .f64 0]) ?_ 1 _ rfl; (with_reducible repeat (first | refine blk_drewN ?_ _ | refine blk_drew ?_ | refine blk_alloc ?_ _)); refine blk_put (cs := #[.int .i64 0, .int .i64 0, .string (⟨#[]⟩ : ByteArray), .float .f64 0]) ?_ 0 _ rfl; (with_reducible repeat (first | refine blk_drewN ?_ _ | refine blk_drew ?_ | refine blk_alloc ?_ _)); exact BK184.out) hg (Kd.R_away HO_6.out (fun _ hk => hk.2))); have n1_ := Aside0.mk (hb); have n2_ := Aside0.mk (ho); clear BK184; clear HB; clear HO_6; have BK184 := n0_; have HB := n1_; have HO187 := n2_; clear n0_ n1_ n2_; clear ho hb hg hat))
         go_roundg kj2
         case measure => have := HK1.out; have := HJ2.out; omega
         case rel => exact ⟨(t182), (false), (y185), (by first | rfl | (simp; done) | (simp [*]; done)), (by first | rfl | (simp; done) | (simp [*]; done)), H', ⟨by have := HK1.out; have := HJ2.out; omega⟩, ⟨by (with_reducible repeat (first | apply Kd.R_alloc | apply Kd.R_drewN | apply Kd.R_drew)); exact Kd.R_mono HO187.out (fun _ hk => trivial)⟩, ⟨by repeat (first | (with_reducible first | exact HB.out | apply below_alloc | apply pw_below_drewN | apply below_drew1 | refine below_set ?_ GE184.out) | exact HB.out)⟩⟩
       ·rw [if_neg c22] at H
        exact absurd H (by simp)
     ·replace c5 := Bool.eq_false_iff.mpr c5
      subst c5
      have H1 : (if x5_1 = true then ((text_Row.f kj2 x6_1).bind fun t165 => (if t165.toList = a0.toList then (some (x6_1, 0)) else (some (([] : List (S24)), 30)))) else (some (([] : List (S24)), 30))) = some (r1, r2) := by rw [if_neg (show ¬ (false = true) by decide)] at H; exact H
      clear H
      have H := H1
      clear H1
      by_cases c34 : x5_1 = true
      ·subst c34
       have H1 : ((text_Row.f kj2 x6_1).bind fun t165 => (if t165.toList = a0.toList then (some (x6_1, 0)) else (some (([] : List (S24)), 30)))) = some (r1, r2) := by rw [if_pos rfl] at H; exact H
       clear H
       have H := H1
       clear H1
       replace H := Option.bind_eq_some_iff.mp H
       obtain ⟨t165, A350, H⟩ := H
       replace H : (if t165.toList = a0.toList then (some (x6_1, 0)) else (some (([] : List (S24)), 30))) = some (r1, r2) := H
       have A35 := Aside0.mk A350
       clear A350
       by_cases c36 : t165.toList = a0.toList
       ·rw [if_pos c36] at H
        have c36b0 : (t165.toList == a0.toList) = true := beq_iff_eq.mpr c36
        have c36b1 : (t165.toList != a0.toList) = false := bne_eq_false_iff_eq.mpr c36
        clear c36
        simp only [Option.some.injEq, Prod.mk.injEq] at H
        obtain ⟨rfl, rfl⟩ := H
        obtain ⟨Ao37, co37, eo37⟩ := Kd.R_slice HO_6.out
        subst eo37
        go_wp2_with (first | (go_at_call 12; (with_reducible refine (text_Row.calls kj2 _ _ x6_1 t165 _ ?side1 ?side2 ?side3 A35.out).mono ?_); (case side1 => repeat (first | exact (Kd.R_reads' HO_6.out).2.2 | (with_reducible refine Kd.C_alloc ?_ _) | (with_reducible refine Kd.C_drewN ?_ _) | (with_reducible refine Kd.C_drew ?_))); (case side2 => exact (Kd.R_reads' HO_6.out).2.1); (case side3 => exact Mb.Errs.mono HT.out (by repeat (first | (with_reducible first | exact HB.out | apply below_alloc | apply pw_below_drewN | apply below_drew1) | exact HB.out))); rintro e w38 ⟨rfl, hb⟩; have n0_ := Aside0.mk (Kd.R_below (by (with_reducible repeat (first | apply Kd.R_alloc | apply Kd.R_drewN | apply Kd.R_drew)); exact HO_6.out) hb); have n1_ := Aside0.mk (below_step (by repeat (first | (with_reducible first | exact HB.out | apply below_alloc | apply pw_below_drewN | apply below_drew1) | exact HB.out)) hb); clear HO_6; clear HB; have HO_6 := n0_; have HB := n1_; clear n0_ n1_; (try clear hb); (try clear hb2); (try clear hk); (try clear hi)))
        go_ret2
        exact ⟨_, by first | rfl | (simp [errW_none, errW_some] <;> rfl) | (simp [*, errW_none, errW_some] <;> rfl), by (with_reducible repeat (first | apply Kd.R_alloc | apply Kd.R_drewN | apply Kd.R_drew)); exact HO_6.out, by repeat (first | (with_reducible first | exact HB.out | apply below_alloc | apply pw_below_drewN | apply below_drew1) | exact HB.out)⟩
       ·rw [if_neg c36] at H
        have c36b0 : (t165.toList == a0.toList) = false := beq_eq_false_iff_ne.mpr c36
        have c36b1 : (t165.toList != a0.toList) = true := bne_iff_ne.mpr c36
        simp only [Option.some.injEq, Prod.mk.injEq] at H
        obtain ⟨rfl, rfl⟩ := H
        obtain ⟨Ao39, co39, eo39⟩ := Kd.R_slice HO_6.out
        subst eo39
        go_wp2_with (first | (go_at_call 12; (with_reducible refine (text_Row.calls kj2 _ _ x6_1 t165 _ ?side1 ?side2 ?side3 A35.out).mono ?_); (case side1 => repeat (first | exact (Kd.R_reads' HO_6.out).2.2 | (with_reducible refine Kd.C_alloc ?_ _) | (with_reducible refine Kd.C_drewN ?_ _) | (with_reducible refine Kd.C_drew ?_))); (case side2 => exact (Kd.R_reads' HO_6.out).2.1); (case side3 => exact Mb.Errs.mono HT.out (by repeat (first | (with_reducible first | exact HB.out | apply below_alloc | apply pw_below_drewN | apply below_drew1) | exact HB.out))); rintro e w40 ⟨rfl, hb⟩; have n0_ := Aside0.mk (Kd.R_below (by (with_reducible repeat (first | apply Kd.R_alloc | apply Kd.R_drewN | apply Kd.R_drew)); exact HO_6.out) hb); have n1_ := Aside0.mk (below_step (by repeat (first | (with_reducible first | exact HB.out | apply below_alloc | apply pw_below_drewN | apply below_drew1) | exact HB.out)) hb); clear HO_6; clear HB; have HO_6 := n0_; have HB := n1_; clear n0_ n1_; (try clear hb); (try clear hb2); (try clear hk); (try clear hi)))
        go_ret2
        exact ⟨_, by first | rfl | (simp [errW_none, errW_some] <;> rfl) | (simp [*, errW_none, errW_some] <;> rfl), by first | exact Kd.R_nil _ _ _ _ _ | exact Kd.N_nil _ _ _ _ _ | exact Kd.V_nil _ _ _ _ _ | exact Kd.Q_nil _ _ _ _ _ | exact Kd.S_nil _ _ _ _ _, by repeat (first | (with_reducible first | exact HB.out | apply below_alloc | apply pw_below_drewN | apply below_drew1) | exact HB.out)⟩
      ·replace c34 := Bool.eq_false_iff.mpr c34
       subst c34
       have H1 : (some (([] : List (S24)), 30)) = some (r1, r2) := by rw [if_neg (show ¬ (false = true) by decide)] at H; exact H
       clear H
       have H := H1
       clear H1
       simp only [Option.some.injEq, Prod.mk.injEq] at H
       obtain ⟨rfl, rfl⟩ := H
       go_wp2
       go_ret2
       exact ⟨_, by first | rfl | (simp [errW_none, errW_some] <;> rfl) | (simp [*, errW_none, errW_some] <;> rfl), by first | exact Kd.R_nil _ _ _ _ _ | exact Kd.N_nil _ _ _ _ _ | exact Kd.V_nil _ _ _ _ _ | exact Kd.Q_nil _ _ _ _ _ | exact Kd.S_nil _ _ _ _ _, by repeat (first | (with_reducible first | exact HB.out | apply below_alloc | apply pw_below_drewN | apply below_drew1) | exact HB.out)⟩
end
end Go.Proofs.YtpjfhdbkkomogaaDoor.Px
namespace Go.Proofs.YtpjfhdbkkomogaaDoor.Mb
open Go.RowKit Go.Proofs.YtpjfhdbkkomogaaDoorW.PrintWords Go.Proofs.YtpjfhdbkkomogaaDoorW.PrintLast Go.Proofs.YtpjfhdbkkomogaaDoorW.PrintMore Go.Proofs.YtpjfhdbkkomogaaDoor.Px Go.Proofs.YtpjfhdbkkomogaaDoor.Gvn
open Go.Lib (itoa)
theorem cutPrefix_is (l p : List UInt8) : strings_CutPrefix.f (B (p ++ l)) (B p) = some (B l, true) := by
  have h := hasPrefix_is (p ++ l) p
  unfold strings_HasPrefix.f at h
  have h2 : stringslite_HasPrefix.f (B (p ++ l)) (B p) = some ((p ++ l).take p.length == p) := by
    cases hx : stringslite_HasPrefix.f (B (p ++ l)) (B p) with
    | none => rw [hx] at h; cases h
    | some v => rw [hx] at h; exact h
  rw [List.take_left, beq_self_eq_true] at h2
  unfold strings_CutPrefix.f stringslite_CutPrefix.f
  have e : ((B p).size : Int).toNat = p.length := by rw [size_B]; omega
  rw [h2, Option.bind_some, if_pos rfl, if_pos (by omega), if_pos (by rw [size_B, size_B, List.length_append]; omega), Option.bind_some, e, tail_B, List.drop_left]
theorem joinL_is (ts : List (List UInt8)) : joinL (ts.map B) (B [44, 32]) = Lib.join ts [44, 32] := by
  unfold joinL
  rw [List.map_map, data_B]
  congr 1
  conv => rhs; rw [← List.map_id ts]
  exact List.map_congr_left fun t _ => data_B t
theorem rowT_is (ts : List (List UInt8)) : rowT ts = 40 :: (Lib.join ts [44, 32] ++ [41]) := by
  cases ts with
  | nil => rfl
  | cons t ts =>
    rw [Lib.join_cons]
    simp only [rowT, tailT, Lib.joinTail, List.flatMap, List.append_assoc]
    rfl
theorem rowT_short : ∀ ts : List (List UInt8), (∀ t ∈ ts, t.length ≤ 300) → (rowT ts).length ≤ 302 * ts.length + 2
  | [], _ => by decide
  | t :: ts, h => by
    have h1 := tail_short ts fun u hu => h u (List.mem_cons_of_mem _ hu)
    have h2 := h t (List.mem_cons_self ..)
    rw [rowT, List.length_cons, List.length_append, List.length_cons]
    omega
theorem Vt.long {k i : Int} {s : ByteArray} {f : Nat} {t : List UInt8} (h : Vt k i s f t) : 1 ≤ t.length := by
  cases h with
  | int n h0 h1 =>
    cases hx : itoa i with
    | nil =>
      exfalso
      unfold Go.Lib.itoa at hx
      split at hx
      · cases hx
      · exact (dec_digits _).2 hx
    | cons c r => rw [List.length_cons]; omega
  | yes => decide
  | no => decide
  | str s h => unfold quoteL; rw [List.length_append, List.length_cons]; omega
  | bytes s h => rw [List.length_cons]; omega
  | float f h => rw [List.length_cons]; omega
structure Rt (l : List S24) (ts : List (List UInt8)) : Prop where
  len : ts.length = l.length
  few : l.length ≤ 3000
  size : (rowT ts).length ≤ 9062
  at_ : ∀ (i : Nat) (h : i < l.length) (h' : i < ts.length), Vt l[i].f0 l[i].f1 l[i].f2 l[i].f3 ts[i]
theorem tail_drop : ∀ (ts : List (List UInt8)) (i : Nat), (tailT (ts.drop i)).length ≤ (tailT ts).length
  | [], i => by rw [List.drop_nil]; exact Nat.le_refl _
  | t :: ts, 0 => Nat.le_refl _
  | t :: ts, i + 1 => by
    have := tail_drop ts i
    rw [List.drop_succ_cons, tailT_cons, List.length_cons, List.length_cons, List.length_append]
    omega
theorem tail_row (ts : List (List UInt8)) : (tailT ts).length ≤ (rowT ts).length + 1 := by
  cases ts with
  | nil => decide
  | cons t ts => rw [tailT_cons, rowT]; simp only [List.length_cons]; omega
theorem Rt.tail {l : List S24} {ts : List (List UInt8)} (h : Rt l ts) (i : Nat) (hi : i < ts.length) : ts[i].length + (tailT (ts.drop (i + 1))).length ≤ 9062 := by
  have h1 := tail_drop ts i
  have h2 := tail_row ts
  have h3 := h.size
  rw [List.drop_eq_getElem_cons hi, tailT_cons, List.length_cons, List.length_cons, List.length_append] at h1
  omega
theorem rd_is (l : List S24) (i : Nat) (h : i < l.length) : rd_T24 l (i : Int) = l[i] := by
  unfold rd_T24
  rw [List.getD_eq_getElem?_getD, show (i : Int).toNat = i by omega, List.getElem?_eq_getElem h]
  rfl
theorem wrap_succ (i : Nat) (h : i ≤ 1000000) : wrap64 ((i : Int) + 1) = ((i + 1 : Nat) : Int) := by unfold wrap64; omega
theorem row_end (ts : List (List UInt8)) (h1 : ts.length ≤ 3000) (h2 : (rowT ts).length ≤ 1000000) : (strings_Join.f (ts.map B) (⟨#[44, 32]⟩ : ByteArray)).bind (fun t135 => if 1 + t135.size ≤ 9223372036854775807 then (if ((⟨#[40]⟩ : ByteArray) ++ t135).size + 1 ≤ 9223372036854775807 then (some (((⟨#[40]⟩ : ByteArray) ++ t135) ++ (⟨#[41]⟩ : ByteArray))) else (none)) else (none)) = some (B (rowT ts)) := by
  have e : rowT ts = [40] ++ Lib.join ts [44, 32] ++ [41] := by rw [rowT_is]; rfl
  have hz : (Lib.join ts [44, 32]).length + 2 = (rowT ts).length := by rw [e]; simp only [List.length_append, List.length_cons, List.length_nil]; omega
  have hj : strings_Join.f (ts.map B) (⟨#[44, 32]⟩ : ByteArray) = some (B (Lib.join ts [44, 32])) := by
    have := joinL_is ts
    unfold strings_Join.f joinF
    rw [show (⟨#[44, 32]⟩ : ByteArray) = B [44, 32] from rfl, this, if_pos ⟨by rw [List.length_map]; omega, by omega⟩]
  have ha : (⟨#[40]⟩ : ByteArray) ++ B (Lib.join ts [44, 32]) = B ([40] ++ Lib.join ts [44, 32]) := append_B [40] _
  rw [hj, Option.bind_some, ha, if_pos (by rw [size_B]; omega), if_pos (by rw [size_B, List.length_append, List.length_cons, List.length_nil]; omega)]
  rw [e]
  exact congrArg some (append_B ([40] ++ Lib.join ts [44, 32]) [41])
theorem row_gen {l : List S24} {ts : List (List UInt8)} (hl : ts.length = l.length) (hf : l.length ≤ 3000) (hz : (rowT ts).length ≤ 1000000)
    (hp : ∀ (i : Nat) (h : i < l.length) (h' : i < ts.length), text_Print.f l[i].f0 l[i].f1 l[i].f2 l[i].f3 = some (B ts[i])) (d : Nat) : ∀ (n i : Nat), i + d = l.length → d + 1 ≤ n →
    text_Row.l0 n ((ts.take i).map B) l (l.length : Int) (i : Int) = some (B (rowT ts)) := by
  induction d with
  | zero =>
    intro n i hi hn
    obtain ⟨n, rfl⟩ : ∃ m, n = m + 1 := ⟨n - 1, by omega⟩
    rw [text_Row.l0, if_neg (by omega), List.take_of_length_le (by omega)]
    exact row_end ts (by omega) hz
  | succ d ih =>
    intro n i hi hn
    obtain ⟨n, rfl⟩ : ∃ m, n = m + 1 := ⟨n - 1, by omega⟩
    have hlt : i < l.length := by omega
    have hlt' : i < ts.length := by omega
    have ht : (ts.take i).map B ++ [B ts[i]] = (ts.take (i + 1)).map B := by
      rw [List.take_succ_eq_append_getElem hlt', List.map_append]
      rfl
    rw [text_Row.l0, if_pos (by omega), if_pos (by omega), if_pos (by omega), rd_is l i hlt, hp i hlt hlt', Option.bind_some, if_pos (by rw [List.length_map, List.length_take]; omega), wrap_succ i (by omega), ht]
    exact ih n (i + 1) (by omega) (by omega)
theorem row_is {l : List S24} {ts : List (List UInt8)} (h : Rt l ts) (n : Nat) (hn : l.length + 1 ≤ n) : text_Row.f n l = some (B (rowT ts)) :=
  row_gen h.len h.few (by have := h.size; omega) (fun i h1 h2 => (h.at_ i h1 h2).printF) l.length n 0 (by omega) hn
theorem read_end {l : List S24} {ts : List (List UInt8)} (h : Rt l ts) (n : Nat) (hn : l.length + 3 ≤ n) :
    text_Read.l0 n (B (rowT ts)) (B [41]) true l = some (l, 0) := by
  obtain ⟨n, rfl⟩ : ∃ m, n = m + 2 := ⟨n - 2, by omega⟩
  have e : ((B [41]).toList != ([41] : List UInt8)) = false := by rw [toList_B]; rfl
  rw [text_Read.l0, if_pos rfl, e, text_Read.j1, if_neg (by decide), if_pos rfl, row_is h n (by omega), Option.bind_some, if_pos rfl]
theorem read_one {l : List S24} {ts : List (List UInt8)} (h : Rt l ts) (i : Nat) (hlt : i < l.length) (hlt' : i < ts.length) :
    text_front.f (B (ts[i] ++ tailT (ts.drop (i + 1)))) = some (l[i].f0, l[i].f1, l[i].f2, l[i].f3, B (tailT (ts.drop (i + 1))), true) ∧ (tailT (ts.drop (i + 1))).length ≤ 9062 := by
  have h1 := h.tail i hlt'
  exact ⟨(h.at_ i hlt hlt').frontF _ (behind_tail _ (by omega)) (by omega), by omega⟩
theorem read_tail {l : List S24} {ts : List (List UInt8)} (h : Rt l ts) (d : Nat) : ∀ (n i : Nat), 1 ≤ i → i + d = l.length → 2 * d + l.length + 3 ≤ n →
    text_Read.l0 n (B (rowT ts)) (B (tailT (ts.drop i))) true (l.take i) = some (l, 0) := by
  have hf := h.few
  have hl := h.len
  induction d with
  | zero =>
    intro n i h1 hi hn
    rw [List.drop_eq_nil_of_le (by omega), List.take_of_length_le (by omega)]
    exact read_end h n (by omega)
  | succ d ih =>
    intro n i h1 hi hn
    obtain ⟨n, rfl⟩ : ∃ m, n = m + 2 := ⟨n - 2, by omega⟩
    have hlt : i < l.length := by omega
    have hlt' : i < ts.length := by omega
    obtain ⟨hfr, hz⟩ := read_one h i hlt hlt'
    have hcut := cutPrefix_is (ts[i] ++ tailT (ts.drop (i + 1))) [44, 32]
    have e : ((B (tailT (ts.drop i))).toList != ([41] : List UInt8)) = true := by
      rw [toList_B, List.drop_eq_getElem_cons hlt', tailT_cons, bne_iff_ne]
      intro hh
      have := congrArg List.head? hh
      simp at this
    have ht : l.take i ++ [(⟨l[i].f0, l[i].f1, l[i].f2, l[i].f3⟩ : S24)] = l.take (i + 1) := by
      rw [List.take_succ_eq_append_getElem hlt]
    rw [text_Read.l0, if_pos rfl, e, text_Read.j1, if_pos rfl, if_pos (by rw [List.length_take]; omega), List.drop_eq_getElem_cons hlt', tailT_cons]
    have hcut' : strings_CutPrefix.f (B (44 :: 32 :: (ts[i] ++ tailT (ts.drop (i + 1))))) (⟨#[44, 32]⟩ : ByteArray) = some (B (ts[i] ++ tailT (ts.drop (i + 1))), true) := hcut
    rw [hcut', Option.bind_some]
    dsimp only
    rw [hfr, Option.bind_some, if_pos (by rw [List.length_take]; omega), Option.bind_some]
    dsimp only
    rw [if_pos rfl, ht]
    exact ih n (i + 1) (by omega) (by omega) (by omega)
theorem read_is {l : List S24} {ts : List (List UInt8)} (h : Rt l ts) (n : Nat) (hn : 3 * l.length + 5 ≤ n) : text_Read.f n (B (rowT ts)) = some (l, 0) := by
  have hf := h.few
  have hl := h.len
  unfold text_Read.f
  cases hts : ts with
  | nil =>
    have hcut := cutPrefix_is [41] [40]
    have hcut' : strings_CutPrefix.f (B (rowT [])) (⟨#[40]⟩ : ByteArray) = some (B [41], true) := hcut
    rw [hcut', Option.bind_some]
    have h0 : l = [] := List.eq_nil_of_length_eq_zero (by rw [← hl, hts]; rfl)
    subst h0
    have := read_end h n (by omega)
    rw [hts] at this
    exact this
  | cons t tr =>
    rw [← hts]
    have hlt' : 0 < ts.length := by rw [hts, List.length_cons]; omega
    have hlt : 0 < l.length := by omega
    obtain ⟨hfr, hz⟩ := read_one h 0 hlt hlt'
    have e0 : rowT ts = ([40] : List UInt8) ++ (ts[0] ++ tailT (ts.drop 1)) := by simp [hts, rowT]
    have hcut := cutPrefix_is (ts[0] ++ tailT (ts.drop 1)) [40]
    rw [← e0] at hcut
    have hcut' : strings_CutPrefix.f (B (rowT ts)) (⟨#[40]⟩ : ByteArray) = some (B (ts[0] ++ tailT (ts.drop 1)), true) := hcut
    rw [hcut', Option.bind_some]
    dsimp only
    obtain ⟨n, rfl⟩ : ∃ m, n = m + 2 := ⟨n - 2, by omega⟩
    have hq := (h.at_ 0 hlt hlt')
    have e : ((B (ts[0] ++ tailT (ts.drop 1))).toList != ([41] : List UInt8)) = true := by
      rw [toList_B, bne_iff_ne]
      intro hh
      have hlen := congrArg List.length hh
      rw [List.length_append, List.length_cons, List.length_nil] at hlen
      have hT : 1 ≤ (tailT (ts.drop 1)).length := by unfold tailT; rw [List.length_append, List.length_cons]; omega
      have h1 := hq.long
      omega
    have ht : ([] : List S24) ++ [(⟨l[0].f0, l[0].f1, l[0].f2, l[0].f3⟩ : S24)] = l.take 1 := by
      rw [List.take_succ_eq_append_getElem hlt]
      rfl
    rw [text_Read.l0, if_pos rfl, e, text_Read.j1, if_pos rfl, if_neg (by simp), hfr, Option.bind_some, if_pos (by simp), Option.bind_some]
    dsimp only
    rw [if_pos rfl, ht]
    exact read_tail h (l.length - 1) n 1 (by omega) (by omega) (by omega)
def In (v : S24) : Prop := -9223372036854775808 ≤ v.f1 ∧ v.f1 ≤ 9223372036854775807 ∧ v.f3 < 18446744073709551616
theorem digit_some (a : Int) : ∃ t, text_digit.f a = some t := ⟨_, rfl⟩
theorem size_tail (x : ByteArray) (i : Nat) : (x.extract i x.size).size = x.size - i := by rw [ByteArray.size_extract]; omega
theorem size_cut (x : ByteArray) (i j : Nat) (h : j ≤ x.size) : (x.extract i j).size = j - i := by rw [ByteArray.size_extract]; omega
theorem size_strOf (xs : List Int) : (strOfNums xs).size = xs.length := by unfold strOfNums; rw [← size_data]; simp
theorem unhexed_total : ∀ (d : Nat) (x : ByteArray) (acc : List Int), x.size ≤ d → acc.length + d ≤ 1000000 → ∃ k r, text_unhexed.l0 k x acc = some r ∧ r.2.size ≤ x.size ∧ r.1.size ≤ acc.length + x.size := by
  intro d
  induction d with
  | zero =>
    intro x acc hx _
    refine ⟨2, (strOfNums acc, x), ?_, Nat.le_refl _, by rw [size_strOf]; omega⟩
    rw [text_unhexed.l0, if_neg (by omega), text_unhexed.j1, if_neg (by decide)]
  | succ d ih =>
    intro x acc hx ha
    by_cases h1 : (x.size : Int) > 1
    · obtain ⟨t0, e0⟩ := digit_some (bt x 0)
      obtain ⟨t1, e1⟩ := digit_some (bt x 1)
      by_cases h2 : t0 ≥ 0
      · by_cases h3 : t1 ≥ 0
        · obtain ⟨k, r, hk, hr, hq⟩ := ih (x.extract 2 x.size) (acc ++ [(Go.bits .or .i64 (wrap64 (t0 * 16)) t1) % 256]) (by rw [size_tail]; omega) (by rw [List.length_append, List.length_cons, List.length_nil]; omega)
          rw [size_tail] at hr hq
          rw [List.length_append, List.length_cons, List.length_nil] at hq
          refine ⟨k + 2, r, ?_, by omega, by omega⟩
          rw [text_unhexed.l0, if_pos h1, if_pos (by omega), e0, Option.bind_some, if_pos h2, if_pos h1, e1, Option.bind_some, text_unhexed.j1, if_pos (decide_eq_true h3), if_pos (by omega), e0, Option.bind_some, if_pos h1, e1, Option.bind_some, if_pos (by omega), if_pos (by omega), hk]
        · refine ⟨2, (strOfNums acc, x), ?_, Nat.le_refl _, by rw [size_strOf]; omega⟩
          rw [text_unhexed.l0, if_pos h1, if_pos (by omega), e0, Option.bind_some, if_pos h2, if_pos h1, e1, Option.bind_some, text_unhexed.j1, if_neg (by rw [decide_eq_false h3]; decide)]
      · refine ⟨2, (strOfNums acc, x), ?_, Nat.le_refl _, by rw [size_strOf]; omega⟩
        rw [text_unhexed.l0, if_pos h1, if_pos (by omega), e0, Option.bind_some, if_neg h2, text_unhexed.j1, if_neg (by decide)]
    · refine ⟨2, (strOfNums acc, x), ?_, Nat.le_refl _, by rw [size_strOf]; omega⟩
      rw [text_unhexed.l0, if_neg h1, text_unhexed.j1, if_neg (by decide)]
theorem unhexed_end_of (x : ByteArray) (h : x.size ≤ 10000) : ∃ k r, text_unhexed.f k x = some r ∧ r.2.size ≤ x.size ∧ r.1.size ≤ x.size := by
  obtain ⟨k, r, hk, h1, h2⟩ := unhexed_total 10000 x [] h (by decide)
  exact ⟨k, r, hk, h1, by simpa using h2⟩
theorem unquoted_mono (k d : Nat) (x : ByteArray) (acc : List Int) {r : ByteArray × ByteArray × Bool} (h : text_unquoted.l0 k x acc = some r) : text_unquoted.l0 (k + d) x acc = some r :=
  grow_le (g := fun k => text_unquoted.l0 k x acc) (fun k => (text_unquoted.mono_l k).1 _ _) d h
theorem unhexed_mono (k d : Nat) (x : ByteArray) {r : ByteArray × ByteArray} (h : text_unhexed.f k x = some r) : text_unhexed.f (k + d) x = some r :=
  grow_le (g := fun k => text_unhexed.f k x) (fun k => text_unhexed.mono _ k) d h
theorem size_pos_of {x : ByteArray} (h : ¬ x.toList = ([] : List UInt8)) : 0 < x.size := by
  rcases Nat.eq_zero_or_pos x.size with h0 | h0
  · exfalso
    apply h
    rw [ByteArray.toList_eq]
    exact List.eq_nil_of_length_eq_zero (by rw [size_data]; exact h0)
  · exact h0
theorem unquoted_total : ∀ (d : Nat) (x : ByteArray) (acc : List Int), x.size ≤ d → d ≤ 10000 → acc.length + d ≤ 100000 → ∃ k r, text_unquoted.l0 k x acc = some r ∧ r.2.1.size ≤ x.size := by
  intro d
  induction d using Nat.strongRecOn with
  | _ d ih =>
  intro x acc hx hd ha
  by_cases he : x.toList = ([] : List UInt8)
  · exact ⟨1, _, by rw [text_unquoted.l0, if_pos he], Nat.zero_le _⟩
  have hp := size_pos_of he
  by_cases h34 : bt x 0 = 34
  · refine ⟨1, _, by rw [text_unquoted.l0, if_neg he, if_pos (by omega), if_pos (by omega), if_pos h34], ?_⟩
    show (x.extract 1 x.size).size ≤ x.size
    rw [size_tail]
    omega
  by_cases h92 : bt x 0 = 92
  · have hpre : ∃ t, strings_HasPrefix.f (x.extract 1 x.size) (⟨#[120]⟩ : ByteArray) = some t := ⟨_, hasPrefix_is (x.extract 1 x.size).data.toList [120]⟩
    obtain ⟨t, ht⟩ := hpre
    have hx1 := size_tail x 1
    have plain : ∃ k r, text_unquoted.j1 k (x.extract 1 x.size) acc false = some r ∧ r.2.1.size ≤ x.size := by
      by_cases he1 : (x.extract 1 x.size).toList = ([] : List UInt8)
      · obtain ⟨k, r, hk, hr⟩ := ih (x.size - 1) (by omega) (x.extract 1 x.size) acc (by omega) (by omega) (by omega)
        refine ⟨k + 1, r, ?_, by omega⟩
        rw [text_unquoted.j1, if_neg (by decide), if_pos he1, hk]
      · have hp1 := size_pos_of he1
        have hx2 := size_tail (x.extract 1 x.size) 1
        obtain ⟨k, r, hk, hr⟩ := ih (x.size - 2) (by omega) ((x.extract 1 x.size).extract 1 (x.extract 1 x.size).size) (acc ++ [bt (x.extract 1 x.size) 0]) (by omega) (by omega) (by rw [List.length_append, List.length_cons, List.length_nil]; omega)
        refine ⟨k + 1, r, ?_, by omega⟩
        rw [text_unquoted.j1, if_neg (by decide), if_neg he1, if_pos (by omega), if_pos (by omega), if_pos (by omega), hk]
    have key : ∃ k r, (∀ b, b = decide (((x.extract 1 x.size).size : Int) > 2) → text_unquoted.j1 k (x.extract 1 x.size) acc b = some r) ∧ r.2.1.size ≤ x.size := by
      by_cases h2 : ((x.extract 1 x.size).size : Int) > 2
      · obtain ⟨k0, r0, hk0, -, hz0⟩ := unhexed_end_of ((x.extract 1 x.size).extract 1 3) (by rw [size_cut _ _ _ (by omega)]; omega)
        rw [size_cut _ _ _ (by omega)] at hz0
        by_cases hr0 : r0.2.toList = ([] : List UInt8)
        · have hx3 := size_tail (x.extract 1 x.size) 3
          obtain ⟨k, r, hk, hr⟩ := ih (x.size - 4) (by omega) ((x.extract 1 x.size).extract 3 (x.extract 1 x.size).size) (acc ++ bytesOf r0.1) (by omega) (by omega) (by
            rw [List.length_append, show (bytesOf r0.1).length = r0.1.size by unfold bytesOf; rw [List.length_map, size_data]]; omega)
          refine ⟨k0 + k + 1, r, ?_, by omega⟩
          rintro b rfl
          have hk' := unquoted_mono k k0 _ _ hk
          rw [Nat.add_comm] at hk'
          rw [text_unquoted.j1, if_pos (decide_eq_true h2), if_pos (by decide), if_pos (by omega), unhexed_mono k0 k _ hk0, Option.bind_some, if_pos hr0, if_pos (by omega), hk']
        · refine ⟨k0 + 1, ((⟨#[]⟩ : ByteArray), (⟨#[]⟩ : ByteArray), false), ?_, Nat.zero_le _⟩
          rintro b rfl
          rw [text_unquoted.j1, if_pos (decide_eq_true h2), if_pos (by decide), if_pos (by omega), hk0, Option.bind_some, if_neg hr0]
      · obtain ⟨k, r, hk, hr⟩ := plain
        exact ⟨k, r, fun b hb => by rw [hb, decide_eq_false h2]; exact hk, hr⟩
    cases t with
    | true =>
      obtain ⟨k, r, hk, hr⟩ := key
      refine ⟨k + 1, r, ?_, hr⟩
      rw [text_unquoted.l0, if_neg he, if_pos (by omega), if_pos (by omega), if_neg h34, if_pos h92, ht, Option.bind_some, if_pos rfl]
      exact hk _ rfl
    | false =>
      obtain ⟨k, r, hk, hr⟩ := plain
      refine ⟨k + 1, r, ?_, hr⟩
      rw [text_unquoted.l0, if_neg he, if_pos (by omega), if_pos (by omega), if_neg h34, if_pos h92, ht, Option.bind_some, if_neg (by decide), hk]
  · have hx1 := size_tail x 1
    obtain ⟨k, r, hk, hr⟩ := ih (x.size - 1) (by omega) (x.extract 1 x.size) (acc ++ [bt x 0]) (by omega) (by omega) (by rw [List.length_append, List.length_cons, List.length_nil]; omega)
    refine ⟨k + 1, r, ?_, by omega⟩
    rw [text_unquoted.l0, if_neg he, if_pos (by omega), if_pos (by omega), if_neg h34, if_neg h92, if_pos (by omega), hk]
theorem parseI_range {l : List UInt8} {v : Int} (h : Lib.parseIntB 64 l = .ok v) : -9223372036854775808 ≤ v ∧ v ≤ 9223372036854775807 := by
  unfold Lib.parseIntB at h
  split at h
  · cases h
  · dsimp only at h
    split at h
    · cases h
    · cases h
    · split at h
      · cases h
      · split at h
        · cases h
        · rename_i hn1 hn2
          split at h
          · rename_i hneg
            cases h
            have : ¬ 2 ^ (64 - 1) < _ := fun hh => hn2 ⟨hneg, hh⟩
            omega
          · rename_i hneg
            cases h
            have : ¬ 2 ^ (64 - 1) ≤ _ := fun hh => hn1 ⟨hneg, hh⟩
            omega
theorem sat_range (l : List UInt8) : -9223372036854775808 ≤ Lib.intSat 64 l ∧ Lib.intSat 64 l ≤ 9223372036854775807 := by
  unfold Lib.intSat
  split <;> decide
theorem hxs_lt (l : List UInt8) : ∀ a n, hxs a l = some n → n < (a + 1) * 16 ^ l.length := by
  induction l with
  | nil =>
    intro a n h
    cases h
    simp
  | cons c l ih =>
    intro a n h
    rw [hxs] at h
    obtain ⟨d, hd, hn⟩ := Option.bind_eq_some_iff.1 h
    have h1 := ih _ _ hn
    have h2 := hxv_lt hd
    have h3 : (a * 16 + d + 1) * 16 ^ l.length ≤ ((a + 1) * 16) * 16 ^ l.length := Nat.mul_le_mul_right _ (by omega)
    have h4 : (a + 1) * 16 ^ (c :: l).length = ((a + 1) * 16) * 16 ^ l.length := by rw [List.length_cons, Nat.pow_succ, Nat.mul_comm (16 ^ l.length) 16, Nat.mul_assoc]
    rw [h4]
    omega
def FrOk (l : List UInt8) (x : FR) : Prop := In ⟨x.1, x.2.1, x.2.2.1, x.2.2.2.1⟩ ∧ x.2.2.2.2.1.size ≤ l.length ∧ (x.2.2.2.2.2 = true → x.2.2.2.2.1.size < l.length)
theorem in_num (k i : Int) (s : ByteArray) (h0 : -9223372036854775808 ≤ i) (h1 : i ≤ 9223372036854775807) : In ⟨k, i, s, 0⟩ := ⟨h0, h1, (by decide : (0 : Nat) < 18446744073709551616)⟩
theorem in_nil (k : Int) (s : ByteArray) : In ⟨k, 0, s, 0⟩ := in_num k 0 s (by decide) (by decide)
theorem in_one (k : Int) (s : ByteArray) : In ⟨k, 1, s, 0⟩ := in_num k 1 s (by decide) (by decide)
theorem num_ok (l : List UInt8) : FrOk l (numL l) := by
  have hd : ((B (l.drop (lead l)))).size ≤ l.length := by rw [size_B, List.length_drop]; omega
  unfold numL FrOk
  split
  · rename_i v hv
    have := parseI_range hv
    refine ⟨in_num _ _ _ this.1 this.2, hd, fun _ => ?_⟩
    show (B (l.drop (lead l))).size < l.length
    rw [size_B, List.length_drop]
    have h0 : 0 < lead l := by
      rcases Nat.eq_zero_or_pos (lead l) with h0 | h0
      · rw [h0, List.take_zero] at hv
        cases hv
      · exact h0
    have := lead_le l
    omega
  · have := sat_range (l.take (lead l))
    exact ⟨in_num _ _ _ this.1 this.2, hd, fun h => by cases h⟩
  · exact ⟨in_nil _ _, hd, fun h => by cases h⟩
theorem front_total (l : List UInt8) (hl : l.length ≤ 10000) : ∃ x, frontL l = some x ∧ FrOk l x := by
  unfold frontL
  rw [if_neg (by omega)]
  match l, hl with
  | [], _ => exact ⟨_, rfl, num_ok []⟩
  | c :: r, hl =>
    rw [List.length_cons] at hl
    dsimp only
    by_cases c1 : c = 34
    · rw [if_pos c1]
      obtain ⟨k, x, hx, hs⟩ := unquoted_total r.length (B r) [] (Nat.le_refl _) (by omega) (by simp; omega)
      have hx' : text_unquoted.f k (B r) = some x := hx
      rw [lim_some (g := fun k => text_unquoted.f k (B r)) (fun k => text_unquoted.mono _ k) hx']
      rw [size_B] at hs
      exact ⟨_, rfl, in_nil _ _, by rw [List.length_cons]; show x.2.1.size ≤ _; omega, fun _ => by rw [List.length_cons]; show x.2.1.size < _; omega⟩
    rw [if_neg c1]
    by_cases c2 : c = 116
    · rw [if_pos c2]
      split
      · refine ⟨_, rfl, in_one _ _, ?_, fun _ => ?_⟩
        · show (B (r.drop 3)).size ≤ _
          rw [size_B, List.length_drop, List.length_cons]; omega
        · show (B (r.drop 3)).size < _
          rw [size_B, List.length_drop, List.length_cons]; omega
      · exact ⟨_, rfl, num_ok _⟩
    rw [if_neg c2]
    by_cases c3 : c = 120
    · rw [if_pos c3]
      obtain ⟨k, x, hx, hs, -⟩ := unhexed_end_of (B r) (by rw [size_B]; omega)
      rw [lim_some (g := fun k => text_unhexed.f k (B r)) (fun k => text_unhexed.mono _ k) hx]
      rw [size_B] at hs
      exact ⟨_, rfl, in_nil _ _, by rw [List.length_cons]; show x.2.size ≤ _; omega, fun _ => by rw [List.length_cons]; show x.2.size < _; omega⟩
    rw [if_neg c3]
    by_cases c4 : c = 102
    · rw [if_pos c4]
      split
      · refine ⟨_, rfl, in_nil _ _, ?_, fun _ => ?_⟩
        · show (B (r.drop 4)).size ≤ _
          rw [size_B, List.length_drop, List.length_cons]; omega
        · show (B (r.drop 4)).size < _
          rw [size_B, List.length_drop, List.length_cons]; omega
      · split
        · rename_i hr
          have hq : (hxs 0 (r.take 16)).getD 0 < 18446744073709551616 := by
            cases hh : hxs 0 (r.take 16) with
            | none => decide
            | some n =>
              have := hxs_lt _ _ _ hh
              rw [List.length_take, Nat.min_eq_left hr] at this
              simpa using this
          refine ⟨_, rfl, ⟨(by decide : (-9223372036854775808 : Int) ≤ 0), (by decide : (0 : Int) ≤ 9223372036854775807), hq⟩, ?_, fun _ => ?_⟩
          · show (B (r.drop 16)).size ≤ _
            rw [size_B, List.length_drop, List.length_cons]; omega
          · show (B (r.drop 16)).size < _
            rw [size_B, List.length_drop, List.length_cons]; omega
        · exact ⟨_, rfl, num_ok _⟩
    rw [if_neg c4]
    exact ⟨_, rfl, num_ok _⟩
end Go.Proofs.YtpjfhdbkkomogaaDoor.Mb
