/- Texts of this claim, one behind the other. -/
import Derived.Test.YtpjfhdbkkomogaaDoorH6
import Derived.Test.YtpjfhdbkkomogaaDoorH7
import Derived.Test.YtpjfhdbkkomogaaDoorH1
namespace Go.Proofs.YtpjfhdbkkomogaaDoor.Mb
open Go.RowKit Go.Proofs.YtpjfhdbkkomogaaDoorW.PrintWords Go.Proofs.YtpjfhdbkkomogaaDoorW.PrintLast Go.Proofs.YtpjfhdbkkomogaaDoorW.PrintMore Go.Proofs.YtpjfhdbkkomogaaDoor.Px Go.Proofs.YtpjfhdbkkomogaaDoor.Gvn
open Go.Lib (itoa)
theorem hex_is (n : Nat) (h : n < 16) : rialtoref4_hex.f (n : Int) = some ((hx n).toNat : Int) := by
  unfold rialtoref4_hex.f
  rw [if_pos (by omega), if_pos (by omega), bt_DG n h]
theorem two_is (acc : List UInt8) (c : UInt8) (h : acc.length < 1000000) : rialtoref4_two.f (N acc) (c.toNat : Int) = some (N (acc ++ two c)) := by
  have hc := c.toNat_lt
  have e1 : (Int.tdiv (c.toNat : Int) 16) % 256 = ((c.toNat / 16 : Nat) : Int) := by
    rw [Int.tdiv_eq_ediv_of_nonneg (by omega)]; omega
  have e2 : Int.tmod (c.toNat : Int) 16 = ((c.toNat % 16 : Nat) : Int) := by
    rw [Int.tmod_eq_emod_of_nonneg (by omega)]; omega
  unfold rialtoref4_two.f
  rw [e1, e2, hex_is _ (by omega), Option.bind_some, hex_is _ (by omega), Option.bind_some, Option.bind_some, if_pos (by rw [N_length]; simp; omega)]
  rw [← N_append]
  rfl
theorem bt_mid (pre post : List UInt8) (c : UInt8) : bt (B (pre ++ c :: post)) (pre.length : Int) = (c.toNat : Int) := by
  rw [bt_B _ _ (by simp)]; simp
theorem ref_quote (a b : Int) (f : Nat) (d : Nat) : ∀ (k : Nat) (pre post : List UInt8), post.length = d → 2 * d + 2 < k → pre.length + post.length ≤ 1000 →
    rialtoref4_Print.l0 k (N (34 :: pre.flatMap esc)) (pre.length : Int) a b (B (pre ++ post)) f = some (B (quoteL (pre ++ post))) := by
  induction d with
  | zero =>
    intro k pre post hd hk hb
    obtain ⟨k, rfl⟩ : ∃ m, k = m + 1 := ⟨k - 1, by omega⟩
    obtain rfl : post = [] := List.length_eq_zero_iff.1 hd
    have hf := flat_length pre
    rw [List.append_nil, rialtoref4_Print.l0, if_neg (by rw [size_B]; omega), if_pos (by rw [N_length, List.length_cons]; simp at hb; omega)]
    rw [show ([34] : List Int) = N [34] from rfl, N_append, str_N]
    rfl
  | succ d ih =>
    intro k pre post hd hk hb
    obtain ⟨k, rfl⟩ : ∃ m, k = m + 2 := ⟨k - 2, by omega⟩
    cases post with
    | nil => simp at hd
    | cons c post =>
      have hd' : post.length = d := by simpa using hd
      have hb' : pre.length + (post.length + 1) ≤ 1000 := by simpa using hb
      have hbt := bt_mid pre post c
      have hc := c.toNat_lt
      have hf := flat_length pre
      have hs : (B (pre ++ c :: post)).size = pre.length + (post.length + 1) := by rw [size_B]; simp
      have hw : wrap64 ((pre.length : Int) + 1) = ((pre.length + 1 : Nat) : Int) := by rw [wrap_in _ (by omega) (by omega)]; rfl
      have hN : (N (34 :: pre.flatMap esc)).length ≤ 4001 := by rw [N_length, List.length_cons]; omega
      have next : ∀ e, esc c = e → rialtoref4_Print.l0 k (N (34 :: pre.flatMap esc ++ e)) ((pre.length + 1 : Nat) : Int) a b (B (pre ++ c :: post)) f = some (B (quoteL (pre ++ c :: post))) := fun e he => by
        have h := ih k (pre ++ [c]) post hd' (by omega) (by rw [List.length_append, List.length_singleton]; omega)
        have e1 : pre ++ [c] ++ post = pre ++ c :: post := by rw [List.append_assoc]; rfl
        have e2 : (pre ++ [c]).flatMap esc = pre.flatMap esc ++ e := by rw [List.flatMap_append, ← he]; simp
        have e3 : ((pre ++ [c]).length : Int) = ((pre.length + 1 : Nat) : Int) := by rw [List.length_append]; rfl
        rw [e1, e2, e3] at h
        exact h
      have h1 : ∀ q : Bool, ((c = 34 ∨ c = 92) ↔ q = true) → rialtoref4_Print.j1 (k + 1) (N (34 :: pre.flatMap esc)) (pre.length : Int) (c.toNat : Int) q a b (B (pre ++ c :: post)) f = some (B (quoteL (pre ++ c :: post))) := fun q hq => by
        rw [rialtoref4_Print.j1, hw]
        by_cases hq1 : c = 34 ∨ c = 92
        · rw [if_pos (hq.1 hq1), Option.bind_some, if_pos (by simp; omega), show ([92, (c.toNat : Int)] : List Int) = N [92, c] from rfl, N_append]
          exact next _ (by unfold esc; rw [if_pos hq1])
        · rw [if_neg (fun h => hq1 (hq.2 h))]
          by_cases h32 : (c.toNat : Int) ≥ 32
          · rw [if_pos h32]
            by_cases h126 : (c.toNat : Int) ≤ 126
            · rw [if_pos h126, if_pos (by omega), show ([(c.toNat : Int)] : List Int) = N [c] from rfl, N_append]
              exact next _ (by unfold esc; rw [if_neg hq1, if_neg (by rw [UInt8.lt_iff_toNat_lt, UInt8.lt_iff_toNat_lt, show (32 : UInt8).toNat = 32 by decide, show (126 : UInt8).toNat = 126 by decide]; omega)])
            · rw [if_neg h126, Option.bind_some, if_pos (by simp; omega), show ([92, 120] : List Int) = N [92, 120] from rfl, N_append, two_is _ _ (by simp only [List.length_append, List.length_cons, List.length_nil]; omega), Option.bind_some]
              rw [List.append_assoc]
              exact next _ (by unfold esc; rw [if_neg hq1, if_pos (.inr (UInt8.lt_iff_toNat_lt.2 (by rw [show (126 : UInt8).toNat = 126 by decide]; omega)))]; rfl)
          · rw [if_neg h32, Option.bind_some, if_pos (by simp; omega), show ([92, 120] : List Int) = N [92, 120] from rfl, N_append, two_is _ _ (by simp only [List.length_append, List.length_cons, List.length_nil]; omega), Option.bind_some]
            rw [List.append_assoc]
            exact next _ (by unfold esc; rw [if_neg hq1, if_pos (.inl (UInt8.lt_iff_toNat_lt.2 (by rw [show (32 : UInt8).toNat = 32 by decide]; omega)))]; rfl)
      have h34 : c = 34 ↔ (c.toNat : Int) = 34 := ⟨fun h => by rw [h]; decide, fun h => UInt8.toNat_inj.1 (by rw [show (34 : UInt8).toNat = 34 by decide]; omega)⟩
      have h92 : c = 92 ↔ (c.toNat : Int) = 92 := ⟨fun h => by rw [h]; decide, fun h => UInt8.toNat_inj.1 (by rw [show (92 : UInt8).toNat = 92 by decide]; omega)⟩
      rw [rialtoref4_Print.l0, hbt, if_pos (by omega), if_pos (by omega)]
      by_cases h : (c.toNat : Int) = 34
      · rw [if_pos h]
        exact h1 true (by rw [h34]; simp [h])
      · rw [if_neg h]
        exact h1 _ (by rw [h34, h92]; simp [h])
theorem ref_bytes (a b : Int) (f : Nat) (d : Nat) : ∀ (k : Nat) (pre post : List UInt8), post.length = d → d < k → pre.length + post.length ≤ 1000 →
    rialtoref4_Print.l1 k (N (120 :: hexL pre)) (pre.length : Int) a b (B (pre ++ post)) f = some (B (120 :: hexL (pre ++ post))) := by
  induction d with
  | zero =>
    intro k pre post hd hk hb
    obtain ⟨k, rfl⟩ : ∃ m, k = m + 1 := ⟨k - 1, by omega⟩
    obtain rfl : post = [] := List.length_eq_zero_iff.1 hd
    rw [List.append_nil, rialtoref4_Print.l1, if_neg (by rw [size_B]; omega), str_N]
  | succ d ih =>
    intro k pre post hd hk hb
    obtain ⟨k, rfl⟩ : ∃ m, k = m + 1 := ⟨k - 1, by omega⟩
    cases post with
    | nil => simp at hd
    | cons c post =>
      have hd' : post.length = d := by simpa using hd
      have hb' : pre.length + (post.length + 1) ≤ 1000 := by simpa using hb
      have hs : (B (pre ++ c :: post)).size = pre.length + (post.length + 1) := by rw [size_B]; simp
      have hw : wrap64 ((pre.length : Int) + 1) = ((pre.length + 1 : Nat) : Int) := by rw [wrap_in _ (by omega) (by omega)]; rfl
      have h := ih k (pre ++ [c]) post hd' (by omega) (by rw [List.length_append, List.length_singleton]; omega)
      have e1 : pre ++ [c] ++ post = pre ++ c :: post := by rw [List.append_assoc]; rfl
      have e2 : hexL (pre ++ [c]) = hexL pre ++ two c := by rw [hexL_append]; simp [hexL]
      have e3 : ((pre ++ [c]).length : Int) = ((pre.length + 1 : Nat) : Int) := by rw [List.length_append]; rfl
      rw [e1, e2, e3] at h
      rw [rialtoref4_Print.l1, if_pos (by omega), if_pos (by omega), bt_mid, two_is _ _ (by rw [List.length_cons, hexL_length]; omega), Option.bind_some, hw]
      exact h
theorem dgt_hx : ∀ d, d < 16 → dgt d = hx d := by decide
theorem two_bits (f m : Nat) : two (UInt8.ofNat (f / m % 256)) = [dgt (f / m / 16 % 16), dgt (f / m % 16)] := by
  have h : (UInt8.ofNat (f / m % 256)).toNat = f / m % 256 := by rw [UInt8.toNat_ofNat']; omega
  unfold two
  rw [h]
  generalize f / m = q
  have e1 : q % 256 / 16 = q / 16 % 16 := by omega
  have e2 : q % 256 % 16 = q % 16 := by omega
  rw [e1, e2, dgt_hx _ (by omega), dgt_hx _ (by omega)]
theorem tells_two (n f : Nat) : tells (n + 2) f = tells n (f / 256) ++ [dgt (f / 16 % 16), dgt (f % 16)] := by
  rw [tells, tells, List.append_assoc]
  congr 1
  rw [Nat.div_div_eq_div_mul]
theorem ref_float_step (k f s : Nat) (acc : List UInt8) (hs : s ≤ 56) (hl : acc.length < 1000) : rialtoref4_Print.l2 (k + 1) (f : Int) (N acc) (s : Int) = rialtoref4_Print.l2 k (f : Int) (N (acc ++ two (UInt8.ofNat (f / 2 ^ s % 256)))) (wrap64 ((s : Int) - 8)) := by
  have h : (UInt8.ofNat (f / 2 ^ s % 256)).toNat = f / 2 ^ s % 256 := by rw [UInt8.toNat_ofNat']; omega
  have e : (shr .u64 (f : Int) (s : Int)) % 256 = ((UInt8.ofNat (f / 2 ^ s % 256)).toNat : Int) := by
    rw [h]
    unfold shr
    rw [show min (s : Int).toNat IntKind.u64.bits = s by show min (s : Int).toNat 64 = s; omega]
    have p : ((2 ^ s : Nat) : Int) = (2 : Int) ^ s := by rw [Int.natCast_pow]; rfl
    rw [← p, ← Int.natCast_ediv]
    generalize f / 2 ^ s = q
    omega
  rw [rialtoref4_Print.l2, if_pos (by omega), if_pos (by omega), e, two_is _ _ (by omega), Option.bind_some]
theorem ref_float (k f : Nat) : rialtoref4_Print.l2 (k + 9) (f : Int) (N [102]) 56 = some (B (102 :: tells 16 f)) := by
  have w : ∀ s : Nat, 8 ≤ s → s ≤ 56 → wrap64 ((s : Int) - 8) = ((s - 8 : Nat) : Int) := fun s h0 h1 => by unfold wrap64; omega
  have z : wrap64 (((0 : Nat) : Int) - 8) = -8 := by unfold wrap64; omega
  rw [show (56 : Int) = ((56 : Nat) : Int) from rfl]
  rw [ref_float_step _ _ _ _ (by decide) (by decide), w 56 (by decide) (by decide)]
  rw [ref_float_step _ _ _ _ (by decide) (by simp [two]), w _ (by decide) (by decide)]
  rw [ref_float_step _ _ _ _ (by decide) (by simp [two]), w _ (by decide) (by decide)]
  rw [ref_float_step _ _ _ _ (by decide) (by simp [two]), w _ (by decide) (by decide)]
  rw [ref_float_step _ _ _ _ (by decide) (by simp [two]), w _ (by decide) (by decide)]
  rw [ref_float_step _ _ _ _ (by decide) (by simp [two]), w _ (by decide) (by decide)]
  rw [ref_float_step _ _ _ _ (by decide) (by simp [two]), w _ (by decide) (by decide)]
  rw [ref_float_step _ _ _ _ (by decide) (by simp [two]), z]
  rw [rialtoref4_Print.l2, if_neg (by decide), str_N]
  congr 2
  simp only [two_bits]
  rw [show (16 : Nat) = 14 + 2 from rfl, tells_two, tells_two, tells_two, tells_two, tells_two, tells_two, tells_two, tells_two]
  simp only [Nat.div_div_eq_div_mul, tells, List.nil_append, List.cons_append]
  simp
theorem ref_print {v : S24} (hv : In v) : ∃ k, rialtoref4_Print.f k v.f0 v.f1 v.f2 v.f3 = some (B (txt v)) := by
  obtain ⟨h0, h1, hf⟩ := hv
  rcases is_or v.f0 v.f1 v.f2 v.f3 h0 h1 hf with ⟨hi, t, ht⟩ | hi
  · have htx : txt v = t := txt_vt ht
    rw [htx]
    obtain ⟨k, i, s, f⟩ := v
    dsimp only at ht hi hf h0 h1 ⊢
    have hI : ∀ n, 1 ≤ n → rialtoref2_Is.f n k i s f = some true := fun n hn => is_val hf hi n hn
    cases ht with
    | int n g0 g1 =>
      obtain ⟨n, hn⟩ := digits_is i h0 h1
      refine ⟨n + 1, ?_⟩
      have hn' : rialtoref4_Digits.f (n + 1) i = some (B (itoa i)) := rialtoref4_Digits.mono _ _ _ hn
      unfold rialtoref4_Print.f
      rw [hI _ (by omega), Option.bind_some, if_pos rfl, if_pos rfl, hn', Option.bind_some]
    | yes =>
      refine ⟨1, ?_⟩
      unfold rialtoref4_Print.f
      rw [hI _ (by omega), Option.bind_some, if_pos rfl, if_neg (by decide), if_pos rfl, if_pos rfl]
      rfl
    | no =>
      refine ⟨1, ?_⟩
      unfold rialtoref4_Print.f
      rw [hI _ (by omega), Option.bind_some, if_pos rfl, if_neg (by decide), if_pos rfl, if_neg (by decide)]
      rfl
    | str s h =>
      refine ⟨2 * s.data.toList.length + 3, ?_⟩
      have := ref_quote 3 0 0 s.data.toList.length (2 * s.data.toList.length + 3) [] s.data.toList rfl (by omega) (by rw [size_data]; simp; omega)
      unfold rialtoref4_Print.f
      rw [hI _ (by omega), Option.bind_some, if_pos rfl, if_neg (by decide), if_neg (by decide), if_pos rfl]
      rw [List.nil_append, B_data] at this
      exact this
    | bytes s h =>
      refine ⟨s.data.toList.length + 1, ?_⟩
      have := ref_bytes 4 0 0 s.data.toList.length (s.data.toList.length + 1) [] s.data.toList rfl (by omega) (by rw [size_data]; simp; omega)
      unfold rialtoref4_Print.f
      rw [hI _ (by omega), Option.bind_some, if_pos rfl, if_neg (by decide), if_neg (by decide), if_neg (by decide), if_pos rfl]
      rw [List.nil_append, B_data] at this
      exact this
    | float f h =>
      refine ⟨9, ?_⟩
      unfold rialtoref4_Print.f
      rw [hI _ (by omega), Option.bind_some, if_pos rfl, if_neg (by decide), if_neg (by decide), if_neg (by decide), if_neg (by decide)]
      exact ref_float 0 f
  · refine ⟨1, ?_⟩
    have htx : txt v = [63] := by unfold txt; rw [if_neg (by rw [hi]; simp)]
    unfold rialtoref4_Print.f
    rw [is_val hf hi 1 (by omega), Option.bind_some, if_neg (by decide), htx]
    rfl
end Go.Proofs.YtpjfhdbkkomogaaDoor.Mb
namespace Go.Proofs.YtpjfhdbkkomogaaDoor.Px
open Go.RowKit Go.Proofs.YtpjfhdbkkomogaaDoor.Gvn Go.Proofs.YtpjfhdbkkomogaaDoorW.PrintWords Go.Proofs.YtpjfhdbkkomogaaDoorW.PrintLast Go.Proofs.YtpjfhdbkkomogaaDoorW.PrintMore
attribute [local go_sem] run_store_float min2_int min_two
set_option linter.unusedVariables false
set_option linter.unusedSimpArgs false
def rialtoref4_unhex.j0 : Nat → Int → Bool → Option (Int)
 | 0, _, _ => none
 | k + 1, x0, x3 => if x3 = true then (some ((x0 - 48) % 256)) else (if x0 ≥ 97 then (if x0 ≤ 102 then (some (((x0 - 97) % 256) + 10)) else (some (-1))) else (some (-1)))
def rialtoref4_unhex.f (k : Nat) (a0 : Int) : Option (Int) := if a0 ≥ 48 then (rialtoref4_unhex.j0 k a0 (decide (a0 ≤ 57))) else (rialtoref4_unhex.j0 k a0 false)
theorem rialtoref4_unhex.mono_l : ∀ k, (∀ y0 y1, LeO (rialtoref4_unhex.j0 k y0 y1) (rialtoref4_unhex.j0 (k + 1) y0 y1))
 | 0 => fun _ _ r h => by simp [rialtoref4_unhex.j0] at h
 | k + 1 => by
  have ih0 := rialtoref4_unhex.mono_l k
  ·intro y0 y1
   unfold rialtoref4_unhex.j0
   repeat' first
   | (with_reducible exact ih0 _ _)
   | (with_reducible exact LeO.refl _)
   | (with_reducible exact LeO.none _)
   | (with_reducible refine LeO.ite ?_ ?_)
   | (with_reducible refine LeO.bind ?_ (fun _ => ?_))
   | exact ih0 _ _
   | exact LeO.none _
   | refine LeO.ite ?_ ?_
   | refine LeO.bind ?_ (fun _ => ?_)
theorem rialtoref4_unhex.mono : ∀ a0 k, LeO (rialtoref4_unhex.f k a0) (rialtoref4_unhex.f (k + 1) a0) := by
 intro a0 k
 have ih0 := rialtoref4_unhex.mono_l k
 unfold rialtoref4_unhex.f
 repeat' first
   | (with_reducible exact ih0 _ _)
   | (with_reducible exact LeO.refl _)
   | (with_reducible exact LeO.none _)
   | (with_reducible refine LeO.ite ?_ ?_)
   | (with_reducible refine LeO.bind ?_ (fun _ => ?_))
   | exact ih0 _ _
   | exact LeO.none _
   | refine LeO.ite ?_ ?_
   | refine LeO.bind ?_ (fun _ => ?_)
set_option maxHeartbeats 8000000 in
set_option maxRecDepth 100000 in
theorem rialtoref4_unhex.calls (k : Nat) (a0 : Int) (r : Int) (w : World) (h : rialtoref4_unhex.f k a0 = some r) :
  Calls Tryd.prog 73 #[.int .u8 a0] w fun e w' => e = .returned (.int .i64 r) ∧ Drawn0 w w' := by
 have H : (if a0 ≥ 48 then (rialtoref4_unhex.j0 k a0 (decide (a0 ≤ 57))) else (rialtoref4_unhex.j0 k a0 false)) = some r := h
 clear h
 have HC2 := Aside0.mk H
 clear H
 have k23 := run23
 have k22 := run22
 go_enter Tryd.func73, Tryd.ntmps73
 go_upto_region 1 with (fail)
 go_cut [3] (fun v3 wc => ∃ (kq : Nat) (x3_1 : Bool), v3 = .bool x3_1 ∧ Aside0 (rialtoref4_unhex.j0 kq a0 x3_1 = some r) ∧ Aside0 (kq ≤ k) ∧ Drawn0 w wc)
 case first =>
  have H := HC2.out
  clear HC2
  by_cases c3 : a0 ≥ 48
  ·rw [if_pos c3] at H
   have c3b0 : decide (48 ≤ a0) = true := decide_eq_true c3
   clear c3
   (first | rw [c3b0] | (simp only [i64_w, i32_w]; rw [c3b0]) | skip)
   have H' := Aside0.mk H
   clear H
   go_wp2
   go_meet
   case rel => exact ⟨_, (decide (a0 ≤ 57)), (by first | rfl | (simp; done) | (simp [*]; done)), H', ⟨by first | omega | exact Nat.le_refl _⟩, by repeat (first | exact Drawn0.refl _ | apply Drawn0.step)⟩
  ·rw [if_neg c3] at H
   have c3b0 : decide (48 ≤ a0) = false := decide_eq_false c3
   clear c3
   (first | rw [c3b0] | (simp only [i64_w, i32_w]; rw [c3b0]) | skip)
   have H' := Aside0.mk H
   clear H
   go_wp2
   go_meet
   case rel => exact ⟨_, (false), (by first | rfl | (simp; done) | (simp [*]; done)), H', ⟨by first | omega | exact Nat.le_refl _⟩, by repeat (first | exact Drawn0.refl _ | apply Drawn0.step)⟩
 case rest =>
  clear HC2
  try clear p2;try clear c3;try clear c3b0
  obtain ⟨kq, x3_1, rfl, HA, HJ1, ⟨mc1, rfl⟩⟩ := hcut
  cases kq with
  | zero => exact absurd HA.out (by simp [rialtoref4_unhex.j0])
  | succ kj1 =>
   have H := HA.out
   clear HA
   simp only [rialtoref4_unhex.j0] at H
   by_cases c4 : x3_1 = true
   ·subst c4
    have H1 : (some ((a0 - 48) % 256)) = some r := by rw [if_pos rfl] at H; exact H
    clear H
    have H := H1
    clear H1
    obtain rfl := Option.some.inj H
    go_wp2
    go_ret
    exact ⟨by first | rfl | (simp; done) | (simp [*]; done), by repeat (first | exact Drawn0.refl _ | apply Drawn0.step)⟩
   ·replace c4 := Bool.eq_false_iff.mpr c4
    subst c4
    have H1 : (if a0 ≥ 97 then (if a0 ≤ 102 then (some (((a0 - 97) % 256) + 10)) else (some (-1))) else (some (-1))) = some r := by rw [if_neg (show ¬ (false = true) by decide)] at H; exact H
    clear H
    have H := H1
    clear H1
    by_cases c5 : a0 ≥ 97
    ·rw [if_pos c5] at H
     have c5b0 : decide (97 ≤ a0) = true := decide_eq_true c5
     clear c5
     by_cases c6 : a0 ≤ 102
     ·rw [if_pos c6] at H
      have c6b0 : decide (a0 ≤ 102) = true := decide_eq_true c6
      clear c6
      obtain rfl := Option.some.inj H
      go_wp2
      go_ret
      exact ⟨by first | rfl | (simp; done) | (simp [*]; done), by repeat (first | exact Drawn0.refl _ | apply Drawn0.step)⟩
     ·rw [if_neg c6] at H
      have c6b0 : decide (a0 ≤ 102) = false := decide_eq_false c6
      clear c6
      obtain rfl := Option.some.inj H
      go_wp2
      go_ret
      exact ⟨by first | rfl | (simp; done) | (simp [*]; done), by repeat (first | exact Drawn0.refl _ | apply Drawn0.step)⟩
    ·rw [if_neg c5] at H
     have c5b0 : decide (97 ≤ a0) = false := decide_eq_false c5
     clear c5
     obtain rfl := Option.some.inj H
     go_wp2
     go_ret
     exact ⟨by first | rfl | (simp; done) | (simp [*]; done), by repeat (first | exact Drawn0.refl _ | apply Drawn0.step)⟩
mutual
def rialtoref4_unquoted.l0 : Nat → ByteArray → List Int → Int → Option (ByteArray)
 | 0, _, _, _ => none
 | k + 1, x0, x3, x4 => if (wrap64 (x4 + 1)) < (x0.size : Int) then (if 0 ≤ x4 then (if x4 < (x0.size : Int) then (if (bt x0 x4) = 92 then (if 0 ≤ (wrap64 (x4 + 1)) then (if (bt x0 (wrap64 (x4 + 1))) = 120 then (if (wrap64 (x4 + 3)) < (x0.size : Int) then (if 0 ≤ (wrap64 (x4 + 2)) then (if (wrap64 (x4 + 2)) < (x0.size : Int) then ((rialtoref4_unhex.f k (bt x0 (wrap64 (x4 + 2)))).bind fun t261 => (if t261 ≥ 0 then (if 0 ≤ (wrap64 (x4 + 3)) then ((rialtoref4_unhex.f k (bt x0 (wrap64 (x4 + 3)))).bind fun t262 => (rialtoref4_unquoted.j1 k x0 x3 x4 (decide (t262 ≥ 0)))) else (none)) else (rialtoref4_unquoted.j1 k x0 x3 x4 false))) else (none)) else (none)) else (rialtoref4_unquoted.j1 k x0 x3 x4 false)) else (rialtoref4_unquoted.j1 k x0 x3 x4 false)) else (none)) else (if x3.length < 140737488355328 then (rialtoref4_unquoted.l0 k x0 (x3 ++ [bt x0 x4]) (wrap64 (x4 + 1))) else (none))) else (none)) else (none)) else (some (strOfNums x3))
def rialtoref4_unquoted.j1 : Nat → ByteArray → List Int → Int → Bool → Option (ByteArray)
 | 0, _, _, _, _ => none
 | k + 1, x0, x3, x4, x49 => if x49 = true then (if 0 ≤ (wrap64 (x4 + 2)) then (if (wrap64 (x4 + 2)) < (x0.size : Int) then ((rialtoref4_unhex.f k (bt x0 (wrap64 (x4 + 2)))).bind fun t263 => (if 0 ≤ (wrap64 (x4 + 3)) then (if (wrap64 (x4 + 3)) < (x0.size : Int) then ((rialtoref4_unhex.f k (bt x0 (wrap64 (x4 + 3)))).bind fun t264 => (if x3.length < 140737488355328 then (rialtoref4_unquoted.l0 k x0 (x3 ++ [(wrap64 ((wrap64 (16 * t263)) + t264)) % 256]) (wrap64 ((wrap64 (x4 + 3)) + 1))) else (none))) else (none)) else (none))) else (none)) else (none)) else (if 0 ≤ (wrap64 (x4 + 1)) then (if (wrap64 (x4 + 1)) < (x0.size : Int) then (if x3.length < 140737488355328 then (rialtoref4_unquoted.l0 k x0 (x3 ++ [bt x0 (wrap64 (x4 + 1))]) (wrap64 ((wrap64 (x4 + 1)) + 1))) else (none)) else (none)) else (none))
end
def rialtoref4_unquoted.f (k : Nat) (a0 : ByteArray) : Option (ByteArray) := rialtoref4_unquoted.l0 k a0 ([] : List Int) 1
theorem rialtoref4_unquoted.mono_l : ∀ k, (∀ y0 y1 y2, LeO (rialtoref4_unquoted.l0 k y0 y1 y2) (rialtoref4_unquoted.l0 (k + 1) y0 y1 y2)) ∧ (∀ y0 y1 y2 y3, LeO (rialtoref4_unquoted.j1 k y0 y1 y2 y3) (rialtoref4_unquoted.j1 (k + 1) y0 y1 y2 y3))
 | 0 => ⟨fun _ _ _ r h => by simp [rialtoref4_unquoted.l0] at h, fun _ _ _ _ r h => by simp [rialtoref4_unquoted.j1] at h⟩
 | k + 1 => by
  obtain ⟨ih0, ih1⟩ := rialtoref4_unquoted.mono_l k
  refine ⟨?_, ?_⟩
  ·intro y0 y1 y2
   unfold rialtoref4_unquoted.l0
   repeat' first
   | (with_reducible exact ih0 _ _ _)
   | (with_reducible exact ih1 _ _ _ _)
   | (with_reducible exact rialtoref4_unhex.mono _ _)
   | (with_reducible exact LeO.refl _)
   | (with_reducible exact LeO.none _)
   | (with_reducible refine LeO.ite ?_ ?_)
   | (with_reducible refine LeO.bind ?_ (fun _ => ?_))
   | exact ih0 _ _ _
   | exact ih1 _ _ _ _
   | exact rialtoref4_unhex.mono _ _
   | exact LeO.none _
   | refine LeO.ite ?_ ?_
   | refine LeO.bind ?_ (fun _ => ?_)
  ·intro y0 y1 y2 y3
   unfold rialtoref4_unquoted.j1
   repeat' first
   | (with_reducible exact ih0 _ _ _)
   | (with_reducible exact ih1 _ _ _ _)
   | (with_reducible exact rialtoref4_unhex.mono _ _)
   | (with_reducible exact LeO.refl _)
   | (with_reducible exact LeO.none _)
   | (with_reducible refine LeO.ite ?_ ?_)
   | (with_reducible refine LeO.bind ?_ (fun _ => ?_))
   | exact ih0 _ _ _
   | exact ih1 _ _ _ _
   | exact rialtoref4_unhex.mono _ _
   | exact LeO.none _
   | refine LeO.ite ?_ ?_
   | refine LeO.bind ?_ (fun _ => ?_)
theorem rialtoref4_unquoted.mono : ∀ a0 k, LeO (rialtoref4_unquoted.f k a0) (rialtoref4_unquoted.f (k + 1) a0) := by
 intro a0 k
 obtain ⟨ih0, ih1⟩ := rialtoref4_unquoted.mono_l k
 unfold rialtoref4_unquoted.f
 repeat' first
   | (with_reducible exact ih0 _ _ _)
   | (with_reducible exact ih1 _ _ _ _)
   | (with_reducible exact rialtoref4_unhex.mono _ _)
   | (with_reducible exact LeO.refl _)
   | (with_reducible exact LeO.none _)
   | (with_reducible refine LeO.ite ?_ ?_)
   | (with_reducible refine LeO.bind ?_ (fun _ => ?_))
   | exact ih0 _ _ _
   | exact ih1 _ _ _ _
   | exact rialtoref4_unhex.mono _ _
   | exact LeO.none _
   | refine LeO.ite ?_ ?_
   | refine LeO.bind ?_ (fun _ => ?_)
def rialtoref4_unquoted.T8 : Bool × List (List Nat × List Nat) := (true, [([], []), ([], []), ([], []), ([2], [2]), ([1, 3], [1, 3]), ([4], [4]), ([5], [5]), ([], []), ([], []), ([8], [8]), ([7, 9], [7, 9]), ([10, 5], [10]), ([6, 11], [6, 11]), ([12], [12]), ([13], [13]), ([0, 14, 11], [0, 14]), ([15, 15, 0, 1, 2, 3, 4, 5, 6, 7, 8, 9, 10, 11, 12, 13, 14, 15], [0, 15])])
def rialtoref4_unquoted.B8 : List Nat := [0, 0, 0, 4, 14, 30, 62, 0, 0, 256, 896, 1982, 4094, 8190, 16382, 32767, 65535]
theorem rialtoref4_unquoted.tab8 : rtab .any (opsOf Tryd.f54 8) = rialtoref4_unquoted.T8 := by kernel_rfl
theorem rialtoref4_unquoted.bits8 : waitsOk rialtoref4_unquoted.T8.2 rialtoref4_unquoted.B8 = true := by kernel_rfl
set_option maxHeartbeats 8000000 in
set_option maxRecDepth 100000 in
theorem rialtoref4_unquoted.calls (k : Nat) (a0 : ByteArray) (r : ByteArray) (w : World) (h : rialtoref4_unquoted.f k a0 = some r) :
  Calls Tryd.prog 54 #[.string a0] w fun e w' => e = .returned (.string r) ∧ Below w.heap.size w w' := by
 have HB := Aside0.mk (Below.refl w.heap.size w)
 have H : (rialtoref4_unquoted.l0 k a0 ([] : List Int) 1) = some r := h
 clear h
 have H' := Aside0.mk H
 clear H
 have k23 := run23
 have k22 := run22
 go_enter Tryd.func54, Tryd.ntmps54
 go_wp2
 go_loopg [3, 4] k (fun kq v3 v4 w' => ∃ (x3_1 : List Int) (x4_1 : Int), v4 = .int .i64 x4_1 ∧ Aside0 (rialtoref4_unquoted.l0 kq a0 x3_1 x4_1 = some r) ∧ Aside0 (kq ≤ k) ∧ Aside0 (Kd.R (Kd.int .u8) 5 w' w.heap.size (fun _ => True) v3 x3_1) ∧ Aside0 (Below w.heap.size w w'))
 case atStart => exact ⟨(([] : List Int)), (1), (by first | rfl | (simp; done) | (simp [*]; done)), H', ⟨Nat.le_refl _⟩, ⟨by first | exact Kd.R_nil _ _ _ _ _ | exact Kd.N_nil _ _ _ _ _ | exact Kd.V_nil _ _ _ _ _ | exact Kd.Q_nil _ _ _ _ _ | exact Kd.S_nil _ _ _ _ _⟩, ⟨by repeat (first | (with_reducible first | exact HB.out | apply below_alloc | apply pw_below_drewN | apply below_drew1) | exact HB.out)⟩⟩
 case round =>
  clear H'
  obtain ⟨x3_1, x4_1, rfl, HA, HK1, HO_3, HB⟩ := hrel
  cases gk with
  | zero => exact absurd HA.out (by simp [rialtoref4_unquoted.l0])
  | succ k1 =>
   have H := HA.out
   clear HA
   simp only [rialtoref4_unquoted.l0] at H
   by_cases c2 : (wrap64 (x4_1 + 1)) < (a0.size : Int)
   ·rw [if_pos c2] at H
    have c2b0 : decide ((wrap64 (x4_1 + 1)) < (a0.size : Int)) = true := decide_eq_true c2
    clear c2
    by_cases c3 : 0 ≤ x4_1
    ·rw [if_pos c3] at H
     have c3b0 : decide (0 ≤ x4_1) = true := decide_eq_true c3
     clear c3
     by_cases c4 : x4_1 < (a0.size : Int)
     ·rw [if_pos c4] at H
      have c4b0 : decide (x4_1 < (a0.size : Int)) = true := decide_eq_true c4
      clear c4
      by_cases c6 : (bt a0 x4_1) = 92
      ·rw [if_pos c6] at H
       have c6b0 : ((bt a0 x4_1) == 92) = true := beq_iff_eq.mpr c6
       have c6b1 : ((bt a0 x4_1) != 92) = false := bne_eq_false_iff_eq.mpr c6
       clear c6
       have HC7 := Aside0.mk H
       clear H
       have p5 : 0 ≤ (x4_1 : Int) := of_decide_eq_true (by first | (with_reducible assumption) | assumption)
       have q5 : x4_1 < (a0.size : Int) := of_decide_eq_true (by first | (with_reducible assumption) | assumption)
       have hx5 := bt_at a0 x4_1
       replace p5 := eq_true p5
       replace q5 := eq_true q5
       go_upto_region 7 with (fail)
       go_cut [49] (fun v49 wc => ∃ (kq : Nat) (x49_6 : Bool), v49 = .bool x49_6 ∧ Aside0 (rialtoref4_unquoted.j1 kq a0 x3_1 x4_1 x49_6 = some r) ∧ Aside0 (kq ≤ k1) ∧ Aside0 (Kd.R (Kd.int .u8) 5 wc w.heap.size (fun _ => True) u3 x3_1) ∧ Aside0 (Below w.heap.size w wc))
       case first =>
        have H := HC7.out
        clear HC7
        obtain ⟨ji8, hji8⟩ : ∃ j_ : Int, (wrap64 (x4_1 + 1)) = j_ := ⟨_, rfl⟩
        replace H : (if 0 ≤ (ji8) then (if (bt a0 (ji8)) = 120 then (if (wrap64 (x4_1 + 3)) < (a0.size : Int) then (if 0 ≤ (wrap64 (x4_1 + 2)) then (if (wrap64 (x4_1 + 2)) < (a0.size : Int) then ((rialtoref4_unhex.f k1 (bt a0 (wrap64 (x4_1 + 2)))).bind fun t261 => (if t261 ≥ 0 then (if 0 ≤ (wrap64 (x4_1 + 3)) then ((rialtoref4_unhex.f k1 (bt a0 (wrap64 (x4_1 + 3)))).bind fun t262 => (rialtoref4_unquoted.j1 k1 a0 x3_1 x4_1 (decide (t262 ≥ 0)))) else (none)) else (rialtoref4_unquoted.j1 k1 a0 x3_1 x4_1 false))) else (none)) else (none)) else (rialtoref4_unquoted.j1 k1 a0 x3_1 x4_1 false)) else (rialtoref4_unquoted.j1 k1 a0 x3_1 x4_1 false)) else (none)) = some r := by first | (rw [hji8] at H; exact H) | (simp only [hji8] at H ⊢; exact H)
        (try rw [hji8] at c2b0)
        have hji8w : (IntKind.i64.wrap (x4_1 + 1)) = ji8 := (i64_w _).trans hji8
        by_cases c9 : 0 ≤ (ji8)
        ·rw [if_pos c9] at H
         have c9b0 : decide (0 ≤ (ji8)) = true := decide_eq_true c9
         clear c9
         (first | rw [c9b0] | (simp only [i64_w, i32_w]; rw [c9b0]) | skip)
         by_cases c11 : (bt a0 (ji8)) = 120
         ·rw [if_pos c11] at H
          have c11b0 : ((bt a0 (ji8)) == 120) = true := beq_iff_eq.mpr c11
          have c11b1 : ((bt a0 (ji8)) != 120) = false := bne_eq_false_iff_eq.mpr c11
          clear c11
          by_cases c12 : (wrap64 (x4_1 + 3)) < (a0.size : Int)
          ·rw [if_pos c12] at H
           have c12b0 : decide ((wrap64 (x4_1 + 3)) < (a0.size : Int)) = true := decide_eq_true c12
           clear c12
           obtain ⟨ji13, hji13⟩ : ∃ j_ : Int, (wrap64 (x4_1 + 2)) = j_ := ⟨_, rfl⟩
           replace H : (if 0 ≤ (ji13) then (if (ji13) < (a0.size : Int) then ((rialtoref4_unhex.f k1 (bt a0 (ji13))).bind fun t261 => (if t261 ≥ 0 then (if 0 ≤ (wrap64 (x4_1 + 3)) then ((rialtoref4_unhex.f k1 (bt a0 (wrap64 (x4_1 + 3)))).bind fun t262 => (rialtoref4_unquoted.j1 k1 a0 x3_1 x4_1 (decide (t262 ≥ 0)))) else (none)) else (rialtoref4_unquoted.j1 k1 a0 x3_1 x4_1 false))) else (none)) else (none)) = some r := by first | (rw [hji13] at H; exact H) | (simp only [hji13] at H ⊢; exact H)
           have hji13w : (IntKind.i64.wrap (x4_1 + 2)) = ji13 := (i64_w _).trans hji13
           by_cases c14 : 0 ≤ (ji13)
           ·rw [if_pos c14] at H
            have c14b0 : decide (0 ≤ (ji13)) = true := decide_eq_true c14
            clear c14
            by_cases c15 : (ji13) < (a0.size : Int)
            ·rw [if_pos c15] at H
             have c15b0 : decide ((ji13) < (a0.size : Int)) = true := decide_eq_true c15
             clear c15
             replace H := Option.bind_eq_some_iff.mp H
             obtain ⟨t261, A170, H⟩ := H
             replace H : (if t261 ≥ 0 then (if 0 ≤ (wrap64 (x4_1 + 3)) then ((rialtoref4_unhex.f k1 (bt a0 (wrap64 (x4_1 + 3)))).bind fun t262 => (rialtoref4_unquoted.j1 k1 a0 x3_1 x4_1 (decide (t262 ≥ 0)))) else (none)) else (rialtoref4_unquoted.j1 k1 a0 x3_1 x4_1 false)) = some r := H
             have A17 := Aside0.mk A170
             clear A170
             by_cases c18 : t261 ≥ 0
             ·rw [if_pos c18] at H
              have c18b0 : decide (0 ≤ t261) = true := decide_eq_true c18
              clear c18
              obtain ⟨ji19, hji19⟩ : ∃ j_ : Int, (wrap64 (x4_1 + 3)) = j_ := ⟨_, rfl⟩
              replace H : (if 0 ≤ (ji19) then ((rialtoref4_unhex.f k1 (bt a0 (ji19))).bind fun t262 => (rialtoref4_unquoted.j1 k1 a0 x3_1 x4_1 (decide (t262 ≥ 0)))) else (none)) = some r := by first | (rw [hji19] at H; exact H) | (simp only [hji19] at H ⊢; exact H)
              (try rw [hji19] at c12b0)
              (try rw [hji19] at A17)
              have hji19w : (IntKind.i64.wrap (x4_1 + 3)) = ji19 := (i64_w _).trans hji19
              by_cases c20 : 0 ≤ (ji19)
              ·rw [if_pos c20] at H
               have c20b0 : decide (0 ≤ (ji19)) = true := decide_eq_true c20
               clear c20
               replace H := Option.bind_eq_some_iff.mp H
               obtain ⟨t262, A220, H⟩ := H
               replace H : (rialtoref4_unquoted.j1 k1 a0 x3_1 x4_1 (decide (t262 ≥ 0))) = some r := H
               have A22 := Aside0.mk A220
               clear A220
               have H' := Aside0.mk H
               clear H
               have p10 : 0 ≤ ((ji8) : Int) := of_decide_eq_true (by first | (with_reducible assumption) | assumption)
               have q10 : (ji8) < (a0.size : Int) := of_decide_eq_true (by first | (with_reducible assumption) | assumption)
               have hx10 := bt_at a0 (ji8)
               replace p10 := eq_true p10
               replace q10 := eq_true q10
               have p16 : 0 ≤ ((ji13) : Int) := of_decide_eq_true (by first | (with_reducible assumption) | assumption)
               have q16 : (ji13) < (a0.size : Int) := of_decide_eq_true (by first | (with_reducible assumption) | assumption)
               have hx16 := bt_at a0 (ji13)
               replace p16 := eq_true p16
               replace q16 := eq_true q16
               go_wp2_with (first | (go_at_call 73; (with_reducible refine (rialtoref4_unhex.calls k1 (bt a0 (ji13)) t261 _ A17.out).mono ?_); rintro e w' ⟨rfl, ⟨nd, rfl⟩⟩; have p21 : 0 ≤ ((ji19) : Int) := of_decide_eq_true (by first | (with_reducible assumption) | assumption); have q21 : (ji19) < (a0.size : Int) := of_decide_eq_true (by first | (with_reducible assumption) | assumption); have hx21 := bt_at a0 (ji19); replace p21 := eq_true p21; replace q21 := eq_true q21) | (go_at_call 73; (with_reducible refine (rialtoref4_unhex.calls k1 (bt a0 (ji19)) t262 _ A22.out).mono ?_); rintro e w' ⟨rfl, ⟨nd, rfl⟩⟩))
               go_meet
               case rel => exact ⟨_, (decide (t262 ≥ 0)), (by first | rfl | (simp; done) | (simp [*]; done)), H', ⟨by have := HK1.out; first | omega | exact Nat.le_refl _⟩, ⟨by (with_reducible repeat (first | apply Kd.R_alloc | apply Kd.R_drewN | apply Kd.R_drew)); exact HO_3.out⟩, ⟨by repeat (first | (with_reducible first | exact HB.out | apply below_alloc | apply pw_below_drewN | apply below_drew1) | exact HB.out)⟩⟩
              ·rw [if_neg c20] at H
               exact absurd H (by simp)
             ·rw [if_neg c18] at H
              have c18b0 : decide (0 ≤ t261) = false := decide_eq_false c18
              clear c18
              have H' := Aside0.mk H
              clear H
              have p10 : 0 ≤ ((ji8) : Int) := of_decide_eq_true (by first | (with_reducible assumption) | assumption)
              have q10 : (ji8) < (a0.size : Int) := of_decide_eq_true (by first | (with_reducible assumption) | assumption)
              have hx10 := bt_at a0 (ji8)
              replace p10 := eq_true p10
              replace q10 := eq_true q10
              have p16 : 0 ≤ ((ji13) : Int) := of_decide_eq_true (by first | (with_reducible assumption) | assumption)
              have q16 : (ji13) < (a0.size : Int) := of_decide_eq_true (by first | (with_reducible assumption) | assumption)
              have hx16 := bt_at a0 (ji13)
              replace p16 := eq_true p16
              replace q16 := eq_true q16
              go_wp2_with (first | (go_at_call 73; (with_reducible refine (rialtoref4_unhex.calls k1 (bt a0 (ji13)) t261 _ A17.out).mono ?_); rintro e w' ⟨rfl, ⟨nd, rfl⟩⟩))
              go_meet
              case rel => exact ⟨_, (false), (by first | rfl | (simp; done) | (simp [*]; done)), H', ⟨by have := HK1.out; first | omega | exact Nat.le_refl _⟩, ⟨by (with_reducible repeat (first | apply Kd.R_alloc | apply Kd.R_drewN | apply Kd.R_drew)); exact HO_3.out⟩, ⟨by repeat (first | (with_reducible first | exact HB.out | apply below_alloc | apply pw_below_drewN | apply below_drew1) | exact HB.out)⟩⟩
            ·rw [if_neg c15] at H
             exact absurd H (by simp)
           ·rw [if_neg c14] at H
            exact absurd H (by simp)
          ·rw [if_neg c12] at H
           have c12b0 : decide ((wrap64 (x4_1 + 3)) < (a0.size : Int)) = false := decide_eq_false c12
           clear c12
           have H' := Aside0.mk H
           clear H
           have p10 : 0 ≤ ((ji8) : Int) := of_decide_eq_true (by first | (with_reducible assumption) | assumption)
           have q10 : (ji8) < (a0.size : Int) := of_decide_eq_true (by first | (with_reducible assumption) | assumption)
           have hx10 := bt_at a0 (ji8)
           replace p10 := eq_true p10
           replace q10 := eq_true q10
           go_wp2
           go_meet
           case rel => exact ⟨_, (false), (by first | rfl | (simp; done) | (simp [*]; done)), H', ⟨by have := HK1.out; first | omega | exact Nat.le_refl _⟩, ⟨by (with_reducible repeat (first | apply Kd.R_alloc | apply Kd.R_drewN | apply Kd.R_drew)); exact HO_3.out⟩, ⟨by repeat (first | (with_reducible first | exact HB.out | apply below_alloc | apply pw_below_drewN | apply below_drew1) | exact HB.out)⟩⟩
         ·rw [if_neg c11] at H
          have c11b0 : ((bt a0 (ji8)) == 120) = false := beq_eq_false_iff_ne.mpr c11
          have c11b1 : ((bt a0 (ji8)) != 120) = true := bne_iff_ne.mpr c11
          have H' := Aside0.mk H
          clear H
          have p10 : 0 ≤ ((ji8) : Int) := of_decide_eq_true (by first | (with_reducible assumption) | assumption)
          have q10 : (ji8) < (a0.size : Int) := of_decide_eq_true (by first | (with_reducible assumption) | assumption)
          have hx10 := bt_at a0 (ji8)
          replace p10 := eq_true p10
          replace q10 := eq_true q10
          go_wp2
          go_meet
          case rel => exact ⟨_, (false), (by first | rfl | (simp; done) | (simp [*]; done)), H', ⟨by have := HK1.out; first | omega | exact Nat.le_refl _⟩, ⟨by (with_reducible repeat (first | apply Kd.R_alloc | apply Kd.R_drewN | apply Kd.R_drew)); exact HO_3.out⟩, ⟨by repeat (first | (with_reducible first | exact HB.out | apply below_alloc | apply pw_below_drewN | apply below_drew1) | exact HB.out)⟩⟩
        ·rw [if_neg c9] at H
         exact absurd H (by simp)
       case rest =>
        clear HC7
        try clear c1;try clear p1;try clear q1;try clear hx1;try clear c2;try clear c2b0;try clear p2;try clear q2;try clear hx2;try clear c3;try clear c3b0;try clear c4;try clear c4b0;try clear c5;try clear p5;try clear q5;try clear hx5;try clear c6;try clear c6b0;try clear c6b1;try clear p6;try clear c9;try clear c9b0;try clear p10;try clear q10;try clear hx10;try clear c11;try clear c11b0;try clear c11b1;try clear c12;try clear c12b0;try clear c14;try clear c14b0;try clear c15;try clear c15b0;try clear p16;try clear q16;try clear hx16;try clear c18;try clear c18b0;try clear c20;try clear c20b0;try clear p21;try clear q21;try clear hx21;try clear p10;try clear p16;try clear p21;try clear p5;try clear q10;try clear q16;try clear q21;try clear q5
        obtain ⟨kq, x49_6, rfl, HA, HJ6, HO_3, HB⟩ := hcut
        cases kq with
        | zero => exact absurd HA.out (by simp [rialtoref4_unquoted.j1])
        | succ kj6 =>
         have H := HA.out
         clear HA
         simp only [rialtoref4_unquoted.j1] at H
         by_cases c23 : x49_6 = true
         ·subst c23
          have H1 : (if 0 ≤ (wrap64 (x4_1 + 2)) then (if (wrap64 (x4_1 + 2)) < (a0.size : Int) then ((rialtoref4_unhex.f kj6 (bt a0 (wrap64 (x4_1 + 2)))).bind fun t263 => (if 0 ≤ (wrap64 (x4_1 + 3)) then (if (wrap64 (x4_1 + 3)) < (a0.size : Int) then ((rialtoref4_unhex.f kj6 (bt a0 (wrap64 (x4_1 + 3)))).bind fun t264 => (if x3_1.length < 140737488355328 then (rialtoref4_unquoted.l0 kj6 a0 (x3_1 ++ [(wrap64 ((wrap64 (16 * t263)) + t264)) % 256]) (wrap64 ((wrap64 (x4_1 + 3)) + 1))) else (none))) else (none)) else (none))) else (none)) else (none)) = some r := by rw [if_pos rfl] at H; exact H
          clear H
          have H := H1
          clear H1
          obtain ⟨ji24, hji24⟩ : ∃ j_ : Int, (wrap64 (x4_1 + 2)) = j_ := ⟨_, rfl⟩
          replace H : (if 0 ≤ (ji24) then (if (ji24) < (a0.size : Int) then ((rialtoref4_unhex.f kj6 (bt a0 (ji24))).bind fun t263 => (if 0 ≤ (wrap64 (x4_1 + 3)) then (if (wrap64 (x4_1 + 3)) < (a0.size : Int) then ((rialtoref4_unhex.f kj6 (bt a0 (wrap64 (x4_1 + 3)))).bind fun t264 => (if x3_1.length < 140737488355328 then (rialtoref4_unquoted.l0 kj6 a0 (x3_1 ++ [(wrap64 ((wrap64 (16 * t263)) + t264)) % 256]) (wrap64 ((wrap64 (x4_1 + 3)) + 1))) else (none))) else (none)) else (none))) else (none)) else (none)) = some r := by first | (rw [hji24] at H; exact H) | (simp only [hji24] at H ⊢; exact H)
          have hji24w : (IntKind.i64.wrap (x4_1 + 2)) = ji24 := (i64_w _).trans hji24
          by_cases c25 : 0 ≤ (ji24)
          ·rw [if_pos c25] at H
           have c25b0 : decide (0 ≤ (ji24)) = true := decide_eq_true c25
           clear c25
           by_cases c26 : (ji24) < (a0.size : Int)
           ·rw [if_pos c26] at H
            have c26b0 : decide ((ji24) < (a0.size : Int)) = true := decide_eq_true c26
            clear c26
            replace H := Option.bind_eq_some_iff.mp H
            obtain ⟨t263, A280, H⟩ := H
            replace H : (if 0 ≤ (wrap64 (x4_1 + 3)) then (if (wrap64 (x4_1 + 3)) < (a0.size : Int) then ((rialtoref4_unhex.f kj6 (bt a0 (wrap64 (x4_1 + 3)))).bind fun t264 => (if x3_1.length < 140737488355328 then (rialtoref4_unquoted.l0 kj6 a0 (x3_1 ++ [(wrap64 ((wrap64 (16 * t263)) + t264)) % 256]) (wrap64 ((wrap64 (x4_1 + 3)) + 1))) else (none))) else (none)) else (none)) = some r := H
            have A28 := Aside0.mk A280
            clear A280
            obtain ⟨ji29, hji29⟩ : ∃ j_ : Int, (wrap64 (x4_1 + 3)) = j_ := ⟨_, rfl⟩
            replace H : (if 0 ≤ (ji29) then (if (ji29) < (a0.size : Int) then ((rialtoref4_unhex.f kj6 (bt a0 (ji29))).bind fun t264 => (if x3_1.length < 140737488355328 then (rialtoref4_unquoted.l0 kj6 a0 (x3_1 ++ [(wrap64 ((wrap64 (16 * t263)) + t264)) % 256]) (wrap64 ((ji29) + 1))) else (none))) else (none)) else (none)) = some r := by first | (rw [hji29] at H; exact H) | (simp only [hji29] at H ⊢; exact H)
            (try rw [hji29] at A28)
            have hji29w : (IntKind.i64.wrap (x4_1 + 3)) = ji29 := (i64_w _).trans hji29
            by_cases c30 : 0 ≤ (ji29)
            ·rw [if_pos c30] at H
             have c30b0 : decide (0 ≤ (ji29)) = true := decide_eq_true c30
             clear c30
             by_cases c31 : (ji29) < (a0.size : Int)
             ·rw [if_pos c31] at H
              have c31b0 : decide ((ji29) < (a0.size : Int)) = true := decide_eq_true c31
              clear c31
              replace H := Option.bind_eq_some_iff.mp H
              obtain ⟨t264, A330, H⟩ := H
              replace H : (if x3_1.length < 140737488355328 then (rialtoref4_unquoted.l0 kj6 a0 (x3_1 ++ [(wrap64 ((wrap64 (16 * t263)) + t264)) % 256]) (wrap64 ((ji29) + 1))) else (none)) = some r := H
              have A33 := Aside0.mk A330
              clear A330
              by_cases c34 : x3_1.length < 140737488355328
              ·rw [if_pos c34] at H
               have LMc34 := Aside0.mk c34
               clear c34
               obtain ⟨y265, hy265⟩ : ∃ y_ : List Int, y_ = (x3_1 ++ [(wrap64 ((wrap64 (16 * t263)) + t264)) % 256]) := ⟨_, rfl⟩
               replace H : (rialtoref4_unquoted.l0 kj6 a0 y265 (wrap64 ((ji29) + 1))) = some r := by first | (rw [hy265]; with_reducible exact H) | (have H2_ := (Option.bind_some _ _).symm.trans H; rw [hy265]; with_reducible exact H2_) | (have H2_ := (Option.bind_some _ _).symm.trans H; with_reducible exact H2_) | with_reducible exact H | (rw [hy265]; exact H) | exact H
               have Ny265 := Aside0.mk hy265
               clear hy265
               have H' := Aside0.mk H
               clear H
               try go_wp2
               have n0_ := Aside0.mk (Kd.R_drew HO_3.out)
               have n1_ := Aside0.mk (below_drew1 HB.out)
               clear HO_3
               clear HB
               have HO_3 := n0_
               have HB := n1_
               clear n0_ n1_
               have p27 : 0 ≤ ((ji24) : Int) := of_decide_eq_true (by first | (with_reducible assumption) | assumption)
               have q27 : (ji24) < (a0.size : Int) := of_decide_eq_true (by first | (with_reducible assumption) | assumption)
               have hx27 := bt_at a0 (ji24)
               replace p27 := eq_true p27
               replace q27 := eq_true q27
               have p32 : 0 ≤ ((ji29) : Int) := of_decide_eq_true (by first | (with_reducible assumption) | assumption)
               have q32 : (ji29) < (a0.size : Int) := of_decide_eq_true (by first | (with_reducible assumption) | assumption)
               have hx32 := bt_at a0 (ji29)
               replace p32 := eq_true p32
               replace q32 := eq_true q32
               refine start_ (n := 17) (S := fun w' => True) (ds := []) #[false, false, false, false, false, false, false, false, false, false, false, false, false, false, false, false, false] (by kernel_rfl) rfl rfl trivial (fun hHeld => ?_); refine with_tabW rialtoref4_unquoted.tab8 rialtoref4_unquoted.bits8 (fun HT_ HW_ => ?_)
               generalize wc.drew = w35 at HO_3 HB hHeld ⊢
               refine pure_ (i := 0) (N := some 50) (v := ?_) (a' := ?_) #[true, false, false, false, false, false, false, false, false, false, false, false, false, false, false, false, false] rfl rfl (any_of HT_.out (by kernel_rfl)) (fun _ _ _ h => h) (Or.inl ⟨by rfl, ?_⟩) ?_ ?_
               rotate_left
               ·intro w'
                go_simp
                with_reducible rfl
               rotate_left
               ·simp only [Act.put, List.setIfInBounds_toArray, List.set_cons_zero, List.set_cons_succ, i64_w, i32_w]
                rfl
               refine pure_ (i := 1) (N := some 51) (v := ?_) (a' := ?_) #[true, true, false, false, false, false, false, false, false, false, false, false, false, false, false, false, false] rfl rfl (any_of HT_.out (by kernel_rfl)) (fun _ _ _ h => h) (Or.inl ⟨by rfl, ?_⟩) ?_ ?_
               rotate_left
               ·intro w'
                go_simp
                with_reducible rfl
               rotate_left
               ·simp only [Act.put, List.setIfInBounds_toArray, List.set_cons_zero, List.set_cons_succ, i64_w, i32_w]
                rfl
               refine pure_ (i := 2) (N := some 52) (v := ?_) (a' := ?_) #[true, true, true, false, false, false, false, false, false, false, false, false, false, false, false, false, false] rfl rfl (any_of HT_.out (by kernel_rfl)) (fun _ _ _ h => h) (Or.inl ⟨by rfl, ?_⟩) ?_ ?_
               rotate_left
               ·intro w'
                go_simp
                with_reducible rfl
               rotate_left
               ·simp only [Act.put, List.setIfInBounds_toArray, List.set_cons_zero, List.set_cons_succ, i64_w, i32_w]
                rfl
               refine pure_ (i := 3) (N := some 53) (v := ?_) (a' := ?_) #[true, true, true, true, false, false, false, false, false, false, false, false, false, false, false, false, false] rfl rfl (any_of HT_.out (by kernel_rfl)) (fun _ _ _ h => h) (Or.inl ⟨by rfl, ?_⟩) ?_ ?_
               rotate_left
               ·intro w'
                go_simp
                with_reducible rfl
               rotate_left
               ·simp only [Act.put, List.setIfInBounds_toArray, List.set_cons_zero, List.set_cons_succ, i64_w, i32_w]
                rfl
               refine pure_ (i := 7) (N := some 57) (v := ?_) (a' := ?_) #[true, true, true, true, false, false, false, true, false, false, false, false, false, false, false, false, false] rfl rfl (any_of HT_.out (by kernel_rfl)) (fun _ _ _ h => h) (Or.inl ⟨by rfl, ?_⟩) ?_ ?_
               rotate_left
               ·intro w'
                go_simp
                with_reducible rfl
               rotate_left
               ·simp only [Act.put, List.setIfInBounds_toArray, List.set_cons_zero, List.set_cons_succ, i64_w, i32_w]
                rfl
               refine pure_ (i := 8) (N := some 58) (v := ?_) (a' := ?_) #[true, true, true, true, false, false, false, true, true, false, false, false, false, false, false, false, false] rfl rfl (any_of HT_.out (by kernel_rfl)) (fun _ _ _ h => h) (Or.inl ⟨by rfl, ?_⟩) ?_ ?_
               rotate_left
               ·intro w'
                go_simp
                with_reducible rfl
               rotate_left
               ·simp only [Act.put, List.setIfInBounds_toArray, List.set_cons_zero, List.set_cons_succ, i64_w, i32_w]
                rfl
               refine pure_ (i := 9) (N := some 59) (v := ?_) (a' := ?_) #[true, true, true, true, false, false, false, true, true, true, false, false, false, false, false, false, false] rfl rfl (any_of HT_.out (by kernel_rfl)) (fun _ _ _ h => h) (Or.inl ⟨by rfl, ?_⟩) ?_ ?_
               rotate_left
               ·intro w'
                go_simp
                with_reducible rfl
               rotate_left
               ·simp only [Act.put, List.setIfInBounds_toArray, List.set_cons_zero, List.set_cons_succ, i64_w, i32_w]
                rfl
               refine take_ (i := 4) (N := some 54) (v := ?_) (a' := ?_) #[true, true, true, true, true, false, false, true, true, true, false, false, false, false, false, false, false] rfl rfl (take_ofW HT_.out HW_.out (by kernel_rfl)) (fun _ _ _ h => h) (Or.inl ⟨by rfl, ?_⟩) hHeld ?_ ?_
               rotate_left
               ·intro w' _
                go_simp
                with_reducible rfl
               rotate_left
               ·simp only [Act.put, List.setIfInBounds_toArray, List.set_cons_zero, List.set_cons_succ, i64_w, i32_w]
                rfl
               refine take_ (i := 10) (N := some 60) (v := ?_) (a' := ?_) #[true, true, true, true, true, false, false, true, true, true, true, false, false, false, false, false, false] rfl rfl (take_ofW HT_.out HW_.out (by kernel_rfl)) (fun _ _ _ h => h) (Or.inl ⟨by rfl, ?_⟩) hHeld ?_ ?_
               rotate_left
               ·intro w' _
                go_simp
                with_reducible rfl
               rotate_left
               ·simp only [Act.put, List.setIfInBounds_toArray, List.set_cons_zero, List.set_cons_succ, i64_w, i32_w]
                rfl
               refine one_ (i := 5) (N := some 55) #[true, true, true, true, true, true, false, true, true, true, true, false, false, false, false, false, false] rfl rfl (one_of HT_.out (by kernel_rfl)) (by decide) (fun K hK => ?_)
               refine goes_ Tryd.func73 (by kernel_rfl) rfl #[.int .u8 (bt a0 (ji24))] (by rfl) rfl rfl (by (try simp only [List.map_toArray, List.map_cons, List.map_nil]); first | done | (simp only [hji24]; rfl) | rfl | (simp only [List.length_drop, List.length_take]; rfl)) ?_
               with_reducible refine (rialtoref4_unhex.calls kj6 (bt a0 (ji24)) t263 _ A28.out).mono ?_
               rintro e w' ⟨rfl, ⟨nd, rfl⟩⟩
               refine ⟨_, rfl, ?_⟩
               refine hK.out _ _ trivial (fun hHeld => ?_)
               clear hK K
               refine norm_ (a' := ?_) ?_ ?_
               rotate_left
               ·show Act.put _ (some 55) _ = _
                simp only [Act.put, List.setIfInBounds_toArray, List.set_cons_zero, List.set_cons_succ, i64_w, i32_w]
                rfl
               refine pure_ (i := 6) (N := some 56) (v := ?_) (a' := ?_) #[true, true, true, true, true, true, true, true, true, true, true, false, false, false, false, false, false] rfl rfl (any_of HT_.out (by kernel_rfl)) (fun _ _ _ h => h) (Or.inl ⟨by rfl, ?_⟩) ?_ ?_
               rotate_left
               ·intro w'
                go_simp
                with_reducible rfl
               rotate_left
               ·simp only [Act.put, List.setIfInBounds_toArray, List.set_cons_zero, List.set_cons_succ, i64_w, i32_w]
                rfl
               refine one_ (i := 11) (N := some 61) #[true, true, true, true, true, true, true, true, true, true, true, true, false, false, false, false, false] rfl rfl (one_of HT_.out (by kernel_rfl)) (by decide) (fun K hK => ?_)
               refine goes_ Tryd.func73 (by kernel_rfl) rfl #[.int .u8 (bt a0 (ji29))] (by rfl) rfl rfl (by (try simp only [List.map_toArray, List.map_cons, List.map_nil]); first | done | (simp only [hji29]; rfl) | rfl | (simp only [List.length_drop, List.length_take]; rfl)) ?_
               with_reducible refine (rialtoref4_unhex.calls kj6 (bt a0 (ji29)) t264 _ A33.out).mono ?_
               rintro e w' ⟨rfl, ⟨nd, rfl⟩⟩
               refine ⟨_, rfl, ?_⟩
               refine hK.out _ _ trivial (fun hHeld => ?_)
               clear hK K
               refine norm_ (a' := ?_) ?_ ?_
               rotate_left
               ·show Act.put _ (some 61) _ = _
                simp only [Act.put, List.setIfInBounds_toArray, List.set_cons_zero, List.set_cons_succ, i64_w, i32_w]
                rfl
               refine pure_ (i := 12) (N := some 62) (v := ?_) (a' := ?_) #[true, true, true, true, true, true, true, true, true, true, true, true, true, false, false, false, false] rfl rfl (any_of HT_.out (by kernel_rfl)) (fun _ _ _ h => h) (Or.inl ⟨by rfl, ?_⟩) ?_ ?_
               rotate_left
               ·intro w'
                go_simp
                with_reducible rfl
               rotate_left
               ·simp only [Act.put, List.setIfInBounds_toArray, List.set_cons_zero, List.set_cons_succ, i64_w, i32_w]
                rfl
               refine pure_ (i := 13) (N := some 63) (v := ?_) (a' := ?_) #[true, true, true, true, true, true, true, true, true, true, true, true, true, true, false, false, false] rfl rfl (any_of HT_.out (by kernel_rfl)) (fun _ _ _ h => h) (Or.inl ⟨by rfl, ?_⟩) ?_ ?_
               rotate_left
               ·intro w'
                go_simp
                with_reducible rfl
               rotate_left
               ·simp only [Act.put, List.setIfInBounds_toArray, List.set_cons_zero, List.set_cons_succ, i64_w, i32_w]
                rfl
               refine one_ (i := 14) (N := some 64) #[true, true, true, true, true, true, true, true, true, true, true, true, true, true, true, false, false] rfl rfl (one_of HT_.out (by kernel_rfl)) (by decide) (fun K hK => ?_)
               refine value_ (w1 := ?_) (v := ?_) (by rfl) rfl ?_ ?_
               rotate_left 2
               ·go_simp
                constructor
                ·rfl
                ·rfl
               refine hK.out _ _ trivial (fun hHeld => ?_)
               clear hK K
               refine norm_ (a' := ?_) ?_ ?_
               rotate_left
               ·show Act.put _ (some 64) _ = _
                simp only [Act.put, List.setIfInBounds_toArray, List.set_cons_zero, List.set_cons_succ, i64_w, i32_w]
                rfl
               refine one_ (i := 15) (N := some 65) #[true, true, true, true, true, true, true, true, true, true, true, true, true, true, true, true, false] rfl rfl (one_of HT_.out (by kernel_rfl)) (by decide) (fun K hK => ?_)
               refine Kd.R_append_step (Kd.int .u8) (w0 := w) w.heap.size (by rfl) (.tmp 50) (.tmp 64) 57 5 (.int .u8 0) 1 rfl Tryd.underlying57 info5 rfl (by decide) (by omega) u3 x3_1 ((wrap64 ((wrap64 (16 * t263)) + t264)) % 256) [.int .u8 ((wrap64 ((wrap64 (16 * t263)) + t264)) % 256)] (fun _ => True) (fun _ => False) rfl rfl ?aP (fun _ hk => hk.elim) ?aF ?aO ?aB ?aS ?aL ?_
               (case aP => exact rfl)
               (case aB => exact (by repeat (first | (with_reducible first | exact HB.out | apply below_alloc | apply pw_below_drewN | apply below_drew1) | exact HB.out)))
               (case aF => exact (fun _ _ => trivial))
               (case aO => exact (by (with_reducible repeat (first | apply Kd.R_alloc | apply Kd.R_drewN | apply Kd.R_drew)); exact HO_3.out))
               (case aS => exact (below_size (by repeat (first | (with_reducible first | exact HB.out | apply below_alloc | apply pw_below_drewN | apply below_drew1) | exact HB.out))))
               (case aL => have := LMc34.out; omega)
               intro v266 w36 ho hb hg hat
               rw [← Ny265.out] at ho
               have n0_ := Aside0.mk (hb)
               have n1_ := Aside0.mk (ho)
               clear HB
               clear HO_3
               have HB := n0_
               have HO267 := n1_
               clear n0_ n1_
               clear ho hb hg hat
               refine hK.out _ _ trivial (fun hHeld => ?_)
               clear hK K
               refine norm_ (a' := ?_) ?_ ?_
               rotate_left
               ·show Act.put _ (some 65) _ = _
                simp only [Act.put, List.setIfInBounds_toArray, List.set_cons_zero, List.set_cons_succ, i64_w, i32_w]
                rfl
               refine pure_ (i := 16) (N := some 3) (v := ?_) (a' := ?_) #[true, true, true, true, true, true, true, true, true, true, true, true, true, true, true, true, true] rfl rfl (any_of HT_.out (by kernel_rfl)) (fun _ _ _ h => h) (Or.inl ⟨by rfl, ?_⟩) ?_ ?_
               rotate_left
               ·intro w'
                go_simp
                with_reducible rfl
               rotate_left
               ·simp only [Act.put, List.setIfInBounds_toArray, List.set_cons_zero, List.set_cons_succ, i64_w, i32_w]
                rfl
               refine done_ (done_of HT_.out (by kernel_rfl)) ?_
               try go_wp2
               go_roundg kj6
               case measure => have := HK1.out; have := HJ6.out; omega
               case rel => exact ⟨(y265), (wrap64 ((ji29) + 1)), (by first | rfl | (simp; done) | (simp only [← hji29] <;> (first | rfl | simp)) | (simp [*]; done)), H', ⟨by have := HK1.out; have := HJ6.out; omega⟩, ⟨by (with_reducible repeat (first | apply Kd.R_alloc | apply Kd.R_drewN | apply Kd.R_drew)); exact HO267.out⟩, ⟨by repeat (first | (with_reducible first | exact HB.out | apply below_alloc | apply pw_below_drewN | apply below_drew1) | exact HB.out)⟩⟩
              ·rw [if_neg c34] at H
               exact absurd H (by simp)
             ·rw [if_neg c31] at H
              exact absurd H (by simp)
            ·rw [if_neg c30] at H
             exact absurd H (by simp)
           ·rw [if_neg c26] at H
            exact absurd H (by simp)
          ·rw [if_neg c25] at H
           exact absurd H (by simp)
         ·replace c23 := Bool.eq_false_iff.mpr c23
          subst c23
          have H1 : (if 0 ≤ (wrap64 (x4_1 + 1)) then (if (wrap64 (x4_1 + 1)) < (a0.size : Int) then (if x3_1.length < 140737488355328 then (rialtoref4_unquoted.l0 kj6 a0 (x3_1 ++ [bt a0 (wrap64 (x4_1 + 1))]) (wrap64 ((wrap64 (x4_1 + 1)) + 1))) else (none)) else (none)) else (none)) = some r := by rw [if_neg (show ¬ (false = true) by decide)] at H; exact H
          clear H
          have H := H1
          clear H1
          obtain ⟨ji37, hji37⟩ : ∃ j_ : Int, (wrap64 (x4_1 + 1)) = j_ := ⟨_, rfl⟩
          replace H : (if 0 ≤ (ji37) then (if (ji37) < (a0.size : Int) then (if x3_1.length < 140737488355328 then (rialtoref4_unquoted.l0 kj6 a0 (x3_1 ++ [bt a0 (ji37)]) (wrap64 ((ji37) + 1))) else (none)) else (none)) else (none)) = some r := by first | (rw [hji37] at H; exact H) | (simp only [hji37] at H ⊢; exact H)
          (try rw [hji37] at c2b0)
          have hji37w : (IntKind.i64.wrap (x4_1 + 1)) = ji37 := (i64_w _).trans hji37
          by_cases c38 : 0 ≤ (ji37)
          ·rw [if_pos c38] at H
           have c38b0 : decide (0 ≤ (ji37)) = true := decide_eq_true c38
           clear c38
           by_cases c39 : (ji37) < (a0.size : Int)
           ·rw [if_pos c39] at H
            have c39b0 : decide ((ji37) < (a0.size : Int)) = true := decide_eq_true c39
            clear c39
            by_cases c41 : x3_1.length < 140737488355328
            ·rw [if_pos c41] at H
             have LMc41 := Aside0.mk c41
             clear c41
             obtain ⟨y268, hy268⟩ : ∃ y_ : List Int, y_ = (x3_1 ++ [bt a0 (ji37)]) := ⟨_, rfl⟩
             replace H : (rialtoref4_unquoted.l0 kj6 a0 y268 (wrap64 ((ji37) + 1))) = some r := by first | (rw [hy268]; with_reducible exact H) | (have H2_ := (Option.bind_some _ _).symm.trans H; rw [hy268]; with_reducible exact H2_) | (have H2_ := (Option.bind_some _ _).symm.trans H; with_reducible exact H2_) | with_reducible exact H | (rw [hy268]; exact H) | exact H
             have Ny268 := Aside0.mk hy268
             clear hy268
             have H' := Aside0.mk H
             clear H
             have p40 : 0 ≤ ((ji37) : Int) := of_decide_eq_true (by first | (with_reducible assumption) | assumption)
             have q40 : (ji37) < (a0.size : Int) := of_decide_eq_true (by first | (with_reducible assumption) | assumption)
             have hx40 := bt_at a0 (ji37)
             replace p40 := eq_true p40
             replace q40 := eq_true q40
             go_wp2_with (first | ((with_reducible refine gate_builtin (b := .append) (xs := #[.tmp 70, .tmp 74]) rfl ?_); (try (refine gate_guard (by rfl) ?_; dsimp only)); at_builtin; refine Kd.R_append (Kd.int .u8) (w0 := w) w.heap.size rfl (.tmp 70) (.tmp 74) 57 5 (.int .u8 0) 1 rfl Tryd.underlying57 info5 rfl (by decide) (by omega) u3 x3_1 (bt a0 (ji37)) [.int .u8 (bt a0 (ji37))] (fun _ => True) (fun _ => False) rfl rfl ?aP (fun _ hk => hk.elim) ?aF ?aO ?aB ?aS ?aL ?_; (case aP => exact rfl); (case aB => exact (by repeat (first | (with_reducible first | exact HB.out | apply below_alloc | apply pw_below_drewN | apply below_drew1) | exact HB.out))); (case aF => exact (fun _ _ => trivial)); (case aO => exact (by (with_reducible repeat (first | apply Kd.R_alloc | apply Kd.R_drewN | apply Kd.R_drew)); exact HO_3.out)); (case aS => exact (below_size (by repeat (first | (with_reducible first | exact HB.out | apply below_alloc | apply pw_below_drewN | apply below_drew1) | exact HB.out)))); (case aL => have := LMc41.out; omega); intro v269 w42 ho hb hg hat; rw [← Ny268.out] at ho; have n0_ := Aside0.mk (hb); have n1_ := Aside0.mk (ho); clear HB; clear HO_3; have HB := n0_; have HO270 := n1_; clear n0_ n1_; clear ho hb hg hat))
             go_roundg kj6
             case measure => have := HK1.out; have := HJ6.out; omega
             case rel => exact ⟨(y268), (wrap64 ((ji37) + 1)), (by first | rfl | (simp; done) | (simp only [← hji37] <;> (first | rfl | simp)) | (simp [*]; done)), H', ⟨by have := HK1.out; have := HJ6.out; omega⟩, ⟨by (with_reducible repeat (first | apply Kd.R_alloc | apply Kd.R_drewN | apply Kd.R_drew)); exact HO270.out⟩, ⟨by repeat (first | (with_reducible first | exact HB.out | apply below_alloc | apply pw_below_drewN | apply below_drew1) | exact HB.out)⟩⟩
            ·rw [if_neg c41] at H
             exact absurd H (by simp)
           ·rw [if_neg c39] at H
            exact absurd H (by simp)
          ·rw [if_neg c38] at H
           exact absurd H (by simp)
      ·rw [if_neg c6] at H
       have c6b0 : ((bt a0 x4_1) == 92) = false := beq_eq_false_iff_ne.mpr c6
       have c6b1 : ((bt a0 x4_1) != 92) = true := bne_iff_ne.mpr c6
       by_cases c44 : x3_1.length < 140737488355328
       ·rw [if_pos c44] at H
        have LMc44 := Aside0.mk c44
        clear c44
        obtain ⟨y258, hy258⟩ : ∃ y_ : List Int, y_ = (x3_1 ++ [bt a0 x4_1]) := ⟨_, rfl⟩
        replace H : (rialtoref4_unquoted.l0 k1 a0 y258 (wrap64 (x4_1 + 1))) = some r := by first | (rw [hy258]; with_reducible exact H) | (have H2_ := (Option.bind_some _ _).symm.trans H; rw [hy258]; with_reducible exact H2_) | (have H2_ := (Option.bind_some _ _).symm.trans H; with_reducible exact H2_) | with_reducible exact H | (rw [hy258]; exact H) | exact H
        have Ny258 := Aside0.mk hy258
        clear hy258
        have H' := Aside0.mk H
        clear H
        have p5 : 0 ≤ (x4_1 : Int) := of_decide_eq_true (by first | (with_reducible assumption) | assumption)
        have q5 : x4_1 < (a0.size : Int) := of_decide_eq_true (by first | (with_reducible assumption) | assumption)
        have hx5 := bt_at a0 x4_1
        replace p5 := eq_true p5
        replace q5 := eq_true q5
        have p43 : 0 ≤ (x4_1 : Int) := of_decide_eq_true (by first | (with_reducible assumption) | assumption)
        have q43 : x4_1 < (a0.size : Int) := of_decide_eq_true (by first | (with_reducible assumption) | assumption)
        have hx43 := bt_at a0 x4_1
        replace p43 := eq_true p43
        replace q43 := eq_true q43
        go_wp2_with (first | ((with_reducible refine gate_builtin (b := .append) (xs := #[.tmp 16, .tmp 20]) rfl ?_); (try (refine gate_guard (by rfl) ?_; dsimp only)); at_builtin; refine Kd.R_append (Kd.int .u8) (w0 := w) w.heap.size rfl (.tmp 16) (.tmp 20) 57 5 (.int .u8 0) 1 rfl Tryd.underlying57 info5 rfl (by decide) (by omega) u3 x3_1 (bt a0 x4_1) [.int .u8 (bt a0 x4_1)] (fun _ => True) (fun _ => False) rfl rfl ?aP (fun _ hk => hk.elim) ?aF ?aO ?aB ?aS ?aL ?_; (case aP => exact rfl); (case aB => exact (by repeat (first | (with_reducible first | exact HB.out | apply below_alloc | apply pw_below_drewN | apply below_drew1) | exact HB.out))); (case aF => exact (fun _ _ => trivial)); (case aO => exact (by (with_reducible repeat (first | apply Kd.R_alloc | apply Kd.R_drewN | apply Kd.R_drew)); exact HO_3.out)); (case aS => exact (below_size (by repeat (first | (with_reducible first | exact HB.out | apply below_alloc | apply pw_below_drewN | apply below_drew1) | exact HB.out)))); (case aL => have := LMc44.out; omega); intro v259 w45 ho hb hg hat; rw [← Ny258.out] at ho; have n0_ := Aside0.mk (hb); have n1_ := Aside0.mk (ho); clear HB; clear HO_3; have HB := n0_; have HO260 := n1_; clear n0_ n1_; clear ho hb hg hat))
        go_roundg k1
        case measure => have := HK1.out; omega
        case rel => exact ⟨(y258), (wrap64 (x4_1 + 1)), (by first | rfl | (simp; done) | (simp [*]; done)), H', ⟨by have := HK1.out; omega⟩, ⟨by (with_reducible repeat (first | apply Kd.R_alloc | apply Kd.R_drewN | apply Kd.R_drew)); exact HO260.out⟩, ⟨by repeat (first | (with_reducible first | exact HB.out | apply below_alloc | apply pw_below_drewN | apply below_drew1) | exact HB.out)⟩⟩
       ·rw [if_neg c44] at H
        exact absurd H (by simp)
     ·rw [if_neg c4] at H
      exact absurd H (by simp)
    ·rw [if_neg c3] at H
     exact absurd H (by simp)
   ·rw [if_neg c2] at H
    have c2b0 : decide ((wrap64 (x4_1 + 1)) < (a0.size : Int)) = false := decide_eq_false c2
    clear c2
    obtain rfl := Option.some.inj H
    have hcv46 := own_string (P := Tryd.prog) Tryd.underlying57 Tryd.underlying5 Tryd.underlying9 (Kd.own_of_R HO_3.out)
    go_wp2
    go_ret
    exact ⟨by first | rfl | (simp [errW_none, errW_some] <;> rfl) | (simp [*, errW_none, errW_some] <;> rfl), by repeat (first | (with_reducible first | exact HB.out | apply below_alloc | apply pw_below_drewN | apply below_drew1) | exact HB.out)⟩
mutual
def rialtoref4_bytes.l0 : Nat → ByteArray → List Int → Int → Option (List Int × Bool)
 | 0, _, _, _ => none
 | k + 1, x0, x4, x5 => if x5 < (x0.size : Int) then (if (wrap64 (x5 + 1)) = (x0.size : Int) then (rialtoref4_bytes.j1 k x0 x4 x5 true) else (if 0 ≤ x5 then ((rialtoref4_unhex.f k (bt x0 x5)).bind fun t271 => (if t271 < 0 then (rialtoref4_bytes.j1 k x0 x4 x5 true) else (if 0 ≤ (wrap64 (x5 + 1)) then (if (wrap64 (x5 + 1)) < (x0.size : Int) then ((rialtoref4_unhex.f k (bt x0 (wrap64 (x5 + 1)))).bind fun t272 => (rialtoref4_bytes.j1 k x0 x4 x5 (decide (t272 < 0)))) else (none)) else (none)))) else (none))) else (some (x4, true))
def rialtoref4_bytes.j1 : Nat → ByteArray → List Int → Int → Bool → Option (List Int × Bool)
 | 0, _, _, _, _ => none
 | k + 1, x0, x4, x5, x31 => if x31 = true then (some (([] : List Int), false)) else (if 0 ≤ x5 then (if x5 < (x0.size : Int) then ((rialtoref4_unhex.f k (bt x0 x5)).bind fun t273 => (if 0 ≤ (wrap64 (x5 + 1)) then (if (wrap64 (x5 + 1)) < (x0.size : Int) then ((rialtoref4_unhex.f k (bt x0 (wrap64 (x5 + 1)))).bind fun t274 => (if x4.length < 140737488355328 then (rialtoref4_bytes.l0 k x0 (x4 ++ [(wrap64 ((wrap64 (16 * t273)) + t274)) % 256]) (wrap64 (x5 + 2))) else (none))) else (none)) else (none))) else (none)) else (none))
end
def rialtoref4_bytes.f (k : Nat) (a0 : ByteArray) : Option (List Int × Bool) := rialtoref4_bytes.l0 k a0 ([] : List Int) 0
theorem rialtoref4_bytes.mono_l : ∀ k, (∀ y0 y1 y2, LeO (rialtoref4_bytes.l0 k y0 y1 y2) (rialtoref4_bytes.l0 (k + 1) y0 y1 y2)) ∧ (∀ y0 y1 y2 y3, LeO (rialtoref4_bytes.j1 k y0 y1 y2 y3) (rialtoref4_bytes.j1 (k + 1) y0 y1 y2 y3))
 | 0 => ⟨fun _ _ _ r h => by simp [rialtoref4_bytes.l0] at h, fun _ _ _ _ r h => by simp [rialtoref4_bytes.j1] at h⟩
 | k + 1 => by
  obtain ⟨ih0, ih1⟩ := rialtoref4_bytes.mono_l k
  refine ⟨?_, ?_⟩
  ·intro y0 y1 y2
   unfold rialtoref4_bytes.l0
   repeat' first
   | (with_reducible exact ih0 _ _ _)
   | (with_reducible exact ih1 _ _ _ _)
   | (with_reducible exact rialtoref4_unhex.mono _ _)
   | (with_reducible exact LeO.refl _)
   | (with_reducible exact LeO.none _)
   | (with_reducible refine LeO.ite ?_ ?_)
   | (with_reducible refine LeO.bind ?_ (fun _ => ?_))
   | exact ih0 _ _ _
   | exact ih1 _ _ _ _
   | exact rialtoref4_unhex.mono _ _
   | exact LeO.none _
   | refine LeO.ite ?_ ?_
   | refine LeO.bind ?_ (fun _ => ?_)
  ·intro y0 y1 y2 y3
   unfold rialtoref4_bytes.j1
   repeat' first
   | (with_reducible exact ih0 _ _ _)
   | (with_reducible exact ih1 _ _ _ _)
   | (with_reducible exact rialtoref4_unhex.mono _ _)
   | (with_reducible exact LeO.refl _)
   | (with_reducible exact LeO.none _)
   | (with_reducible refine LeO.ite ?_ ?_)
   | (with_reducible refine LeO.bind ?_ (fun _ => ?_))
   | exact ih0 _ _ _
   | exact ih1 _ _ _ _
   | exact rialtoref4_unhex.mono _ _
   | exact LeO.none _
   | refine LeO.ite ?_ ?_
   | refine LeO.bind ?_ (fun _ => ?_)
theorem rialtoref4_bytes.mono : ∀ a0 k, LeO (rialtoref4_bytes.f k a0) (rialtoref4_bytes.f (k + 1) a0) := by
 intro a0 k
 obtain ⟨ih0, ih1⟩ := rialtoref4_bytes.mono_l k
 unfold rialtoref4_bytes.f
 repeat' first
   | (with_reducible exact ih0 _ _ _)
   | (with_reducible exact ih1 _ _ _ _)
   | (with_reducible exact rialtoref4_unhex.mono _ _)
   | (with_reducible exact LeO.refl _)
   | (with_reducible exact LeO.none _)
   | (with_reducible refine LeO.ite ?_ ?_)
   | (with_reducible refine LeO.bind ?_ (fun _ => ?_))
   | exact ih0 _ _ _
   | exact ih1 _ _ _ _
   | exact rialtoref4_unhex.mono _ _
   | exact LeO.none _
   | refine LeO.ite ?_ ?_
   | refine LeO.bind ?_ (fun _ => ?_)
def rialtoref4_bytes.T7 : Bool × List (List Nat × List Nat) := (true, [([], []), ([], []), ([], []), ([1, 2], [1, 2]), ([3], [3]), ([4], [4]), ([], []), ([], []), ([7], [7]), ([6, 8], [6, 8]), ([9, 4], [9]), ([5, 10], [5, 10]), ([11], [11]), ([12], [12]), ([0, 13, 10], [0, 13]), ([14, 14, 0, 1, 2, 3, 4, 5, 6, 7, 8, 9, 10, 11, 12, 13, 14], [0, 14])])
def rialtoref4_bytes.B7 : List Nat := [0, 0, 0, 6, 14, 30, 0, 0, 128, 448, 990, 2046, 4094, 8190, 16383, 32767]
theorem rialtoref4_bytes.tab7 : rtab .any (opsOf Tryd.f55 7) = rialtoref4_bytes.T7 := by kernel_rfl
theorem rialtoref4_bytes.bits7 : waitsOk rialtoref4_bytes.T7.2 rialtoref4_bytes.B7 = true := by kernel_rfl
set_option maxHeartbeats 8000000 in
set_option maxRecDepth 100000 in
theorem rialtoref4_bytes.calls (k : Nat) (a0 : ByteArray) (r1 : List Int) (r2 : Bool) (w : World) (h : rialtoref4_bytes.f k a0 = some (r1, r2)) :
  Calls Tryd.prog 55 #[.string a0] w fun e w' => ∃ v0_ : Value, e = .returned (.tuple #[v0_, .bool r2]) ∧ Kd.R (Kd.int .u8) 5 w' w.heap.size (fun _ => True) v0_ r1 ∧ Below w.heap.size w w' := by
 have HB := Aside0.mk (Below.refl w.heap.size w)
 have H : (rialtoref4_bytes.l0 k a0 ([] : List Int) 0) = some (r1, r2) := h
 clear h
 have H' := Aside0.mk H
 clear H
 have k23 := run23
 have k22 := run22
 go_enter Tryd.func55, Tryd.ntmps55
 go_wp2
 go_loopg [4, 5] k (fun kq v4 v5 w' => ∃ (x4_1 : List Int) (x5_1 : Int), v5 = .int .i64 x5_1 ∧ Aside0 (rialtoref4_bytes.l0 kq a0 x4_1 x5_1 = some (r1, r2)) ∧ Aside0 (kq ≤ k) ∧ Aside0 (Kd.R (Kd.int .u8) 5 w' w.heap.size (fun _ => True) v4 x4_1) ∧ Aside0 (Below w.heap.size w w'))
 case atStart => exact ⟨(([] : List Int)), (0), (by first | rfl | (simp; done) | (simp [*]; done)), H', ⟨Nat.le_refl _⟩, ⟨by first | exact Kd.R_nil _ _ _ _ _ | exact Kd.N_nil _ _ _ _ _ | exact Kd.V_nil _ _ _ _ _ | exact Kd.Q_nil _ _ _ _ _ | exact Kd.S_nil _ _ _ _ _⟩, ⟨by repeat (first | (with_reducible first | exact HB.out | apply below_alloc | apply pw_below_drewN | apply below_drew1) | exact HB.out)⟩⟩
 case round =>
  clear H'
  obtain ⟨x4_1, x5_1, rfl, HA, HK1, HO_4, HB⟩ := hrel
  cases gk with
  | zero => exact absurd HA.out (by simp [rialtoref4_bytes.l0])
  | succ k1 =>
   have H := HA.out
   clear HA
   simp only [rialtoref4_bytes.l0] at H
   by_cases c2 : x5_1 < (a0.size : Int)
   ·rw [if_pos c2] at H
    have c2b0 : decide (x5_1 < (a0.size : Int)) = true := decide_eq_true c2
    clear c2
    have HC3 := Aside0.mk H
    clear H
    go_upto_region 5 with (fail)
    go_cut [31] (fun v31 wc => ∃ (kq : Nat) (x31_2 : Bool), v31 = .bool x31_2 ∧ Aside0 (rialtoref4_bytes.j1 kq a0 x4_1 x5_1 x31_2 = some (r1, r2)) ∧ Aside0 (kq ≤ k1) ∧ Aside0 (Kd.R (Kd.int .u8) 5 wc w.heap.size (fun _ => True) u4 x4_1) ∧ Aside0 (Below w.heap.size w wc))
    case first =>
     have H := HC3.out
     clear HC3
     by_cases c4 : (wrap64 (x5_1 + 1)) = (a0.size : Int)
     ·rw [if_pos c4] at H
      have c4b0 : ((wrap64 (x5_1 + 1)) == (a0.size : Int)) = true := beq_iff_eq.mpr c4
      have c4b1 : ((wrap64 (x5_1 + 1)) != (a0.size : Int)) = false := bne_eq_false_iff_eq.mpr c4
      clear c4
      (first | rw [c4b0] | (simp only [i64_w, i32_w]; rw [c4b0]) | skip)
      have H' := Aside0.mk H
      clear H
      go_wp2
      go_meet
      case rel => exact ⟨_, (true), (by first | rfl | (simp; done) | (simp [*]; done)), H', ⟨by have := HK1.out; first | omega | exact Nat.le_refl _⟩, ⟨by (with_reducible repeat (first | apply Kd.R_alloc | apply Kd.R_drewN | apply Kd.R_drew)); exact HO_4.out⟩, ⟨by repeat (first | (with_reducible first | exact HB.out | apply below_alloc | apply pw_below_drewN | apply below_drew1) | exact HB.out)⟩⟩
     ·rw [if_neg c4] at H
      have c4b0 : ((wrap64 (x5_1 + 1)) == (a0.size : Int)) = false := beq_eq_false_iff_ne.mpr c4
      have c4b1 : ((wrap64 (x5_1 + 1)) != (a0.size : Int)) = true := bne_iff_ne.mpr c4
      (first | rw [c4b0] | (simp only [i64_w, i32_w]; rw [c4b0]) | skip)
      by_cases c5 : 0 ≤ x5_1
      ·rw [if_pos c5] at H
       have c5b0 : decide (0 ≤ x5_1) = true := decide_eq_true c5
       clear c5
       replace H := Option.bind_eq_some_iff.mp H
       obtain ⟨t271, A70, H⟩ := H
       replace H : (if t271 < 0 then (rialtoref4_bytes.j1 k1 a0 x4_1 x5_1 true) else (if 0 ≤ (wrap64 (x5_1 + 1)) then (if (wrap64 (x5_1 + 1)) < (a0.size : Int) then ((rialtoref4_unhex.f k1 (bt a0 (wrap64 (x5_1 + 1)))).bind fun t272 => (rialtoref4_bytes.j1 k1 a0 x4_1 x5_1 (decide (t272 < 0)))) else (none)) else (none))) = some (r1, r2) := H
       have A7 := Aside0.mk A70
       clear A70
       by_cases c8 : t271 < 0
       ·rw [if_pos c8] at H
        have c8b0 : decide (t271 < 0) = true := decide_eq_true c8
        clear c8
        have H' := Aside0.mk H
        clear H
        have p6 : 0 ≤ (x5_1 : Int) := of_decide_eq_true (by first | (with_reducible assumption) | assumption)
        have q6 : x5_1 < (a0.size : Int) := of_decide_eq_true (by first | (with_reducible assumption) | assumption)
        have hx6 := bt_at a0 x5_1
        replace p6 := eq_true p6
        replace q6 := eq_true q6
        go_wp2_with (first | (go_at_call 73; (with_reducible refine (rialtoref4_unhex.calls k1 (bt a0 x5_1) t271 _ A7.out).mono ?_); rintro e w' ⟨rfl, ⟨nd, rfl⟩⟩))
        go_meet
        case rel => exact ⟨_, (true), (by first | rfl | (simp; done) | (simp [*]; done)), H', ⟨by have := HK1.out; first | omega | exact Nat.le_refl _⟩, ⟨by (with_reducible repeat (first | apply Kd.R_alloc | apply Kd.R_drewN | apply Kd.R_drew)); exact HO_4.out⟩, ⟨by repeat (first | (with_reducible first | exact HB.out | apply below_alloc | apply pw_below_drewN | apply below_drew1) | exact HB.out)⟩⟩
       ·rw [if_neg c8] at H
        have c8b0 : decide (t271 < 0) = false := decide_eq_false c8
        clear c8
        obtain ⟨ji9, hji9⟩ : ∃ j_ : Int, (wrap64 (x5_1 + 1)) = j_ := ⟨_, rfl⟩
        replace H : (if 0 ≤ (ji9) then (if (ji9) < (a0.size : Int) then ((rialtoref4_unhex.f k1 (bt a0 (ji9))).bind fun t272 => (rialtoref4_bytes.j1 k1 a0 x4_1 x5_1 (decide (t272 < 0)))) else (none)) else (none)) = some (r1, r2) := by first | (rw [hji9] at H; exact H) | (simp only [hji9] at H ⊢; exact H)
        (try rw [hji9] at c4b0)
        (try rw [hji9] at c4b1)
        (try rw [hji9] at A7)
        have hji9w : (IntKind.i64.wrap (x5_1 + 1)) = ji9 := (i64_w _).trans hji9
        by_cases c10 : 0 ≤ (ji9)
        ·rw [if_pos c10] at H
         have c10b0 : decide (0 ≤ (ji9)) = true := decide_eq_true c10
         clear c10
         by_cases c11 : (ji9) < (a0.size : Int)
         ·rw [if_pos c11] at H
          have c11b0 : decide ((ji9) < (a0.size : Int)) = true := decide_eq_true c11
          clear c11
          replace H := Option.bind_eq_some_iff.mp H
          obtain ⟨t272, A130, H⟩ := H
          replace H : (rialtoref4_bytes.j1 k1 a0 x4_1 x5_1 (decide (t272 < 0))) = some (r1, r2) := H
          have A13 := Aside0.mk A130
          clear A130
          have H' := Aside0.mk H
          clear H
          have p6 : 0 ≤ (x5_1 : Int) := of_decide_eq_true (by first | (with_reducible assumption) | assumption)
          have q6 : x5_1 < (a0.size : Int) := of_decide_eq_true (by first | (with_reducible assumption) | assumption)
          have hx6 := bt_at a0 x5_1
          replace p6 := eq_true p6
          replace q6 := eq_true q6
          go_wp2_with (first | (go_at_call 73; (with_reducible refine (rialtoref4_unhex.calls k1 (bt a0 x5_1) t271 _ A7.out).mono ?_); rintro e w' ⟨rfl, ⟨nd, rfl⟩⟩; have p12 : 0 ≤ ((ji9) : Int) := of_decide_eq_true (by first | (with_reducible assumption) | assumption); have q12 : (ji9) < (a0.size : Int) := of_decide_eq_true (by first | (with_reducible assumption) | assumption); have hx12 := bt_at a0 (ji9); replace p12 := eq_true p12; replace q12 := eq_true q12) | (go_at_call 73; (with_reducible refine (rialtoref4_unhex.calls k1 (bt a0 (ji9)) t272 _ A13.out).mono ?_); rintro e w' ⟨rfl, ⟨nd, rfl⟩⟩))
          go_meet
          case rel => exact ⟨_, (decide (t272 < 0)), (by first | rfl | (simp; done) | (simp [*]; done)), H', ⟨by have := HK1.out; first | omega | exact Nat.le_refl _⟩, ⟨by (with_reducible repeat (first | apply Kd.R_alloc | apply Kd.R_drewN | apply Kd.R_drew)); exact HO_4.out⟩, ⟨by repeat (first | (with_reducible first | exact HB.out | apply below_alloc | apply pw_below_drewN | apply below_drew1) | exact HB.out)⟩⟩
         ·rw [if_neg c11] at H
          exact absurd H (by simp)
        ·rw [if_neg c10] at H
         exact absurd H (by simp)
      ·rw [if_neg c5] at H
       exact absurd H (by simp)
    case rest =>
     clear HC3
     try clear c1;try clear p1;try clear q1;try clear hx1;try clear c2;try clear c2b0;try clear p2;try clear c4;try clear c4b0;try clear c4b1;try clear c5;try clear c5b0;try clear p6;try clear q6;try clear hx6;try clear c8;try clear c8b0;try clear c10;try clear c10b0;try clear c11;try clear c11b0;try clear p12;try clear q12;try clear hx12;try clear p12;try clear p6;try clear q12;try clear q6
     obtain ⟨kq, x31_2, rfl, HA, HJ2, HO_4, HB⟩ := hcut
     cases kq with
     | zero => exact absurd HA.out (by simp [rialtoref4_bytes.j1])
     | succ kj2 =>
      have H := HA.out
      clear HA
      simp only [rialtoref4_bytes.j1] at H
      by_cases c14 : x31_2 = true
      ·subst c14
       have H1 : (some (([] : List Int), false)) = some (r1, r2) := by rw [if_pos rfl] at H; exact H
       clear H
       have H := H1
       clear H1
       simp only [Option.some.injEq, Prod.mk.injEq] at H
       obtain ⟨rfl, rfl⟩ := H
       go_wp2
       go_ret2
       exact ⟨_, by first | rfl | (simp [errW_none, errW_some] <;> rfl) | (simp [*, errW_none, errW_some] <;> rfl), by first | exact Kd.R_nil _ _ _ _ _ | exact Kd.N_nil _ _ _ _ _ | exact Kd.V_nil _ _ _ _ _ | exact Kd.Q_nil _ _ _ _ _ | exact Kd.S_nil _ _ _ _ _, by repeat (first | (with_reducible first | exact HB.out | apply below_alloc | apply pw_below_drewN | apply below_drew1) | exact HB.out)⟩
      ·replace c14 := Bool.eq_false_iff.mpr c14
       subst c14
       have H1 : (if 0 ≤ x5_1 then (if x5_1 < (a0.size : Int) then ((rialtoref4_unhex.f kj2 (bt a0 x5_1)).bind fun t273 => (if 0 ≤ (wrap64 (x5_1 + 1)) then (if (wrap64 (x5_1 + 1)) < (a0.size : Int) then ((rialtoref4_unhex.f kj2 (bt a0 (wrap64 (x5_1 + 1)))).bind fun t274 => (if x4_1.length < 140737488355328 then (rialtoref4_bytes.l0 kj2 a0 (x4_1 ++ [(wrap64 ((wrap64 (16 * t273)) + t274)) % 256]) (wrap64 (x5_1 + 2))) else (none))) else (none)) else (none))) else (none)) else (none)) = some (r1, r2) := by rw [if_neg (show ¬ (false = true) by decide)] at H; exact H
       clear H
       have H := H1
       clear H1
       by_cases c15 : 0 ≤ x5_1
       ·rw [if_pos c15] at H
        have c15b0 : decide (0 ≤ x5_1) = true := decide_eq_true c15
        clear c15
        by_cases c16 : x5_1 < (a0.size : Int)
        ·rw [if_pos c16] at H
         have c16b0 : decide (x5_1 < (a0.size : Int)) = true := decide_eq_true c16
         clear c16
         replace H := Option.bind_eq_some_iff.mp H
         obtain ⟨t273, A180, H⟩ := H
         replace H : (if 0 ≤ (wrap64 (x5_1 + 1)) then (if (wrap64 (x5_1 + 1)) < (a0.size : Int) then ((rialtoref4_unhex.f kj2 (bt a0 (wrap64 (x5_1 + 1)))).bind fun t274 => (if x4_1.length < 140737488355328 then (rialtoref4_bytes.l0 kj2 a0 (x4_1 ++ [(wrap64 ((wrap64 (16 * t273)) + t274)) % 256]) (wrap64 (x5_1 + 2))) else (none))) else (none)) else (none)) = some (r1, r2) := H
         have A18 := Aside0.mk A180
         clear A180
         obtain ⟨ji19, hji19⟩ : ∃ j_ : Int, (wrap64 (x5_1 + 1)) = j_ := ⟨_, rfl⟩
         replace H : (if 0 ≤ (ji19) then (if (ji19) < (a0.size : Int) then ((rialtoref4_unhex.f kj2 (bt a0 (ji19))).bind fun t274 => (if x4_1.length < 140737488355328 then (rialtoref4_bytes.l0 kj2 a0 (x4_1 ++ [(wrap64 ((wrap64 (16 * t273)) + t274)) % 256]) (wrap64 (x5_1 + 2))) else (none))) else (none)) else (none)) = some (r1, r2) := by first | (rw [hji19] at H; exact H) | (simp only [hji19] at H ⊢; exact H)
         (try rw [hji19] at A18)
         have hji19w : (IntKind.i64.wrap (x5_1 + 1)) = ji19 := (i64_w _).trans hji19
         by_cases c20 : 0 ≤ (ji19)
         ·rw [if_pos c20] at H
          have c20b0 : decide (0 ≤ (ji19)) = true := decide_eq_true c20
          clear c20
          by_cases c21 : (ji19) < (a0.size : Int)
          ·rw [if_pos c21] at H
           have c21b0 : decide ((ji19) < (a0.size : Int)) = true := decide_eq_true c21
           clear c21
           replace H := Option.bind_eq_some_iff.mp H
           obtain ⟨t274, A230, H⟩ := H
           replace H : (if x4_1.length < 140737488355328 then (rialtoref4_bytes.l0 kj2 a0 (x4_1 ++ [(wrap64 ((wrap64 (16 * t273)) + t274)) % 256]) (wrap64 (x5_1 + 2))) else (none)) = some (r1, r2) := H
           have A23 := Aside0.mk A230
           clear A230
           by_cases c24 : x4_1.length < 140737488355328
           ·rw [if_pos c24] at H
            have LMc24 := Aside0.mk c24
            clear c24
            obtain ⟨y275, hy275⟩ : ∃ y_ : List Int, y_ = (x4_1 ++ [(wrap64 ((wrap64 (16 * t273)) + t274)) % 256]) := ⟨_, rfl⟩
            replace H : (rialtoref4_bytes.l0 kj2 a0 y275 (wrap64 (x5_1 + 2))) = some (r1, r2) := by first | (rw [hy275]; with_reducible exact H) | (have H2_ := (Option.bind_some _ _).symm.trans H; rw [hy275]; with_reducible exact H2_) | (have H2_ := (Option.bind_some _ _).symm.trans H; with_reducible exact H2_) | with_reducible exact H | (rw [hy275]; exact H) | exact H
            have Ny275 := Aside0.mk hy275
            clear hy275
            have H' := Aside0.mk H
            clear H
            try go_wp2
            have n0_ := Aside0.mk (Kd.R_drew HO_4.out)
            have n1_ := Aside0.mk (below_drew1 HB.out)
            clear HO_4
            clear HB
            have HO_4 := n0_
            have HB := n1_
            clear n0_ n1_
            have p17 : 0 ≤ (x5_1 : Int) := of_decide_eq_true (by first | (with_reducible assumption) | assumption)
            have q17 : x5_1 < (a0.size : Int) := of_decide_eq_true (by first | (with_reducible assumption) | assumption)
            have hx17 := bt_at a0 x5_1
            replace p17 := eq_true p17
            replace q17 := eq_true q17
            have p22 : 0 ≤ ((ji19) : Int) := of_decide_eq_true (by first | (with_reducible assumption) | assumption)
            have q22 : (ji19) < (a0.size : Int) := of_decide_eq_true (by first | (with_reducible assumption) | assumption)
            have hx22 := bt_at a0 (ji19)
            replace p22 := eq_true p22
            replace q22 := eq_true q22
            refine start_ (n := 16) (S := fun w' => True) (ds := []) #[false, false, false, false, false, false, false, false, false, false, false, false, false, false, false, false] (by kernel_rfl) rfl rfl trivial (fun hHeld => ?_); refine with_tabW rialtoref4_bytes.tab7 rialtoref4_bytes.bits7 (fun HT_ HW_ => ?_)
            generalize wc.drew = w25 at HO_4 HB hHeld ⊢
            refine pure_ (i := 0) (N := some 32) (v := ?_) (a' := ?_) #[true, false, false, false, false, false, false, false, false, false, false, false, false, false, false, false] rfl rfl (any_of HT_.out (by kernel_rfl)) (fun _ _ _ h => h) (Or.inl ⟨by rfl, ?_⟩) ?_ ?_
            rotate_left
            ·intro w'
             go_simp
             with_reducible rfl
            rotate_left
            ·simp only [Act.put, List.setIfInBounds_toArray, List.set_cons_zero, List.set_cons_succ, i64_w, i32_w]
             rfl
            refine pure_ (i := 1) (N := some 33) (v := ?_) (a' := ?_) #[true, true, false, false, false, false, false, false, false, false, false, false, false, false, false, false] rfl rfl (any_of HT_.out (by kernel_rfl)) (fun _ _ _ h => h) (Or.inl ⟨by rfl, ?_⟩) ?_ ?_
            rotate_left
            ·intro w'
             go_simp
             with_reducible rfl
            rotate_left
            ·simp only [Act.put, List.setIfInBounds_toArray, List.set_cons_zero, List.set_cons_succ, i64_w, i32_w]
             rfl
            refine pure_ (i := 2) (N := some 34) (v := ?_) (a' := ?_) #[true, true, true, false, false, false, false, false, false, false, false, false, false, false, false, false] rfl rfl (any_of HT_.out (by kernel_rfl)) (fun _ _ _ h => h) (Or.inl ⟨by rfl, ?_⟩) ?_ ?_
            rotate_left
            ·intro w'
             go_simp
             with_reducible rfl
            rotate_left
            ·simp only [Act.put, List.setIfInBounds_toArray, List.set_cons_zero, List.set_cons_succ, i64_w, i32_w]
             rfl
            refine pure_ (i := 6) (N := some 38) (v := ?_) (a' := ?_) #[true, true, true, false, false, false, true, false, false, false, false, false, false, false, false, false] rfl rfl (any_of HT_.out (by kernel_rfl)) (fun _ _ _ h => h) (Or.inl ⟨by rfl, ?_⟩) ?_ ?_
            rotate_left
            ·intro w'
             go_simp
             with_reducible rfl
            rotate_left
            ·simp only [Act.put, List.setIfInBounds_toArray, List.set_cons_zero, List.set_cons_succ, i64_w, i32_w]
             rfl
            refine pure_ (i := 7) (N := some 39) (v := ?_) (a' := ?_) #[true, true, true, false, false, false, true, true, false, false, false, false, false, false, false, false] rfl rfl (any_of HT_.out (by kernel_rfl)) (fun _ _ _ h => h) (Or.inl ⟨by rfl, ?_⟩) ?_ ?_
            rotate_left
            ·intro w'
             go_simp
             with_reducible rfl
            rotate_left
            ·simp only [Act.put, List.setIfInBounds_toArray, List.set_cons_zero, List.set_cons_succ, i64_w, i32_w]
             rfl
            refine pure_ (i := 8) (N := some 40) (v := ?_) (a' := ?_) #[true, true, true, false, false, false, true, true, true, false, false, false, false, false, false, false] rfl rfl (any_of HT_.out (by kernel_rfl)) (fun _ _ _ h => h) (Or.inl ⟨by rfl, ?_⟩) ?_ ?_
            rotate_left
            ·intro w'
             go_simp
             with_reducible rfl
            rotate_left
            ·simp only [Act.put, List.setIfInBounds_toArray, List.set_cons_zero, List.set_cons_succ, i64_w, i32_w]
             rfl
            refine take_ (i := 3) (N := some 35) (v := ?_) (a' := ?_) #[true, true, true, true, false, false, true, true, true, false, false, false, false, false, false, false] rfl rfl (take_ofW HT_.out HW_.out (by kernel_rfl)) (fun _ _ _ h => h) (Or.inl ⟨by rfl, ?_⟩) hHeld ?_ ?_
            rotate_left
            ·intro w' _
             go_simp
             with_reducible rfl
            rotate_left
            ·simp only [Act.put, List.setIfInBounds_toArray, List.set_cons_zero, List.set_cons_succ, i64_w, i32_w]
             rfl
            refine take_ (i := 9) (N := some 41) (v := ?_) (a' := ?_) #[true, true, true, true, false, false, true, true, true, true, false, false, false, false, false, false] rfl rfl (take_ofW HT_.out HW_.out (by kernel_rfl)) (fun _ _ _ h => h) (Or.inl ⟨by rfl, ?_⟩) hHeld ?_ ?_
            rotate_left
            ·intro w' _
             go_simp
             with_reducible rfl
            rotate_left
            ·simp only [Act.put, List.setIfInBounds_toArray, List.set_cons_zero, List.set_cons_succ, i64_w, i32_w]
             rfl
            refine one_ (i := 4) (N := some 36) #[true, true, true, true, true, false, true, true, true, true, false, false, false, false, false, false] rfl rfl (one_of HT_.out (by kernel_rfl)) (by decide) (fun K hK => ?_)
            refine goes_ Tryd.func73 (by kernel_rfl) rfl #[.int .u8 (bt a0 x5_1)] (by rfl) rfl rfl (by (try simp only [List.map_toArray, List.map_cons, List.map_nil]); first | done | rfl | (simp only [List.length_drop, List.length_take]; rfl)) ?_
            with_reducible refine (rialtoref4_unhex.calls kj2 (bt a0 x5_1) t273 _ A18.out).mono ?_
            rintro e w' ⟨rfl, ⟨nd, rfl⟩⟩
            refine ⟨_, rfl, ?_⟩
            refine hK.out _ _ trivial (fun hHeld => ?_)
            clear hK K
            refine norm_ (a' := ?_) ?_ ?_
            rotate_left
            ·show Act.put _ (some 36) _ = _
             simp only [Act.put, List.setIfInBounds_toArray, List.set_cons_zero, List.set_cons_succ, i64_w, i32_w]
             rfl
            refine pure_ (i := 5) (N := some 37) (v := ?_) (a' := ?_) #[true, true, true, true, true, true, true, true, true, true, false, false, false, false, false, false] rfl rfl (any_of HT_.out (by kernel_rfl)) (fun _ _ _ h => h) (Or.inl ⟨by rfl, ?_⟩) ?_ ?_
            rotate_left
            ·intro w'
             go_simp
             with_reducible rfl
            rotate_left
            ·simp only [Act.put, List.setIfInBounds_toArray, List.set_cons_zero, List.set_cons_succ, i64_w, i32_w]
             rfl
            refine one_ (i := 10) (N := some 42) #[true, true, true, true, true, true, true, true, true, true, true, false, false, false, false, false] rfl rfl (one_of HT_.out (by kernel_rfl)) (by decide) (fun K hK => ?_)
            refine goes_ Tryd.func73 (by kernel_rfl) rfl #[.int .u8 (bt a0 (ji19))] (by rfl) rfl rfl (by (try simp only [List.map_toArray, List.map_cons, List.map_nil]); first | done | (simp only [hji19]; rfl) | rfl | (simp only [List.length_drop, List.length_take]; rfl)) ?_
            with_reducible refine (rialtoref4_unhex.calls kj2 (bt a0 (ji19)) t274 _ A23.out).mono ?_
            rintro e w' ⟨rfl, ⟨nd, rfl⟩⟩
            refine ⟨_, rfl, ?_⟩
            refine hK.out _ _ trivial (fun hHeld => ?_)
            clear hK K
            refine norm_ (a' := ?_) ?_ ?_
            rotate_left
            ·show Act.put _ (some 42) _ = _
             simp only [Act.put, List.setIfInBounds_toArray, List.set_cons_zero, List.set_cons_succ, i64_w, i32_w]
             rfl
            refine pure_ (i := 11) (N := some 43) (v := ?_) (a' := ?_) #[true, true, true, true, true, true, true, true, true, true, true, true, false, false, false, false] rfl rfl (any_of HT_.out (by kernel_rfl)) (fun _ _ _ h => h) (Or.inl ⟨by rfl, ?_⟩) ?_ ?_
            rotate_left
            ·intro w'
             go_simp
             with_reducible rfl
            rotate_left
            ·simp only [Act.put, List.setIfInBounds_toArray, List.set_cons_zero, List.set_cons_succ, i64_w, i32_w]
             rfl
            refine pure_ (i := 12) (N := some 44) (v := ?_) (a' := ?_) #[true, true, true, true, true, true, true, true, true, true, true, true, true, false, false, false] rfl rfl (any_of HT_.out (by kernel_rfl)) (fun _ _ _ h => h) (Or.inl ⟨by rfl, ?_⟩) ?_ ?_
            rotate_left
            ·intro w'
             go_simp
             with_reducible rfl
            rotate_left
            ·simp only [Act.put, List.setIfInBounds_toArray, List.set_cons_zero, List.set_cons_succ, i64_w, i32_w]
             rfl
            refine one_ (i := 13) (N := some 45) #[true, true, true, true, true, true, true, true, true, true, true, true, true, true, false, false] rfl rfl (one_of HT_.out (by kernel_rfl)) (by decide) (fun K hK => ?_)
            refine value_ (w1 := ?_) (v := ?_) (by rfl) rfl ?_ ?_
            rotate_left 2
            ·go_simp
             constructor
             ·rfl
             ·rfl
            refine hK.out _ _ trivial (fun hHeld => ?_)
            clear hK K
            refine norm_ (a' := ?_) ?_ ?_
            rotate_left
            ·show Act.put _ (some 45) _ = _
             simp only [Act.put, List.setIfInBounds_toArray, List.set_cons_zero, List.set_cons_succ, i64_w, i32_w]
             rfl
            refine one_ (i := 14) (N := some 46) #[true, true, true, true, true, true, true, true, true, true, true, true, true, true, true, false] rfl rfl (one_of HT_.out (by kernel_rfl)) (by decide) (fun K hK => ?_)
            refine Kd.R_append_step (Kd.int .u8) (w0 := w) w.heap.size (by rfl) (.tmp 32) (.tmp 45) 57 5 (.int .u8 0) 1 rfl Tryd.underlying57 info5 rfl (by decide) (by omega) u4 x4_1 ((wrap64 ((wrap64 (16 * t273)) + t274)) % 256) [.int .u8 ((wrap64 ((wrap64 (16 * t273)) + t274)) % 256)] (fun _ => True) (fun _ => False) rfl rfl ?aP (fun _ hk => hk.elim) ?aF ?aO ?aB ?aS ?aL ?_
            (case aP => exact rfl)
            (case aB => exact (by repeat (first | (with_reducible first | exact HB.out | apply below_alloc | apply pw_below_drewN | apply below_drew1) | exact HB.out)))
            (case aF => exact (fun _ _ => trivial))
            (case aO => exact (by (with_reducible repeat (first | apply Kd.R_alloc | apply Kd.R_drewN | apply Kd.R_drew)); exact HO_4.out))
            (case aS => exact (below_size (by repeat (first | (with_reducible first | exact HB.out | apply below_alloc | apply pw_below_drewN | apply below_drew1) | exact HB.out))))
            (case aL => have := LMc24.out; omega)
            intro v276 w26 ho hb hg hat
            rw [← Ny275.out] at ho
            have n0_ := Aside0.mk (hb)
            have n1_ := Aside0.mk (ho)
            clear HB
            clear HO_4
            have HB := n0_
            have HO277 := n1_
            clear n0_ n1_
            clear ho hb hg hat
            refine hK.out _ _ trivial (fun hHeld => ?_)
            clear hK K
            refine norm_ (a' := ?_) ?_ ?_
            rotate_left
            ·show Act.put _ (some 46) _ = _
             simp only [Act.put, List.setIfInBounds_toArray, List.set_cons_zero, List.set_cons_succ, i64_w, i32_w]
             rfl
            refine pure_ (i := 15) (N := some 4) (v := ?_) (a' := ?_) #[true, true, true, true, true, true, true, true, true, true, true, true, true, true, true, true] rfl rfl (any_of HT_.out (by kernel_rfl)) (fun _ _ _ h => h) (Or.inl ⟨by rfl, ?_⟩) ?_ ?_
            rotate_left
            ·intro w'
             go_simp
             with_reducible rfl
            rotate_left
            ·simp only [Act.put, List.setIfInBounds_toArray, List.set_cons_zero, List.set_cons_succ, i64_w, i32_w]
             rfl
            refine done_ (done_of HT_.out (by kernel_rfl)) ?_
            try go_wp2
            go_roundg kj2
            case measure => have := HK1.out; have := HJ2.out; omega
            case rel => exact ⟨(y275), (wrap64 (x5_1 + 2)), (by first | rfl | (simp; done) | (simp [*]; done)), H', ⟨by have := HK1.out; have := HJ2.out; omega⟩, ⟨by (with_reducible repeat (first | apply Kd.R_alloc | apply Kd.R_drewN | apply Kd.R_drew)); exact HO277.out⟩, ⟨by repeat (first | (with_reducible first | exact HB.out | apply below_alloc | apply pw_below_drewN | apply below_drew1) | exact HB.out)⟩⟩
           ·rw [if_neg c24] at H
            exact absurd H (by simp)
          ·rw [if_neg c21] at H
           exact absurd H (by simp)
         ·rw [if_neg c20] at H
          exact absurd H (by simp)
        ·rw [if_neg c16] at H
         exact absurd H (by simp)
       ·rw [if_neg c15] at H
        exact absurd H (by simp)
   ·rw [if_neg c2] at H
    have c2b0 : decide (x5_1 < (a0.size : Int)) = false := decide_eq_false c2
    clear c2
    simp only [Option.some.injEq, Prod.mk.injEq] at H
    obtain ⟨rfl, rfl⟩ := H
    go_wp2
    go_ret2
    exact ⟨_, by first | rfl | (simp [errW_none, errW_some] <;> rfl) | (simp [*, errW_none, errW_some] <;> rfl), by (with_reducible repeat (first | apply Kd.R_alloc | apply Kd.R_drewN | apply Kd.R_drew)); exact HO_4.out, by repeat (first | (with_reducible first | exact HB.out | apply below_alloc | apply pw_below_drewN | apply below_drew1) | exact HB.out)⟩
end Go.Proofs.YtpjfhdbkkomogaaDoor.Px
namespace Go.Proofs.YtpjfhdbkkomogaaDoor.Mb
open Go.RowKit Go.Proofs.YtpjfhdbkkomogaaDoorW.PrintWords Go.Proofs.YtpjfhdbkkomogaaDoorW.PrintLast Go.Proofs.YtpjfhdbkkomogaaDoorW.PrintMore Go.Proofs.YtpjfhdbkkomogaaDoor.Px Go.Proofs.YtpjfhdbkkomogaaDoor.Gvn
def uh (a : Int) : Int := if 48 ≤ a ∧ a ≤ 57 then a - 48 else if 97 ≤ a ∧ a ≤ 102 then a - 87 else -1
theorem unhex_is (k : Nat) (a : Int) : rialtoref4_unhex.f (k + 1) a = some (uh a) := by
  unfold rialtoref4_unhex.f uh
  by_cases h1 : a ≥ 48
  · rw [if_pos h1, rialtoref4_unhex.j0]
    by_cases h2 : a ≤ 57
    · rw [if_pos (decide_eq_true h2), if_pos (show 48 ≤ a ∧ a ≤ 57 from ⟨h1, h2⟩)]
      congr 1
      omega
    · rw [if_neg (by rw [decide_eq_false h2]; decide), if_neg (show ¬ (48 ≤ a ∧ a ≤ 57) by omega)]
      by_cases h3 : a ≥ 97
      · rw [if_pos h3]
        by_cases h4 : a ≤ 102
        · rw [if_pos h4, if_pos (show 97 ≤ a ∧ a ≤ 102 from ⟨h3, h4⟩)]
          congr 1
          omega
        · rw [if_neg h4, if_neg (show ¬ (97 ≤ a ∧ a ≤ 102) by omega)]
      · rw [if_neg h3, if_neg (show ¬ (97 ≤ a ∧ a ≤ 102) by omega)]
  · rw [if_neg h1, rialtoref4_unhex.j0, if_neg (by decide), if_neg (show ¬ a ≥ 97 by omega), if_neg (show ¬ (48 ≤ a ∧ a ≤ 57) by omega), if_neg (show ¬ (97 ≤ a ∧ a ≤ 102) by omega)]
theorem uh_hx : ∀ n, n < 16 → uh ((hx n).toNat : Int) = n := by decide
theorem uh_pair (c : UInt8) : (wrap64 ((wrap64 (16 * ((c.toNat / 16 : Nat) : Int))) + ((c.toNat % 16 : Nat) : Int))) % 256 = (c.toNat : Int) := by
  have hc := c.toNat_lt
  have h1 : wrap64 (16 * ((c.toNat / 16 : Nat) : Int)) = 16 * ((c.toNat / 16 : Nat) : Int) := wrap_in _ (by omega) (by omega)
  rw [h1, wrap_in _ (by omega) (by omega)]
  omega
theorem wrap_nat (i j : Nat) (h : i + j ≤ 1000000) : wrap64 ((i : Int) + (j : Int)) = ((i + j : Nat) : Int) := by rw [wrap_in _ (by omega) (by omega)]; omega
theorem bytes_total (x : ByteArray) (hx : x.size ≤ 100000) : ∀ (d i : Nat) (acc : List Int), x.size ≤ i + d → i ≤ x.size + 1 → acc.length + d ≤ 200000 →
    ∃ k r, rialtoref4_bytes.l0 k x acc (i : Int) = some r ∧ (r.2 = true → x.size = i + 2 * (r.1.length - acc.length) ∧ acc.length ≤ r.1.length ∨ x.size + 1 = i) := by
  intro d
  induction d using Nat.strongRecOn with
  | _ d ih =>
  intro i acc hd hi ha
  have w1 : wrap64 ((i : Int) + 1) = ((i + 1 : Nat) : Int) := wrap_nat i 1 (by omega)
  have w2 : wrap64 ((i : Int) + 2) = ((i + 2 : Nat) : Int) := wrap_nat i 2 (by omega)
  by_cases h1 : (i : Int) < (x.size : Int)
  · have stop : ∀ k, rialtoref4_bytes.j1 (k + 1) x acc (i : Int) true = some ([], false) := fun k => by rw [rialtoref4_bytes.j1, if_pos rfl]
    by_cases h2 : wrap64 ((i : Int) + 1) = (x.size : Int)
    · exact ⟨2, ([], false), by rw [rialtoref4_bytes.l0, if_pos h1, if_pos h2, stop], fun h => by cases h⟩
    · rw [w1] at h2
      by_cases h3 : uh (bt x (i : Int)) < 0
      · refine ⟨3, ([], false), ?_, fun h => by cases h⟩
        rw [rialtoref4_bytes.l0, if_pos h1, w1, if_neg h2, if_pos (by omega), unhex_is, Option.bind_some, if_pos h3, stop]
      · by_cases h4 : uh (bt x ((i + 1 : Nat) : Int)) < 0
        · refine ⟨3, ([], false), ?_, fun h => by cases h⟩
          rw [rialtoref4_bytes.l0, if_pos h1, w1, if_neg h2, if_pos (by omega), unhex_is, Option.bind_some, if_neg h3, if_pos (by omega), if_pos (by omega), unhex_is, Option.bind_some, decide_eq_true h4, stop]
        · obtain ⟨k, r, hk, hr⟩ := ih (d - 2) (by omega) (i + 2) (acc ++ [(wrap64 ((wrap64 (16 * uh (bt x (i : Int)))) + uh (bt x ((i + 1 : Nat) : Int)))) % 256]) (by omega) (by omega) (by rw [List.length_append, List.length_cons, List.length_nil]; omega)
          refine ⟨k + 3, r, ?_, fun h => ?_⟩
          · have hk' := (rialtoref4_bytes.mono_l k).1 _ _ _ _ hk
            rw [rialtoref4_bytes.l0, if_pos h1, w1, if_neg h2, if_pos (by omega), unhex_is, Option.bind_some, if_neg h3, if_pos (by omega), if_pos (by omega), unhex_is, Option.bind_some, decide_eq_false h4, rialtoref4_bytes.j1, if_neg (by decide), if_pos (by omega), if_pos h1, unhex_is, Option.bind_some, w1, if_pos (by omega), if_pos (by omega), unhex_is, Option.bind_some, if_pos (by omega), w2, hk']
          · have := hr h
            rw [List.length_append, List.length_cons, List.length_nil] at this
            omega
  · refine ⟨1, (acc, true), by rw [rialtoref4_bytes.l0, if_neg h1], fun _ => ?_⟩
    dsimp only
    omega
theorem bt_at2 (pre post : List UInt8) (c : UInt8) (j : Nat) (l : List UInt8) (h : l = pre ++ c :: post) (hj : j = pre.length) : bt (B l) (j : Int) = (c.toNat : Int) := by
  subst h
  subst hj
  exact bt_mid pre post c
theorem bytes_is (d : Nat) : ∀ (k : Nat) (pre post : List UInt8), post.length = d → 3 * d + 3 < k → pre.length + post.length ≤ 1000 →
    rialtoref4_bytes.l0 k (B (hexL (pre ++ post))) (N pre) ((2 * pre.length : Nat) : Int) = some (N (pre ++ post), true) := by
  induction d with
  | zero =>
    intro k pre post hd hk hb
    obtain ⟨k, rfl⟩ : ∃ m, k = m + 1 := ⟨k - 1, by omega⟩
    obtain rfl : post = [] := List.length_eq_zero_iff.1 hd
    rw [List.append_nil, rialtoref4_bytes.l0, if_neg (by rw [size_B, hexL_length]; omega)]
  | succ d ih =>
    intro k pre post hd hk hb
    obtain ⟨k, rfl⟩ : ∃ m, k = m + 3 := ⟨k - 3, by omega⟩
    cases post with
    | nil => simp at hd
    | cons c post =>
      have hd' : post.length = d := by simpa using hd
      have hb' : pre.length + (post.length + 1) ≤ 1000 := by simpa using hb
      have hc := c.toNat_lt
      have hs : (B (hexL (pre ++ c :: post))).size = 2 * pre.length + 2 * (post.length + 1) := by rw [size_B, hexL_length]; simp; omega
      have e1 : hexL (pre ++ c :: post) = hexL pre ++ hx (c.toNat / 16) :: (hx (c.toNat % 16) :: hexL post) := by rw [hexL_append]; rfl
      have e2 : hexL (pre ++ c :: post) = (hexL pre ++ [hx (c.toNat / 16)]) ++ hx (c.toNat % 16) :: hexL post := by rw [e1, List.append_assoc]; rfl
      have b0 : bt (B (hexL (pre ++ c :: post))) ((2 * pre.length : Nat) : Int) = ((hx (c.toNat / 16)).toNat : Int) := bt_at2 _ _ _ _ _ e1 (hexL_length pre).symm
      have b1 : bt (B (hexL (pre ++ c :: post))) ((2 * pre.length + 1 : Nat) : Int) = ((hx (c.toNat % 16)).toNat : Int) := bt_at2 _ _ _ _ _ e2 (by rw [List.length_append, hexL_length]; rfl)
      have w1 : wrap64 (((2 * pre.length : Nat) : Int) + 1) = ((2 * pre.length + 1 : Nat) : Int) := wrap_nat _ 1 (by omega)
      have w2 : wrap64 (((2 * pre.length : Nat) : Int) + 2) = ((2 * pre.length + 2 : Nat) : Int) := wrap_nat _ 2 (by omega)
      have h := ih (k + 1) (pre ++ [c]) post hd' (by omega) (by rw [List.length_append, List.length_singleton]; omega)
      have e3 : pre ++ [c] ++ post = pre ++ c :: post := by rw [List.append_assoc]; rfl
      have e4 : ((2 * (pre ++ [c]).length : Nat) : Int) = ((2 * pre.length + 2 : Nat) : Int) := by rw [List.length_append, List.length_singleton]; omega
      rw [e3, e4] at h
      rw [rialtoref4_bytes.l0, if_pos (by omega), w1, if_neg (by omega), if_pos (by omega), unhex_is, Option.bind_some, b0, uh_hx _ (by omega), if_neg (by omega), if_pos (by omega), if_pos (by omega), unhex_is, Option.bind_some, b1, uh_hx _ (by omega), decide_eq_false (by omega), rialtoref4_bytes.j1, if_neg (by decide), if_pos (by omega), if_pos (by omega), unhex_is, Option.bind_some, w1, if_pos (by omega), if_pos (by omega), unhex_is, Option.bind_some, b0, b1, uh_hx _ (by omega), uh_hx _ (by omega), if_pos (by rw [N_length]; omega), uh_pair, w2, show ([(c.toNat : Int)] : List Int) = N [c] from rfl, N_append]
      exact h
theorem runq_total (x : ByteArray) (hx : x.size ≤ 100000) : ∀ (d i : Nat) (acc : List Int), x.size ≤ i + d → i ≤ x.size + 4 → acc.length + d ≤ 200000 → ∃ k r, rialtoref4_unquoted.l0 k x acc (i : Int) = some r := by
  intro d
  induction d using Nat.strongRecOn with
  | _ d ih =>
  intro i acc hd hi ha
  have w1 : wrap64 ((i : Int) + 1) = ((i + 1 : Nat) : Int) := wrap_nat i 1 (by omega)
  have w2 : wrap64 ((i : Int) + 2) = ((i + 2 : Nat) : Int) := wrap_nat i 2 (by omega)
  have w3 : wrap64 ((i : Int) + 3) = ((i + 3 : Nat) : Int) := wrap_nat i 3 (by omega)
  have w11 : wrap64 (((i + 1 : Nat) : Int) + 1) = ((i + 2 : Nat) : Int) := wrap_nat (i + 1) 1 (by omega)
  have w31 : wrap64 (((i + 3 : Nat) : Int) + 1) = ((i + 4 : Nat) : Int) := wrap_nat (i + 3) 1 (by omega)
  by_cases h1 : ((i + 1 : Nat) : Int) < (x.size : Int)
  · have len1 : ∀ z : Int, (acc ++ [z]).length = acc.length + 1 := fun z => by rw [List.length_append, List.length_cons, List.length_nil]
    by_cases h92 : bt x (i : Int) = 92
    · have no : ∃ k r, rialtoref4_unquoted.j1 (k + 1) x acc (i : Int) false = some r := by
        obtain ⟨k, r, hk⟩ := ih (d - 2) (by omega) (i + 2) (acc ++ [bt x ((i + 1 : Nat) : Int)]) (by omega) (by omega) (by rw [len1]; omega)
        refine ⟨k, r, ?_⟩
        rw [rialtoref4_unquoted.j1, if_neg (by decide), w1, if_pos (by omega), if_pos (by omega), if_pos (by omega), w11, hk]
      obtain ⟨k0, r0, hk0⟩ := no
      have hk0' : rialtoref4_unquoted.j1 (k0 + 2) x acc (i : Int) false = some r0 := (rialtoref4_unquoted.mono_l (k0 + 1)).2 _ _ _ _ _ hk0
      by_cases hx1 : bt x ((i + 1 : Nat) : Int) = 120
      · by_cases h3 : ((i + 3 : Nat) : Int) < (x.size : Int)
        · by_cases u2 : uh (bt x ((i + 2 : Nat) : Int)) ≥ 0
          · by_cases u3 : uh (bt x ((i + 3 : Nat) : Int)) ≥ 0
            · obtain ⟨k, r, hk⟩ := ih (d - 4) (by omega) (i + 4) (acc ++ [(wrap64 ((wrap64 (16 * uh (bt x ((i + 2 : Nat) : Int)))) + uh (bt x ((i + 3 : Nat) : Int)))) % 256]) (by omega) (by omega) (by rw [len1]; omega)
              refine ⟨k + 3, r, ?_⟩
              have hk' := (rialtoref4_unquoted.mono_l k).1 _ _ _ _ hk
              rw [rialtoref4_unquoted.l0, w1, w2, w3, if_pos h1, if_pos (by omega), if_pos (by omega), if_pos h92, if_pos (by omega), if_pos hx1, if_pos h3, if_pos (by omega), if_pos (by omega), unhex_is, Option.bind_some, if_pos u2, if_pos (by omega), unhex_is, Option.bind_some, decide_eq_true u3, rialtoref4_unquoted.j1, if_pos rfl, w2, w3, if_pos (by omega), if_pos (by omega), unhex_is, Option.bind_some, if_pos (by omega), if_pos h3, unhex_is, Option.bind_some, if_pos (by omega), w31, hk']
            · refine ⟨k0 + 3, r0, ?_⟩
              rw [rialtoref4_unquoted.l0, w1, w2, w3, if_pos h1, if_pos (by omega), if_pos (by omega), if_pos h92, if_pos (by omega), if_pos hx1, if_pos h3, if_pos (by omega), if_pos (by omega), unhex_is, Option.bind_some, if_pos u2, if_pos (by omega), unhex_is, Option.bind_some, decide_eq_false u3, hk0']
          · refine ⟨k0 + 3, r0, ?_⟩
            rw [rialtoref4_unquoted.l0, w1, w2, w3, if_pos h1, if_pos (by omega), if_pos (by omega), if_pos h92, if_pos (by omega), if_pos hx1, if_pos h3, if_pos (by omega), if_pos (by omega), unhex_is, Option.bind_some, if_neg u2, hk0']
        · refine ⟨k0 + 3, r0, ?_⟩
          rw [rialtoref4_unquoted.l0, w1, w2, w3, if_pos h1, if_pos (by omega), if_pos (by omega), if_pos h92, if_pos (by omega), if_pos hx1, if_neg h3, hk0']
      · refine ⟨k0 + 3, r0, ?_⟩
        rw [rialtoref4_unquoted.l0, w1, w2, w3, if_pos h1, if_pos (by omega), if_pos (by omega), if_pos h92, if_pos (by omega), if_neg hx1, hk0']
    · obtain ⟨k, r, hk⟩ := ih (d - 1) (by omega) (i + 1) (acc ++ [bt x (i : Int)]) (by omega) (by omega) (by rw [len1]; omega)
      refine ⟨k + 1, r, ?_⟩
      rw [rialtoref4_unquoted.l0, w1, w2, w3, if_pos h1, if_pos (by omega), if_pos (by omega), if_neg h92, if_pos (by omega), hk]
  · refine ⟨1, strOfNums acc, ?_⟩
    rw [rialtoref4_unquoted.l0, w1, if_neg h1]
theorem runq_plain (k : Nat) (x : ByteArray) (acc : List Int) (i sz : Nat) (c : UInt8) (hsz : x.size = sz) (hs : i + 1 < sz) (hb : sz ≤ 100000) (b0 : bt x (i : Int) = (c.toNat : Int)) (h92 : ¬ ((c.toNat : Int) = 92)) (hl : acc.length < 140737488355328) :
    rialtoref4_unquoted.l0 (k + 1) x acc (i : Int) = rialtoref4_unquoted.l0 k x (acc ++ [(c.toNat : Int)]) ((i + 1 : Nat) : Int) := by
  have w1 : Hid (wrap64 ((i : Int) + 1) = ((i + 1 : Nat) : Int)) := Lib.hid (wrap_nat i 1 (by omega))
  rw [rialtoref4_unquoted.l0, hsz, w1.out, if_pos (by omega), if_pos (by omega), if_pos (by omega), b0, if_neg h92, if_pos hl]
theorem runq_esc (k : Nat) (x : ByteArray) (acc : List Int) (i sz : Nat) (c : UInt8) (hsz : x.size = sz) (hs : i + 2 < sz) (hb : sz ≤ 100000) (b0 : bt x (i : Int) = 92) (b1 : bt x ((i + 1 : Nat) : Int) = (c.toNat : Int)) (hne : ¬ ((c.toNat : Int) = 120)) (hl : acc.length < 140737488355328) :
    rialtoref4_unquoted.l0 (k + 2) x acc (i : Int) = rialtoref4_unquoted.l0 k x (acc ++ [(c.toNat : Int)]) ((i + 2 : Nat) : Int) := by
  have w1 : Hid (wrap64 ((i : Int) + 1) = ((i + 1 : Nat) : Int)) := Lib.hid (wrap_nat i 1 (by omega))
  have w11 : Hid (wrap64 (((i + 1 : Nat) : Int) + 1) = ((i + 2 : Nat) : Int)) := Lib.hid (wrap_nat (i + 1) 1 (by omega))
  rw [rialtoref4_unquoted.l0, hsz, w1.out, if_pos (by omega), if_pos (by omega), if_pos (by omega), b0, if_pos rfl, if_pos (by omega), b1, if_neg hne, rialtoref4_unquoted.j1, hsz, if_neg (by decide), w1.out, if_pos (by omega), if_pos (by omega), if_pos hl, b1, w11.out]
theorem uh_hi (c : UInt8) : Hid (uh ((hx (c.toNat / 16)).toNat : Int) = ((c.toNat / 16 : Nat) : Int)) := Lib.hid (uh_hx _ (by have := c.toNat_lt; omega))
theorem uh_lo (c : UInt8) : Hid (uh ((hx (c.toNat % 16)).toNat : Int) = ((c.toNat % 16 : Nat) : Int)) := Lib.hid (uh_hx _ (by omega))
theorem nat_ge (n : Nat) : Hid (((n : Nat) : Int) ≥ 0) := Lib.hid (by omega)
theorem runq_hex (k : Nat) (x : ByteArray) (acc : List Int) (i sz : Nat) (c : UInt8) (hsz : x.size = sz) (hs : i + 4 < sz) (hb : sz ≤ 100000) (b0 : bt x (i : Int) = 92) (b1 : bt x ((i + 1 : Nat) : Int) = 120) (b2 : Hid (bt x ((i + 2 : Nat) : Int) = ((hx (c.toNat / 16)).toNat : Int))) (b3 : Hid (bt x ((i + 3 : Nat) : Int) = ((hx (c.toNat % 16)).toNat : Int))) (hl : acc.length < 140737488355328) (j : Nat) (hj : j = k + 1) :
    rialtoref4_unquoted.l0 (k + 3) x acc (i : Int) = rialtoref4_unquoted.l0 j x (acc ++ [(c.toNat : Int)]) ((i + 4 : Nat) : Int) := by
  have w1 : Hid (wrap64 ((i : Int) + 1) = ((i + 1 : Nat) : Int)) := Lib.hid (wrap_nat i 1 (by omega))
  have w2 : Hid (wrap64 ((i : Int) + 2) = ((i + 2 : Nat) : Int)) := Lib.hid (wrap_nat i 2 (by omega))
  have w3 : Hid (wrap64 ((i : Int) + 3) = ((i + 3 : Nat) : Int)) := Lib.hid (wrap_nat i 3 (by omega))
  have w31 : Hid (wrap64 (((i + 3 : Nat) : Int) + 1) = ((i + 4 : Nat) : Int)) := Lib.hid (wrap_nat (i + 3) 1 (by omega))
  have u2 := uh_hi c
  have u3 := uh_lo c
  have g2 := nat_ge (c.toNat / 16)
  have g3 := nat_ge (c.toNat % 16)
  have hp := Lib.hid (uh_pair c)
  rw [rialtoref4_unquoted.l0, hsz, w1.out, w2.out, w3.out, if_pos (by omega), if_pos (by omega), if_pos (by omega), b0, if_pos rfl, if_pos (by omega), b1, if_pos rfl, if_pos (by omega), if_pos (by omega), if_pos (by omega), unhex_is, Option.bind_some, b2.out, u2.out, if_pos g2.out, if_pos (by omega), unhex_is, Option.bind_some, b3.out, u3.out, decide_eq_true g3.out, rialtoref4_unquoted.j1, hsz, if_pos rfl, w2.out, w3.out, if_pos (by omega), if_pos (by omega), unhex_is, Option.bind_some, if_pos (by omega), if_pos (by omega), unhex_is, Option.bind_some, b2.out, b3.out, u2.out, u3.out, if_pos hl, hp.out, w31.out, hj]
theorem lt_of_sum {sz i el pl : Nat} (h : sz = i + el + (pl + 1)) : i + el < sz := by omega
theorem le_of_sum {sz i el pl a b : Nat} (h : sz = i + el + (pl + 1)) (h1 : i ≤ 4001) (h2 : el ≤ 4) (h3 : pl ≤ 4 * b) (h4 : a + (b + 1) ≤ 1000) : sz ≤ 100000 := by omega
theorem i_of_sum {i fl a b : Nat} (h : 1 + fl = i) (h1 : fl ≤ 4 * a) (h4 : a + (b + 1) ≤ 1000) : i ≤ 4001 := by omega
theorem runq_is (d : Nat) : ∀ (k : Nat) (pre post : List UInt8), post.length = d → 2 * d + 2 < k → pre.length + post.length ≤ 1000 →
    rialtoref4_unquoted.l0 k (B (quoteL (pre ++ post))) (N pre) ((1 + (pre.flatMap esc).length : Nat) : Int) = some (B (pre ++ post)) := by
  induction d with
  | zero =>
    intro k pre post hd hk hb
    obtain ⟨k, rfl⟩ : ∃ m, k = m + 1 := ⟨k - 1, by omega⟩
    obtain rfl : post = [] := List.length_eq_zero_iff.1 hd
    have hf := flat_length pre
    rw [List.length_nil] at hb
    rw [List.append_nil]
    have w1 : wrap64 (((1 + (pre.flatMap esc).length : Nat) : Int) + 1) = ((1 + (pre.flatMap esc).length + 1 : Nat) : Int) := wrap_nat _ 1 (by omega)
    rw [rialtoref4_unquoted.l0, w1, if_neg (by rw [size_B]; unfold quoteL; rw [List.length_append, List.length_cons, List.length_cons, List.length_nil]; omega), str_N]
  | succ d ih =>
    intro k pre post hd hk hb
    obtain ⟨k, rfl⟩ : ∃ m, k = m + 2 := ⟨k - 2, by omega⟩
    obtain ⟨k, rfl⟩ : ∃ m, k = m + 1 := ⟨k - 1, by omega⟩
    cases post with
    | nil => simp at hd
    | cons c post =>
      have hd' : post.length = d := by simpa using hd
      have hb' : pre.length + (post.length + 1) ≤ 1000 := by simpa using hb
      have hc := c.toNat_lt
      have hf := flat_length pre
      have hg := flat_length post
      have hq : quoteL (pre ++ c :: post) = (34 :: pre.flatMap esc) ++ (esc c ++ (post.flatMap esc ++ [34])) := by
        unfold quoteL
        rw [List.flatMap_append, List.flatMap_cons]
        simp
      have h := ih (k + 1) (pre ++ [c]) post hd' (by omega) (by rw [List.length_append, List.length_singleton]; omega)
      have e3 : pre ++ [c] ++ post = pre ++ c :: post := by rw [List.append_assoc]; rfl
      rw [e3, ← N_append] at h
      have e4 : (1 + ((pre ++ [c]).flatMap esc).length) = 1 + (pre.flatMap esc).length + (esc c).length := by
        rw [List.flatMap_append, List.length_append, List.flatMap_cons, List.flatMap_nil, List.append_nil, Nat.add_assoc]
      rw [e4] at h
      have hs0 : (B (quoteL (pre ++ c :: post))).size = 1 + (pre.flatMap esc).length + (esc c).length + ((post.flatMap esc).length + 1) := by
        rw [size_B, hq, List.length_append, List.length_cons, List.length_append, List.length_append]
        simp only [List.length_cons, List.length_nil, Nat.add_comm, Nat.add_left_comm, Nat.zero_add]
      have hi' : 1 + (pre.flatMap esc).length = (34 :: pre.flatMap esc).length := by rw [List.length_cons, Nat.add_comm]
      have hNl : (N pre).length < 140737488355328 := by rw [N_length]; omega
      have hi1 := i_of_sum rfl hf hb'
      obtain ⟨sz, hsz⟩ : ∃ sz, (B (quoteL (pre ++ c :: post))).size = sz := ⟨_, rfl⟩
      rw [hsz] at hs0
      generalize 1 + (pre.flatMap esc).length = i at h hs0 hi' hi1 ⊢
      by_cases hq1 : c = 34 ∨ c = 92
      · have he : esc c = [92, c] := by unfold esc; rw [if_pos hq1]
        rw [he] at hq hs0 h
        have b0 : bt (B (quoteL (pre ++ c :: post))) (i : Int) = 92 := bt_at2 (34 :: pre.flatMap esc) (c :: (post.flatMap esc ++ [34])) 92 _ _ (by rw [hq]; rfl) hi'
        have b1 : bt (B (quoteL (pre ++ c :: post))) ((i + 1 : Nat) : Int) = (c.toNat : Int) := bt_at2 ((34 :: pre.flatMap esc) ++ [92]) (post.flatMap esc ++ [34]) _ _ _ (by rw [hq]; simp) (by rw [List.length_append, ← hi']; rfl)
        have hne : ¬ ((c.toNat : Int) = 120) := by rcases hq1 with rfl | rfl <;> decide
        rw [runq_esc (k + 1) _ _ i sz c hsz (lt_of_sum hs0) (le_of_sum hs0 hi1 (by simp) hg hb') b0 b1 hne hNl]
        exact h
      · by_cases hq2 : c < 32 ∨ 126 < c
        · have he : esc c = [92, 120, hx (c.toNat / 16), hx (c.toNat % 16)] := by unfold esc; rw [if_neg hq1, if_pos hq2]; rfl
          rw [he] at hq hs0 h
          have b0 : bt (B (quoteL (pre ++ c :: post))) (i : Int) = 92 := bt_at2 (34 :: pre.flatMap esc) (120 :: hx (c.toNat / 16) :: hx (c.toNat % 16) :: (post.flatMap esc ++ [34])) 92 _ _ (by rw [hq]; rfl) hi'
          have b1 : bt (B (quoteL (pre ++ c :: post))) ((i + 1 : Nat) : Int) = 120 := bt_at2 ((34 :: pre.flatMap esc) ++ [92]) (hx (c.toNat / 16) :: hx (c.toNat % 16) :: (post.flatMap esc ++ [34])) 120 _ _ (by rw [hq]; simp) (by rw [List.length_append, ← hi']; rfl)
          have b2 : Hid (bt (B (quoteL (pre ++ c :: post))) ((i + 2 : Nat) : Int) = ((hx (c.toNat / 16)).toNat : Int)) := bt_at2 ((34 :: pre.flatMap esc) ++ [92, 120]) (hx (c.toNat % 16) :: (post.flatMap esc ++ [34])) _ _ _ (by rw [hq]; simp) (by rw [List.length_append, ← hi']; rfl)
          have b3 : Hid (bt (B (quoteL (pre ++ c :: post))) ((i + 3 : Nat) : Int) = ((hx (c.toNat % 16)).toNat : Int)) := bt_at2 ((34 :: pre.flatMap esc) ++ [92, 120, hx (c.toNat / 16)]) (post.flatMap esc ++ [34]) _ _ _ (by rw [hq]; simp) (by rw [List.length_append, ← hi']; rfl)
          rw [runq_hex k _ _ i sz c hsz (lt_of_sum hs0) (le_of_sum hs0 hi1 (by simp) hg hb') b0 b1 b2 b3 hNl (k + 1) rfl]
          exact h
        · have he : esc c = [c] := by unfold esc; rw [if_neg hq1, if_neg hq2]
          rw [he] at hq hs0 h
          have b0 : bt (B (quoteL (pre ++ c :: post))) (i : Int) = (c.toNat : Int) := bt_at2 (34 :: pre.flatMap esc) (post.flatMap esc ++ [34]) _ _ _ (by rw [hq]; rfl) hi'
          have h92 : ¬ ((c.toNat : Int) = 92) := (b_92 c).1 fun h => hq1 (.inr h)
          rw [runq_plain (k + 2) _ _ i sz c hsz (lt_of_sum hs0) (le_of_sum hs0 hi1 (by simp) hg hb') b0 h92 hNl]
          exact (rialtoref4_unquoted.mono_l (k + 1)).1 _ _ _ _ h
end Go.Proofs.YtpjfhdbkkomogaaDoor.Mb
