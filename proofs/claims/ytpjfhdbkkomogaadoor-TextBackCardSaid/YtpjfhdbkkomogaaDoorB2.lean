/- Texts of this claim, one behind the other. -/
import Derived.Test.YtpjfhdbkkomogaaDoorB0
import Derived.Test.YtpjfhdbkkomogaaDoorB1
import Derived.Lib.Repeat
import Derived.Test.YtpjfhdbkkomogaaDoorRows
import Derived.Lib.LaidTab
import Derived.Lib.ItoaNum
import Derived.LaidMore
import Derived.LaidSub
import Derived.MakeChecks
import Derived.ProofKit
import Derived.Lib.ParseIntB
import Derived.Shelf.LaysM
import Derived.Shelf.LaysC
import Derived.Shelf.Strconv.Itoa4
import Derived.Shelf.Strconv.ErrVarParseInt
import Derived.Ground.NamesProg
import Derived.Test.YtpjfhdbkkomogaaDoorProg
import Derived.RegionTactic
import Derived.BigRegion
import Derived.ChangeAlike
import Derived.LoopTactic
import Derived.Laws.IdiomStrings
import Derived.Laws.Bits64b
import Derived.Lib.ItoaMem
import Derived.KernelRfl
import Derived.Lib.Strings
import Derived.Lib.Walk
import Derived.Lib.ConvBytes
import Derived.Lib.AtoiAllMem
import Derived.Lib.AtoiErrMem
import Derived.Lib.SmallJoins
import Derived.Lib.Hide
import Derived.Laws.Strings3
import Derived.Laws.Closers25
import Derived.Laws.Closers25b
/- The library's tables that the texts read; small closed calls by the library's contracts: a power of two's place, noughts repeated. -/
namespace Go.Ex
open Go.Proofs Go.RowKit
def d64 : List Value := [.int .u8 0, .int .u8 1, .int .u8 56, .int .u8 2, .int .u8 57, .int .u8 49, .int .u8 28, .int .u8 3, .int .u8 61, .int .u8 58, .int .u8 42, .int .u8 50, .int .u8 38, .int .u8 29, .int .u8 17, .int .u8 4, .int .u8 62, .int .u8 47, .int .u8 59, .int .u8 36, .int .u8 45, .int .u8 43, .int .u8 51, .int .u8 22, .int .u8 53, .int .u8 39, .int .u8 33, .int .u8 30, .int .u8 24, .int .u8 18, .int .u8 12, .int .u8 5, .int .u8 63, .int .u8 55, .int .u8 48, .int .u8 27, .int .u8 60, .int .u8 41, .int .u8 37, .int .u8 16, .int .u8 46, .int .u8 35, .int .u8 44, .int .u8 21, .int .u8 52, .int .u8 32, .int .u8 23, .int .u8 11, .int .u8 54, .int .u8 26, .int .u8 40, .int .u8 15, .int .u8 34, .int .u8 20, .int .u8 31, .int .u8 10, .int .u8 25, .int .u8 14, .int .u8 19, .int .u8 9, .int .u8 13, .int .u8 8, .int .u8 7, .int .u8 6]
def p10 : List Value := [.int .u64 1, .int .u64 10, .int .u64 100, .int .u64 1000, .int .u64 10000, .int .u64 100000, .int .u64 1000000, .int .u64 10000000, .int .u64 100000000, .int .u64 1000000000, .int .u64 10000000000, .int .u64 100000000000, .int .u64 1000000000000, .int .u64 10000000000000, .int .u64 100000000000000, .int .u64 1000000000000000, .int .u64 10000000000000000, .int .u64 100000000000000000, .int .u64 1000000000000000000, .int .u64 10000000000000000000]
theorem d64_tab : d64 = Lib.deBruijn64tab.map fun n : Nat => Value.int .u8 (n : Int) := by rfl
theorem tz_calls (w : World) (e6 : TypeId) (z6 : Nat × Nat) (h6 : w.heap[6]? = some (.cells d64.toArray e6 z6)) :
    Calls Tryd.prog 79 #[.int .u64 16] w fun e w' => e = .returned (.int .i64 4) ∧ Below w.heap.size w w' := by
  refine (Any7.bits_TrailingZeros Tryd.tz27 16 (by decide) w fun _ j hj => ?_).mono fun e w' ⟨he, hw⟩ => ⟨he, hw ▸ Below.refl _ _⟩
  have hc : w.cell? ⟨6, j, none⟩ = d64.toArray[j]? := by simp [World.cell?, h6]
  show w.cell? ⟨6, j, none⟩ = _
  rw [hc, d64_tab, List.getElem?_toArray, List.getElem?_map, List.getD_eq_getElem?_getD, List.getElem?_eq_getElem hj]
  rfl
theorem pow_calls (w : World) : Calls Tryd.prog 78 #[.int .i64 16] w fun e w' => e = .returned (.bool true) ∧ Below w.heap.size w w' := by
  have hb : bits .and .i64 16 15 = 0 := by rfl
  go_enter Tryd.func78, Tryd.ntmps78
  go_wp2
  go_ret
  exact ⟨by first | rfl | (rw [hb]; rfl), Below.refl _ _⟩
theorem repX : Builder.Extra Tryd.prog Tryd.rep105_ren where
  sizeBuilder := by kernel_rfl
  liesBuilder := by kernel_rfl
  t5 := Tryd.underlying5
  a5 := Tryd.isAgg5
  z5 := Tryd.sizeOf5
  v5 := Tryd.zeroValue5
  infoByte := by kernel_rfl
  cellsByte := by kernel_rfl
  sizeByte := by kernel_rfl
  neB5 := by decide
theorem repeat_one (c : Nat) : Lib.repeatL [48] c = List.replicate c 48 := by
  induction c with
  | zero => rfl
  | succ c ih => rw [Lib.repeatL, ih, List.replicate_succ]; rfl
theorem rep_calls (c : Nat) (hc : c < 16) (w : World) :
    Calls Tryd.prog 30 #[.string ⟨[48].toArray⟩, .int .i64 (c : Int)] w fun e w' => e = .returned (.string ⟨(List.replicate c 48).toArray⟩) ∧ Below w.heap.size w w' := by
  have h : (⟨[48].toArray⟩ : ByteArray).size = 1 := rfl
  refine (Any.strings_Repeat Tryd.rep105 repX ⟨[48].toArray⟩ c w (by omega) (by rw [h]; omega)).mono fun e w' ⟨he, hw⟩ => ⟨?_, hw⟩
  rw [he, show (⟨[48].toArray⟩ : ByteArray).data.toList = [48] from rfl, repeat_one]
end Go.Ex
namespace Go.Proofs.YtpjfhdbkkomogaaDoor.Mb
open Go.RowKit
structure Tabs (w : World) : Prop where
  t6 : ∃ e z, w.heap[6]? = some (.cells Ex.d64.toArray e z)
  t1 : ∃ e z, w.heap[1]? = some (.cells Ex.p10.toArray e z)
theorem Tabs.mono {w w' : World} (h : Tabs w) (hb : Below w.heap.size w w') : Tabs w' := by
  obtain ⟨⟨e6, z6, h6⟩, ⟨e1, z1, h1⟩⟩ := h
  have l6 := (Array.getElem?_eq_some_iff.1 h6).1
  have l1 := (Array.getElem?_eq_some_iff.1 h1).1
  exact ⟨⟨e6, z6, (hb.block _ l6).trans h6⟩, ⟨e1, z1, (hb.block _ l1).trans h1⟩⟩
end Go.Proofs.YtpjfhdbkkomogaaDoor.Mb
/- What the rows' condition on the listed variables gives; a start that meets it. -/
namespace Go.Proofs.YtpjfhdbkkomogaaDoor.Mb
open Go.RowKit

def laid5 : List (String × DataW Unit) := Rows.textQuotesRow.laid
theorem only (s : String) (z : List (String × DataW Unit)) (hz : (laid5.filter fun x => x.1 == s) = z) (hp : (z.all fun x => x.2.handleName?.isNone) = true) {W : World} (h : laidMetH Tryd.prog laid5 W) : laidMet Tryd.prog z W := by
  have := h.filter fun x => x.1 == s
  rw [hz, MakeChecks.laidMetH_plain _ _ _ hp] at this
  exact this
theorem var_at {w : World} {n : String} {g : Nat} {cs : Array Value} (hg : Tryd.prog.globalNamed n = some g) (h : w.var? Tryd.prog n = some cs) : ∃ e z, w.heap[g]? = some (.cells cs e z) := by
  unfold World.var? at h
  rw [hg, Option.bind_some] at h
  split at h
  · rename_i c e fz hw
    cases h
    exact ⟨e, fz, hw⟩
  · cases h
theorem pow10_of {W : World} (h : laidMetH Tryd.prog laid5 W) : Lib.TabIs Tryd.prog W "internal/strconv.uint64pow10" .u64 Lib.pow10Tab :=
  Lib.tabIs_of_head (g := 1) (by kernel_rfl) (by kernel_rfl) Tryd.underlying112 Tryd.underlying47 (by kernel_rfl) (by kernel_rfl)
    (only "internal/strconv.uint64pow10" [("internal/strconv.uint64pow10", Lib.tabData .u64 Lib.pow10Tab)] (by kernel_rfl) (by kernel_rfl) h)
def d64Tab : List Int := Ex.d64.map fun v => match v with
  | .int _ n => n
  | _ => 0
theorem d64_of {W : World} (h : laidMetH Tryd.prog laid5 W) : Lib.TabIs Tryd.prog W "math/bits.deBruijn64tab" .u8 d64Tab :=
  Lib.tabIs_of_head (g := 6) (by kernel_rfl) (by kernel_rfl) Tryd.underlying129 Tryd.underlying5 (by kernel_rfl) (by kernel_rfl)
    (only "math/bits.deBruijn64tab" [("math/bits.deBruijn64tab", Lib.tabData .u8 d64Tab)] (by kernel_rfl) (by kernel_rfl) h)
theorem p10_eq : (Lib.pow10Tab.map fun z => Value.int .u64 z).toArray = Ex.p10.toArray := by kernel_rfl
theorem d64_eq : (d64Tab.map fun z => Value.int .u8 z).toArray = Ex.d64.toArray := by kernel_rfl
theorem tabs_of {W : World} (h : laidMetH Tryd.prog laid5 W) : Tabs W := by
  have h6 := d64_of h
  have h1 := pow10_of h
  unfold Lib.TabIs at h6 h1
  rw [d64_eq] at h6
  rw [p10_eq] at h1
  exact ⟨var_at (by kernel_rfl) h6, var_at (by kernel_rfl) h1⟩
theorem door_met (os : Os) (args : Array Value) : laidMetH Tryd.prog laid5 ((World.doorLaid Tryd.prog 400 os).forCall (fun _ _ => 0) ⟨#[], args, []⟩).memory :=
  laidMetH_of_parts3 (fuel := 8) (laidMet_of_run' 8 (by kernel_rfl) (by kernel_rfl)) (by kernel_rfl) (by kernel_rfl)
theorem own : ownKnob Tryd.prog.godebug = none := by kernel_rfl
end Go.Proofs.YtpjfhdbkkomogaaDoor.Mb
/- Functions of this program as Lean functions, and that the calls answer as they do: printed by this session's printmore.py. -/
namespace Go.Proofs.YtpjfhdbkkomogaaDoor.Px
open Go.RowKit Go.Proofs.YtpjfhdbkkomogaaDoor.Gvn Go.Proofs.YtpjfhdbkkomogaaDoorW.PrintWords Go.Proofs.YtpjfhdbkkomogaaDoorW.PrintLast Go.Proofs.YtpjfhdbkkomogaaDoorW.PrintMore
attribute [local go_sem] run_store_float max2_int min2_int max_two min_two max_three min_three max_four min_four   -- for this text's walks alone
set_option linter.unusedVariables false
set_option linter.unusedSimpArgs false

/-! ### rialtoref4_Digits: function 21 -/
mutual
def rialtoref4_Digits.j0 : Nat → Int → Int → Option (ByteArray)
  | 0, _, _ => none
  | k + 1, x0, x3 => rialtoref4_Digits.l0 k x0 x3 (⟨#[]⟩ : ByteArray)
def rialtoref4_Digits.l0 : Nat → Int → Int → ByteArray → Option (ByteArray)
  | 0, _, _, _ => none
  | k + 1, x0, x3, x4 => (some (([(IntKind.u64.wrap (48 + (Int.tmod x3 10))) % 256] : List Int) : List Int)).bind fun y195 => (if (strOfNums y195).size + x4.size ≤ 9223372036854775807 then (if (IntKind.u64.wrap (Int.tdiv x3 10)) = 0 then (if x0 < 0 then (if 1 + ((strOfNums y195) ++ x4).size ≤ 9223372036854775807 then (some ((⟨#[45]⟩ : ByteArray) ++ ((strOfNums y195) ++ x4))) else (none)) else (some ((strOfNums y195) ++ x4))) else (rialtoref4_Digits.l0 k x0 (IntKind.u64.wrap (Int.tdiv x3 10)) ((strOfNums y195) ++ x4))) else (none))
end
def rialtoref4_Digits.f (k : Nat) (a0 : Int) : Option (ByteArray) := if a0 < 0 then (rialtoref4_Digits.j0 k a0 (IntKind.u64.wrap (-(IntKind.u64.wrap (a0))))) else (rialtoref4_Digits.j0 k a0 (IntKind.u64.wrap (a0)))
theorem rialtoref4_Digits.mono_l : ∀ k, (∀ y0 y1, LeO (rialtoref4_Digits.j0 k y0 y1) (rialtoref4_Digits.j0 (k + 1) y0 y1)) ∧ (∀ y0 y1 y2, LeO (rialtoref4_Digits.l0 k y0 y1 y2) (rialtoref4_Digits.l0 (k + 1) y0 y1 y2))
  | 0 => ⟨fun _ _ r h => by simp [rialtoref4_Digits.j0] at h, fun _ _ _ r h => by simp [rialtoref4_Digits.l0] at h⟩
  | k + 1 => by
    obtain ⟨ih0, ih1⟩ := rialtoref4_Digits.mono_l k
    refine ⟨?_, ?_⟩
    · intro y0 y1
      unfold rialtoref4_Digits.j0
      repeat' first
      | (with_reducible exact ih0 _ _)
      | (with_reducible exact ih1 _ _ _)
      | (with_reducible exact LeO.refl _)
      | (with_reducible exact LeO.none _)
      | (with_reducible refine LeO.ite ?_ ?_)
      | (with_reducible refine LeO.bind ?_ (fun _ => ?_))
      | exact ih0 _ _
      | exact ih1 _ _ _
      | exact LeO.none _
      | refine LeO.ite ?_ ?_
      | refine LeO.bind ?_ (fun _ => ?_)
    · intro y0 y1 y2
      unfold rialtoref4_Digits.l0
      repeat' first
      | (with_reducible exact ih0 _ _)
      | (with_reducible exact ih1 _ _ _)
      | (with_reducible exact LeO.refl _)
      | (with_reducible exact LeO.none _)
      | (with_reducible refine LeO.ite ?_ ?_)
      | (with_reducible refine LeO.bind ?_ (fun _ => ?_))
      | exact ih0 _ _
      | exact ih1 _ _ _
      | exact LeO.none _
      | refine LeO.ite ?_ ?_
      | refine LeO.bind ?_ (fun _ => ?_)
theorem rialtoref4_Digits.mono : ∀ a0 k, LeO (rialtoref4_Digits.f k a0) (rialtoref4_Digits.f (k + 1) a0) := by
  intro a0 k
  obtain ⟨ih0, ih1⟩ := rialtoref4_Digits.mono_l k
  unfold rialtoref4_Digits.f
  repeat' first
      | (with_reducible exact ih0 _ _)
      | (with_reducible exact ih1 _ _ _)
      | (with_reducible exact LeO.refl _)
      | (with_reducible exact LeO.none _)
      | (with_reducible refine LeO.ite ?_ ?_)
      | (with_reducible refine LeO.bind ?_ (fun _ => ?_))
      | exact ih0 _ _
      | exact ih1 _ _ _
      | exact LeO.none _
      | refine LeO.ite ?_ ?_
      | refine LeO.bind ?_ (fun _ => ?_)
set_option maxHeartbeats 8000000 in
set_option maxRecDepth 100000 in
theorem rialtoref4_Digits.calls (k : Nat) (a0 : Int) (r : ByteArray) (w : World) (h : rialtoref4_Digits.f k a0 = some r) :
    Calls Tryd.prog 21 #[.int .i64 a0] w fun e w' => e = .returned (.string r) ∧ Below w.heap.size w w' := by
  have HB := Aside0.mk (Below.refl w.heap.size w)
  have H : (if a0 < 0 then (rialtoref4_Digits.j0 k a0 (IntKind.u64.wrap (-(IntKind.u64.wrap (a0))))) else (rialtoref4_Digits.j0 k a0 (IntKind.u64.wrap (a0)))) = some r := h
  clear h
  have HC2 := Aside0.mk H
  clear H
  have k23 := run23
  have k22 := run22
  go_enter Tryd.func21, Tryd.ntmps21
  go_upto_if 8 with (fail)
  go_cut [3] (fun v3 wc => ∃ (kq : Nat) (x3_1 : Int), v3 = .int .u64 x3_1 ∧ Aside0 (rialtoref4_Digits.j0 kq a0 x3_1 = some r) ∧ Aside0 (kq ≤ k) ∧ Aside0 (Below w.heap.size w wc))
  case first =>
    have H := HC2.out
    clear HC2
    by_cases c3 : a0 < 0
    · rw [if_pos c3] at H
      have c3b0 : decide (a0 < 0) = true := decide_eq_true c3
      clear c3
      (first | rw [c3b0] | (simp only [i64_w, i32_w]; rw [c3b0]) | skip)
      have H' := Aside0.mk H
      clear H
      go_wp2
      go_meet
      case rel => exact ⟨_, (IntKind.u64.wrap (-(IntKind.u64.wrap (a0)))), (by first | rfl | (simp; done) | (simp [*]; done)), H', ⟨by first | omega | exact Nat.le_refl _⟩, ⟨by repeat (first | (with_reducible first | exact HB.out | apply below_alloc | apply pw_below_drewN | apply below_drew1) | exact HB.out)⟩⟩
    · rw [if_neg c3] at H
      have c3b0 : decide (a0 < 0) = false := decide_eq_false c3
      clear c3
      (first | rw [c3b0] | (simp only [i64_w, i32_w]; rw [c3b0]) | skip)
      have H' := Aside0.mk H
      clear H
      go_wp2
      go_meet
      case rel => exact ⟨_, (IntKind.u64.wrap (a0)), (by first | rfl | (simp; done) | (simp [*]; done)), H', ⟨by first | omega | exact Nat.le_refl _⟩, ⟨by repeat (first | (with_reducible first | exact HB.out | apply below_alloc | apply pw_below_drewN | apply below_drew1) | exact HB.out)⟩⟩
  case rest =>
    clear HC2
    try clear c2
    try clear p2
    try clear c3
    try clear c3b0
    obtain ⟨kq, x3_1, rfl, HA, HJ1, HB⟩ := hcut
    cases kq with
    | zero => exact absurd HA.out (by simp [rialtoref4_Digits.j0])
    | succ kj1 =>
      have H := HA.out
      clear HA
      simp only [rialtoref4_Digits.j0] at H
      have H' := Aside0.mk H
      clear H
      go_wp2
      go_loopg [3, 4] kj1 (fun kq v3 v4 w' => ∃ (x3_2 : Int) (x4_2 : ByteArray), v3 = .int .u64 x3_2 ∧ v4 = .string x4_2 ∧ Aside0 (rialtoref4_Digits.l0 kq a0 x3_2 x4_2 = some r) ∧ Aside0 (kq ≤ kj1) ∧ Aside0 (Below w.heap.size w w'))
      case atStart => exact ⟨(x3_1), ((⟨#[]⟩ : ByteArray)), (by first | rfl | (simp; done) | (simp [*]; done)), (by first | rfl | (simp; done) | (simp [*]; done)), H', ⟨Nat.le_refl _⟩, ⟨by repeat (first | (with_reducible first | exact HB.out | apply below_alloc | apply pw_below_drewN | apply below_drew1) | exact HB.out)⟩⟩
      case round =>
        clear H'
        try clear c2
        try clear p2
        try clear c3
        try clear c3b0
        try clear p2
        obtain ⟨x3_2, x4_2, rfl, rfl, HA, HK2, HB⟩ := hrel
        cases gk with
        | zero => exact absurd HA.out (by simp [rialtoref4_Digits.l0])
        | succ k2 =>
          have H := HA.out
          clear HA
          simp only [rialtoref4_Digits.l0] at H
          obtain ⟨y195, hy195⟩ : ∃ y_ : List Int, y_ = (([(IntKind.u64.wrap (48 + (Int.tmod x3_2 10))) % 256] : List Int)) := ⟨_, rfl⟩
          replace H : (if (strOfNums y195).size + x4_2.size ≤ 9223372036854775807 then (if (IntKind.u64.wrap (Int.tdiv x3_2 10)) = 0 then (if a0 < 0 then (if 1 + ((strOfNums y195) ++ x4_2).size ≤ 9223372036854775807 then (some ((⟨#[45]⟩ : ByteArray) ++ ((strOfNums y195) ++ x4_2))) else (none)) else (some ((strOfNums y195) ++ x4_2))) else (rialtoref4_Digits.l0 k2 a0 (IntKind.u64.wrap (Int.tdiv x3_2 10)) ((strOfNums y195) ++ x4_2))) else (none)) = some r := by first | (rw [hy195]; with_reducible exact H) | (have H2_ := (Option.bind_some _ _).symm.trans H; rw [hy195]; with_reducible exact H2_) | (have H2_ := (Option.bind_some _ _).symm.trans H; with_reducible exact H2_) | with_reducible exact H | (rw [hy195]; exact H) | exact H
          have Ny195 := Aside0.mk hy195
          clear hy195
          by_cases c4 : (strOfNums y195).size + x4_2.size ≤ 9223372036854775807
          · rw [if_pos c4] at H
            have c4b0 := eq_true c4
            have c4b1 : decide ((strOfNums y195).size + x4_2.size ≤ 9223372036854775807) = true := decide_eq_true c4
            try have c4b2 : (9223372036854775807 < (strOfNums y195).size + x4_2.size) = False := eq_false (Nat.not_lt.2 c4)
            try (have c4b3 := c4b2; simp only [ByteArray.size_append, ByteArray.size_extract] at c4b3)
            try have c4b4 : (9223372036854775807 < (strOfNums y195).size + x4_2.size) = False := eq_false (by have h_ := c4; (try simp only [ByteArray.size_append, ByteArray.size_extract] at h_); first | omega | (simp only [Nat.add_zero] at h_; omega))
            by_cases c5 : (IntKind.u64.wrap (Int.tdiv x3_2 10)) = 0
            · rw [if_pos c5] at H
              have c5b0 : ((IntKind.u64.wrap (Int.tdiv x3_2 10)) == 0) = true := beq_iff_eq.mpr c5
              have c5b1 : ((IntKind.u64.wrap (Int.tdiv x3_2 10)) != 0) = false := bne_eq_false_iff_eq.mpr c5
              clear c5
              by_cases c6 : a0 < 0
              · rw [if_pos c6] at H
                have c6b0 : decide (a0 < 0) = true := decide_eq_true c6
                clear c6
                by_cases c7 : 1 + ((strOfNums y195) ++ x4_2).size ≤ 9223372036854775807
                · rw [if_pos c7] at H
                  have c7b0 := eq_true c7
                  have c7b1 : decide (1 + ((strOfNums y195) ++ x4_2).size ≤ 9223372036854775807) = true := decide_eq_true c7
                  try have c7b2 : (9223372036854775807 < 1 + ((strOfNums y195) ++ x4_2).size) = False := eq_false (Nat.not_lt.2 c7)
                  try (have c7b3 := c7b2; simp only [ByteArray.size_append, ByteArray.size_extract] at c7b3)
                  try have c7b4 : (9223372036854775807 < 1 + ((strOfNums y195).size + x4_2.size)) = False := eq_false (by have h_ := c7; (try simp only [ByteArray.size_append, ByteArray.size_extract] at h_); first | omega | (simp only [Nat.add_zero] at h_; omega))
                  obtain rfl := Option.some.inj H
                  go_wp2_with (first | ((with_reducible refine gate_dst (N := 15) rfl ?_); refine Kd.R_lit (Kd.int .u8) _ 5 ?hg (N := 15) ?hd (xs := ([(IntKind.u64.wrap (48 + (Int.tmod x3_2 10))) % 256] : List Int)) (inner := [.int .u8 ((IntKind.u64.wrap (48 + (Int.tmod x3_2 10))) % 256)]) (ok := fun _ => True) (okp := fun _ => True) ?hr ?hp (fun _ hk => hk) trivial (Below.refl _ _) (Nat.le_refl _) (by simp) ?_; (case hd => rfl); (case hg => rfl); (case hr => first | (go_simp; done) | (go_simp; rfl)); (case hp => exact (Reps.one (show Kd.M (Kd.int .u8) _ _ _ ((IntKind.u64.wrap (48 + (Int.tmod x3_2 10))) % 256) [.int .u8 ((IntKind.u64.wrap (48 + (Int.tmod x3_2 10))) % 256)] from rfl) (Reps.none _ _))); intro v196 w8 ho9 hb hg_ hnew_; clear hg_ hnew_; (first | rw [← Ny195.out] at ho9 | (simp only [Int.reduceToNat] at ho9; rw [← Ny195.out] at ho9)); have n0_ := Aside0.mk (Kd.R_lower ho9 (below_size (by repeat (first | (with_reducible first | exact HB.out | apply below_alloc | apply pw_below_drewN | apply below_drew1) | exact HB.out)))); have n1_ := Aside0.mk (below_step (by repeat (first | (with_reducible first | exact HB.out | apply below_alloc | apply pw_below_drewN | apply below_drew1) | exact HB.out)) hb); clear HB; have HO197 := n0_; have HB := n1_; clear n0_ n1_; clear hb ho9; have hcv10 := own_string (P := Tryd.prog) Tryd.underlying57 Tryd.underlying5 Tryd.underlying9 (Kd.own_of_R HO197.out)))
                  go_ret
                  exact ⟨by first | rfl | (simp [errW_none, errW_some] <;> rfl) | (simp [*, errW_none, errW_some] <;> rfl), by repeat (first | (with_reducible first | exact HB.out | apply below_alloc | apply pw_below_drewN | apply below_drew1) | exact HB.out)⟩
                · rw [if_neg c7] at H
                  exact absurd H (by simp)
              · rw [if_neg c6] at H
                have c6b0 : decide (a0 < 0) = false := decide_eq_false c6
                clear c6
                obtain rfl := Option.some.inj H
                go_wp2_with (first | ((with_reducible refine gate_dst (N := 15) rfl ?_); refine Kd.R_lit (Kd.int .u8) _ 5 ?hg (N := 15) ?hd (xs := ([(IntKind.u64.wrap (48 + (Int.tmod x3_2 10))) % 256] : List Int)) (inner := [.int .u8 ((IntKind.u64.wrap (48 + (Int.tmod x3_2 10))) % 256)]) (ok := fun _ => True) (okp := fun _ => True) ?hr ?hp (fun _ hk => hk) trivial (Below.refl _ _) (Nat.le_refl _) (by simp) ?_; (case hd => rfl); (case hg => rfl); (case hr => first | (go_simp; done) | (go_simp; rfl)); (case hp => exact (Reps.one (show Kd.M (Kd.int .u8) _ _ _ ((IntKind.u64.wrap (48 + (Int.tmod x3_2 10))) % 256) [.int .u8 ((IntKind.u64.wrap (48 + (Int.tmod x3_2 10))) % 256)] from rfl) (Reps.none _ _))); intro v196 w11 ho12 hb hg_ hnew_; clear hg_ hnew_; (first | rw [← Ny195.out] at ho12 | (simp only [Int.reduceToNat] at ho12; rw [← Ny195.out] at ho12)); have n0_ := Aside0.mk (Kd.R_lower ho12 (below_size (by repeat (first | (with_reducible first | exact HB.out | apply below_alloc | apply pw_below_drewN | apply below_drew1) | exact HB.out)))); have n1_ := Aside0.mk (below_step (by repeat (first | (with_reducible first | exact HB.out | apply below_alloc | apply pw_below_drewN | apply below_drew1) | exact HB.out)) hb); clear HB; have HO197 := n0_; have HB := n1_; clear n0_ n1_; clear hb ho12; have hcv13 := own_string (P := Tryd.prog) Tryd.underlying57 Tryd.underlying5 Tryd.underlying9 (Kd.own_of_R HO197.out)))
                go_ret
                exact ⟨by first | rfl | (simp [errW_none, errW_some] <;> rfl) | (simp [*, errW_none, errW_some] <;> rfl), by repeat (first | (with_reducible first | exact HB.out | apply below_alloc | apply pw_below_drewN | apply below_drew1) | exact HB.out)⟩
            · rw [if_neg c5] at H
              have c5b0 : ((IntKind.u64.wrap (Int.tdiv x3_2 10)) == 0) = false := beq_eq_false_iff_ne.mpr c5
              have c5b1 : ((IntKind.u64.wrap (Int.tdiv x3_2 10)) != 0) = true := bne_iff_ne.mpr c5
              have H' := Aside0.mk H
              clear H
              go_wp2_with (first | ((with_reducible refine gate_dst (N := 15) rfl ?_); refine Kd.R_lit (Kd.int .u8) _ 5 ?hg (N := 15) ?hd (xs := ([(IntKind.u64.wrap (48 + (Int.tmod x3_2 10))) % 256] : List Int)) (inner := [.int .u8 ((IntKind.u64.wrap (48 + (Int.tmod x3_2 10))) % 256)]) (ok := fun _ => True) (okp := fun _ => True) ?hr ?hp (fun _ hk => hk) trivial (Below.refl _ _) (Nat.le_refl _) (by simp) ?_; (case hd => rfl); (case hg => rfl); (case hr => first | (go_simp; done) | (go_simp; rfl)); (case hp => exact (Reps.one (show Kd.M (Kd.int .u8) _ _ _ ((IntKind.u64.wrap (48 + (Int.tmod x3_2 10))) % 256) [.int .u8 ((IntKind.u64.wrap (48 + (Int.tmod x3_2 10))) % 256)] from rfl) (Reps.none _ _))); intro v196 w14 ho15 hb hg_ hnew_; clear hg_ hnew_; (first | rw [← Ny195.out] at ho15 | (simp only [Int.reduceToNat] at ho15; rw [← Ny195.out] at ho15)); have n0_ := Aside0.mk (Kd.R_lower ho15 (below_size (by repeat (first | (with_reducible first | exact HB.out | apply below_alloc | apply pw_below_drewN | apply below_drew1) | exact HB.out)))); have n1_ := Aside0.mk (below_step (by repeat (first | (with_reducible first | exact HB.out | apply below_alloc | apply pw_below_drewN | apply below_drew1) | exact HB.out)) hb); clear HB; have HO197 := n0_; have HB := n1_; clear n0_ n1_; clear hb ho15; have hcv16 := own_string (P := Tryd.prog) Tryd.underlying57 Tryd.underlying5 Tryd.underlying9 (Kd.own_of_R HO197.out)))
              go_roundg k2
              case measure => have := HJ1.out; have := HK2.out; omega
              case rel => exact ⟨(IntKind.u64.wrap (Int.tdiv x3_2 10)), ((strOfNums y195) ++ x4_2), (by first | rfl | (simp; done) | (simp [*]; done)), (by first | rfl | (simp; done) | (simp [*]; done)), H', ⟨by have := HJ1.out; have := HK2.out; omega⟩, ⟨by repeat (first | (with_reducible first | exact HB.out | apply below_alloc | apply pw_below_drewN | apply below_drew1) | exact HB.out)⟩⟩
          · rw [if_neg c4] at H
            exact absurd H (by simp)

end Go.Proofs.YtpjfhdbkkomogaaDoor.Px
/- Numerals: what the reference's Digits comes to; numerals read back. -/
namespace Go.Proofs.YtpjfhdbkkomogaaDoor.Mb
open Go.RowKit Go.Proofs.YtpjfhdbkkomogaaDoorW.PrintWords Go.Proofs.YtpjfhdbkkomogaaDoor.Px
open Go.Lib (decDigits itoa parseUintM parseUintB parseIntB)

theorem dig_toNat (d : Nat) (h : d < 10) : (UInt8.ofNat (48 + d)).toNat = 48 + d := by
  rw [UInt8.toNat_ofNat']
  omega
theorem dec_small (u : Nat) (h : u < 10) : decDigits u = [UInt8.ofNat (48 + u)] := by rw [decDigits, dif_pos h]
theorem dec_big (u : Nat) (h : ¬ u < 10) : decDigits u = decDigits (u / 10) ++ [UInt8.ofNat (48 + u % 10)] := by rw [decDigits, dif_neg h]
/-- The bytes of a number. -/
def isNum (c : UInt8) : Bool := decide (c.toNat = 45 ∨ (48 ≤ c.toNat ∧ c.toNat ≤ 57))
theorem dec_digits (u : Nat) : (∀ c ∈ decDigits u, 48 ≤ c.toNat ∧ c.toNat ≤ 57) ∧ decDigits u ≠ [] := by
  induction u using Nat.strongRecOn with
  | _ u ih =>
    by_cases h : u < 10
    · rw [dec_small u h]
      refine ⟨fun c hc => ?_, by simp⟩
      obtain rfl := List.mem_singleton.1 hc
      rw [dig_toNat u h]; omega
    · rw [dec_big u h]
      refine ⟨fun c hc => ?_, by simp⟩
      rcases List.mem_append.1 hc with hc | hc
      · exact (ih (u / 10) (by omega)).1 c hc
      · obtain rfl := List.mem_singleton.1 hc
        rw [dig_toNat _ (by omega)]; omega
theorem dec_cons (u : Nat) : ∃ c r, decDigits u = c :: r ∧ 48 ≤ c.toNat ∧ c.toNat ≤ 57 := by
  obtain ⟨h1, h2⟩ := dec_digits u
  cases h : decDigits u with
  | nil => exact absurd h h2
  | cons c r => exact ⟨c, r, rfl, h1 c (by rw [h]; simp)⟩
theorem step_digit (M acc : Nat) (c : UInt8) (r : List UInt8) (d : Nat) (hd : c.toNat = 48 + d) (h9 : d < 10) (h1 : ¬ 1844674407370955162 ≤ acc) (h2 : ¬ M < acc * 10 + d) :
    parseUintM M acc (c :: r) = parseUintM M (acc * 10 + d) r := by
  have e : c.toNat - 48 = d := by omega
  rw [parseUintM, if_pos (by omega), if_neg h1, e, if_neg h2]
theorem parse_dec (M : Nat) (hM : M ≤ 18446744073709551615) (u : Nat) : ∀ r, u ≤ M → parseUintM M 0 (decDigits u ++ r) = parseUintM M u r := by
  induction u using Nat.strongRecOn with
  | _ u ih =>
    intro r hu
    by_cases h : u < 10
    · rw [dec_small u h]
      have := step_digit M 0 (UInt8.ofNat (48 + u)) r u (dig_toNat u h) h (by omega) (by omega)
      rw [Nat.zero_mul, Nat.zero_add] at this
      exact this
    · rw [dec_big u h, List.append_assoc, ih (u / 10) (by omega) _ (by omega)]
      have := step_digit M (u / 10) (UInt8.ofNat (48 + u % 10)) r (u % 10) (dig_toNat _ (by omega)) (by omega) (by omega) (by omega)
      rw [show u / 10 * 10 + u % 10 = u by omega] at this
      exact this
theorem parseU (u : Nat) (h : u < 18446744073709551616) : parseUintB 64 (decDigits u) = .ok u := by
  unfold parseUintB
  rw [if_neg (dec_digits u).2]
  have := parse_dec (2 ^ 64 - 1) (by decide) u [] (by omega)
  rw [List.append_nil] at this
  rw [this, parseUintM]
theorem parseI_cons (c : UInt8) (r : List UInt8) (hc : 48 ≤ c.toNat ∧ c.toNat ≤ 57) (u : Nat) (hu : u < 9223372036854775808) (h : parseUintB 64 (c :: r) = .ok u) : parseIntB 64 (c :: r) = .ok (u : Int) := by
  have h1 : ¬ (c.toNat = 43 ∨ c.toNat = 45) := by omega
  have h2 : ¬ c.toNat = 45 := by omega
  have h3 : ¬ (¬ c.toNat = 45 ∧ 2 ^ (64 - 1) ≤ u) := by omega
  have h4 : ¬ (c.toNat = 45 ∧ 2 ^ (64 - 1) < u) := by omega
  unfold parseIntB
  simp only []
  rw [if_neg h1, h]
  simp only []
  rw [if_neg h3, if_neg h4, if_neg h2]
theorem parseI_minus (r : List UInt8) (u : Nat) (hu : u ≤ 9223372036854775808) (h : parseUintB 64 r = .ok u) : parseIntB 64 (45 :: r) = .ok (-(u : Int)) := by
  have h1 : ((45 : UInt8).toNat = 43 ∨ (45 : UInt8).toNat = 45) := by decide
  have h2 : (45 : UInt8).toNat = 45 := by decide
  have h3 : ¬ (¬ (45 : UInt8).toNat = 45 ∧ 2 ^ (64 - 1) ≤ u) := fun h => h.1 h2
  have h4 : ¬ ((45 : UInt8).toNat = 45 ∧ 2 ^ (64 - 1) < u) := by omega
  unfold parseIntB
  simp only []
  rw [if_pos h1, h]
  simp only []
  rw [if_neg h3, if_neg h4, if_pos h2]
theorem parse_itoa (n : Int) (h0 : -9223372036854775808 ≤ n) (h1 : n ≤ 9223372036854775807) : parseIntB 64 (itoa n) = .ok n := by
  unfold itoa
  by_cases h : n < 0
  · rw [if_pos h, parseI_minus _ n.natAbs (by omega) (parseU _ (by omega))]
    congr 1
    omega
  · rw [if_neg h]
    obtain ⟨c, r, hc, hd⟩ := dec_cons n.toNat
    have := parseU n.toNat (by omega)
    rw [hc] at this ⊢
    rw [parseI_cons c r hd n.toNat (by omega) this]
    congr 1
    omega
theorem parse_nought (n : Int) (h0 : 0 ≤ n) (h1 : n ≤ 9223372036854775807) : parseIntB 64 (48 :: itoa n) = .ok n := by
  unfold itoa
  rw [if_neg (by omega)]
  have e : parseUintB 64 (48 :: decDigits n.toNat) = .ok n.toNat := by
    have := parseU n.toNat (by omega)
    unfold parseUintB at this ⊢
    rw [if_neg (by simp)]
    rw [if_neg (dec_digits _).2] at this
    have s := step_digit (2 ^ 64 - 1) 0 48 (decDigits n.toNat) 0 (by decide) (by omega) (by omega) (by omega)
    rw [s]
    exact this
  rw [parseI_cons 48 _ (by decide) n.toNat (by omega) e]
  congr 1
  omega
/-- What no number gives. -/
theorem parse_nought_neg (n : Int) (h : n < 0) : parseIntB 64 (48 :: itoa n) = parseIntB 64 [] := by
  unfold itoa
  rw [if_pos h]
  have s := step_digit (2 ^ 64 - 1) 0 48 (45 :: decDigits n.natAbs) 0 (by decide) (by omega) (by omega) (by omega)
  have e : parseUintB 64 (48 :: 45 :: decDigits n.natAbs) = parseUintB 64 [] := by
    have e0 : parseUintM (2 ^ 64 - 1) (0 * 10 + 0) (45 :: decDigits n.natAbs) = parseUintB 64 [] := by
      rw [parseUintM, if_neg (by decide)]
      rfl
    rw [← e0, ← s]
    unfold parseUintB
    rw [if_neg (by simp)]
  unfold parseIntB
  have h1 : ¬ ((48 : UInt8).toNat = 43 ∨ (48 : UInt8).toNat = 45) := by decide
  simp only [if_neg h1, e]
  rfl
theorem isNum_iff (c : UInt8) : isNum c = true ↔ (c.toNat = 45 ∨ (48 ≤ c.toNat ∧ c.toNat ≤ 57)) := decide_eq_true_iff
theorem itoa_num (n : Int) : ∀ c ∈ itoa n, isNum c = true := by
  intro c hc
  rw [isNum_iff]
  unfold itoa at hc
  split at hc
  · rcases List.mem_cons.1 hc with rfl | hc
    · exact .inl (by decide)
    · exact .inr ((dec_digits _).1 c hc)
  · exact .inr ((dec_digits _).1 c hc)
/-- How many bytes of a number there are ahead. -/
def lead (l : List UInt8) : Nat := (l.takeWhile isNum).length
theorem lead_all (l m : List UInt8) (h : ∀ c ∈ l, isNum c = true) (hm : m = [] ∨ ∃ c r, m = c :: r ∧ isNum c = false) : lead (l ++ m) = l.length := by
  induction l with
  | nil =>
    rcases hm with rfl | ⟨c, r, rfl, hc⟩
    · rfl
    · simp [lead, hc]
  | cons c l ih =>
    have hc := h c (by simp)
    have := ih fun d hd => h d (by simp [hd])
    unfold lead at this ⊢
    rw [List.cons_append, List.takeWhile_cons, if_pos hc, List.length_cons, this, List.length_cons]
theorem lead_le (l : List UInt8) : lead l ≤ l.length := (List.takeWhile_sublist _).length_le
theorem lead_in (l : List UInt8) (i : Nat) (hi : i < lead l) (h : i < l.length) : isNum l[i] = true := by
  have hp : (l.takeWhile isNum) <+: l := List.takeWhile_prefix _
  have e : (l.takeWhile isNum)[i]'hi = l[i] := hp.getElem hi
  have hm : (l.takeWhile isNum)[i]'hi ∈ l.takeWhile isNum := List.getElem_mem _
  rw [← e]
  exact List.all_eq_true.1 List.all_takeWhile _ hm
theorem lead_end : ∀ (l : List UInt8) (h : lead l < l.length), isNum l[lead l] = false
  | [], h => by simp at h
  | c :: l, h => by
    by_cases hc : isNum c = true
    · have e : lead (c :: l) = lead l + 1 := by unfold lead; rw [List.takeWhile_cons, if_pos hc, List.length_cons]
      have := lead_end l (by rw [e, List.length_cons] at h; omega)
      simp only [e, List.getElem_cons_succ]
      exact this
    · have e : lead (c :: l) = 0 := by unfold lead; rw [List.takeWhile_cons, if_neg hc]; rfl
      simp only [e, List.getElem_cons_zero]
      simpa using hc
/-! ### The reference's Digits -/
theorem u64_in (u : Nat) (h : u < 18446744073709551616) : IntKind.u64.wrap (u : Int) = (u : Int) := by
  simp [IntKind.wrap, IntKind.bits, IntKind.signed]; omega
theorem dig_byte (u : Nat) (h : u < 18446744073709551616) : strOfNums ([(IntKind.u64.wrap (48 + (Int.tmod (u : Int) 10))) % 256] : List Int) = B [UInt8.ofNat (48 + u % 10)] := by
  have e1 : Int.tmod (u : Int) 10 = ((u % 10 : Nat) : Int) := by rw [Int.tmod_eq_emod_of_nonneg (by omega)]; omega
  have e2 : (48 + ((u % 10 : Nat) : Int)) = ((48 + u % 10 : Nat) : Int) := by omega
  rw [e1, e2, u64_in _ (by omega)]
  have e3 : (((48 + u % 10 : Nat) : Int) % 256) = ((48 + u % 10 : Nat) : Int) := by omega
  rw [e3]
  rfl
theorem dig_rest (u : Nat) (h : u < 18446744073709551616) : IntKind.u64.wrap (Int.tdiv (u : Int) 10) = ((u / 10 : Nat) : Int) := by
  have e1 : Int.tdiv (u : Int) 10 = ((u / 10 : Nat) : Int) := by rw [Int.tdiv_eq_ediv_of_nonneg (by omega)]; omega
  rw [e1, u64_in _ (by omega)]
theorem digits_last (n : Int) (u : Nat) (hu : u < 10) (acc : List UInt8) (ha : acc.length ≤ 1000) (k : Nat) :
    rialtoref4_Digits.l0 (k + 1) n (u : Int) (B acc) = some (B ((if n < 0 then [45] else []) ++ (decDigits u ++ acc))) := by
  have hs : (B [UInt8.ofNat (48 + u % 10)]).size = 1 := by rw [size_B]; rfl
  rw [rialtoref4_Digits.l0, Option.bind_some, dig_byte u (by omega), dig_rest u (by omega), if_pos (by rw [hs, size_B]; omega), if_pos (by omega), append_B, dec_small u hu]
  have e : u % 10 = u := by omega
  rw [e]
  by_cases hn : n < 0
  · rw [if_pos hn, if_pos (by rw [size_B]; simp; omega), if_pos hn, show (⟨#[45]⟩ : ByteArray) = B [45] from rfl, append_B]
  · rw [if_neg hn, if_neg hn]; rfl
theorem digits_loop (n : Int) (d : Nat) : ∀ (u : Nat) (acc : List UInt8), u < 10 ^ (d + 1) → u < 18446744073709551616 → acc.length + d ≤ 1000 →
    ∃ k, rialtoref4_Digits.l0 k n (u : Int) (B acc) = some (B ((if n < 0 then [45] else []) ++ (decDigits u ++ acc))) := by
  induction d with
  | zero => intro u acc hu _ ha; exact ⟨1, digits_last n u (by simpa using hu) acc (by omega) 0⟩
  | succ d ih =>
    intro u acc hu h64 ha
    by_cases h : u < 10
    · exact ⟨1, digits_last n u h acc (by omega) 0⟩
    · obtain ⟨k, hk⟩ := ih (u / 10) (UInt8.ofNat (48 + u % 10) :: acc) (by rw [Nat.pow_succ] at hu; omega) (by omega) (by rw [List.length_cons]; omega)
      refine ⟨k + 1, ?_⟩
      have hs : (B [UInt8.ofNat (48 + u % 10)]).size = 1 := by rw [size_B]; rfl
      rw [rialtoref4_Digits.l0, Option.bind_some, dig_byte u h64, dig_rest u h64, if_pos (by rw [hs, size_B]; omega), if_neg (by omega), append_B]
      rw [List.singleton_append, hk, dec_big u h, List.append_assoc]
      rfl
theorem digits_is (n : Int) (h0 : -9223372036854775808 ≤ n) (h1 : n ≤ 9223372036854775807) : ∃ k, rialtoref4_Digits.f k n = some (B (itoa n)) := by
  by_cases h : n < 0
  · obtain ⟨k, hk⟩ := digits_loop n 19 n.natAbs [] (by omega) (by omega) (by decide)
    refine ⟨k + 1, ?_⟩
    have e : IntKind.u64.wrap (-(IntKind.u64.wrap n)) = ((n.natAbs : Nat) : Int) := by
      simp [IntKind.wrap, IntKind.bits, IntKind.signed]; omega
    unfold rialtoref4_Digits.f
    rw [if_pos h, e, rialtoref4_Digits.j0]
    rw [show (⟨#[]⟩ : ByteArray) = B [] from rfl, hk, if_pos h, List.append_nil]
    unfold itoa
    rw [if_pos h]
    rfl
  · obtain ⟨k, hk⟩ := digits_loop n 19 n.toNat [] (by omega) (by omega) (by decide)
    refine ⟨k + 1, ?_⟩
    have e : IntKind.u64.wrap n = ((n.toNat : Nat) : Int) := by
      simp [IntKind.wrap, IntKind.bits, IntKind.signed]; omega
    unfold rialtoref4_Digits.f
    rw [if_neg h, e, rialtoref4_Digits.j0]
    rw [show (⟨#[]⟩ : ByteArray) = B [] from rfl, hk, if_neg h, List.append_nil, List.nil_append]
    unfold itoa
    rw [if_neg h]
theorem itoa_short (n : Int) (h0 : -9223372036854775808 ≤ n) (h1 : n ≤ 9223372036854775807) : (itoa n).length ≤ 100 := by
  have key : ∀ (d u : Nat), u < 10 ^ (d + 1) → (decDigits u).length ≤ d + 1 := by
    intro d
    induction d with
    | zero => intro u hu; rw [dec_small u (by simpa using hu)]; simp
    | succ d ih =>
      intro u hu
      by_cases h : u < 10
      · rw [dec_small u h]; simp
      · rw [dec_big u h, List.length_append, List.length_singleton]
        have := ih (u / 10) (by rw [Nat.pow_succ] at hu; omega)
        omega
  unfold itoa
  split
  · have := key 19 n.natAbs (by omega)
    rw [List.length_cons]; omega
  · have := key 19 n.toNat (by omega)
    omega
end Go.Proofs.YtpjfhdbkkomogaaDoor.Mb
/- DERIVED: THE SHELF's CONTRACTS AT THIS DUMP, IN PLAIN WORDS (tools/lay-plain.mjs out of 'YtpjfhdbkkomogaaDoorShelfI.lean', which tools/lay-shelf.mjs wrote): THE SAME DECLARATIONS UNDER THE SAME NAMES: 'import', 'namespace', 'open', 'def', 'theorem' AND NOTHING ELSE: no command of the shelf's: FOR A HAND-IN. Each laying: the table of numbers ('.._ren') and one theorem, a field a fact of the dump's own or the kernel's comparison; each contract: ONE APPLICATION. -/
namespace Go.Proofs
open Go.Shelf
def Tryd.fi173_ren : Go.Shelf.Ren := ⟨fun | 173 => 25 | 246 => 40 | 283 => 60 | 284 => 61 | 285 => 62 | 286 => 63 | 129 => 76 | 317 => 75 | 318 => 77 | 319 => 78 | 320 => 79 | 337 => 89 | 338 => 90 | n => n, fun | 2 => 2 | 3 => 3 | 9 => 9 | 4 => 4 | 171 => 98 | 0 => 0 | 53 => 47 | 37 => 57 | 5 => 5 | 173 => 101 | 212 => 112 | 51 => 103 | 20 => 20 | 213 => 113 | 46 => 69 | 232 => 128 | 233 => 129 | n => n, fun | 17 => 1 | 18 => 5 | 19 => 6 | n => n⟩
theorem Tryd.fi173 : Go.Proofs.LaysM.n173 Tryd.prog Tryd.fi173_ren := {
  mixed := by kernel_rfl
  f129 := Tryd.func76.trans (congrArg some (by kernel_rfl))
  f173 := Tryd.func25.trans (congrArg some (by kernel_rfl))
  f246 := Tryd.func40.trans (congrArg some (by kernel_rfl))
  f283 := Tryd.func60.trans (congrArg some (by kernel_rfl))
  f284 := Tryd.func61.trans (congrArg some (by kernel_rfl))
  f285 := Tryd.func62.trans (congrArg some (by kernel_rfl))
  f286 := Tryd.func63.trans (congrArg some (by kernel_rfl))
  f317 := Tryd.func75.trans (congrArg some (by kernel_rfl))
  f318 := Tryd.func77.trans (congrArg some (by kernel_rfl))
  f319 := Tryd.func78.trans (congrArg some (by kernel_rfl))
  f320 := Tryd.func79.trans (congrArg some (by kernel_rfl))
  f337 := Tryd.func89.trans (congrArg some (by kernel_rfl))
  f338 := Tryd.func90.trans (congrArg some (by kernel_rfl))
  t0 := Tryd.underlying0
  a0 := Tryd.isAgg0
  z0 := Tryd.sizeOf0
  v0 := Tryd.zeroValue0
  t2 := Tryd.underlying2
  a2 := Tryd.isAgg2
  z2 := Tryd.sizeOf2
  v2 := Tryd.zeroValue2
  t3 := Tryd.underlying3
  a3 := Tryd.isAgg3
  z3 := Tryd.sizeOf3
  v3 := Tryd.zeroValue3
  t4 := Tryd.underlying4
  a4 := Tryd.isAgg4
  z4 := Tryd.sizeOf4
  v4 := Tryd.zeroValue4
  t5 := Tryd.underlying5
  a5 := Tryd.isAgg5
  z5 := Tryd.sizeOf5
  v5 := Tryd.zeroValue5
  t9 := Tryd.underlying9
  a9 := Tryd.isAgg9
  z9 := Tryd.sizeOf9
  v9 := Tryd.zeroValue9
  t20 := Tryd.underlying20
  a20 := Tryd.isAgg20
  z20 := Tryd.sizeOf20
  v20 := Tryd.zeroValue20
  t37 := Tryd.underlying57
  a37 := Tryd.isAgg57
  z37 := Tryd.sizeOf57
  v37 := Tryd.zeroValue57
  t46 := Tryd.underlying69
  a46 := Tryd.isAgg69
  z46 := Tryd.sizeOf69
  v46 := Tryd.zeroValue69
  t51 := Tryd.underlying103
  a51 := Tryd.isAgg103
  z51 := Tryd.sizeOf103
  v51 := Tryd.zeroValue103
  t53 := Tryd.underlying47
  a53 := Tryd.isAgg47
  z53 := Tryd.sizeOf47
  v53 := Tryd.zeroValue47
  t171 := Tryd.underlying98
  a171 := Tryd.isAgg98
  z171 := Tryd.sizeOf98
  v171 := Tryd.zeroValue98
  t173 := Tryd.underlying101
  a173 := Tryd.isAgg101
  z173 := Tryd.sizeOf101
  v173 := Tryd.zeroValue101
  t212 := Tryd.underlying112
  a212 := Tryd.isAgg112
  z212 := Tryd.sizeOf112
  v212 := Tryd.zeroValue112
  t213 := Tryd.underlying113
  a213 := Tryd.isAgg113
  z213 := Tryd.sizeOf113
  t232 := Tryd.underlying128
  a232 := Tryd.isAgg128
  z232 := Tryd.sizeOf128
  v232 := Tryd.zeroValue128
  t233 := Tryd.underlying129
  a233 := Tryd.isAgg129
  z233 := Tryd.sizeOf129
  v233 := Tryd.zeroValue129
  g17 := by kernel_rfl
  g18 := by kernel_rfl
  g19 := by kernel_rfl
  i0 := by kernel_rfl
  i2 := by kernel_rfl
  i3 := by kernel_rfl
  i4 := by kernel_rfl
  i5 := by kernel_rfl
  i9 := by kernel_rfl
  i20 := by kernel_rfl
  i37 := by kernel_rfl
  i46 := by kernel_rfl
  i51 := by kernel_rfl
  i53 := by kernel_rfl
  i171 := by kernel_rfl
  i173 := by kernel_rfl
  i212 := by kernel_rfl
  i232 := by kernel_rfl
  i233 := by kernel_rfl
  m17 := by kernel_rfl
  m18 := by kernel_rfl
  m19 := by kernel_rfl }
def Tryd.pi174_ren : Go.Shelf.Ren := ⟨fun | 174 => 53 | 247 => 72 | 245 => 71 | 287 => 70 | 279 => 85 | 280 => 86 | 281 => 87 | 282 => 88 | 321 => 83 | 322 => 84 | 316 => 92 | 171 => 94 | 205 => 93 | 243 => 96 | 246 => 40 | 283 => 60 | 284 => 61 | 285 => 62 | 286 => 63 | 129 => 76 | 317 => 75 | 318 => 77 | 319 => 78 | 320 => 79 | 337 => 89 | 338 => 90 | n => n, fun | 9 => 9 | 3 => 3 | 2 => 2 | 75 => 78 | 85 => 90 | 4 => 4 | 167 => 120 | 5 => 5 | 53 => 47 | 175 => 88 | 46 => 69 | 168 => 121 | 37 => 57 | 0 => 0 | 210 => 126 | 21 => 21 | 127 => 108 | 145 => 132 | 143 => 130 | 171 => 98 | 173 => 101 | 212 => 112 | 51 => 103 | 20 => 20 | 213 => 113 | 232 => 128 | 233 => 129 | 80 => 82 | n => n, fun | 15 => 3 | 16 => 4 | 17 => 1 | 18 => 5 | 19 => 6 | n => n⟩
theorem Tryd.pi174 : Go.Proofs.LaysC.n174 Tryd.prog Tryd.pi174_ren := {
  mixed := by kernel_rfl
  f129 := Tryd.func76.trans (congrArg some (by kernel_rfl))
  f171 := Tryd.func94.trans (congrArg some (by kernel_rfl))
  f174 := Tryd.func53.trans (congrArg some (by kernel_rfl))
  f205 := Tryd.func93.trans (congrArg some (by kernel_rfl))
  f243 := Tryd.func96.trans (congrArg some (by kernel_rfl))
  f245 := Tryd.func71.trans (congrArg some (by kernel_rfl))
  f246 := Tryd.func40.trans (congrArg some (by kernel_rfl))
  f247 := Tryd.func72.trans (congrArg some (by kernel_rfl))
  f279 := Tryd.func85.trans (congrArg some (by kernel_rfl))
  f280 := Tryd.func86.trans (congrArg some (by kernel_rfl))
  f281 := Tryd.func87.trans (congrArg some (by kernel_rfl))
  f282 := Tryd.func88.trans (congrArg some (by kernel_rfl))
  f283 := Tryd.func60.trans (congrArg some (by kernel_rfl))
  f284 := Tryd.func61.trans (congrArg some (by kernel_rfl))
  f285 := Tryd.func62.trans (congrArg some (by kernel_rfl))
  f286 := Tryd.func63.trans (congrArg some (by kernel_rfl))
  f287 := Tryd.func70.trans (congrArg some (by kernel_rfl))
  f316 := Tryd.func92.trans (congrArg some (by kernel_rfl))
  f317 := Tryd.func75.trans (congrArg some (by kernel_rfl))
  f318 := Tryd.func77.trans (congrArg some (by kernel_rfl))
  f319 := Tryd.func78.trans (congrArg some (by kernel_rfl))
  f320 := Tryd.func79.trans (congrArg some (by kernel_rfl))
  f321 := Tryd.func83.trans (congrArg some (by kernel_rfl))
  f322 := Tryd.func84.trans (congrArg some (by kernel_rfl))
  f337 := Tryd.func89.trans (congrArg some (by kernel_rfl))
  f338 := Tryd.func90.trans (congrArg some (by kernel_rfl))
  t0 := Tryd.underlying0
  a0 := Tryd.isAgg0
  z0 := Tryd.sizeOf0
  v0 := Tryd.zeroValue0
  t2 := Tryd.underlying2
  a2 := Tryd.isAgg2
  z2 := Tryd.sizeOf2
  v2 := Tryd.zeroValue2
  t3 := Tryd.underlying3
  a3 := Tryd.isAgg3
  z3 := Tryd.sizeOf3
  v3 := Tryd.zeroValue3
  t4 := Tryd.underlying4
  a4 := Tryd.isAgg4
  z4 := Tryd.sizeOf4
  v4 := Tryd.zeroValue4
  t5 := Tryd.underlying5
  a5 := Tryd.isAgg5
  z5 := Tryd.sizeOf5
  v5 := Tryd.zeroValue5
  t9 := Tryd.underlying9
  a9 := Tryd.isAgg9
  z9 := Tryd.sizeOf9
  v9 := Tryd.zeroValue9
  t20 := Tryd.underlying20
  a20 := Tryd.isAgg20
  z20 := Tryd.sizeOf20
  v20 := Tryd.zeroValue20
  t21 := Tryd.underlying21
  a21 := Tryd.isAgg21
  z21 := Tryd.sizeOf21
  v21 := Tryd.zeroValue21
  t37 := Tryd.underlying57
  a37 := Tryd.isAgg57
  z37 := Tryd.sizeOf57
  v37 := Tryd.zeroValue57
  t46 := Tryd.underlying69
  a46 := Tryd.isAgg69
  z46 := Tryd.sizeOf69
  v46 := Tryd.zeroValue69
  t51 := Tryd.underlying103
  a51 := Tryd.isAgg103
  z51 := Tryd.sizeOf103
  v51 := Tryd.zeroValue103
  t53 := Tryd.underlying47
  a53 := Tryd.isAgg47
  z53 := Tryd.sizeOf47
  v53 := Tryd.zeroValue47
  t75 := Tryd.underlying78
  a75 := Tryd.isAgg78
  z75 := Tryd.sizeOf78
  v75 := Tryd.zeroValue78
  t85 := Tryd.underlying90
  a85 := Tryd.isAgg90
  z85 := Tryd.sizeOf90
  v85 := Tryd.zeroValue90
  t127 := Tryd.underlying108
  a127 := Tryd.isAgg108
  z127 := Tryd.sizeOf108
  v127 := Tryd.zeroValue108
  t143 := Tryd.underlying130
  a143 := Tryd.isAgg130
  z143 := Tryd.sizeOf130
  v143 := Tryd.zeroValue130
  t145 := Tryd.underlying132
  a145 := Tryd.isAgg132
  z145 := Tryd.sizeOf132
  v145 := Tryd.zeroValue132
  t167 := Tryd.underlying120
  a167 := Tryd.isAgg120
  z167 := Tryd.sizeOf120
  v167 := Tryd.zeroValue120
  t168 := Tryd.underlying121
  a168 := Tryd.isAgg121
  z168 := Tryd.sizeOf121
  v168 := Tryd.zeroValue121
  t171 := Tryd.underlying98
  a171 := Tryd.isAgg98
  z171 := Tryd.sizeOf98
  v171 := Tryd.zeroValue98
  t173 := Tryd.underlying101
  a173 := Tryd.isAgg101
  z173 := Tryd.sizeOf101
  v173 := Tryd.zeroValue101
  t175 := Tryd.underlying88
  a175 := Tryd.isAgg88
  z175 := Tryd.sizeOf88
  v175 := Tryd.zeroValue88
  t210 := Tryd.underlying126
  a210 := Tryd.isAgg126
  z210 := Tryd.sizeOf126
  v210 := Tryd.zeroValue126
  t212 := Tryd.underlying112
  a212 := Tryd.isAgg112
  z212 := Tryd.sizeOf112
  v212 := Tryd.zeroValue112
  t213 := Tryd.underlying113
  a213 := Tryd.isAgg113
  z213 := Tryd.sizeOf113
  t232 := Tryd.underlying128
  a232 := Tryd.isAgg128
  z232 := Tryd.sizeOf128
  v232 := Tryd.zeroValue128
  t233 := Tryd.underlying129
  a233 := Tryd.isAgg129
  z233 := Tryd.sizeOf129
  v233 := Tryd.zeroValue129
  g15 := by kernel_rfl
  g16 := by kernel_rfl
  g17 := by kernel_rfl
  g18 := by kernel_rfl
  g19 := by kernel_rfl
  t80 := Tryd.underlying82
  a80 := Tryd.isAgg82
  z80 := Tryd.sizeOf82
  v80 := Tryd.zeroValue82
  i0 := by kernel_rfl
  i2 := by kernel_rfl
  i3 := by kernel_rfl
  i4 := by kernel_rfl
  i5 := by kernel_rfl
  i9 := by kernel_rfl
  i20 := by kernel_rfl
  i21 := by kernel_rfl
  i37 := by kernel_rfl
  i46 := by kernel_rfl
  i51 := by kernel_rfl
  i53 := by kernel_rfl
  i75 := by kernel_rfl
  i80 := by kernel_rfl
  i85 := by kernel_rfl
  i127 := by kernel_rfl
  i143 := by kernel_rfl
  i145 := by kernel_rfl
  i167 := by kernel_rfl
  i168 := by kernel_rfl
  i171 := by kernel_rfl
  i173 := by kernel_rfl
  i175 := by kernel_rfl
  i210 := by kernel_rfl
  i212 := by kernel_rfl
  i232 := by kernel_rfl
  i233 := by kernel_rfl
  m15 := by kernel_rfl
  m16 := by kernel_rfl
  m17 := by kernel_rfl
  m18 := by kernel_rfl
  m19 := by kernel_rfl
  c0 := by kernel_rfl
  c2 := by kernel_rfl
  c3 := by kernel_rfl
  c4 := by kernel_rfl
  c5 := by kernel_rfl
  c9 := by kernel_rfl
  c20 := by kernel_rfl
  c21 := by kernel_rfl
  c37 := by kernel_rfl
  c46 := by kernel_rfl
  c51 := by kernel_rfl
  c53 := by kernel_rfl
  c75 := by kernel_rfl
  c80 := by kernel_rfl
  c85 := by kernel_rfl
  c127 := by kernel_rfl
  c143 := by kernel_rfl
  c145 := by kernel_rfl
  c167 := by kernel_rfl
  c168 := by kernel_rfl
  c171 := by kernel_rfl
  c173 := by kernel_rfl
  c175 := by kernel_rfl
  c210 := by kernel_rfl
  c212 := by kernel_rfl
  c213 := by kernel_rfl
  c232 := by kernel_rfl
  c233 := by kernel_rfl }
end Go.Proofs
/- Walks: numbers printed and read. -/
namespace Go.Proofs.YtpjfhdbkkomogaaDoor.Mb
open Go.RowKit Go.Proofs.YtpjfhdbkkomogaaDoorW.PrintWords Go.Proofs.YtpjfhdbkkomogaaDoorW.PrintLast Go.Proofs.YtpjfhdbkkomogaaDoorW.PrintMore Go.Proofs.YtpjfhdbkkomogaaDoor.Px Go.Proofs.YtpjfhdbkkomogaaDoor.Gvn
open Go.Lib (decDigits itoa parseUintM parseUintB parseIntB)
attribute [local go_sem] run_store_float

theorem g1 : Tryd.prog.globalNamed "internal/strconv.uint64pow10" = some 1 := by kernel_rfl
theorem p10_list : (Lib.pow10Tab.map fun z => Value.int .u64 z).toArray = Ex.p10.toArray := by kernel_rfl
theorem tab_of {w : World} (h : Tabs w) : Lib.TabIs Tryd.prog w "internal/strconv.uint64pow10" .u64 Lib.pow10Tab := by
  obtain ⟨e, z, h1⟩ := h.t1
  unfold Lib.TabIs World.var?
  rw [g1, Option.bind_some, h1, p10_list]
theorem below_grow (w : World) (n : Nat) (os : Array Obj) : Below w.heap.size w (Sort.grow (w.drewN n) os) :=
  ⟨rfl, rfl, rfl, by simp [Sort.grow, World.drewN], fun i hi => by simp [Sort.grow, World.drewN, Array.getElem?_append, hi]⟩
theorem format_any (n : Int) (h0 : -9223372036854775808 ≤ n) (h1 : n ≤ 9223372036854775807) (w : World) (hw : Tabs w) :
    Calls Tryd.prog 25 #[.int .i64 n, .int .i64 10] w fun e w' => e = .returned (.string (B (itoa n))) ∧ Below w.heap.size w w' :=
  (Any.strconv_FormatInt_10 Tryd.fi173 n h0 h1 w (tab_of hw)).mono fun e w' ⟨he, k, os, hw'⟩ => ⟨he, by subst hw'; exact below_grow w k os⟩
/-- What the errors' variables hold. -/
structure Errs (w : World) : Prop where
  tabs : Tabs w
  syn : ∃ te pe, w.cell? ⟨3, 0, none⟩ = some (.iface te pe)
  ran : ∃ te pe, w.cell? ⟨4, 0, none⟩ = some (.iface te pe)
theorem cell_lt {w : World} {b o : Nat} {v : Value} (h : w.cell? ⟨b, o, none⟩ = some v) : b < w.heap.size := by
  unfold World.cell? at h
  split at h
  · rename_i hh
    exact (Array.getElem?_eq_some_iff.1 hh).1
  · cases h
theorem Errs.mono {w w' : World} (h : Errs w) (hb : Below w.heap.size w w') : Errs w' := by
  obtain ⟨t, ⟨te, pe, h1⟩, ⟨tr, pr, h2⟩⟩ := h
  exact ⟨t.mono hb, ⟨te, pe, by rw [hb.cell (p := ⟨3, 0, none⟩) (cell_lt h1)]; exact h1⟩, ⟨tr, pr, by rw [hb.cell (p := ⟨4, 0, none⟩) (cell_lt h2)]; exact h2⟩⟩
/-- strconv.ParseInt: what it tells. -/
def ResI (l : List UInt8) (v : Int) (b : Bool) : Prop := (parseIntB 64 l = .ok v ∧ b = true) ∨ (parseIntB 64 l = parseIntB 64 [] ∧ v = 0 ∧ b = false) ∨ (parseIntB 64 l = .range ∧ v = Lib.intSat 64 l ∧ b = false)
def IsErr (b : Bool) (ev : Value) : Prop := (b = true ∧ ev = .nilIface) ∨ (b = false ∧ ∃ te pe, ev = .iface te pe)
theorem parseint_any (l : List UInt8) (hl : l.length ≤ 1000000) (v : Int) (b : Bool) (hr : ResI l v b) (w : World) (hw : Errs w) :
    Calls Tryd.prog 53 #[.string (B l), .int .i64 10, .int .i64 64] w fun e w' => (∃ ev, e = .returned (.tuple #[.int .i64 v, ev]) ∧ IsErr b ev) ∧ Below w.heap.size w w' := by
  obtain ⟨_, ⟨te, pe, h1⟩, ⟨tr, pr, h2⟩⟩ := hw
  rcases hr with ⟨h, rfl⟩ | ⟨h, rfl, rfl⟩ | ⟨h, rfl, rfl⟩
  · refine (Any.strconv_ParseInt_10_at64_ok Tryd.pi174 (B l) (by rw [size_B]; omega) v h w).mono fun e w' ⟨he, hw'⟩ => ⟨⟨_, he, .inl ⟨rfl, rfl⟩⟩, ?_⟩
    rcases hw' with rfl | ⟨t, rfl⟩
    · exact Below.refl _ _
    · exact Lib.bytesWorld_below w _ t
  · refine (Any.strconv_ParseInt_10_at64_syntax Tryd.pi174 (B l) (by rw [size_B]; omega) h (.iface te pe) w h1 (.inr ⟨te, pe, rfl⟩)).mono fun e w' ⟨n, he, _, _, hb⟩ => ⟨⟨_, he, .inr ⟨rfl, _, _, rfl⟩⟩, hb⟩
  · refine (Any.strconv_ParseInt_10_at64_range Tryd.pi174 (B l) (by rw [size_B]; omega) h (.iface tr pr) w h2 (.inr ⟨tr, pr, rfl⟩)).mono fun e w' ⟨n, he, _, _, hb⟩ => ⟨⟨_, he, .inr ⟨rfl, _, _, rfl⟩⟩, hb⟩
theorem is_int (n : Int) : value_Is.f 0 1 n ⟨#[]⟩ 0 = some true := by
  unfold value_Is.f
  have e : (⟨#[]⟩ : ByteArray).toList = [] := toList_B []
  rw [order0, Option.bind_some, if_pos rfl, if_pos e]
  rfl
set_option maxRecDepth 100000 in
theorem print_int (n : Int) (h0 : -9223372036854775808 ≤ n) (h1 : n ≤ 9223372036854775807) (w : World) (hw : Tabs w) :
    Calls Tryd.prog 10 #[Av 1 n ⟨#[]⟩ 0] w fun e w' => e = .returned (.string (B (itoa n))) ∧ Below w.heap.size w w' := by
  have HI := Lib.hid (is_int n)
  have FM := fun (w : World) (hw : Tabs w) => format_any n h0 h1 w hw
  generalize B (itoa n) = t at FM ⊢
  have hT1 : Tabs (w.alloc (.cells #[Value.int IntKind.i64 1, Value.int IntKind.i64 n, Value.string ⟨#[]⟩, Value.float FloatKind.f64 0] 24)) := hw.mono ((Below.refl w.heap.size w).alloc (Nat.le_refl _) _)
  clear h0 h1
  go_enter Tryd.func10, Tryd.ntmps10
  go_wp2_with fail
  go_at_call 24
  refine (value_Is.calls _ _ _ _ _ _ _ HI.out).mono ?_
  rintro e w1 ⟨rfl, hb1⟩
  obtain ⟨hc1, hf1⟩ := bcell hb1
  have hT2 := hT1.mono hb1
  have hB1 : Below w.heap.size w w1 := ((Below.refl w.heap.size w).alloc (Nat.le_refl _) _).trans (hb1.mono (by simp))
  go_wp2_with fail
  go_at_call 25
  refine (FM _ hT2).mono ?_
  rintro e w2 ⟨rfl, hb2⟩
  go_wp2
  go_ret
  exact ⟨rfl, hB1.trans (hb2.mono hB1.size)⟩
theorem no_prefix (l : List UInt8) (c : UInt8) (p : List UInt8) (h : l = [] ∨ ∃ d r, l = d :: r ∧ d ≠ c) : (l.take (c :: p).length == c :: p) = false := by
  rcases h with rfl | ⟨d, r, rfl, hd⟩
  · simp
  · simp [hd]
set_option maxHeartbeats 1000000 in
set_option maxRecDepth 100000 in
/-- text.front, where a number may stand ahead. -/
theorem front_num (l : List UInt8) (hl : l.length ≤ 1000000) (hc : l = [] ∨ ∃ d r, l = d :: r ∧ d ≠ 34 ∧ d ≠ 116 ∧ d ≠ 102 ∧ d ≠ 120) (v : Int) (b : Bool) (hr : ResI (l.take (lead l)) v b) (w : World) (hw : Errs w) :
    Calls Tryd.prog 33 #[.string (B l)] w fun e w' => e = .returned (.tuple #[Av 1 v ⟨#[]⟩ 0, .string (B (l.drop (lead l))), .bool b]) ∧ Below w.heap.size w w' := by
  have np : ∀ (c : UInt8) (p : List UInt8), (l = [] ∨ ∃ d r, l = d :: r ∧ d ≠ c) → strings_HasPrefix.f (B l) (B (c :: p)) = some false := fun c p h => by
    rw [hasPrefix_is, no_prefix l c p h]
  have H1 : Hid (strings_HasPrefix.f (B l) (⟨#[34]⟩ : ByteArray) = some false) := np 34 [] (hc.imp_right fun ⟨d, r, e, h, _⟩ => ⟨d, r, e, h⟩)
  have H2 : Hid (strings_HasPrefix.f (B l) (⟨#[116, 114, 117, 101]⟩ : ByteArray) = some false) := np 116 [114, 117, 101] (hc.imp_right fun ⟨d, r, e, _, h, _⟩ => ⟨d, r, e, h⟩)
  have H3 : Hid (strings_HasPrefix.f (B l) (⟨#[102, 97, 108, 115, 101]⟩ : ByteArray) = some false) := np 102 [97, 108, 115, 101] (hc.imp_right fun ⟨d, r, e, _, _, h, _⟩ => ⟨d, r, e, h⟩)
  have H4 : Hid (strings_HasPrefix.f (B l) (⟨#[120]⟩ : ByteArray) = some false) := np 120 [] (hc.imp_right fun ⟨d, r, e, _, _, _, h⟩ => ⟨d, r, e, h⟩)
  have H5 : Hid (strings_HasPrefix.f (B l) (⟨#[102]⟩ : ByteArray) = some false) := np 102 [] (hc.imp_right fun ⟨d, r, e, _, _, h, _⟩ => ⟨d, r, e, h⟩)
  have PI := fun (w : World) (hw : Errs w) => parseint_any (l.take (lead l)) (by rw [List.length_take]; omega) v b hr w hw
  obtain ⟨m, hm⟩ : ∃ m, m = lead l := ⟨_, rfl⟩
  have hml : m ≤ (B l).size := by rw [hm, size_B]; exact lead_le l
  have hsz : (B l).size ≤ 1000000 := hl
  have HN : Hid (∀ i (h : i < (B l).size), i < m → isNum (B l)[i] = true) := fun i h hi => lead_in l i (by rw [← hm]; exact hi) h
  have HE : Hid (∀ h : m < (B l).size, isNum (B l)[m] = false) := fun h => by subst hm; exact lead_end l h
  have HC : Hid ((B l).extract 0 m = B (l.take (lead l))) := by rw [hm, extract_B]; rfl
  have HD : Hid ((B l).extract m (B l).size = B (l.drop (lead l))) := by rw [hm, tail_B]; rfl
  generalize B (l.drop (lead l)) = rest at HD ⊢
  generalize B (l.take (lead l)) = num at HC PI
  generalize B l = s at *
  have hT1 : Errs (w.alloc zeroCells) := hw.mono (below_zero w)
  have HG : ∀ n, Below (w.alloc zeroCells).heap.size (w.alloc zeroCells) ((w.alloc zeroCells).drewN n) := pw_below_drewN (Below.refl _ _)
  clear np hc hr hl hm hw
  go_enter Tryd.func33, Tryd.ntmps33
  go_wp2_with fail
  go_at_call 44
  refine (strings_HasPrefix.calls _ _ _ _ H1.out).mono ?_
  rintro e w1 ⟨rfl, ⟨n1, rfl⟩⟩
  go_wp2_with fail
  go_at_call 44
  refine (strings_HasPrefix.calls _ _ _ _ H2.out).mono ?_
  rintro e w2 ⟨rfl, ⟨n2, rfl⟩⟩
  go_wp2_with fail
  go_at_call 44
  refine (strings_HasPrefix.calls _ _ _ _ H3.out).mono ?_
  rintro e w3 ⟨rfl, ⟨n3, rfl⟩⟩
  go_wp2_with fail
  go_at_call 44
  refine (strings_HasPrefix.calls _ _ _ _ H4.out).mono ?_
  rintro e w4 ⟨rfl, ⟨n4, rfl⟩⟩
  go_wp2_with fail
  go_at_call 44
  refine (strings_HasPrefix.calls _ _ _ _ H5.out).mono ?_
  rintro e w5 ⟨rfl, ⟨n5, rfl⟩⟩
  clear H1 H2 H3 H4 H5
  go_wp2_with fail
  go_loop [12] (fun i => ∃ k : Nat, k ≤ m ∧ i = .int .i64 k) (fun i => m - (intOf i).toNat)
  case atStart => exact ⟨0, Nat.zero_le _, rfl⟩
  case round =>
    obtain ⟨k, hk, rfl⟩ := hrel
    by_cases hlt : k < s.size
    · by_cases hkm : k < m
      · have hn := (isNum_iff _).1 (HN.out k hlt hkm)
        by_cases h45 : (s[k].toNat : Int) = 45
        · clear hn
          go_wp2
          go_round
          case rel => exact ⟨k + 1, by omega, by go_num⟩
          case measure => simp [intOf]; omega
        · have e1 : ((s[k].toNat : Int) == 45) = false := beq_eq_false_iff_ne.mpr h45
          have e2 : (48 ≤ (s[k].toNat : Int)) = True := eq_true (by omega)
          have e3 : ((s[k].toNat : Int) ≤ 57) = True := eq_true (by omega)
          clear hn h45
          go_wp2
          go_round
          case rel => exact ⟨k + 1, by omega, by go_num⟩
          case measure => simp [intOf]; omega
      · obtain rfl : k = m := by omega
        have hn : ¬ (s[k].toNat = 45 ∨ (48 ≤ s[k].toNat ∧ s[k].toNat ≤ 57)) := fun h => by
          have h' := (isNum_iff _).2 h
          rw [HE.out hlt] at h'
          cases h'
        have e1 : ((s[k].toNat : Int) == 45) = false := beq_eq_false_iff_ne.mpr (by omega)
        by_cases h48 : 48 ≤ (s[k].toNat : Int)
        · have e2 : (48 ≤ (s[k].toNat : Int)) = True := eq_true h48
          have e3 : ((s[k].toNat : Int) ≤ 57) = False := eq_false (by omega)
          clear hn h48 hkm
          go_wp2_with fail
          rw [HC.out]
          go_at_call 53
          refine (PI _ (hT1.mono (HG _))).mono ?_
          rintro e w6 ⟨⟨ev, rfl, he⟩, hb6⟩
          go_wp2_with fail
          obtain ⟨hc6, hf6⟩ := bcell hb6
          have hz6 := hb6.size
          simp at hz6
          have hz6a : w.heap.size < w6.heap.size := by omega
          clear hz6
          have g0 := hc6 w.heap.size 0 (by simp)
          have g1 := hc6 w.heap.size 1 (by simp)
          have g2 := hc6 w.heap.size 2 (by simp)
          have g3 := hc6 w.heap.size 3 (by simp)
          have f0 := hf6 w.heap.size 0 (by simp)
          have f1 := hf6 w.heap.size 1 (by simp)
          have f2 := hf6 w.heap.size 2 (by simp)
          have f3 := hf6 w.heap.size 3 (by simp)
          simp [go_sem] at g0 g1 g2 g3 f0 f1 f2 f3
          clear hc6 hf6
          rcases he with ⟨rfl, rfl⟩ | ⟨rfl, te, pe, rfl⟩
          all_goals
            go_region
            go_wp2
            refine bodyPost_ret (v := .tuple #[Av 1 v ⟨#[]⟩ 0, .string rest, .bool _]) ?_ rfl ⟨rfl, ?_⟩
            · rw [← HD.out]
              simp [results, Tryd.results33, go_sem, g0, g1, g2, g3]
            · have hB6 : Below w.heap.size w w6 := ((below_zero w).trans (pw_below_drewN (Below.refl _ _) _)).trans (hb6.mono (by simp))
              repeat (first | exact hB6 | apply below_drew1 | refine below_set ?_ (Nat.le_refl _))
        · have e2 : (48 ≤ (s[k].toNat : Int)) = False := eq_false h48
          clear hn h48 hkm
          go_wp2_with fail
          rw [HC.out]
          go_at_call 53
          refine (PI _ (hT1.mono (HG _))).mono ?_
          rintro e w6 ⟨⟨ev, rfl, he⟩, hb6⟩
          go_wp2_with fail
          obtain ⟨hc6, hf6⟩ := bcell hb6
          have hz6 := hb6.size
          simp at hz6
          have hz6a : w.heap.size < w6.heap.size := by omega
          clear hz6
          have g0 := hc6 w.heap.size 0 (by simp)
          have g1 := hc6 w.heap.size 1 (by simp)
          have g2 := hc6 w.heap.size 2 (by simp)
          have g3 := hc6 w.heap.size 3 (by simp)
          have f0 := hf6 w.heap.size 0 (by simp)
          have f1 := hf6 w.heap.size 1 (by simp)
          have f2 := hf6 w.heap.size 2 (by simp)
          have f3 := hf6 w.heap.size 3 (by simp)
          simp [go_sem] at g0 g1 g2 g3 f0 f1 f2 f3
          clear hc6 hf6
          rcases he with ⟨rfl, rfl⟩ | ⟨rfl, te, pe, rfl⟩
          all_goals
            go_region
            go_wp2
            refine bodyPost_ret (v := .tuple #[Av 1 v ⟨#[]⟩ 0, .string rest, .bool _]) ?_ rfl ⟨rfl, ?_⟩
            · rw [← HD.out]
              simp [results, Tryd.results33, go_sem, g0, g1, g2, g3]
            · have hB6 : Below w.heap.size w w6 := ((below_zero w).trans (pw_below_drewN (Below.refl _ _) _)).trans (hb6.mono (by simp))
              repeat (first | exact hB6 | apply below_drew1 | refine below_set ?_ (Nat.le_refl _))
    · obtain rfl : k = m := by omega
      go_wp2_with fail
      rw [HC.out]
      go_at_call 53
      refine (PI _ (hT1.mono (HG _))).mono ?_
      rintro e w6 ⟨⟨ev, rfl, he⟩, hb6⟩
      go_wp2_with fail
      obtain ⟨hc6, hf6⟩ := bcell hb6
      have hz6 := hb6.size
      simp at hz6
      have hz6a : w.heap.size < w6.heap.size := by omega
      clear hz6
      have g0 := hc6 w.heap.size 0 (by simp)
      have g1 := hc6 w.heap.size 1 (by simp)
      have g2 := hc6 w.heap.size 2 (by simp)
      have g3 := hc6 w.heap.size 3 (by simp)
      have f0 := hf6 w.heap.size 0 (by simp)
      have f1 := hf6 w.heap.size 1 (by simp)
      have f2 := hf6 w.heap.size 2 (by simp)
      have f3 := hf6 w.heap.size 3 (by simp)
      simp [go_sem] at g0 g1 g2 g3 f0 f1 f2 f3
      clear hc6 hf6
      rcases he with ⟨rfl, rfl⟩ | ⟨rfl, te, pe, rfl⟩
      all_goals
        go_region
        go_wp2
        refine bodyPost_ret (v := .tuple #[Av 1 v ⟨#[]⟩ 0, .string rest, .bool _]) ?_ rfl ⟨rfl, ?_⟩
        · rw [← HD.out]
          simp [results, Tryd.results33, go_sem, g0, g1, g2, g3]
        · have hB6 : Below w.heap.size w w6 := ((below_zero w).trans (pw_below_drewN (Below.refl _ _) _)).trans (hb6.mono (by simp))
          repeat (first | exact hB6 | apply below_drew1 | refine below_set ?_ (Nat.le_refl _))
end Go.Proofs.YtpjfhdbkkomogaaDoor.Mb
/- text.Parse where a number stands, right or spoilt. -/
namespace Go.Proofs.YtpjfhdbkkomogaaDoor.Mb
open Go.RowKit Go.Proofs.YtpjfhdbkkomogaaDoorW.PrintWords Go.Proofs.YtpjfhdbkkomogaaDoorW.PrintLast Go.Proofs.YtpjfhdbkkomogaaDoorW.PrintMore Go.Proofs.YtpjfhdbkkomogaaDoor.Px Go.Proofs.YtpjfhdbkkomogaaDoor.Gvn
open Go.Lib (decDigits itoa parseUintM parseUintB parseIntB)
attribute [local go_sem] run_store_float

/-- The walk's form of what text.Parse answers. -/
abbrev PutOk (t : ByteArray) (v : Value) (c : Int) : Prop := ∀ w, Errs w → Calls Tryd.prog 14 #[.string t] w fun e w' => e = .returned (.tuple #[v, .int .i64 c]) ∧ Below w.heap.size w w'
theorem not_special {c : UInt8} (h : c ≠ 34 ∧ c ≠ 116 ∧ c ≠ 102 ∧ c ≠ 120) (r : List UInt8) : c :: r = [] ∨ ∃ d r', c :: r = d :: r' ∧ d ≠ 34 ∧ d ≠ 116 ∧ d ≠ 102 ∧ d ≠ 120 := .inr ⟨c, r, rfl, h⟩
theorem num_plain {c : UInt8} (h : isNum c = true) : c ≠ 34 ∧ c ≠ 116 ∧ c ≠ 102 ∧ c ≠ 120 := by
  rw [isNum_iff] at h
  refine ⟨?_, ?_, ?_, ?_⟩ <;> rintro rfl <;> revert h <;> decide
theorem itoa_plain (n : Int) (m : List UInt8) : itoa n ++ m = [] ∨ ∃ d r, itoa n ++ m = d :: r ∧ d ≠ 34 ∧ d ≠ 116 ∧ d ≠ 102 ∧ d ≠ 120 := by
  have hne : itoa n ≠ [] := by
    unfold itoa
    split
    · simp
    · exact (dec_digits _).2
  cases h : itoa n with
  | nil => exact absurd h hne
  | cons c r => exact .inr ⟨c, r ++ m, rfl, num_plain (itoa_num n c (by rw [h]; simp))⟩
section
variable (n : Int) (h0 : -9223372036854775808 ≤ n) (h1 : n ≤ 9223372036854775807)
include h0 h1
theorem front_itoa (m : List UInt8) (hm : m = [] ∨ ∃ c r, m = c :: r ∧ isNum c = false) (hml : m.length ≤ 10000) (w : World) (hw : Errs w) :
    Calls Tryd.prog 33 #[.string (B (itoa n ++ m))] w fun e w' => e = .returned (.tuple #[Av 1 n ⟨#[]⟩ 0, .string (B m), .bool true]) ∧ Below w.heap.size w w' := by
  have hl := lead_all (itoa n) m (itoa_num n) hm
  have hs := itoa_short n h0 h1
  have := front_num (itoa n ++ m) (by rw [List.length_append]; omega) (itoa_plain n m) n true (.inl ⟨by rw [hl, List.take_left]; exact parse_itoa n h0 h1, rfl⟩) w hw
  rw [hl, List.drop_left] at this
  exact this
theorem parse_int : PutOk (B (itoa n)) (Av 1 n ⟨#[]⟩ 0) 0 := fun w hw => by
  refine parse_ok (T := Errs) Errs.mono (B (itoa n)) (B []) (toList_B []) 1 n ⟨#[]⟩ 0 w hw (fun w hw => ?_) (fun w hw => print_int n h0 h1 w hw.tabs)
  have := front_itoa n h0 h1 [] (.inl rfl) (by simp) w hw
  rw [List.append_nil] at this
  exact this
theorem bad_behind (c : UInt8) (hc : isNum c = false) : PutOk (B (itoa n) ++ B [c]) (Av 0 0 ⟨#[]⟩ 0) 30 := fun w hw => by
  rw [append_B]
  exact parse_bad (T := Errs) Errs.mono _ (B [c]) true (.inr (by rw [toList_B]; rfl)) 1 n ⟨#[]⟩ 0 w hw (fun w hw => front_itoa n h0 h1 [c] (.inr ⟨c, [], rfl, hc⟩) (by simp) w hw)
theorem bad_ahead (c : UInt8) (hc : isNum c = false) (hp : c ≠ 34 ∧ c ≠ 116 ∧ c ≠ 102 ∧ c ≠ 120) : PutOk (B [c] ++ B (itoa n)) (Av 0 0 ⟨#[]⟩ 0) 30 := fun w hw => by
  rw [append_B, List.singleton_append]
  have hl : lead (c :: itoa n) = 0 := by unfold lead; rw [List.takeWhile_cons, if_neg (by rw [hc]; simp)]; rfl
  have hs := itoa_short n h0 h1
  refine parse_bad (T := Errs) Errs.mono _ (B (c :: itoa n)) false (.inl rfl) 1 0 ⟨#[]⟩ 0 w hw (fun w hw => ?_)
  have := front_num (c :: itoa n) (by rw [List.length_cons]; omega) (not_special hp _) 0 false (.inr (.inl ⟨by rw [hl]; rfl, rfl, rfl⟩)) w hw
  rw [hl] at this
  exact this
theorem bad_nought : PutOk (B [48] ++ B (itoa n)) (Av 0 0 ⟨#[]⟩ 0) 30 := fun w hw => by
  rw [append_B, List.singleton_append]
  have hl : lead (48 :: itoa n) = (48 :: itoa n).length := by
    have := lead_all (48 :: itoa n) [] (fun c hc => (List.mem_cons.1 hc).elim (fun h => by rw [h]; decide) (itoa_num n c)) (.inl rfl)
    rw [List.append_nil] at this
    exact this
  have hs := itoa_short n h0 h1
  have hp : (48 : UInt8) ≠ 34 ∧ (48 : UInt8) ≠ 116 ∧ (48 : UInt8) ≠ 102 ∧ (48 : UInt8) ≠ 120 := by decide
  have ht : (48 :: itoa n).take (lead (48 :: itoa n)) = 48 :: itoa n := by rw [hl, List.take_length]
  have hd : (48 :: itoa n).drop (lead (48 :: itoa n)) = [] := by rw [hl, List.drop_length]
  by_cases h : n < 0
  · refine parse_bad (T := Errs) Errs.mono _ (B []) false (.inl rfl) 1 0 ⟨#[]⟩ 0 w hw (fun w hw => ?_)
    have := front_num (48 :: itoa n) (by rw [List.length_cons]; omega) (not_special hp _) 0 false (.inr (.inl ⟨by rw [ht]; exact parse_nought_neg n h, rfl, rfl⟩)) w hw
    rw [hd] at this
    exact this
  · refine parse_other (T := Errs) Errs.mono _ (B []) (B (itoa n)) (toList_B []) ?_ 1 n ⟨#[]⟩ 0 w hw (fun w hw => ?_) (fun w hw => print_int n h0 h1 w hw.tabs)
    · rw [toList_B, toList_B, beq_eq_false_iff_ne]
      intro he
      have := congrArg List.length he
      simp at this
    · have := front_num (48 :: itoa n) (by rw [List.length_cons]; omega) (not_special hp _) n true (.inl ⟨by rw [ht]; exact parse_nought n (by omega) h1, rfl⟩) w hw
      rw [hd] at this
      exact this
end
theorem itoa_zero : itoa 0 = [48] := by unfold itoa; rw [if_neg (by omega)]; exact dec_small 0 (by omega)
theorem parse_minus0 : parseIntB 64 [45, 48] = .ok 0 := by
  have := parseI_minus [48] 0 (by omega) (by have := parseU 0 (by omega); rw [dec_small 0 (by omega)] at this; exact this)
  exact this
theorem bad_minus : PutOk (B [45, 48]) (Av 0 0 ⟨#[]⟩ 0) 30 := fun w hw => by
  have hp : (45 : UInt8) ≠ 34 ∧ (45 : UInt8) ≠ 116 ∧ (45 : UInt8) ≠ 102 ∧ (45 : UInt8) ≠ 120 := by decide
  refine parse_other (T := Errs) Errs.mono _ (B []) (B (itoa 0)) (toList_B []) ?_ 1 0 ⟨#[]⟩ 0 w hw (fun w hw => ?_) (fun w hw => print_int 0 (by omega) (by omega) w hw.tabs)
  · rw [toList_B, toList_B, itoa_zero]; rfl
  · exact front_num [45, 48] (by decide) (not_special hp _) 0 true (.inl ⟨parse_minus0, rfl⟩) w hw
end Go.Proofs.YtpjfhdbkkomogaaDoor.Mb
/- What the rows' condition gives of the errors' variables. -/
namespace Go.Proofs.YtpjfhdbkkomogaaDoor.Mb
open Go.RowKit

theorem err_cell {n : String} {g ti : Nat} {ms : Array (String × TypeId)} {nm : String} {d : DataW Unit} {W : World} (hg : Tryd.prog.globalNamed n = some g) (hty : (Tryd.prog.globals[g]?).map (·.type) = some ti) (hi : Tryd.prog.underlying ti = some (.interface ms)) (h : laidMet Tryd.prog [(n, .iface nm d)] W) : ∃ te pe, W.cell? ⟨g, 0, none⟩ = some (.iface te pe) := by
  obtain ⟨ps, hv, -, -⟩ := h
  obtain ⟨g', t, cs, fuel, p, q, h1, h2, h3, h4, -, -⟩ := hv
  rw [hg] at h1
  cases h1
  rw [hty] at h2
  cases h2
  obtain ⟨f', u, v, hcs, -, -⟩ := iface_of_trod hi h4
  obtain ⟨e, z, hh⟩ := var_at hg h3
  refine ⟨u, v, ?_⟩
  obtain rfl : cs = #[.iface u v] := Array.eq_one_of_toList hcs
  simp [World.cell?, hh]
theorem errs_of {W : World} (h : laidMetH Tryd.prog laid5 W) : Errs W :=
  ⟨tabs_of h,
    err_cell (by kernel_rfl) (by kernel_rfl) Tryd.underlying78 (only "strconv.ErrSyntax" [("strconv.ErrSyntax", Rows.laid_strconv_ErrSyntax)] (by kernel_rfl) (by kernel_rfl) h),
    err_cell (by kernel_rfl) (by kernel_rfl) Tryd.underlying78 (only "strconv.ErrRange" [("strconv.ErrRange", Rows.laid_strconv_ErrRange)] (by kernel_rfl) (by kernel_rfl) h)⟩
end Go.Proofs.YtpjfhdbkkomogaaDoor.Mb
/- Digits of sixteen: how a number is told, and read. -/
namespace Go.Proofs.YtpjfhdbkkomogaaDoor.Mb
open Go.RowKit

/-- A digit. -/
def dgt (d : Nat) : UInt8 := UInt8.ofNat (if d < 10 then 48 + d else 87 + d)
theorem dgt_toNat (d : Nat) (h : d < 16) : (dgt d).toNat = if d < 10 then 48 + d else 87 + d := by
  unfold dgt
  rw [UInt8.toNat_ofNat']
  split <;> omega
theorem dgt_inj (d e : Nat) (h : d < 16) (g : e < 16) : (dgt d).toNat < (dgt e).toNat ↔ d < e := by
  rw [dgt_toNat d h, dgt_toNat e g]
  split <;> split <;> omega
/-- A number's digits, none ahead that is nought. -/
def tell (u : Nat) : List UInt8 := if _h : u < 16 then [dgt u] else tell (u / 16) ++ [dgt (u % 16)]
decreasing_by omega
theorem tell_small (u : Nat) (h : u < 16) : tell u = [dgt u] := by rw [tell, dif_pos h]
theorem tell_big (u : Nat) (h : ¬ u < 16) : tell u = tell (u / 16) ++ [dgt (u % 16)] := by rw [tell, dif_neg h]
/-- Just so many digits. -/
def tells : Nat → Nat → List UInt8
  | 0, _ => []
  | n + 1, u => tells n (u / 16) ++ [dgt (u % 16)]
theorem tells_length : ∀ n u, (tells n u).length = n
  | 0, _ => rfl
  | n + 1, u => by rw [tells, List.length_append, tells_length n, List.length_singleton]
theorem tells_zero : ∀ n, tells n 0 = List.replicate n 48
  | 0 => rfl
  | n + 1 => by rw [tells, show 0 / 16 = 0 from rfl, tells_zero n, List.replicate_succ']; rfl
theorem tell_filled : ∀ (n u : Nat), u < 16 ^ (n + 1) → (tell u).length ≤ n + 1 ∧ List.replicate (n + 1 - (tell u).length) 48 ++ tell u = tells (n + 1) u
  | 0, u, h => by
    have h : u < 16 := by simpa using h
    rw [tell_small u h]
    refine ⟨by simp, ?_⟩
    rw [tells, tells, Nat.mod_eq_of_lt h]
    rfl
  | n + 1, u, h => by
    by_cases h16 : u < 16
    · rw [tell_small u h16]
      refine ⟨by simp, ?_⟩
      rw [tells, Nat.mod_eq_of_lt h16, show u / 16 = 0 by omega, tells_zero]
      rfl
    · have hq : u / 16 < 16 ^ (n + 1) := by
        rw [Nat.pow_succ] at h
        exact Nat.div_lt_of_lt_mul (by omega)
      obtain ⟨h1, h2⟩ := tell_filled n (u / 16) hq
      rw [tell_big u h16, List.length_append, List.length_singleton]
      refine ⟨by omega, ?_⟩
      rw [tells, ← h2, ← List.append_assoc]
      congr 3
      omega
/-- A digit's number. -/
def dgv (c : UInt8) : Nat := if c.toNat ≤ 57 then c.toNat - 48 else c.toNat - 87
theorem dgv_dgt (d : Nat) (h : d < 16) : dgv (dgt d) = d := by
  unfold dgv
  rw [dgt_toNat d h]
  split <;> split <;> omega
def isDgt (c : UInt8) : Prop := (48 ≤ c.toNat ∧ c.toNat ≤ 57) ∨ (97 ≤ c.toNat ∧ c.toNat ≤ 102)
theorem dgt_hex (d : Nat) (h : d < 16) : isDgt (dgt d) := by
  unfold isDgt
  rw [dgt_toNat d h]
  split <;> omega
theorem dgv_lt (c : UInt8) (h : isDgt c) : dgv c < 16 := by
  unfold isDgt at h
  unfold dgv
  split <;> omega
theorem tells_hex : ∀ n u, ∀ c ∈ tells n u, isDgt c
  | 0, _, c, hc => by cases hc
  | n + 1, u, c, hc => by
    rcases List.mem_append.1 hc with hc | hc
    · exact tells_hex n _ c hc
    · obtain rfl := List.mem_singleton.1 hc
      exact dgt_hex _ (Nat.mod_lt _ (by decide))
/-- What digits tell. -/
def hval (l : List UInt8) : Nat := l.foldl (fun a c => a * 16 + dgv c) 0
theorem hval_snoc (l : List UInt8) (c : UInt8) : hval (l ++ [c]) = hval l * 16 + dgv c := by
  unfold hval
  rw [List.foldl_append]
  rfl
theorem hval_tells : ∀ n u, u < 16 ^ n → hval (tells n u) = u
  | 0, u, h => by
    have : u = 0 := by simpa using h
    rw [this]; rfl
  | n + 1, u, h => by
    have hq : u / 16 < 16 ^ n := by
      rw [Nat.pow_succ] at h
      exact Nat.div_lt_of_lt_mul (by omega)
    rw [tells, hval_snoc, hval_tells n _ hq, dgv_dgt _ (Nat.mod_lt _ (by decide))]
    omega
theorem fold_lt : ∀ (l : List UInt8) (a : Nat), (∀ c ∈ l, isDgt c) → l.foldl (fun a c => a * 16 + dgv c) a < (a + 1) * 16 ^ l.length
  | [], a, _ => by simp
  | c :: l, a, h => by
    have h1 := fold_lt l (a * 16 + dgv c) fun d dgt => h d (List.mem_cons_of_mem _ dgt)
    have h2 := dgv_lt c (h c (List.mem_cons_self ..))
    have h3 : (a * 16 + dgv c + 1) * 16 ^ l.length ≤ ((a + 1) * 16) * 16 ^ l.length := Nat.mul_le_mul_right _ (by omega)
    rw [List.foldl_cons, List.length_cons, Nat.pow_succ]
    have h4 : (a + 1) * (16 ^ l.length * 16) = ((a + 1) * 16) * 16 ^ l.length := by rw [Nat.mul_comm (16 ^ l.length) 16, Nat.mul_assoc]
    omega
theorem hval_lt (l : List UInt8) (h : ∀ c ∈ l, isDgt c) : hval l < 16 ^ l.length := by
  have := fold_lt l 0 h
  unfold hval
  omega
/-- Told, numbers stand as they are. -/
theorem tells_inj (n a b : Nat) (ha : a < 16 ^ n) (hb : b < 16 ^ n) : tells n a = tells n b ↔ a = b :=
  ⟨fun h => by rw [← hval_tells n a ha, h, hval_tells n b hb], fun h => by rw [h]⟩
theorem lt_snoc : ∀ (l m : List UInt8) (c d : UInt8), l.length = m.length → (l ++ [c] < m ++ [d] ↔ l < m ∨ (l = m ∧ c < d))
  | [], [], c, d, _ => by rw [List.nil_append, List.nil_append, List.cons_lt_cons_iff]; simp
  | [], _ :: _, _, _, h => by simp at h
  | _ :: _, [], _, _, h => by simp at h
  | x :: l, y :: m, c, d, h => by
    have ih := lt_snoc l m c d (by simpa using h)
    rw [List.cons_append, List.cons_append, List.cons_lt_cons_iff, List.cons_lt_cons_iff, ih, List.cons.injEq]
    constructor
    · rintro (h | ⟨h, h' | h'⟩)
      · exact .inl (.inl h)
      · exact .inl (.inr ⟨h, h'⟩)
      · exact .inr ⟨⟨h, h'.1⟩, h'.2⟩
    · rintro ((h | ⟨h, h'⟩) | ⟨⟨h, h'⟩, h''⟩)
      · exact .inl h
      · exact .inr ⟨h, .inl h'⟩
      · exact .inr ⟨h, .inr ⟨h', h''⟩⟩
theorem tells_lt : ∀ (n a b : Nat), a < 16 ^ n → b < 16 ^ n → (tells n a < tells n b ↔ a < b)
  | 0, a, b, ha, hb => by
    have : a = 0 := by simpa using ha
    have : b = 0 := by simpa using hb
    subst a b
    simp [tells]
  | n + 1, a, b, ha, hb => by
    have ha' : a / 16 < 16 ^ n := by
      rw [Nat.pow_succ] at ha
      exact Nat.div_lt_of_lt_mul (by omega)
    have hb' : b / 16 < 16 ^ n := by
      rw [Nat.pow_succ] at hb
      exact Nat.div_lt_of_lt_mul (by omega)
    rw [tells, tells, lt_snoc _ _ _ _ (by rw [tells_length, tells_length]), tells_lt n _ _ ha' hb', tells_inj n _ _ ha' hb', UInt8.lt_iff_toNat_lt, dgt_inj _ _ (Nat.mod_lt _ (by decide)) (Nat.mod_lt _ (by decide))]
    omega
end Go.Proofs.YtpjfhdbkkomogaaDoor.Mb
/- Walks: a float told. -/
namespace Go.Proofs.YtpjfhdbkkomogaaDoor.Mb
open Go.RowKit Go.Proofs.YtpjfhdbkkomogaaDoorW.PrintWords Go.Proofs.YtpjfhdbkkomogaaDoorW.PrintLast Go.Proofs.YtpjfhdbkkomogaaDoorW.PrintMore Go.Proofs.YtpjfhdbkkomogaaDoor.Px Go.Proofs.YtpjfhdbkkomogaaDoor.Gvn
attribute [local go_sem] run_store_float

theorem tz_any (w : World) (h : Tabs w) : Calls Tryd.prog 79 #[.int .u64 16] w fun e w' => e = .returned (.int .i64 4) ∧ Below w.heap.size w w' := by
  obtain ⟨⟨e6, z6, h6⟩, _⟩ := h
  exact Ex.tz_calls w e6 z6 h6
/-- A number half told: its last digits lie in a row of 65. -/
structure At (w0 wr : World) (u v i : Nat) (l : List UInt8) (G : Nat → Int) : Prop where
  len : i + l.length = 65
  few : l.length ≤ 15
  fits : v * 16 ^ l.length ≤ u
  told : tell u = tell v ++ l
  cells : ∀ t, t < 65 → wr.cell? ⟨w0.heap.size, t, none⟩ = some (.int .u8 (G t))
  free : ∀ t, t < 65 → wr.frozen? ⟨w0.heap.size, t, none⟩ = false
  put : ∀ j (h : j < l.length), G (i + j) = (l[j].toNat : Int)
  below : Below w0.heap.size w0 wr
theorem zeros_at (t : Nat) (h : t < 65) : Tryd.zeroCells113[t]? = some (.int .u8 0) := by
  have e : Tryd.zeroCells113 = Array.replicate 65 (.int .u8 0) := by kernel_rfl
  rw [e, Array.getElem?_replicate, if_pos h]
theorem At.start {w w1 w2 : World} (hb1 : Below (w.alloc (.cells Tryd.zeroCells113 113)).heap.size (w.alloc (.cells Tryd.zeroCells113 113)) w1) (hb2 : Below w1.heap.size w1 w2) (u : Nat) : At w w2 u u 65 [] (fun _ => 0) := by
  have hb := hb1.trans (hb2.mono hb1.size)
  have hlt : w.heap.size < (w.alloc (.cells Tryd.zeroCells113 113)).heap.size := by simp
  refine ⟨rfl, by simp, by simp, by simp, fun t ht => ?_, fun t ht => ?_, fun j h => by simp at h, ((Below.refl w.heap.size w).alloc (Nat.le_refl _) _).trans (hb.mono (Nat.le_of_lt hlt))⟩
  · rw [hb.cell (p := ⟨w.heap.size, t, none⟩) hlt, World.cell?_alloc_new]
    exact zeros_at t ht
  · rw [hb.frozen (p := ⟨w.heap.size, t, none⟩) hlt]
    exact World.frozen?_alloc_new _ _ _ _
abbrev digs : ByteArray := ⟨#[48, 49, 50, 51, 52, 53, 54, 55, 56, 57, 97, 98, 99, 100, 101, 102, 103, 104, 105, 106, 107, 108, 109, 110, 111, 112, 113, 114, 115, 116, 117, 118, 119, 120, 121, 122]⟩
theorem digs_all : ∀ d, d < 16 → digs.data.toList[d]? = some (dgt d) := by decide
theorem digs_at (k : IntKind) (z : Int) (d : Nat) (hz : z = (d : Int)) (h : d < 16) (W : World) : (Instr.index 9 (.string digs) (.int k z)).run Tryd.prog W = .ok (.int .u8 ((dgt d).toNat : Int)) W := by
  subst hz
  have hs : digs.size = 36 := by kernel_rfl
  rw [run_index_string (P := Tryd.prog) (w := W) 9 digs k _ Tryd.underlying9, dif_pos ⟨by omega, by rw [hs]; omega⟩]
  have e := digs_all d h
  have h2 : ((d : Int)).toNat < digs.size := by rw [hs]; omega
  have e2 : digs[((d : Int)).toNat]'h2 = dgt d := by
    obtain ⟨h3, h4⟩ := List.getElem?_eq_some_iff.1 e
    rw [← h4]
    rfl
  rw [e2]
theorem and15w (v : Nat) (h : v < 18446744073709551616) : bits .and .u64 (v : Int) 15 = ((v % 16 : Nat) : Int) := by
  have := bits_and_u64_nat v 15 h (by decide)
  rw [show v &&& 15 = v % 16 from Nat.and_two_pow_sub_one_eq_mod v 4] at this
  exact this
theorem At.step {w0 wr : World} {u v m : Nat} {l : List UInt8} {G : Nat → Int} (h : At w0 wr u v (m + 1) l G) (h16 : 16 ≤ v) (h15 : l.length < 15) (g : UInt8) (hg : g = dgt (v % 16)) :
    At w0 (wr.setCell ⟨w0.heap.size, m, none⟩ (.int .u8 (g.toNat : Int))) u (v / 16) m (g :: l) (fun t => if t = m then (g.toNat : Int) else G t) := by
  have hm : m < 65 := by have := h.len; omega
  refine ⟨by have := h.len; rw [List.length_cons]; omega, by rw [List.length_cons]; omega, ?_, ?_, fun t ht => ?_, fun t ht => ?_, fun j hj => ?_, h.below.setCell (Nat.le_refl _) _⟩
  · have h1 : v / 16 * 16 * 16 ^ l.length ≤ v * 16 ^ l.length := Nat.mul_le_mul_right _ (by omega)
    have := h.fits
    rw [List.length_cons, Nat.pow_succ, Nat.mul_comm (16 ^ l.length) 16, ← Nat.mul_assoc]
    omega
  · rw [h.told, tell_big v (by omega), hg, List.append_assoc]
    rfl
  · by_cases e : t = m
    · subst e
      rw [if_pos rfl]
      exact World.cell?_setCell_same _ _ _ (h.cells t ht)
    · rw [if_neg e, World.cell?_setCell_other _ _ _ _ (by simp only [ne_eq, Addr.mk.injEq, true_and, and_true]; omega)]
      exact h.cells t ht
  · rw [World.frozen?_setCell]
    exact h.free t ht
  · cases j with
    | zero => simp
    | succ j =>
      have hj' : j < l.length := by simpa using hj
      have := h.put j hj'
      rw [if_neg (by omega), List.getElem_cons_succ, ← this]
      congr 1
      omega
set_option maxHeartbeats 1000000 in
set_option maxRecDepth 100000 in
theorem bits_any (u : Nat) (hu : u < 18446744073709551616) (w : World) (hw : Tabs w) :
    Calls Tryd.prog 63 #[.slice none 0 0, .int .u64 u, .int .i64 16, .bool false, .bool false] w fun e w' => e = .returned (.tuple #[.slice none 0 0, .string (B (tell u))]) ∧ Below w.heap.size w w' := by
  have TZ := fun (w : World) (h : Tabs w) => tz_any w h
  have PW := Ex.pow_calls
  generalize hr : B (tell u) = r
  have HR := Lib.hid hr
  clear hr
  go_enter Tryd.func63, Tryd.ntmps63
  go_wp2_with fail
  go_at_call 78
  refine (PW _).mono ?_
  rintro e w1 ⟨rfl, hb1⟩
  go_wp2_with fail
  go_at_call 79
  refine (TZ _ ?_).mono ?_
  · exact (hw.mono ((Below.refl w.heap.size w).alloc (Nat.le_refl _) _)).mono hb1
  rintro e w2 ⟨rfl, hb2⟩
  have HA := Lib.hid (At.start hb1 hb2 u)
  clear hb1 hb2 hw TZ PW
  go_wp2_with fail
  go_loopw [1, 13] (fun cu ci wr => ∃ (v i : Nat) (l : List UInt8) (G : Nat → Int), cu = .int .u64 v ∧ ci = .int .i64 i ∧ Hid (At w wr u v i l G)) (fun cu _ _ => (intOf cu).toNat)
  case atStart => exact ⟨u, 65, [], _, rfl, rfl, HA⟩
  case round =>
    obtain ⟨v, i, l, G, rfl, rfl, HI⟩ := hrel
    rename World => wr
    clear HA
    have hfit := HI.out.fits
    have hlen := HI.out.len
    have hvu : v ≤ u := Nat.le_trans (Nat.le_mul_of_pos_right _ (Nat.pow_pos (by decide))) hfit
    by_cases h16 : 16 ≤ v
    · have hl15 : l.length < 15 := by
        apply Nat.lt_of_not_le
        intro h
        have h1 : 16 ^ 15 ≤ 16 ^ l.length := Nat.pow_le_pow_right (by decide) h
        have h2 : 16 * 16 ^ 15 ≤ v * 16 ^ l.length := Nat.mul_le_mul h16 h1
        omega
      obtain ⟨m, rfl⟩ : ∃ m, i = m + 1 := ⟨i - 1, by omega⟩
      have hc := HI.out.cells
      have hf := HI.out.free
      have hm : m < 65 := by omega
      obtain ⟨g, hg⟩ : ∃ g : UInt8, g = dgt (v % 16) := ⟨_, rfl⟩
      have hix : ∀ W, (Instr.index 9 (.string digs) (.int .u64 (bits .and .u64 (v : Int) 15))).run Tryd.prog W = .ok (.int .u8 (g.toNat : Int)) W := fun W => by
        rw [hg]
        exact digs_at _ _ _ (and15w v (by omega)) (Nat.mod_lt _ (by decide)) W
      have HS := Lib.hid (HI.out.step h16 hl15 g hg)
      clear hg hlen hfit hl15 HI
      go_wp2
      go_roundw
      case rel => exact ⟨v / 16, m, g :: l, _, by simp, rfl, HS⟩
      case measure => simp [intOf]; omega
    · obtain ⟨m, rfl⟩ : ∃ m, i = m + 1 := ⟨i - 1, by have := HI.out.few; omega⟩
      have hc := HI.out.cells
      have hf := HI.out.free
      have hm : m < 65 := by omega
      obtain ⟨g, hg⟩ : ∃ g : UInt8, g = dgt v := ⟨_, rfl⟩
      have hix : ∀ W, (Instr.index 9 (.string digs) (.int .u64 (v : Int))).run Tryd.prog W = .ok (.int .u8 (g.toNat : Int)) W := fun W => by
        rw [hg]
        exact digs_at _ _ _ rfl (by omega) W
      have hal : Tryd.prog.arrayLen 113 = 65 := by kernel_rfl
      have hlm : 65 - m = l.length + 1 := by omega
      have hsl : ∀ W, (Instr.sliceAt 113 (.pointer (some ⟨w.heap.size, 0, none⟩)) (some (.int .i64 (m : Int))) none none).run Tryd.prog W = .ok (.slice (some ⟨w.heap.size, m, none⟩) (l.length + 1) (l.length + 1)) W := fun W => by
        rw [run_sliceAt_array_l W 113 ⟨w.heap.size, 0, none⟩ (by kernel_rfl) .i64 (m : Int) (by omega) (by rw [hal]; omega)]
        rw [hal]
        go_simp
        omega
      have hcv : (convert 57 9 (.slice (some ⟨w.heap.size, m, none⟩) (l.length + 1) (l.length + 1))).run Tryd.prog (wr.setCell ⟨w.heap.size, m, none⟩ (.int .u8 (g.toNat : Int))) = .ok (.string r) (wr.setCell ⟨w.heap.size, m, none⟩ (.int .u8 (g.toNat : Int))) := by
        have h := run_convert_bytes_back (P := Tryd.prog) (wr.setCell ⟨w.heap.size, m, none⟩ (.int .u8 (g.toNat : Int))) 57 9 5 ⟨w.heap.size, m, none⟩ (l.length + 1) (g :: l) Tryd.underlying57 Tryd.underlying5 Tryd.underlying9 (fun j hj => by
          rw [Lib.add_plain]
          cases j with
          | zero => exact World.cell?_setCell_same _ _ _ (hc m (by omega))
          | succ j =>
            have hj' : j < l.length := by simpa using hj
            have := HI.out.put j hj'
            rw [World.cell?_setCell_other _ _ _ _ (by simp), List.getElem_cons_succ, ← this, show m + 1 + j = m + (j + 1) by omega]
            exact hc _ (by omega))
        have e : (⟨(g :: l).toArray⟩ : ByteArray) = r := by
          rw [← HR.out, HI.out.told, hg, tell_small v (by omega)]
          rfl
        rw [e] at h
        exact h
      have HB : Hid (Below w.heap.size w (wr.setCell ⟨w.heap.size, m, none⟩ (.int .u8 (g.toNat : Int)))) := Lib.hid (HI.out.below.setCell (Nat.le_refl _) _)
      clear hg hlen hfit HI hlm hal
      go_wp2
      refine bodyPost_ret (v := .tuple #[.slice none 0 0, .string r]) (by simp [results, Tryd.results63, go_sem]) rfl ⟨rfl, HB.out⟩
end Go.Proofs.YtpjfhdbkkomogaaDoor.Mb
/- Walks: a float told, and read. -/
namespace Go.Proofs.YtpjfhdbkkomogaaDoor.Mb
open Go.RowKit Go.Proofs.YtpjfhdbkkomogaaDoorW.PrintWords Go.Proofs.YtpjfhdbkkomogaaDoorW.PrintLast Go.Proofs.YtpjfhdbkkomogaaDoorW.PrintMore Go.Proofs.YtpjfhdbkkomogaaDoor.Px Go.Proofs.YtpjfhdbkkomogaaDoor.Gvn
attribute [local go_sem] run_store_float

theorem format_in (u : Nat) (hu : u < 18446744073709551616) (w : World) (hw : Tabs w) :
    Calls Tryd.prog 42 #[.int .u64 u, .int .i64 16] w fun e w' => e = .returned (.string (B (tell u))) ∧ Below w.heap.size w w' := by
  have FB := fun (w : World) (h : Tabs w) => bits_any u hu w h
  generalize B (tell u) = r at FB ⊢
  go_enter Tryd.func42, Tryd.ntmps42
  go_wp2_with fail
  go_at_call 63
  refine (FB _ hw).mono ?_
  rintro e w1 ⟨rfl, hb1⟩
  go_wp2
  go_ret
  exact ⟨rfl, hb1⟩
theorem format16 (u : Nat) (hu : u < 18446744073709551616) (w : World) (hw : Tabs w) :
    Calls Tryd.prog 29 #[.int .u64 u, .int .i64 16] w fun e w' => e = .returned (.string (B (tell u))) ∧ Below w.heap.size w w' := by
  have FB := fun (w : World) (h : Tabs w) => format_in u hu w h
  generalize B (tell u) = r at FB ⊢
  go_enter Tryd.func29, Tryd.ntmps29
  go_wp2_with fail
  go_at_call 42
  refine (FB _ hw).mono ?_
  rintro e w1 ⟨rfl, hb1⟩
  go_wp2
  go_ret
  exact ⟨rfl, hb1⟩
theorem is_float (f : Nat) (hf : f < 18446744073709551616) : value_Is.f 1 5 0 ⟨#[]⟩ f = some true := by
  have e : (⟨#[]⟩ : ByteArray).toList = [] := toList_B []
  unfold value_Is.f bits_Order.f
  rw [if_pos hf, Option.bind_some, if_neg (by decide), if_neg (by decide), if_neg (by decide), value_Is.j0, if_neg (by decide), if_pos rfl, if_pos rfl, e]
  rfl
theorem told16 (u : Nat) (hu : u < 18446744073709551616) : (tell u).length ≤ 16 ∧ 1 ≤ (tell u).length ∧ List.replicate (16 - (tell u).length) 48 ++ tell u = tells 16 u := by
  obtain ⟨h1, h2⟩ := tell_filled 15 u (by omega)
  refine ⟨h1, ?_, h2⟩
  by_cases h : u < 16
  · rw [tell_small u h]; simp
  · rw [tell_big u h]; simp
set_option maxHeartbeats 1000000 in
set_option maxRecDepth 100000 in
theorem print_float (f : Nat) (hf : f < 18446744073709551616) (w : World) (hw : Tabs w) :
    Calls Tryd.prog 10 #[Av 5 0 ⟨#[]⟩ f] w fun e w' => e = .returned (.string (B (102 :: tells 16 f))) ∧ Below w.heap.size w w' := by
  have HI := Lib.hid (is_float f hf)
  have FM := fun (w : World) (hw : Tabs w) => format16 f hf w hw
  obtain ⟨t1, t2, t3⟩ := told16 f hf
  obtain ⟨c, hc⟩ : ∃ c, c = 16 - (tell f).length := ⟨_, rfl⟩
  have RP := fun (w : World) => Ex.rep_calls c (by omega) w
  have HX : Hid ((⟨#[102]⟩ : ByteArray) ++ ⟨(List.replicate c 48).toArray⟩ ++ B (tell f) = B (102 :: tells 16 f)) := by
    show B [102] ++ B (List.replicate c 48) ++ B (tell f) = B (102 :: tells 16 f)
    rw [append_B, append_B, hc, List.append_assoc, t3]
    rfl
  have HC : Hid ((16 : Int) - ((B (tell f)).size : Int) = (c : Int)) := Lib.hid (by rw [size_B]; omega)
  have hz : (⟨(List.replicate c 48).toArray⟩ : ByteArray).size ≤ 16 := by
    show (B (List.replicate c 48)).size ≤ 16
    rw [size_B, List.length_replicate]; omega
  have hs : (B (tell f)).size ≤ 16 := by rw [size_B]; exact t1
  generalize B (102 :: tells 16 f) = x at HX ⊢
  generalize (⟨(List.replicate c 48).toArray⟩ : ByteArray) = z at RP HX hz
  generalize B (tell f) = s at FM HX HC hs
  have hT1 : Tabs (w.alloc (.cells #[Value.int IntKind.i64 5, Value.int IntKind.i64 0, Value.string ⟨#[]⟩, Value.float FloatKind.f64 f] 24)) := hw.mono ((Below.refl w.heap.size w).alloc (Nat.le_refl _) _)
  have k23 := run23
  clear hf hw t1 t2 t3 hc
  go_enter Tryd.func10, Tryd.ntmps10
  go_wp2_with fail
  go_at_call 24
  refine (value_Is.calls _ _ _ _ _ _ _ HI.out).mono ?_
  rintro e w1 ⟨rfl, hb1⟩
  obtain ⟨hc1, hf1⟩ := bcell hb1
  have hT2 := hT1.mono hb1
  have hB1 : Below w.heap.size w w1 := ((Below.refl w.heap.size w).alloc (Nat.le_refl _) _).trans (hb1.mono (by simp))
  go_wp2_with fail
  go_at_call 29
  refine (FM _ hT2).mono ?_
  rintro e w2 ⟨rfl, hb2⟩
  go_wp2_with fail
  rw [HC.out]
  go_at_call 30
  refine (RP _).mono ?_
  rintro e w3 ⟨rfl, hb3⟩
  go_wp2
  go_ret
  have hB2 := hB1.trans (hb2.mono hB1.size)
  exact ⟨by rw [← HX.out]; rfl, hB2.trans (hb3.mono hB2.size)⟩
end Go.Proofs.YtpjfhdbkkomogaaDoor.Mb
/- Walks: digits of sixteen read. -/
namespace Go.Proofs.YtpjfhdbkkomogaaDoor.Mb
open Go.RowKit Go.Proofs.YtpjfhdbkkomogaaDoorW.PrintWords Go.Proofs.YtpjfhdbkkomogaaDoorW.PrintLast Go.Proofs.YtpjfhdbkkomogaaDoorW.PrintMore Go.Proofs.YtpjfhdbkkomogaaDoor.Px Go.Proofs.YtpjfhdbkkomogaaDoor.Gvn
attribute [local go_sem] run_store_float

theorem or32 : ∀ n : Fin 256, 97 ≤ n.val → n.val ≤ 102 → bits .or .u8 (n.val : Int) 32 = (n.val : Int) := by decide +kernel
theorem lower_any (c : UInt8) (h : 97 ≤ c.toNat ∧ c.toNat ≤ 102) (w : World) : Calls Tryd.prog 83 #[.int .u8 (c.toNat : Int)] w fun e w' => e = .returned (.int .u8 (c.toNat : Int)) ∧ w' = w := by
  have e := or32 ⟨c.toNat, c.toNat_lt⟩ h.1 h.2
  simp only at e
  obtain ⟨x, hx⟩ : ∃ x : Int, x = (c.toNat : Int) := ⟨_, rfl⟩
  have h0 : 0 ≤ x := by omega
  have h1 : x < 256 := by omega
  rw [← hx] at e ⊢
  clear h hx
  have he := Lib.hid e
  clear e
  generalize hy : bits .or .u8 x 32 = y at he
  go_enter Tryd.func83, Tryd.ntmps83
  go_wp2
  go_ret
  have e := he.out
  subst e
  exact ⟨rfl, rfl⟩
set_option maxHeartbeats 4000000 in
set_option maxRecDepth 100000 in
theorem parse16_in (l : List UInt8) (h1 : 1 ≤ l.length) (h2 : l.length ≤ 16) (hl : ∀ c ∈ l, isDgt c) (w : World) :
    Calls Tryd.prog 70 #[.string (B l), .int .i64 16, .int .i64 64] w fun e w' => e = .returned (.tuple #[.int .u64 (hval l : Int), .nilIface]) ∧ Below w.heap.size w w' := by
  obtain ⟨t, ht⟩ : ∃ t, t = B l := ⟨_, rfl⟩
  have hsz : t.size = l.length := by rw [ht, size_B]
  have hemp : t.toList.isEmpty = false := by
    rw [ht, toList_B]
    cases l with
    | nil => simp at h1
    | cons c r => rfl
  have hcv := Lib.run_convert_string_bytes (P := Tryd.prog) w 9 57 5 t (u := .string) Tryd.underlying9 Tryd.underlying57 Tryd.underlying5
  have hB : ∀ j, j < t.size → (Lib.bytesWorld w 5 t).cell? ⟨w.heap.size, j, none⟩ = some (.int .u8 (l.getD j 0).toNat) := fun j hj => by
    have := Lib.bytesWorld_cell w 5 t j hj
    rw [ht, data_B, ← ht] at this
    exact this
  have hW := Lib.bytesWorld_below w 5 t
  rw [← ht]
  obtain ⟨W1, hW1⟩ : ∃ W1, W1 = Lib.bytesWorld w 5 t := ⟨_, rfl⟩
  rw [← hW1] at hcv hB hW
  clear hW1 ht
  have hmv : IntKind.u64.wrap (IntKind.u64.wrap 18446744073709551616 - 1) = 18446744073709551615 := by
    rw [IntKind.wrap_u64, IntKind.wrap_u64]
    decide
  have HZ := Lib.hid hsz
  have hs1 : 1 ≤ t.size := by omega
  have hs2 : t.size ≤ 16 := by omega
  clear hsz
  generalize hr : (hval l : Int) = r
  have HR := Lib.hid hr
  clear hr
  go_enter Tryd.func70, Tryd.ntmps70
  have HWB := Lib.hid hW
  clear hW
  go_wp2_with fail
  go_loop [12, 13, 101] (fun vu vn vi => ∃ (k : Nat) (a : Int), vu = .bool false ∧ vn = .int .u64 a ∧ vi = .int .i64 k ∧ k ≤ t.size ∧ Hid (a = (hval (l.take k) : Int)))
    (fun _ _ vi => t.size - (intOf vi).toNat)
  case atStart => exact ⟨0, 0, rfl, rfl, rfl, by omega, rfl⟩
  case round =>
    obtain ⟨k, a, rfl, rfl, rfl, hk, hh⟩ := hrel
    have ha := hh.out
    clear hh
    by_cases hkn : k < t.size
    · have hc := hB k hkn
      have hkl : k < l.length := by have := HZ.out; omega
      have hget : l.getD k 0 = l[k] := by simp [List.getD, List.getElem?_eq_getElem hkl]
      have hdg := hl l[k] (List.getElem_mem _)
      have hlt := hval_lt (l.take k) fun c hc => hl c (List.mem_of_mem_take hc)
      have hlt2 : hval (l.take k) < 16 ^ 15 := by
        refine Nat.lt_of_lt_of_le hlt (Nat.pow_le_pow_right (by decide) ?_)
        rw [List.length_take]; omega
      have hsn : hval (l.take (k + 1)) = hval (l.take k) * 16 + dgv l[k] := by
        rw [List.take_succ_eq_append_getElem hkl, hval_snoc]
      rw [hget] at hc
      generalize l[k] = c at hc hdg hsn
      have a0 : 0 ≤ a := by omega
      have a1 : a < 1152921504606846976 := by omega
      have hc256 : c.toNat < 256 := c.toNat_lt
      have LW := fun (w : World) (h : 97 ≤ c.toNat ∧ c.toNat ≤ 102) => lower_any c h w
      clear hB hget hlt hlt2 hl hkl h1 h2
      by_cases hdig : c.toNat ≤ 57
      · have hd0 : 48 ≤ c.toNat := by unfold isDgt at hdg; omega
        have HN : Hid (a * 16 + ((c.toNat : Int) - 48) = (hval (l.take (k + 1)) : Int)) := Lib.hid (by
          rw [hsn, ha]; unfold dgv; rw [if_pos hdig]; omega)
        clear hdg hsn ha LW
        go_wp2
        refine ⟨⟨k + 1, a * 16 + ((c.toNat : Int) - 48), rfl, (by first | rfl | (congr 1; omega)), (by first | rfl | (congr 1; omega)), by omega, HN⟩, by simp [intOf]; omega⟩
      · have hd0 : 97 ≤ c.toNat := by unfold isDgt at hdg; omega
        have hd1 : c.toNat ≤ 102 := by unfold isDgt at hdg; omega
        have HN : Hid (a * 16 + ((c.toNat : Int) - 97 + 10) = (hval (l.take (k + 1)) : Int)) := Lib.hid (by
          rw [hsn, ha]; unfold dgv; rw [if_neg hdig]; omega)
        clear hdg hsn ha
        go_wp2_with (go_at_call 83; refine (LW _ ⟨hd0, hd1⟩).mono ?_; rintro e w' ⟨rfl, rfl⟩)
        refine ⟨⟨k + 1, a * 16 + ((c.toNat : Int) - 97 + 10), rfl, (by first | rfl | (congr 1; omega)), (by first | rfl | (congr 1; omega)), by omega, HN⟩, by simp [intOf]; omega⟩
    · have hkk : k = t.size := by omega
      subst hkk
      have hF : a = r := by rw [ha, ← HR.out, HZ.out, List.take_length]
      subst hF
      clear hB ha hl
      go_wp2
      go_ret2
      exact ⟨rfl, HWB.out⟩
theorem parse16 (l : List UInt8) (h1 : 1 ≤ l.length) (h2 : l.length ≤ 16) (hl : ∀ c ∈ l, isDgt c) (w : World) :
    Calls Tryd.prog 52 #[.string (B l), .int .i64 16, .int .i64 64] w fun e w' => e = .returned (.tuple #[.int .u64 (hval l : Int), .nilIface]) ∧ Below w.heap.size w w' := by
  have PI := fun (w : World) => parse16_in l h1 h2 hl w
  generalize (hval l : Int) = r at PI ⊢
  generalize B l = t at PI ⊢
  clear h1 h2 hl
  go_enter Tryd.func52, Tryd.ntmps52
  go_wp2_with fail
  go_at_call 70
  refine (PI _).mono ?_
  rintro e w1 ⟨rfl, hb1⟩
  go_wp2
  go_ret2
  exact ⟨rfl, hb1⟩
end Go.Proofs.YtpjfhdbkkomogaaDoor.Mb
/- Walks: text.front, where a float stands ahead. -/
namespace Go.Proofs.YtpjfhdbkkomogaaDoor.Mb
open Go.RowKit Go.Proofs.YtpjfhdbkkomogaaDoorW.PrintWords Go.Proofs.YtpjfhdbkkomogaaDoorW.PrintLast Go.Proofs.YtpjfhdbkkomogaaDoorW.PrintMore Go.Proofs.YtpjfhdbkkomogaaDoor.Px Go.Proofs.YtpjfhdbkkomogaaDoor.Gvn
attribute [local go_sem] run_store_float

theorem not_false_ahead (l m : List UInt8) (h : l.length = 16) (hl : ∀ c ∈ l, isDgt c) : (((102 :: (l ++ m)).take ([102, 97, 108, 115, 101] : List UInt8).length) == [102, 97, 108, 115, 101]) = false := by
  match l, h, hl with
  | a :: b :: r, _, hl =>
    have hb := hl b (by simp)
    have : b ≠ 108 := by
      rintro rfl
      revert hb
      unfold isDgt
      decide
    simp [this]
set_option maxHeartbeats 2000000 in
set_option maxRecDepth 100000 in
theorem front_float (l m : List UInt8) (h : l.length = 16) (hm : m.length ≤ 10000) (hl : ∀ c ∈ l, isDgt c) (w : World) :
    Calls Tryd.prog 33 #[.string (B (102 :: (l ++ m)))] w fun e w' => e = .returned (.tuple #[Av 5 0 ⟨#[]⟩ (hval l), .string (B m), .bool true]) ∧ Below w.heap.size w w' := by
  have H1 : Hid (strings_HasPrefix.f (B (102 :: (l ++ m))) (⟨#[34]⟩ : ByteArray) = some false) := (hasPrefix_is (102 :: (l ++ m)) [34]).trans (by simp)
  have H2 : Hid (strings_HasPrefix.f (B (102 :: (l ++ m))) (⟨#[116, 114, 117, 101]⟩ : ByteArray) = some false) := (hasPrefix_is (102 :: (l ++ m)) [116, 114, 117, 101]).trans (by simp)
  have H3 : Hid (strings_HasPrefix.f (B (102 :: (l ++ m))) (⟨#[102, 97, 108, 115, 101]⟩ : ByteArray) = some false) := (hasPrefix_is (102 :: (l ++ m)) [102, 97, 108, 115, 101]).trans (by rw [not_false_ahead l m h hl])
  have H4 : Hid (strings_HasPrefix.f (B (102 :: (l ++ m))) (⟨#[120]⟩ : ByteArray) = some false) := (hasPrefix_is (102 :: (l ++ m)) [120]).trans (by simp)
  have H5 : Hid (strings_HasPrefix.f (B (102 :: (l ++ m))) (⟨#[102]⟩ : ByteArray) = some true) := (hasPrefix_is (102 :: (l ++ m)) [102]).trans (by simp)
  have PI := fun (w : World) => parse16 l (by omega) (by omega) hl w
  have hs0 : (B (102 :: (l ++ m))).size = 17 + m.length := by rw [size_B, List.length_cons, List.length_append]; omega
  have HC : Hid ((B (102 :: (l ++ m))).extract 1 17 = B l) := Lib.hid (by
    rw [extract_B, List.drop_succ_cons, List.drop_zero, show 17 - 1 = 16 from rfl, ← h, List.take_left])
  have HD : Hid ((B (102 :: (l ++ m))).extract 17 (B (102 :: (l ++ m))).size = B m) := Lib.hid (by
    rw [tail_B, List.drop_succ_cons, ← h, List.drop_left])
  have hs1 : 17 ≤ (B (102 :: (l ++ m))).size := by omega
  have hs2 : (B (102 :: (l ++ m))).size ≤ 100000 := by omega
  have hsI : (17 : Int) ≤ ((B (102 :: (l ++ m))).size : Int) := by omega
  clear hs0
  generalize B m = rest at HD ⊢
  generalize B (102 :: (l ++ m)) = s at *
  generalize B l = num at HC PI
  generalize hval l = f at PI ⊢
  have k22 := run22
  clear h hm hl
  go_enter Tryd.func33, Tryd.ntmps33
  go_wp2_with fail
  go_at_call 44
  refine (strings_HasPrefix.calls _ _ _ _ H1.out).mono ?_
  rintro e w1 ⟨rfl, ⟨n1, rfl⟩⟩
  go_wp2_with fail
  go_at_call 44
  refine (strings_HasPrefix.calls _ _ _ _ H2.out).mono ?_
  rintro e w2 ⟨rfl, ⟨n2, rfl⟩⟩
  go_wp2_with fail
  go_at_call 44
  refine (strings_HasPrefix.calls _ _ _ _ H3.out).mono ?_
  rintro e w3 ⟨rfl, ⟨n3, rfl⟩⟩
  go_wp2_with fail
  go_at_call 44
  refine (strings_HasPrefix.calls _ _ _ _ H4.out).mono ?_
  rintro e w4 ⟨rfl, ⟨n4, rfl⟩⟩
  go_wp2_with fail
  go_at_call 44
  refine (strings_HasPrefix.calls _ _ _ _ H5.out).mono ?_
  rintro e w5 ⟨rfl, ⟨n5, rfl⟩⟩
  clear H1 H2 H3 H4 H5
  go_wp2_with fail
  rw [HC.out]
  go_at_call 52
  refine (PI _).mono ?_
  rintro e w6 ⟨rfl, hb6⟩
  go_wp2_with fail
  obtain ⟨hc6, hf6⟩ := bcell hb6
  have hz6 := hb6.size
  simp at hz6
  have hz6a : w.heap.size < w6.heap.size := by omega
  clear hz6
  have g0 := hc6 w.heap.size 0 (by simp)
  have g1 := hc6 w.heap.size 1 (by simp)
  have g2 := hc6 w.heap.size 2 (by simp)
  have g3 := hc6 w.heap.size 3 (by simp)
  have f0 := hf6 w.heap.size 0 (by simp)
  have f1 := hf6 w.heap.size 1 (by simp)
  have f2 := hf6 w.heap.size 2 (by simp)
  have f3 := hf6 w.heap.size 3 (by simp)
  simp [go_sem] at g0 g1 g2 g3 f0 f1 f2 f3
  clear hc6 hf6
  go_region
  go_wp2
  refine bodyPost_ret (v := .tuple #[Av 5 0 ⟨#[]⟩ f, .string rest, .bool true]) ?_ rfl ⟨rfl, ?_⟩
  · rw [← HD.out]
    simp [results, Tryd.results33, go_sem, g0, g1, g2, g3]
  · have hB6 : Below w.heap.size w w6 := ((below_zero w).trans (pw_below_drewN (Below.refl _ _) _)).trans (hb6.mono (by simp))
    repeat (first | exact hB6 | apply below_drew1 | refine below_set ?_ (Nat.le_refl _))
end Go.Proofs.YtpjfhdbkkomogaaDoor.Mb
/- Functions of this program as Lean functions, and that the calls answer as they do: printed by this session's printmore.py. -/
namespace Go.Proofs.YtpjfhdbkkomogaaDoor.Px
open Go.RowKit Go.Proofs.YtpjfhdbkkomogaaDoor.Gvn Go.Proofs.YtpjfhdbkkomogaaDoorW.PrintWords Go.Proofs.YtpjfhdbkkomogaaDoorW.PrintLast Go.Proofs.YtpjfhdbkkomogaaDoorW.PrintMore
attribute [local go_sem] run_store_float max2_int min2_int max_two min_two max_three min_three max_four min_four   -- for this text's walks alone
set_option linter.unusedVariables false
set_option linter.unusedSimpArgs false

/-! ### strconv_FormatBool_41: function 41 -/
def strconv_FormatBool_41.f (a0 : Bool) : Option (ByteArray) := if a0 = true then (some (⟨#[116, 114, 117, 101]⟩ : ByteArray)) else (some (⟨#[102, 97, 108, 115, 101]⟩ : ByteArray))
set_option maxHeartbeats 8000000 in
set_option maxRecDepth 100000 in
theorem strconv_FormatBool_41.calls (a0 : Bool) (r : ByteArray) (w : World) (h : strconv_FormatBool_41.f a0 = some r) :
    Calls Tryd.prog 41 #[.bool a0] w fun e w' => e = .returned (.string r) ∧ Drawn0 w w' := by
  have H : (if a0 = true then (some (⟨#[116, 114, 117, 101]⟩ : ByteArray)) else (some (⟨#[102, 97, 108, 115, 101]⟩ : ByteArray))) = some r := h
  clear h
  by_cases c2 : a0 = true
  · subst c2
    have H1 : (some (⟨#[116, 114, 117, 101]⟩ : ByteArray)) = some r := by rw [if_pos rfl] at H; exact H
    clear H
    have H := H1
    clear H1
    obtain rfl := Option.some.inj H
    have k23 := run23
    have k22 := run22
    go_enter Tryd.func41, Tryd.ntmps41
    go_wp2
    go_ret
    exact ⟨by first | rfl | (simp; done) | (simp [*]; done), by repeat (first | exact Drawn0.refl _ | apply Drawn0.step)⟩
  · replace c2 := Bool.eq_false_iff.mpr c2
    subst c2
    have H1 : (some (⟨#[102, 97, 108, 115, 101]⟩ : ByteArray)) = some r := by rw [if_neg (show ¬ (false = true) by decide)] at H; exact H
    clear H
    have H := H1
    clear H1
    obtain rfl := Option.some.inj H
    have k23 := run23
    have k22 := run22
    go_enter Tryd.func41, Tryd.ntmps41
    go_wp2
    go_ret
    exact ⟨by first | rfl | (simp; done) | (simp [*]; done), by repeat (first | exact Drawn0.refl _ | apply Drawn0.step)⟩

end Go.Proofs.YtpjfhdbkkomogaaDoor.Px
/- Functions of this program as Lean functions, and that the calls answer as they do: printed by this session's printmore.py. -/
namespace Go.Proofs.YtpjfhdbkkomogaaDoor.Px
open Go.RowKit Go.Proofs.YtpjfhdbkkomogaaDoor.Gvn Go.Proofs.YtpjfhdbkkomogaaDoorW.PrintWords Go.Proofs.YtpjfhdbkkomogaaDoorW.PrintLast Go.Proofs.YtpjfhdbkkomogaaDoorW.PrintMore
attribute [local go_sem] run_store_float max2_int min2_int max_two min_two max_three min_three max_four min_four   -- for this text's walks alone
set_option linter.unusedVariables false
set_option linter.unusedSimpArgs false

/-! ### strconv_FormatBool_26: function 26 -/
def strconv_FormatBool_26.f (a0 : Bool) : Option (ByteArray) := (strconv_FormatBool_41.f a0).bind fun t119 => (some t119)
set_option maxHeartbeats 8000000 in
set_option maxRecDepth 100000 in
theorem strconv_FormatBool_26.calls (a0 : Bool) (r : ByteArray) (w : World) (h : strconv_FormatBool_26.f a0 = some r) :
    Calls Tryd.prog 26 #[.bool a0] w fun e w' => e = .returned (.string r) ∧ Drawn0 w w' := by
  have H : ((strconv_FormatBool_41.f a0).bind fun t119 => (some t119)) = some r := h
  clear h
  replace H := Option.bind_eq_some_iff.mp H
  obtain ⟨t119, A20, H⟩ := H
  replace H : (some t119) = some r := H
  have A2 := Aside0.mk A20
  clear A20
  obtain rfl := Option.some.inj H
  have k23 := run23
  have k22 := run22
  go_enter Tryd.func26, Tryd.ntmps26
  go_wp2_with (first | ((with_reducible refine gate_callee (f := 41) rfl ?_); refine goesL_ (some 4) rfl rfl Tryd.func41 (by kernel_rfl) rfl #[.bool a0] rfl (by (try simp only [List.map_toArray, List.map_cons, List.map_nil]); first | done | rfl | (simp only [List.length_drop, List.length_take]; rfl)) ?_; (with_reducible refine (strconv_FormatBool_41.calls a0 t119 _ A2.out).mono ?_); rintro e w' ⟨rfl, ⟨nd, rfl⟩⟩; refine ⟨_, rfl, ?_⟩))
  go_ret
  exact ⟨by first | rfl | (simp; done) | (simp [*]; done), by repeat (first | exact Drawn0.refl _ | apply Drawn0.step)⟩

end Go.Proofs.YtpjfhdbkkomogaaDoor.Px
/- Walks: bools, bytes, and what is no value, told; bools and bytes read. -/
namespace Go.Proofs.YtpjfhdbkkomogaaDoor.Mb
open Go.RowKit Go.Proofs.YtpjfhdbkkomogaaDoorW.PrintWords Go.Proofs.YtpjfhdbkkomogaaDoorW.PrintLast Go.Proofs.YtpjfhdbkkomogaaDoorW.PrintMore Go.Proofs.YtpjfhdbkkomogaaDoor.Px Go.Proofs.YtpjfhdbkkomogaaDoor.Gvn
attribute [local go_sem] run_store_float

set_option maxRecDepth 100000 in
theorem print_bad (k i : Int) (s : ByteArray) (f : Nat) (h : value_Is.f 1 k i s f = some false) (w : World) :
    Calls Tryd.prog 10 #[Av k i s f] w fun e w' => e = .returned (.string (B [63])) ∧ Below w.heap.size w w' := by
  have HI := Lib.hid h
  clear h
  go_enter Tryd.func10, Tryd.ntmps10
  go_wp2_with (first | (go_at_call 24; refine (value_Is.calls _ _ _ _ _ _ _ HI.out).mono ?_; rintro e w1 ⟨rfl, hb1⟩))
  go_ret
  refine ⟨rfl, ?_⟩
  exact ((Below.refl w.heap.size w).alloc (Nat.le_refl _) _).trans (hb1.mono (by simp))
theorem bool_told (b : Bool) : strconv_FormatBool_26.f b = some (B (if b then [116, 114, 117, 101] else [102, 97, 108, 115, 101])) := by
  cases b <;> rfl
set_option maxRecDepth 100000 in
theorem print_bool (i : Int) (hi : i = 0 ∨ i = 1) (w : World) :
    Calls Tryd.prog 10 #[Av 2 i ⟨#[]⟩ 0] w fun e w' => e = .returned (.string (B (if i = 1 then [116, 114, 117, 101] else [102, 97, 108, 115, 101]))) ∧ Below w.heap.size w w' := by
  have is : value_Is.f 1 2 i ⟨#[]⟩ 0 = some true := by
    have e : (⟨#[]⟩ : ByteArray).toList = [] := toList_B []
    unfold value_Is.f
    rw [order0, Option.bind_some, if_neg (by decide), if_pos rfl, if_pos e]
    rcases hi with rfl | rfl
    · rfl
    · rfl
  have HI := Lib.hid is
  have HT := Lib.hid (bool_told (decide (i = 1)))
  have hx : (if decide (i = 1) = true then [116, 114, 117, 101] else [102, 97, 108, 115, 101] : List UInt8) = if i = 1 then [116, 114, 117, 101] else [102, 97, 108, 115, 101] := by
    simp only [decide_eq_true_eq]
  rw [hx] at HT
  generalize B (if i = 1 then [116, 114, 117, 101] else [102, 97, 108, 115, 101]) = r at HT ⊢
  have hb : (i == 1) = decide (i = 1) := by rcases hi with rfl | rfl <;> rfl
  have HBB := Lib.hid hb
  clear is hi hb hx
  go_enter Tryd.func10, Tryd.ntmps10
  go_wp2_with fail
  go_at_call 24
  refine (value_Is.calls _ _ _ _ _ _ _ HI.out).mono ?_
  rintro e w1 ⟨rfl, hb1⟩
  obtain ⟨hc1, hf1⟩ := bcell hb1
  go_wp2_with fail
  rw [HBB.out]
  go_at_call 26
  refine (strconv_FormatBool_26.calls _ _ _ HT.out).mono ?_
  rintro e w2 ⟨rfl, ⟨n2, rfl⟩⟩
  go_wp2
  go_ret
  refine ⟨rfl, ?_⟩
  exact pw_below_drewN (((Below.refl w.heap.size w).alloc (Nat.le_refl _) _).trans (hb1.mono (by simp))) _
set_option maxRecDepth 100000 in
theorem print_bytes (s : ByteArray) (h : s.size ≤ 60) (w : World) :
    Calls Tryd.prog 10 #[Av 4 0 s 0] w fun e w' => e = .returned (.string (B (120 :: hexL s.data.toList))) ∧ Below w.heap.size w w' := by
  have is : value_Is.f 1 4 0 s 0 = some true := by
    unfold value_Is.f
    have h' : (s.size : Int) ≤ 60 := by omega
    rw [order0, Option.bind_some, if_neg (by decide), if_neg (by decide), if_neg (by decide), value_Is.j0, if_pos rfl, if_pos h', if_pos rfl]
    rfl
  have hq := hexed_is (s.size + 5) s.data.toList (by rw [size_data]; omega) (by rw [size_data]; omega)
  rw [B_data] at hq
  have HI := Lib.hid is
  have HQ := Lib.hid hq
  have HX : Hid ((⟨#[120]⟩ : ByteArray) ++ B (hexL s.data.toList) = B (120 :: hexL s.data.toList)) := append_B [120] _
  have hz : (B (hexL s.data.toList)).size ≤ 1000 := by rw [size_B, hexL_length, size_data]; omega
  generalize B (120 :: hexL s.data.toList) = r at HX ⊢
  generalize B (hexL s.data.toList) = x at HX HQ hz
  clear is hq
  go_enter Tryd.func10, Tryd.ntmps10
  go_wp2_with (first | (go_at_call 24; refine (value_Is.calls _ _ _ _ _ _ _ HI.out).mono ?_; rintro e w1 ⟨rfl, hb1⟩; obtain ⟨hc1, hf1⟩ := bcell hb1) | (go_at_call 28; refine (text_hexed.calls _ _ _ _ HQ.out).mono ?_; rintro e w2 ⟨rfl, hb2⟩))
  go_ret
  have h2 := ((Below.refl w.heap.size w).alloc (Nat.le_refl _) (.cells #[Value.int IntKind.i64 4, Value.int IntKind.i64 0, Value.string s, Value.float FloatKind.f64 0] 24)).trans (hb1.mono (by simp))
  exact ⟨by rw [← HX.out]; rfl, h2.trans (hb2.mono h2.size)⟩
set_option maxHeartbeats 1000000 in
set_option maxRecDepth 100000 in
theorem front_true (m : List UInt8) (hm : m.length ≤ 10000) (w : World) :
    Calls Tryd.prog 33 #[.string (B ([116, 114, 117, 101] ++ m))] w fun e w' => e = .returned (.tuple #[Av 2 1 ⟨#[]⟩ 0, .string (B m), .bool true]) ∧ Below w.heap.size w w' := by
  have H1 : Hid (strings_HasPrefix.f (B ([116, 114, 117, 101] ++ m)) (⟨#[34]⟩ : ByteArray) = some false) := (hasPrefix_is ([116, 114, 117, 101] ++ m) [34]).trans (by simp)
  have H2 : Hid (strings_HasPrefix.f (B ([116, 114, 117, 101] ++ m)) (⟨#[116, 114, 117, 101]⟩ : ByteArray) = some true) := (hasPrefix_is ([116, 114, 117, 101] ++ m) [116, 114, 117, 101]).trans (by simp)
  have hs0 : (B ([116, 114, 117, 101] ++ m)).size = 4 + m.length := by rw [size_B]; simp; omega
  have HD : Hid ((B ([116, 114, 117, 101] ++ m)).extract 4 (B ([116, 114, 117, 101] ++ m)).size = B m) := Lib.hid (by rw [tail_B]; rfl)
  have hs1 : 4 ≤ (B ([116, 114, 117, 101] ++ m)).size := by omega
  have hs2 : (B ([116, 114, 117, 101] ++ m)).size ≤ 100000 := by omega
  clear hs0
  generalize B m = rest at HD ⊢
  generalize B ([116, 114, 117, 101] ++ m) = s at *
  clear hm
  go_enter Tryd.func33, Tryd.ntmps33
  go_wp2_with fail
  go_at_call 44
  refine (strings_HasPrefix.calls _ _ _ _ H1.out).mono ?_
  rintro e w1 ⟨rfl, ⟨n1, rfl⟩⟩
  go_wp2_with fail
  go_at_call 44
  refine (strings_HasPrefix.calls _ _ _ _ H2.out).mono ?_
  rintro e w2 ⟨rfl, ⟨n2, rfl⟩⟩
  clear H1 H2
  go_wp2_with fail
  go_region
  go_wp2
  refine bodyPost_ret (v := .tuple #[Av 2 1 ⟨#[]⟩ 0, .string rest, .bool true]) ?_ rfl ⟨rfl, ?_⟩
  · rw [← HD.out]
    simp [results, Tryd.results33, go_sem]
  · have hB6 : Below w.heap.size w (w.alloc zeroCells) := below_zero w
    repeat (first | exact hB6 | apply pw_below_drewN | apply below_drew1 | refine below_set ?_ (Nat.le_refl _))
set_option maxHeartbeats 1000000 in
set_option maxRecDepth 100000 in
theorem front_false (m : List UInt8) (hm : m.length ≤ 10000) (w : World) :
    Calls Tryd.prog 33 #[.string (B ([102, 97, 108, 115, 101] ++ m))] w fun e w' => e = .returned (.tuple #[Av 2 0 ⟨#[]⟩ 0, .string (B m), .bool true]) ∧ Below w.heap.size w w' := by
  have H1 : Hid (strings_HasPrefix.f (B ([102, 97, 108, 115, 101] ++ m)) (⟨#[34]⟩ : ByteArray) = some false) := (hasPrefix_is ([102, 97, 108, 115, 101] ++ m) [34]).trans (by simp)
  have H2 : Hid (strings_HasPrefix.f (B ([102, 97, 108, 115, 101] ++ m)) (⟨#[116, 114, 117, 101]⟩ : ByteArray) = some false) := (hasPrefix_is ([102, 97, 108, 115, 101] ++ m) [116, 114, 117, 101]).trans (by simp)
  have H3 : Hid (strings_HasPrefix.f (B ([102, 97, 108, 115, 101] ++ m)) (⟨#[102, 97, 108, 115, 101]⟩ : ByteArray) = some true) := (hasPrefix_is ([102, 97, 108, 115, 101] ++ m) [102, 97, 108, 115, 101]).trans (by simp)
  have hs0 : (B ([102, 97, 108, 115, 101] ++ m)).size = 5 + m.length := by rw [size_B]; simp; omega
  have HD : Hid ((B ([102, 97, 108, 115, 101] ++ m)).extract 5 (B ([102, 97, 108, 115, 101] ++ m)).size = B m) := Lib.hid (by rw [tail_B]; rfl)
  have hs1 : 5 ≤ (B ([102, 97, 108, 115, 101] ++ m)).size := by omega
  have hs2 : (B ([102, 97, 108, 115, 101] ++ m)).size ≤ 100000 := by omega
  clear hs0
  generalize B m = rest at HD ⊢
  generalize B ([102, 97, 108, 115, 101] ++ m) = s at *
  clear hm
  go_enter Tryd.func33, Tryd.ntmps33
  go_wp2_with fail
  go_at_call 44
  refine (strings_HasPrefix.calls _ _ _ _ H1.out).mono ?_
  rintro e w1 ⟨rfl, ⟨n1, rfl⟩⟩
  go_wp2_with fail
  go_at_call 44
  refine (strings_HasPrefix.calls _ _ _ _ H2.out).mono ?_
  rintro e w2 ⟨rfl, ⟨n2, rfl⟩⟩
  go_wp2_with fail
  go_at_call 44
  refine (strings_HasPrefix.calls _ _ _ _ H3.out).mono ?_
  rintro e w3 ⟨rfl, ⟨n3, rfl⟩⟩
  clear H1 H2 H3
  go_wp2_with fail
  go_region
  go_wp2
  refine bodyPost_ret (v := .tuple #[Av 2 0 ⟨#[]⟩ 0, .string rest, .bool true]) ?_ rfl ⟨rfl, ?_⟩
  · rw [← HD.out]
    simp [results, Tryd.results33, go_sem]
  · have hB6 : Below w.heap.size w (w.alloc zeroCells) := below_zero w
    repeat (first | exact hB6 | apply pw_below_drewN | apply below_drew1 | refine below_set ?_ (Nat.le_refl _))
set_option maxHeartbeats 1000000 in
set_option maxRecDepth 100000 in
theorem front_bytes (l : List UInt8) (k : Nat) (o r : ByteArray) (w : World) (h : text_unhexed.f k (B l) = some (o, r)) :
    Calls Tryd.prog 33 #[.string (B (120 :: l))] w fun e w' => e = .returned (.tuple #[Av 4 0 o 0, .string r, .bool true]) ∧ Below w.heap.size w w' := by
  have H1 : Hid (strings_HasPrefix.f (B (120 :: l)) (⟨#[34]⟩ : ByteArray) = some false) := (hasPrefix_is (120 :: l) [34]).trans (by simp)
  have H2 : Hid (strings_HasPrefix.f (B (120 :: l)) (⟨#[116, 114, 117, 101]⟩ : ByteArray) = some false) := (hasPrefix_is (120 :: l) [116, 114, 117, 101]).trans (by simp)
  have H3 : Hid (strings_HasPrefix.f (B (120 :: l)) (⟨#[102, 97, 108, 115, 101]⟩ : ByteArray) = some false) := (hasPrefix_is (120 :: l) [102, 97, 108, 115, 101]).trans (by simp)
  have H4 : Hid (strings_HasPrefix.f (B (120 :: l)) (⟨#[120]⟩ : ByteArray) = some true) := (hasPrefix_is (120 :: l) [120]).trans (by simp)
  have HU := Lib.hid h
  have HT := Lib.hid (tail1 120 l)
  have hsz : 1 ≤ (B (120 :: l)).size := by rw [size_cons]; omega
  generalize B (120 :: l) = s at *
  clear h
  go_enter Tryd.func33, Tryd.ntmps33
  go_wp2_with fail
  go_at_call 44
  refine (strings_HasPrefix.calls _ _ _ _ H1.out).mono ?_
  rintro e w1 ⟨rfl, ⟨n1, rfl⟩⟩
  go_wp2_with fail
  go_at_call 44
  refine (strings_HasPrefix.calls _ _ _ _ H2.out).mono ?_
  rintro e w2 ⟨rfl, ⟨n2, rfl⟩⟩
  go_wp2_with fail
  go_at_call 44
  refine (strings_HasPrefix.calls _ _ _ _ H3.out).mono ?_
  rintro e w3 ⟨rfl, ⟨n3, rfl⟩⟩
  go_wp2_with fail
  go_at_call 44
  refine (strings_HasPrefix.calls _ _ _ _ H4.out).mono ?_
  rintro e w4 ⟨rfl, ⟨n4, rfl⟩⟩
  clear H1 H2 H3 H4
  go_wp2_with fail
  rw [HT.out]
  go_at_call 51
  refine (text_unhexed.calls _ _ _ _ _ HU.out).mono ?_
  rintro e w6 ⟨rfl, hb6⟩
  obtain ⟨hc6, hf6⟩ := bcell hb6
  have hz6 := hb6.size
  simp at hz6
  have hz6a : w.heap.size < w6.heap.size := by omega
  clear hz6
  have g0 := hc6 w.heap.size 0 (by simp)
  have g1 := hc6 w.heap.size 1 (by simp)
  have g2 := hc6 w.heap.size 2 (by simp)
  have g3 := hc6 w.heap.size 3 (by simp)
  have f0 := hf6 w.heap.size 0 (by simp)
  have f1 := hf6 w.heap.size 1 (by simp)
  have f2 := hf6 w.heap.size 2 (by simp)
  have f3 := hf6 w.heap.size 3 (by simp)
  simp [go_sem] at g0 g1 g2 g3 f0 f1 f2 f3
  clear hc6 hf6
  go_wp2
  refine bodyPost_ret (v := .tuple #[Av 4 0 o 0, .string r, .bool true]) ?_ rfl ⟨rfl, ?_⟩
  · simp [results, Tryd.results33, go_sem, g0, g1, g2, g3]
  · have hB6 : Below w.heap.size w w6 := ((below_zero w).trans (pw_below_drewN (Below.refl _ _) _)).trans (hb6.mono (by simp))
    repeat (first | exact hB6 | apply below_drew1 | refine below_set ?_ (Nat.le_refl _))
end Go.Proofs.YtpjfhdbkkomogaaDoor.Mb
/- Values of every kind: told, and read ahead of a text. -/
namespace Go.Proofs.YtpjfhdbkkomogaaDoor.Mb
open Go.RowKit Go.Proofs.YtpjfhdbkkomogaaDoorW.PrintWords Go.Proofs.YtpjfhdbkkomogaaDoorW.PrintLast Go.Proofs.YtpjfhdbkkomogaaDoorW.PrintMore Go.Proofs.YtpjfhdbkkomogaaDoor.Px Go.Proofs.YtpjfhdbkkomogaaDoor.Gvn
open Go.Lib (itoa)

/-- A value, and its text. -/
inductive Vt : Int → Int → ByteArray → Nat → List UInt8 → Prop
  | int (n : Int) (h0 : -9223372036854775808 ≤ n) (h1 : n ≤ 9223372036854775807) : Vt 1 n ⟨#[]⟩ 0 (itoa n)
  | yes : Vt 2 1 ⟨#[]⟩ 0 [116, 114, 117, 101]
  | no : Vt 2 0 ⟨#[]⟩ 0 [102, 97, 108, 115, 101]
  | str (s : ByteArray) (h : s.size ≤ 60) : Vt 3 0 s 0 (quoteL s.data.toList)
  | bytes (s : ByteArray) (h : s.size ≤ 60) : Vt 4 0 s 0 (120 :: hexL s.data.toList)
  | float (f : Nat) (h : f < 18446744073709551616) : Vt 5 0 ⟨#[]⟩ f (102 :: tells 16 f)
theorem Vt.print {k i : Int} {s : ByteArray} {f : Nat} {t : List UInt8} (h : Vt k i s f t) (w : World) (hw : Tabs w) :
    Calls Tryd.prog 10 #[Av k i s f] w fun e w' => e = .returned (.string (B t)) ∧ Below w.heap.size w w' := by
  cases h with
  | int n h0 h1 => exact print_int i h0 h1 w hw
  | yes => exact print_bool 1 (.inr rfl) w
  | no => exact print_bool 0 (.inl rfl) w
  | str s h => exact print_str s w h
  | bytes s h => exact print_bytes s h w
  | float f h => exact print_float f h w hw
/-- What may stand behind a value: nothing, a comma, a bracket. -/
def Behind (m : List UInt8) : Prop := m.length ≤ 10000 ∧ (m = [] ∨ ∃ c r, m = c :: r ∧ (c = 44 ∨ c = 41))
theorem Behind.num {m : List UInt8} (h : Behind m) : m = [] ∨ ∃ c r, m = c :: r ∧ isNum c = false := by
  rcases h.2 with rfl | ⟨c, r, rfl, rfl | rfl⟩
  · exact .inl rfl
  · exact .inr ⟨_, _, rfl, by decide⟩
  · exact .inr ⟨_, _, rfl, by decide⟩
theorem Behind.dig {m : List UInt8} (h : Behind m) : m = [] ∨ ∃ c r, m = c :: r ∧ dg c < 0 := by
  rcases h.2 with rfl | ⟨c, r, rfl, rfl | rfl⟩
  · exact .inl rfl
  · exact .inr ⟨_, _, rfl, by decide⟩
  · exact .inr ⟨_, _, rfl, by decide⟩
theorem Vt.front {k i : Int} {s : ByteArray} {f : Nat} {t : List UInt8} (h : Vt k i s f t) (m : List UInt8) (hm : Behind m) (w : World) (hw : Errs w) :
    Calls Tryd.prog 33 #[.string (B (t ++ m))] w fun e w' => e = .returned (.tuple #[Av k i s f, .string (B m), .bool true]) ∧ Below w.heap.size w w' := by
  cases h with
  | int n h0 h1 => exact front_itoa i h0 h1 m hm.num hm.1 w hw
  | yes => exact front_true m hm.1 w
  | no => exact front_false m hm.1 w
  | str s h =>
    obtain ⟨k, hk⟩ := unquoted_back s.data.toList m (by rw [size_data]; omega)
    have := front_quote (s.data.toList.flatMap esc ++ 34 :: m) k _ _ _ w hk
    rw [B_data] at this
    have e : quoteL s.data.toList ++ m = 34 :: (s.data.toList.flatMap esc ++ 34 :: m) := by simp [quoteL]
    rw [e]
    exact this
  | bytes s h =>
    obtain ⟨k, hk⟩ := unhexed_is s.data.toList m [] hm.dig (by rw [size_data]; simp; omega)
    have := front_bytes (hexL s.data.toList ++ m) k _ _ w hk
    rw [List.nil_append, B_data] at this
    exact this
  | float f h =>
    have := front_float (tells 16 f) m (tells_length 16 f) hm.1 (tells_hex 16 f) w
    rw [hval_tells 16 f h] at this
    exact this
theorem Vt.parse {k i : Int} {s : ByteArray} {f : Nat} {t : List UInt8} (h : Vt k i s f t) (w : World) (hw : Errs w) :
    Calls Tryd.prog 14 #[.string (B t)] w fun e w' => e = .returned (.tuple #[Av k i s f, .int .i64 0]) ∧ Below w.heap.size w w' := by
  refine parse_ok (T := Errs) Errs.mono _ (B []) (toList_B []) k i s f w hw (fun w hw => ?_) (fun w hw => h.print w hw.tabs)
  have := h.front [] ⟨by decide, .inl rfl⟩ w hw
  rw [List.append_nil] at this
  exact this
/-- What is no value's text. -/
theorem parse_none (w : World) (hw : Errs w) : Calls Tryd.prog 14 #[.string (B [63])] w fun e w' => e = .returned (.tuple #[Av 0 0 ⟨#[]⟩ 0, .int .i64 30]) ∧ Below w.heap.size w w' := by
  refine parse_bad (T := Errs) Errs.mono _ (B [63]) false (.inl rfl) 1 0 ⟨#[]⟩ 0 w hw (fun w hw => ?_)
  exact front_num [63] (by decide) (.inr ⟨63, [], rfl, by decide, by decide, by decide, by decide⟩) 0 false (.inr (.inl ⟨rfl, rfl, rfl⟩)) w hw
theorem order_zero (f : Nat) (hf : f < 18446744073709551616) : ∃ b : Bool, (b = true → f = 0) ∧ ∃ x : Int, bits_Order.f f = some x ∧ (x == 9223372036854775808) = b := by
  refine ⟨decide (f = 0), of_decide_eq_true, _, by unfold bits_Order.f; rw [if_pos hf], ?_⟩
  rw [Bool.eq_iff_iff, beq_iff_eq, decide_eq_true_eq]
  split <;> omega
theorem empty_of {s : ByteArray} (h : s.toList = []) : s = ⟨#[]⟩ := by
  rw [ByteArray.toList_eq] at h
  exact ext_data h
/-- A value, or none: what value.Is tells. -/
theorem is_or (k i : Int) (s : ByteArray) (f : Nat) (h0 : -9223372036854775808 ≤ i) (h1 : i ≤ 9223372036854775807) (hf : f < 18446744073709551616) :
    (value_Is.f 1 k i s f = some true ∧ ∃ t, Vt k i s f t) ∨ value_Is.f 1 k i s f = some false := by
  obtain ⟨b, hb, x, hx, hxb⟩ := order_zero f hf
  unfold value_Is.f
  rw [hx, Option.bind_some, hxb]
  by_cases k1 : k = 1
  · rw [if_pos k1]
    by_cases hs : s.toList = []
    · rw [if_pos hs]
      cases b with
      | false => exact .inr rfl
      | true =>
        obtain rfl := hb rfl
        obtain rfl := empty_of hs
        subst k1
        exact .inl ⟨rfl, _, .int i h0 h1⟩
    · rw [if_neg hs]; exact .inr rfl
  · rw [if_neg k1]
    by_cases k2 : k = 2
    · rw [if_pos k2]
      subst k2
      by_cases hs : s.toList = []
      · rw [if_pos hs]
        cases b with
        | false => right; split <;> (try split) <;> rfl
        | true =>
          obtain rfl := hb rfl
          obtain rfl := empty_of hs
          by_cases i0 : i = 0
          · subst i0; exact .inl ⟨rfl, _, .no⟩
          · by_cases i1 : i = 1
            · subst i1; exact .inl ⟨rfl, _, .yes⟩
            · rw [if_neg i0, if_neg i1]; exact .inr rfl
      · rw [if_neg hs]
        right; split <;> (try split) <;> rfl
    · rw [if_neg k2]
      have key : ∀ q : Bool, (q = true → k = 3 ∨ k = 4) → (q = false → k ≠ 3 ∧ k ≠ 4) →
          (value_Is.j0 1 b k q k i s f = some true ∧ ∃ t, Vt k i s f t) ∨ value_Is.j0 1 b k q k i s f = some false := fun q hq hq' => by
        rw [value_Is.j0]
        cases q with
        | true =>
          rw [if_pos rfl]
          by_cases hz : (s.size : Int) ≤ 60
          · rw [if_pos hz]
            by_cases i0 : i = 0
            · rw [if_pos i0]
              subst i0
              cases b with
              | false => exact .inr rfl
              | true =>
                obtain rfl := hb rfl
                rcases hq rfl with rfl | rfl
                · exact .inl ⟨rfl, _, .str s (by omega)⟩
                · exact .inl ⟨rfl, _, .bytes s (by omega)⟩
            · rw [if_neg i0]; exact .inr rfl
          · rw [if_neg hz]; exact .inr rfl
        | false =>
          rw [if_neg (by decide)]
          by_cases k5 : k = 5
          · rw [if_pos k5]
            subst k5
            by_cases i0 : i = 0
            · rw [if_pos i0]
              subst i0
              by_cases hs : s.toList = []
              · obtain rfl := empty_of hs
                rw [hs]
                exact .inl ⟨rfl, _, .float f hf⟩
              · right
                rw [beq_eq_false_iff_ne.2 hs]
            · rw [if_neg i0]; exact .inr rfl
          · rw [if_neg k5]; exact .inr rfl
      by_cases k3 : k = 3
      · rw [if_pos k3]
        exact key _ (fun h => .inl (eq_of_beq h)) (fun h => absurd (beq_iff_eq.2 k3) (by rw [h]; decide))
      · rw [if_neg k3]
        exact key _ (fun h => .inr (eq_of_beq h)) (fun h => ⟨k3, fun k4 => absurd (beq_iff_eq.2 k4) (by rw [h]; decide)⟩)
end Go.Proofs.YtpjfhdbkkomogaaDoor.Mb
/- Functions of this program as Lean functions, and that the calls answer as they do: printed by this session's printmore.py. -/
namespace Go.Proofs.YtpjfhdbkkomogaaDoor.Px
open Go.RowKit Go.Proofs.YtpjfhdbkkomogaaDoor.Gvn Go.Proofs.YtpjfhdbkkomogaaDoorW.PrintWords Go.Proofs.YtpjfhdbkkomogaaDoorW.PrintLast Go.Proofs.YtpjfhdbkkomogaaDoorW.PrintMore
attribute [local go_sem] run_store_float max2_int min2_int max_two min_two max_three min_three max_four min_four   -- for this text's walks alone
set_option linter.unusedVariables false
set_option linter.unusedSimpArgs false

/-! ### rialtoref1_Same: function 59 -/
def rialtoref1_Same.f (a0 : Nat) (a1 : Nat) : Option (Bool) := some (((a0 : Nat) : Int) == ((a1 : Nat) : Int))
set_option maxHeartbeats 8000000 in
set_option maxRecDepth 100000 in
theorem rialtoref1_Same.calls (a0 : Nat) (a1 : Nat) (r : Bool) (w : World) (h : rialtoref1_Same.f a0 a1 = some r) :
    Calls Tryd.prog 59 #[.float .f64 a0, .float .f64 a1] w fun e w' => e = .returned (.bool r) ∧ Drawn0 w w' := by
  have H : (some (((a0 : Nat) : Int) == ((a1 : Nat) : Int))) = some r := h
  clear h
  obtain rfl := Option.some.inj H
  have k23 := run23
  have k22 := run22
  go_enter Tryd.func59, Tryd.ntmps59
  go_wp2
  go_ret
  exact ⟨by first | rfl | (simp; done) | (simp [*]; done), by repeat (first | exact Drawn0.refl _ | apply Drawn0.step)⟩

end Go.Proofs.YtpjfhdbkkomogaaDoor.Px
/- Functions of this program as Lean functions, and that the calls answer as they do: printed by this session's printmore.py. -/
namespace Go.Proofs.YtpjfhdbkkomogaaDoor.Px
open Go.RowKit Go.Proofs.YtpjfhdbkkomogaaDoor.Gvn Go.Proofs.YtpjfhdbkkomogaaDoorW.PrintWords Go.Proofs.YtpjfhdbkkomogaaDoorW.PrintLast Go.Proofs.YtpjfhdbkkomogaaDoorW.PrintMore
attribute [local go_sem] run_store_float max2_int min2_int max_two min_two max_three min_three max_four min_four   -- for this text's walks alone
set_option linter.unusedVariables false
set_option linter.unusedSimpArgs false

/-! ### rialtoref2_zero: function 38 -/
def rialtoref2_zero.f (a0 : Nat) : Option (Bool) := (rialtoref1_Same.f a0 0).bind fun t189 => (some t189)
set_option maxHeartbeats 8000000 in
set_option maxRecDepth 100000 in
theorem rialtoref2_zero.calls (a0 : Nat) (r : Bool) (w : World) (h : rialtoref2_zero.f a0 = some r) :
    Calls Tryd.prog 38 #[.float .f64 a0] w fun e w' => e = .returned (.bool r) ∧ Drawn0 w w' := by
  have H : ((rialtoref1_Same.f a0 0).bind fun t189 => (some t189)) = some r := h
  clear h
  replace H := Option.bind_eq_some_iff.mp H
  obtain ⟨t189, A20, H⟩ := H
  replace H : (some t189) = some r := H
  have A2 := Aside0.mk A20
  clear A20
  obtain rfl := Option.some.inj H
  have k23 := run23
  have k22 := run22
  go_enter Tryd.func38, Tryd.ntmps38
  go_wp2_with (first | ((with_reducible refine gate_callee (f := 59) rfl ?_); refine goesL_ (some 4) rfl rfl Tryd.func59 (by kernel_rfl) rfl #[.float .f64 a0, .float .f64 0] rfl (by (try simp only [List.map_toArray, List.map_cons, List.map_nil]); first | done | rfl | (simp only [List.length_drop, List.length_take]; rfl)) ?_; (with_reducible refine (rialtoref1_Same.calls a0 0 t189 _ A2.out).mono ?_); rintro e w' ⟨rfl, ⟨nd, rfl⟩⟩; refine ⟨_, rfl, ?_⟩))
  go_ret
  exact ⟨by first | rfl | (simp; done) | (simp [*]; done), by repeat (first | exact Drawn0.refl _ | apply Drawn0.step)⟩

end Go.Proofs.YtpjfhdbkkomogaaDoor.Px
