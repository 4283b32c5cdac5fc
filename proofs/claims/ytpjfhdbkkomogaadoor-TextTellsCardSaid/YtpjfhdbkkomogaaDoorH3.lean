/- Texts of this claim, one behind the other. -/
import Derived.Shelf.LaysM
import Derived.Shelf.LaysC
import Derived.Shelf.Strconv.Itoa4
import Derived.Shelf.Strconv.ErrVarParseInt
import Derived.Ground.NamesProg
import Derived.Test.YtpjfhdbkkomogaaDoorProg
import Derived.Test.YtpjfhdbkkomogaaDoorH2
import Derived.Lib.LaidTab
import Derived.RegionTactic
import Derived.BigRegion
import Derived.ChangeAlike
import Derived.Test.YtpjfhdbkkomogaaDoorH1
import Derived.LoopTactic
import Derived.Laws.IdiomStrings
import Derived.Laws.Bits64b
import Derived.Lib.ItoaMem
import Derived.KernelRfl
import Derived.Lib.Strings
import Derived.Lib.Walk
import Derived.Lib.ConvBytes
import Derived.Lib.AtoiAllMem
import Derived.Lib.AtoiErrMem
import Derived.Lib.SmallJoins
import Derived.Lib.Hide
import Derived.Laws.Strings3
import Derived.Laws.Closers25
import Derived.Laws.Closers25b
namespace Go.Proofs
open Go.Shelf
def Tryd.fi173_ren : Go.Shelf.Ren := ⟨fun | 173 => 25 | 246 => 40 | 283 => 60 | 284 => 61 | 285 => 62 | 286 => 63 | 129 => 76 | 317 => 75 | 318 => 77 | 319 => 78 | 320 => 79 | 337 => 89 | 338 => 90 | n => n, fun | 2 => 2 | 3 => 3 | 9 => 9 | 4 => 4 | 171 => 98 | 0 => 0 | 53 => 47 | 37 => 57 | 5 => 5 | 173 => 101 | 212 => 112 | 51 => 103 | 20 => 20 | 213 => 113 | 46 => 69 | 232 => 128 | 233 => 129 | n => n, fun | 17 => 1 | 18 => 5 | 19 => 6 | n => n⟩
theorem Tryd.fi173 : Go.Proofs.LaysM.n173 Tryd.prog Tryd.fi173_ren := {
  mixed := by kernel_rfl
  f129 := Tryd.func76.trans (congrArg some (by kernel_rfl))
  f173 := Tryd.func25.trans (congrArg some (by kernel_rfl))
  f246 := Tryd.func40.trans (congrArg some (by kernel_rfl))
  f283 := Tryd.func60.trans (congrArg some (by kernel_rfl))
  f284 := Tryd.func61.trans (congrArg some (by kernel_rfl))
  f285 := Tryd.func62.trans (congrArg some (by kernel_rfl))
  f286 := Tryd.func63.trans (congrArg some (by kernel_rfl))
  f317 := Tryd.func75.trans (congrArg some (by kernel_rfl))
  f318 := Tryd.func77.trans (congrArg some (by kernel_rfl))
  f319 := Tryd.func78.trans (congrArg some (by kernel_rfl))
  f320 := Tryd.func79.trans (congrArg some (by kernel_rfl))
  f337 := Tryd.func89.trans (congrArg some (by kernel_rfl))
  f338 := Tryd.func90.trans (congrArg some (by kernel_rfl))
  t0 := Tryd.underlying0
  a0 := Tryd.isAgg0
  z0 := Tryd.sizeOf0
  v0 := Tryd.zeroValue0
  t2 := Tryd.underlying2
  a2 := Tryd.isAgg2
  z2 := Tryd.sizeOf2
  v2 := Tryd.zeroValue2
  t3 := Tryd.underlying3
  a3 := Tryd.isAgg3
  z3 := Tryd.sizeOf3
  v3 := Tryd.zeroValue3
  t4 := Tryd.underlying4
  a4 := Tryd.isAgg4
  z4 := Tryd.sizeOf4
  v4 := Tryd.zeroValue4
  t5 := Tryd.underlying5
  a5 := Tryd.isAgg5
  z5 := Tryd.sizeOf5
  v5 := Tryd.zeroValue5
  t9 := Tryd.underlying9
  a9 := Tryd.isAgg9
  z9 := Tryd.sizeOf9
  v9 := Tryd.zeroValue9
  t20 := Tryd.underlying20
  a20 := Tryd.isAgg20
  z20 := Tryd.sizeOf20
  v20 := Tryd.zeroValue20
  t37 := Tryd.underlying57
  a37 := Tryd.isAgg57
  z37 := Tryd.sizeOf57
  v37 := Tryd.zeroValue57
  t46 := Tryd.underlying69
  a46 := Tryd.isAgg69
  z46 := Tryd.sizeOf69
  v46 := Tryd.zeroValue69
  t51 := Tryd.underlying103
  a51 := Tryd.isAgg103
  z51 := Tryd.sizeOf103
  v51 := Tryd.zeroValue103
  t53 := Tryd.underlying47
  a53 := Tryd.isAgg47
  z53 := Tryd.sizeOf47
  v53 := Tryd.zeroValue47
  t171 := Tryd.underlying98
  a171 := Tryd.isAgg98
  z171 := Tryd.sizeOf98
  v171 := Tryd.zeroValue98
  t173 := Tryd.underlying101
  a173 := Tryd.isAgg101
  z173 := Tryd.sizeOf101
  v173 := Tryd.zeroValue101
  t212 := Tryd.underlying112
  a212 := Tryd.isAgg112
  z212 := Tryd.sizeOf112
  v212 := Tryd.zeroValue112
  t213 := Tryd.underlying113
  a213 := Tryd.isAgg113
  z213 := Tryd.sizeOf113
  t232 := Tryd.underlying128
  a232 := Tryd.isAgg128
  z232 := Tryd.sizeOf128
  v232 := Tryd.zeroValue128
  t233 := Tryd.underlying129
  a233 := Tryd.isAgg129
  z233 := Tryd.sizeOf129
  v233 := Tryd.zeroValue129
  g17 := by kernel_rfl
  g18 := by kernel_rfl
  g19 := by kernel_rfl
  i0 := by kernel_rfl
  i2 := by kernel_rfl
  i3 := by kernel_rfl
  i4 := by kernel_rfl
  i5 := by kernel_rfl
  i9 := by kernel_rfl
  i20 := by kernel_rfl
  i37 := by kernel_rfl
  i46 := by kernel_rfl
  i51 := by kernel_rfl
  i53 := by kernel_rfl
  i171 := by kernel_rfl
  i173 := by kernel_rfl
  i212 := by kernel_rfl
  i232 := by kernel_rfl
  i233 := by kernel_rfl
  m17 := by kernel_rfl
  m18 := by kernel_rfl
  m19 := by kernel_rfl }
def Tryd.pi174_ren : Go.Shelf.Ren := ⟨fun | 174 => 53 | 247 => 72 | 245 => 71 | 287 => 70 | 279 => 85 | 280 => 86 | 281 => 87 | 282 => 88 | 321 => 83 | 322 => 84 | 316 => 92 | 171 => 94 | 205 => 93 | 243 => 96 | 246 => 40 | 283 => 60 | 284 => 61 | 285 => 62 | 286 => 63 | 129 => 76 | 317 => 75 | 318 => 77 | 319 => 78 | 320 => 79 | 337 => 89 | 338 => 90 | n => n, fun | 9 => 9 | 3 => 3 | 2 => 2 | 75 => 78 | 85 => 90 | 4 => 4 | 167 => 120 | 5 => 5 | 53 => 47 | 175 => 88 | 46 => 69 | 168 => 121 | 37 => 57 | 0 => 0 | 210 => 126 | 21 => 21 | 127 => 108 | 145 => 132 | 143 => 130 | 171 => 98 | 173 => 101 | 212 => 112 | 51 => 103 | 20 => 20 | 213 => 113 | 232 => 128 | 233 => 129 | 80 => 82 | n => n, fun | 15 => 3 | 16 => 4 | 17 => 1 | 18 => 5 | 19 => 6 | n => n⟩
theorem Tryd.pi174 : Go.Proofs.LaysC.n174 Tryd.prog Tryd.pi174_ren := {
  mixed := by kernel_rfl
  f129 := Tryd.func76.trans (congrArg some (by kernel_rfl))
  f171 := Tryd.func94.trans (congrArg some (by kernel_rfl))
  f174 := Tryd.func53.trans (congrArg some (by kernel_rfl))
  f205 := Tryd.func93.trans (congrArg some (by kernel_rfl))
  f243 := Tryd.func96.trans (congrArg some (by kernel_rfl))
  f245 := Tryd.func71.trans (congrArg some (by kernel_rfl))
  f246 := Tryd.func40.trans (congrArg some (by kernel_rfl))
  f247 := Tryd.func72.trans (congrArg some (by kernel_rfl))
  f279 := Tryd.func85.trans (congrArg some (by kernel_rfl))
  f280 := Tryd.func86.trans (congrArg some (by kernel_rfl))
  f281 := Tryd.func87.trans (congrArg some (by kernel_rfl))
  f282 := Tryd.func88.trans (congrArg some (by kernel_rfl))
  f283 := Tryd.func60.trans (congrArg some (by kernel_rfl))
  f284 := Tryd.func61.trans (congrArg some (by kernel_rfl))
  f285 := Tryd.func62.trans (congrArg some (by kernel_rfl))
  f286 := Tryd.func63.trans (congrArg some (by kernel_rfl))
  f287 := Tryd.func70.trans (congrArg some (by kernel_rfl))
  f316 := Tryd.func92.trans (congrArg some (by kernel_rfl))
  f317 := Tryd.func75.trans (congrArg some (by kernel_rfl))
  f318 := Tryd.func77.trans (congrArg some (by kernel_rfl))
  f319 := Tryd.func78.trans (congrArg some (by kernel_rfl))
  f320 := Tryd.func79.trans (congrArg some (by kernel_rfl))
  f321 := Tryd.func83.trans (congrArg some (by kernel_rfl))
  f322 := Tryd.func84.trans (congrArg some (by kernel_rfl))
  f337 := Tryd.func89.trans (congrArg some (by kernel_rfl))
  f338 := Tryd.func90.trans (congrArg some (by kernel_rfl))
  t0 := Tryd.underlying0
  a0 := Tryd.isAgg0
  z0 := Tryd.sizeOf0
  v0 := Tryd.zeroValue0
  t2 := Tryd.underlying2
  a2 := Tryd.isAgg2
  z2 := Tryd.sizeOf2
  v2 := Tryd.zeroValue2
  t3 := Tryd.underlying3
  a3 := Tryd.isAgg3
  z3 := Tryd.sizeOf3
  v3 := Tryd.zeroValue3
  t4 := Tryd.underlying4
  a4 := Tryd.isAgg4
  z4 := Tryd.sizeOf4
  v4 := Tryd.zeroValue4
  t5 := Tryd.underlying5
  a5 := Tryd.isAgg5
  z5 := Tryd.sizeOf5
  v5 := Tryd.zeroValue5
  t9 := Tryd.underlying9
  a9 := Tryd.isAgg9
  z9 := Tryd.sizeOf9
  v9 := Tryd.zeroValue9
  t20 := Tryd.underlying20
  a20 := Tryd.isAgg20
  z20 := Tryd.sizeOf20
  v20 := Tryd.zeroValue20
  t21 := Tryd.underlying21
  a21 := Tryd.isAgg21
  z21 := Tryd.sizeOf21
  v21 := Tryd.zeroValue21
  t37 := Tryd.underlying57
  a37 := Tryd.isAgg57
  z37 := Tryd.sizeOf57
  v37 := Tryd.zeroValue57
  t46 := Tryd.underlying69
  a46 := Tryd.isAgg69
  z46 := Tryd.sizeOf69
  v46 := Tryd.zeroValue69
  t51 := Tryd.underlying103
  a51 := Tryd.isAgg103
  z51 := Tryd.sizeOf103
  v51 := Tryd.zeroValue103
  t53 := Tryd.underlying47
  a53 := Tryd.isAgg47
  z53 := Tryd.sizeOf47
  v53 := Tryd.zeroValue47
  t75 := Tryd.underlying78
  a75 := Tryd.isAgg78
  z75 := Tryd.sizeOf78
  v75 := Tryd.zeroValue78
  t85 := Tryd.underlying90
  a85 := Tryd.isAgg90
  z85 := Tryd.sizeOf90
  v85 := Tryd.zeroValue90
  t127 := Tryd.underlying108
  a127 := Tryd.isAgg108
  z127 := Tryd.sizeOf108
  v127 := Tryd.zeroValue108
  t143 := Tryd.underlying130
  a143 := Tryd.isAgg130
  z143 := Tryd.sizeOf130
  v143 := Tryd.zeroValue130
  t145 := Tryd.underlying132
  a145 := Tryd.isAgg132
  z145 := Tryd.sizeOf132
  v145 := Tryd.zeroValue132
  t167 := Tryd.underlying120
  a167 := Tryd.isAgg120
  z167 := Tryd.sizeOf120
  v167 := Tryd.zeroValue120
  t168 := Tryd.underlying121
  a168 := Tryd.isAgg121
  z168 := Tryd.sizeOf121
  v168 := Tryd.zeroValue121
  t171 := Tryd.underlying98
  a171 := Tryd.isAgg98
  z171 := Tryd.sizeOf98
  v171 := Tryd.zeroValue98
  t173 := Tryd.underlying101
  a173 := Tryd.isAgg101
  z173 := Tryd.sizeOf101
  v173 := Tryd.zeroValue101
  t175 := Tryd.underlying88
  a175 := Tryd.isAgg88
  z175 := Tryd.sizeOf88
  v175 := Tryd.zeroValue88
  t210 := Tryd.underlying126
  a210 := Tryd.isAgg126
  z210 := Tryd.sizeOf126
  v210 := Tryd.zeroValue126
  t212 := Tryd.underlying112
  a212 := Tryd.isAgg112
  z212 := Tryd.sizeOf112
  v212 := Tryd.zeroValue112
  t213 := Tryd.underlying113
  a213 := Tryd.isAgg113
  z213 := Tryd.sizeOf113
  t232 := Tryd.underlying128
  a232 := Tryd.isAgg128
  z232 := Tryd.sizeOf128
  v232 := Tryd.zeroValue128
  t233 := Tryd.underlying129
  a233 := Tryd.isAgg129
  z233 := Tryd.sizeOf129
  v233 := Tryd.zeroValue129
  g15 := by kernel_rfl
  g16 := by kernel_rfl
  g17 := by kernel_rfl
  g18 := by kernel_rfl
  g19 := by kernel_rfl
  t80 := Tryd.underlying82
  a80 := Tryd.isAgg82
  z80 := Tryd.sizeOf82
  v80 := Tryd.zeroValue82
  i0 := by kernel_rfl
  i2 := by kernel_rfl
  i3 := by kernel_rfl
  i4 := by kernel_rfl
  i5 := by kernel_rfl
  i9 := by kernel_rfl
  i20 := by kernel_rfl
  i21 := by kernel_rfl
  i37 := by kernel_rfl
  i46 := by kernel_rfl
  i51 := by kernel_rfl
  i53 := by kernel_rfl
  i75 := by kernel_rfl
  i80 := by kernel_rfl
  i85 := by kernel_rfl
  i127 := by kernel_rfl
  i143 := by kernel_rfl
  i145 := by kernel_rfl
  i167 := by kernel_rfl
  i168 := by kernel_rfl
  i171 := by kernel_rfl
  i173 := by kernel_rfl
  i175 := by kernel_rfl
  i210 := by kernel_rfl
  i212 := by kernel_rfl
  i232 := by kernel_rfl
  i233 := by kernel_rfl
  m15 := by kernel_rfl
  m16 := by kernel_rfl
  m17 := by kernel_rfl
  m18 := by kernel_rfl
  m19 := by kernel_rfl
  c0 := by kernel_rfl
  c2 := by kernel_rfl
  c3 := by kernel_rfl
  c4 := by kernel_rfl
  c5 := by kernel_rfl
  c9 := by kernel_rfl
  c20 := by kernel_rfl
  c21 := by kernel_rfl
  c37 := by kernel_rfl
  c46 := by kernel_rfl
  c51 := by kernel_rfl
  c53 := by kernel_rfl
  c75 := by kernel_rfl
  c80 := by kernel_rfl
  c85 := by kernel_rfl
  c127 := by kernel_rfl
  c143 := by kernel_rfl
  c145 := by kernel_rfl
  c167 := by kernel_rfl
  c168 := by kernel_rfl
  c171 := by kernel_rfl
  c173 := by kernel_rfl
  c175 := by kernel_rfl
  c210 := by kernel_rfl
  c212 := by kernel_rfl
  c213 := by kernel_rfl
  c232 := by kernel_rfl
  c233 := by kernel_rfl }
end Go.Proofs
namespace Go.Proofs.YtpjfhdbkkomogaaDoor.Mb
open Go.RowKit Go.Proofs.YtpjfhdbkkomogaaDoorW.PrintWords Go.Proofs.YtpjfhdbkkomogaaDoorW.PrintLast Go.Proofs.YtpjfhdbkkomogaaDoorW.PrintMore Go.Proofs.YtpjfhdbkkomogaaDoor.Px Go.Proofs.YtpjfhdbkkomogaaDoor.Gvn
open Go.Lib (decDigits itoa parseUintM parseUintB parseIntB)
attribute [local go_sem] run_store_float
theorem g1 : Tryd.prog.globalNamed "internal/strconv.uint64pow10" = some 1 := by kernel_rfl
theorem p10_list : (Lib.pow10Tab.map fun z => Value.int .u64 z).toArray = Ex.p10.toArray := by kernel_rfl
theorem tab_of {w : World} (h : Tabs w) : Lib.TabIs Tryd.prog w "internal/strconv.uint64pow10" .u64 Lib.pow10Tab := by
  obtain ⟨e, z, h1⟩ := h.t1
  unfold Lib.TabIs World.var?
  rw [g1, Option.bind_some, h1, p10_list]
theorem below_grow (w : World) (n : Nat) (os : Array Obj) : Below w.heap.size w (Sort.grow (w.drewN n) os) :=
  ⟨rfl, rfl, rfl, by simp [Sort.grow, World.drewN], fun i hi => by simp [Sort.grow, World.drewN, Array.getElem?_append, hi]⟩
theorem format_any (n : Int) (h0 : -9223372036854775808 ≤ n) (h1 : n ≤ 9223372036854775807) (w : World) (hw : Tabs w) :
    Calls Tryd.prog 25 #[.int .i64 n, .int .i64 10] w fun e w' => e = .returned (.string (B (itoa n))) ∧ Below w.heap.size w w' :=
  (Any.strconv_FormatInt_10 Tryd.fi173 n h0 h1 w (tab_of hw)).mono fun e w' ⟨he, k, os, hw'⟩ => ⟨he, by subst hw'; exact below_grow w k os⟩
structure Errs (w : World) : Prop where
  tabs : Tabs w
  syn : ∃ te pe, w.cell? ⟨3, 0, none⟩ = some (.iface te pe)
  ran : ∃ te pe, w.cell? ⟨4, 0, none⟩ = some (.iface te pe)
theorem cell_lt {w : World} {b o : Nat} {v : Value} (h : w.cell? ⟨b, o, none⟩ = some v) : b < w.heap.size := by
  unfold World.cell? at h
  split at h
  · rename_i hh
    exact (Array.getElem?_eq_some_iff.1 hh).1
  · cases h
theorem Errs.mono {w w' : World} (h : Errs w) (hb : Below w.heap.size w w') : Errs w' := by
  obtain ⟨t, ⟨te, pe, h1⟩, ⟨tr, pr, h2⟩⟩ := h
  exact ⟨t.mono hb, ⟨te, pe, by rw [hb.cell (p := ⟨3, 0, none⟩) (cell_lt h1)]; exact h1⟩, ⟨tr, pr, by rw [hb.cell (p := ⟨4, 0, none⟩) (cell_lt h2)]; exact h2⟩⟩
def ResI (l : List UInt8) (v : Int) (b : Bool) : Prop := (parseIntB 64 l = .ok v ∧ b = true) ∨ (parseIntB 64 l = parseIntB 64 [] ∧ v = 0 ∧ b = false) ∨ (parseIntB 64 l = .range ∧ v = Lib.intSat 64 l ∧ b = false)
def IsErr (b : Bool) (ev : Value) : Prop := (b = true ∧ ev = .nilIface) ∨ (b = false ∧ ∃ te pe, ev = .iface te pe)
theorem parseint_any (l : List UInt8) (hl : l.length ≤ 1000000) (v : Int) (b : Bool) (hr : ResI l v b) (w : World) (hw : Errs w) :
    Calls Tryd.prog 53 #[.string (B l), .int .i64 10, .int .i64 64] w fun e w' => (∃ ev, e = .returned (.tuple #[.int .i64 v, ev]) ∧ IsErr b ev) ∧ Below w.heap.size w w' := by
  obtain ⟨_, ⟨te, pe, h1⟩, ⟨tr, pr, h2⟩⟩ := hw
  rcases hr with ⟨h, rfl⟩ | ⟨h, rfl, rfl⟩ | ⟨h, rfl, rfl⟩
  · refine (Any.strconv_ParseInt_10_at64_ok Tryd.pi174 (B l) (by rw [size_B]; omega) v h w).mono fun e w' ⟨he, hw'⟩ => ⟨⟨_, he, .inl ⟨rfl, rfl⟩⟩, ?_⟩
    rcases hw' with rfl | ⟨t, rfl⟩
    · exact Below.refl _ _
    · exact Lib.bytesWorld_below w _ t
  · refine (Any.strconv_ParseInt_10_at64_syntax Tryd.pi174 (B l) (by rw [size_B]; omega) h (.iface te pe) w h1 (.inr ⟨te, pe, rfl⟩)).mono fun e w' ⟨n, he, _, _, hb⟩ => ⟨⟨_, he, .inr ⟨rfl, _, _, rfl⟩⟩, hb⟩
  · refine (Any.strconv_ParseInt_10_at64_range Tryd.pi174 (B l) (by rw [size_B]; omega) h (.iface tr pr) w h2 (.inr ⟨tr, pr, rfl⟩)).mono fun e w' ⟨n, he, _, _, hb⟩ => ⟨⟨_, he, .inr ⟨rfl, _, _, rfl⟩⟩, hb⟩
theorem is_int (n : Int) : value_Is.f 0 1 n ⟨#[]⟩ 0 = some true := by
  unfold value_Is.f
  have e : (⟨#[]⟩ : ByteArray).toList = [] := toList_B []
  rw [order0, Option.bind_some, if_pos rfl, if_pos e]
  rfl
set_option maxRecDepth 100000 in
theorem print_int (n : Int) (h0 : -9223372036854775808 ≤ n) (h1 : n ≤ 9223372036854775807) (w : World) (hw : Tabs w) :
    Calls Tryd.prog 10 #[Av 1 n ⟨#[]⟩ 0] w fun e w' => e = .returned (.string (B (itoa n))) ∧ Below w.heap.size w w' := by
  have HI := Lib.hid (is_int n)
  have FM := fun (w : World) (hw : Tabs w) => format_any n h0 h1 w hw
  generalize B (itoa n) = t at FM ⊢
  have hT1 : Tabs (w.alloc (.cells #[Value.int IntKind.i64 1, Value.int IntKind.i64 n, Value.string ⟨#[]⟩, Value.float FloatKind.f64 0] 24)) := hw.mono ((Below.refl w.heap.size w).alloc (Nat.le_refl _) _)
  clear h0 h1
  go_enter Tryd.func10, Tryd.ntmps10
  go_wp2_with fail
  go_at_call 24
  refine (value_Is.calls _ _ _ _ _ _ _ HI.out).mono ?_
  rintro e w1 ⟨rfl, hb1⟩
  obtain ⟨hc1, hf1⟩ := bcell hb1
  have hT2 := hT1.mono hb1
  have hB1 : Below w.heap.size w w1 := ((Below.refl w.heap.size w).alloc (Nat.le_refl _) _).trans (hb1.mono (by simp))
  go_wp2_with fail
  go_at_call 25
  refine (FM _ hT2).mono ?_
  rintro e w2 ⟨rfl, hb2⟩
  go_wp2
  go_ret
  exact ⟨rfl, hB1.trans (hb2.mono hB1.size)⟩
theorem no_prefix (l : List UInt8) (c : UInt8) (p : List UInt8) (h : l = [] ∨ ∃ d r, l = d :: r ∧ d ≠ c) : (l.take (c :: p).length == c :: p) = false := by
  rcases h with rfl | ⟨d, r, rfl, hd⟩
  · simp
  · simp [hd]
set_option maxHeartbeats 1000000 in
set_option maxRecDepth 100000 in
theorem front_num (l : List UInt8) (hl : l.length ≤ 1000000) (hc : l = [] ∨ ∃ d r, l = d :: r ∧ d ≠ 34 ∧ d ≠ 116 ∧ d ≠ 102 ∧ d ≠ 120) (v : Int) (b : Bool) (hr : ResI (l.take (lead l)) v b) (w : World) (hw : Errs w) :
    Calls Tryd.prog 33 #[.string (B l)] w fun e w' => e = .returned (.tuple #[Av 1 v ⟨#[]⟩ 0, .string (B (l.drop (lead l))), .bool b]) ∧ Below w.heap.size w w' := by
  have np : ∀ (c : UInt8) (p : List UInt8), (l = [] ∨ ∃ d r, l = d :: r ∧ d ≠ c) → strings_HasPrefix.f (B l) (B (c :: p)) = some false := fun c p h => by
    rw [hasPrefix_is, no_prefix l c p h]
  have H1 : Hid (strings_HasPrefix.f (B l) (⟨#[34]⟩ : ByteArray) = some false) := np 34 [] (hc.imp_right fun ⟨d, r, e, h, _⟩ => ⟨d, r, e, h⟩)
  have H2 : Hid (strings_HasPrefix.f (B l) (⟨#[116, 114, 117, 101]⟩ : ByteArray) = some false) := np 116 [114, 117, 101] (hc.imp_right fun ⟨d, r, e, _, h, _⟩ => ⟨d, r, e, h⟩)
  have H3 : Hid (strings_HasPrefix.f (B l) (⟨#[102, 97, 108, 115, 101]⟩ : ByteArray) = some false) := np 102 [97, 108, 115, 101] (hc.imp_right fun ⟨d, r, e, _, _, h, _⟩ => ⟨d, r, e, h⟩)
  have H4 : Hid (strings_HasPrefix.f (B l) (⟨#[120]⟩ : ByteArray) = some false) := np 120 [] (hc.imp_right fun ⟨d, r, e, _, _, _, h⟩ => ⟨d, r, e, h⟩)
  have H5 : Hid (strings_HasPrefix.f (B l) (⟨#[102]⟩ : ByteArray) = some false) := np 102 [] (hc.imp_right fun ⟨d, r, e, _, _, h, _⟩ => ⟨d, r, e, h⟩)
  have PI := fun (w : World) (hw : Errs w) => parseint_any (l.take (lead l)) (by rw [List.length_take]; omega) v b hr w hw
  obtain ⟨m, hm⟩ : ∃ m, m = lead l := ⟨_, rfl⟩
  have hml : m ≤ (B l).size := by rw [hm, size_B]; exact lead_le l
  have hsz : (B l).size ≤ 1000000 := hl
  have HN : Hid (∀ i (h : i < (B l).size), i < m → isNum (B l)[i] = true) := fun i h hi => lead_in l i (by rw [← hm]; exact hi) h
  have HE : Hid (∀ h : m < (B l).size, isNum (B l)[m] = false) := fun h => by subst hm; exact lead_end l h
  have HC : Hid ((B l).extract 0 m = B (l.take (lead l))) := by rw [hm, extract_B]; rfl
  have HD : Hid ((B l).extract m (B l).size = B (l.drop (lead l))) := by rw [hm, tail_B]; rfl
  generalize B (l.drop (lead l)) = rest at HD ⊢
  generalize B (l.take (lead l)) = num at HC PI
  generalize B l = s at *
  have hT1 : Errs (w.alloc zeroCells) := hw.mono (below_zero w)
  have HG : ∀ n, Below (w.alloc zeroCells).heap.size (w.alloc zeroCells) ((w.alloc zeroCells).drewN n) := pw_below_drewN (Below.refl _ _)
  clear np hc hr hl hm hw
  go_enter Tryd.func33, Tryd.ntmps33
  go_wp2_with fail
  go_at_call 44
  refine (strings_HasPrefix.calls _ _ _ _ H1.out).mono ?_
  rintro e w1 ⟨rfl, ⟨n1, rfl⟩⟩
  go_wp2_with fail
  go_at_call 44
  refine (strings_HasPrefix.calls _ _ _ _ H2.out).mono ?_
  rintro e w2 ⟨rfl, ⟨n2, rfl⟩⟩
  go_wp2_with fail
  go_at_call 44
  refine (strings_HasPrefix.calls _ _ _ _ H3.out).mono ?_
  rintro e w3 ⟨rfl, ⟨n3, rfl⟩⟩
  go_wp2_with fail
  go_at_call 44
  refine (strings_HasPrefix.calls _ _ _ _ H4.out).mono ?_
  rintro e w4 ⟨rfl, ⟨n4, rfl⟩⟩
  go_wp2_with fail
  go_at_call 44
  refine (strings_HasPrefix.calls _ _ _ _ H5.out).mono ?_
  rintro e w5 ⟨rfl, ⟨n5, rfl⟩⟩
  clear H1 H2 H3 H4 H5
  go_wp2_with fail
  go_loop [12] (fun i => ∃ k : Nat, k ≤ m ∧ i = .int .i64 k) (fun i => m - (intOf i).toNat)
  case atStart => exact ⟨0, Nat.zero_le _, rfl⟩
  case round =>
    obtain ⟨k, hk, rfl⟩ := hrel
    by_cases hlt : k < s.size
    · by_cases hkm : k < m
      · have hn := (isNum_iff _).1 (HN.out k hlt hkm)
        by_cases h45 : (s[k].toNat : Int) = 45
        · clear hn
          go_wp2
          go_round
          case rel => exact ⟨k + 1, by omega, by go_num⟩
          case measure => simp [intOf]; omega
        · have e1 : ((s[k].toNat : Int) == 45) = false := beq_eq_false_iff_ne.mpr h45
          have e2 : (48 ≤ (s[k].toNat : Int)) = True := eq_true (by omega)
          have e3 : ((s[k].toNat : Int) ≤ 57) = True := eq_true (by omega)
          clear hn h45
          go_wp2
          go_round
          case rel => exact ⟨k + 1, by omega, by go_num⟩
          case measure => simp [intOf]; omega
      · obtain rfl : k = m := by omega
        have hn : ¬ (s[k].toNat = 45 ∨ (48 ≤ s[k].toNat ∧ s[k].toNat ≤ 57)) := fun h => by
          have h' := (isNum_iff _).2 h
          rw [HE.out hlt] at h'
          cases h'
        have e1 : ((s[k].toNat : Int) == 45) = false := beq_eq_false_iff_ne.mpr (by omega)
        by_cases h48 : 48 ≤ (s[k].toNat : Int)
        · have e2 : (48 ≤ (s[k].toNat : Int)) = True := eq_true h48
          have e3 : ((s[k].toNat : Int) ≤ 57) = False := eq_false (by omega)
          clear hn h48 hkm
          go_wp2_with fail
          rw [HC.out]
          go_at_call 53
          refine (PI _ (hT1.mono (HG _))).mono ?_
          rintro e w6 ⟨⟨ev, rfl, he⟩, hb6⟩
          go_wp2_with fail
          obtain ⟨hc6, hf6⟩ := bcell hb6
          have hz6 := hb6.size
          simp at hz6
          have hz6a : w.heap.size < w6.heap.size := by omega
          clear hz6
          have g0 := hc6 w.heap.size 0 (by simp)
          have g1 := hc6 w.heap.size 1 (by simp)
          have g2 := hc6 w.heap.size 2 (by simp)
          have g3 := hc6 w.heap.size 3 (by simp)
          have f0 := hf6 w.heap.size 0 (by simp)
          have f1 := hf6 w.heap.size 1 (by simp)
          have f2 := hf6 w.heap.size 2 (by simp)
          have f3 := hf6 w.heap.size 3 (by simp)
          simp [go_sem] at g0 g1 g2 g3 f0 f1 f2 f3
          clear hc6 hf6
          rcases he with ⟨rfl, rfl⟩ | ⟨rfl, te, pe, rfl⟩
          all_goals
            go_region
            go_wp2
            refine bodyPost_ret (v := .tuple #[Av 1 v ⟨#[]⟩ 0, .string rest, .bool _]) ?_ rfl ⟨rfl, ?_⟩
            · rw [← HD.out]
              simp [results, Tryd.results33, go_sem, g0, g1, g2, g3]
            · have hB6 : Below w.heap.size w w6 := ((below_zero w).trans (pw_below_drewN (Below.refl _ _) _)).trans (hb6.mono (by simp))
              repeat (first | exact hB6 | apply below_drew1 | refine below_set ?_ (Nat.le_refl _))
        · have e2 : (48 ≤ (s[k].toNat : Int)) = False := eq_false h48
          clear hn h48 hkm
          go_wp2_with fail
          rw [HC.out]
          go_at_call 53
          refine (PI _ (hT1.mono (HG _))).mono ?_
          rintro e w6 ⟨⟨ev, rfl, he⟩, hb6⟩
          go_wp2_with fail
          obtain ⟨hc6, hf6⟩ := bcell hb6
          have hz6 := hb6.size
          simp at hz6
          have hz6a : w.heap.size < w6.heap.size := by omega
          clear hz6
          have g0 := hc6 w.heap.size 0 (by simp)
          have g1 := hc6 w.heap.size 1 (by simp)
          have g2 := hc6 w.heap.size 2 (by simp)
          have g3 := hc6 w.heap.size 3 (by simp)
          have f0 := hf6 w.heap.size 0 (by simp)
          have f1 := hf6 w.heap.size 1 (by simp)
          have f2 := hf6 w.heap.size 2 (by simp)
          have f3 := hf6 w.heap.size 3 (by simp)
          simp [go_sem] at g0 g1 g2 g3 f0 f1 f2 f3
          clear hc6 hf6
          rcases he with ⟨rfl, rfl⟩ | ⟨rfl, te, pe, rfl⟩
          all_goals
            go_region
            go_wp2
            refine bodyPost_ret (v := .tuple #[Av 1 v ⟨#[]⟩ 0, .string rest, .bool _]) ?_ rfl ⟨rfl, ?_⟩
            · rw [← HD.out]
              simp [results, Tryd.results33, go_sem, g0, g1, g2, g3]
            · have hB6 : Below w.heap.size w w6 := ((below_zero w).trans (pw_below_drewN (Below.refl _ _) _)).trans (hb6.mono (by simp))
              repeat (first | exact hB6 | apply below_drew1 | refine below_set ?_ (Nat.le_refl _))
    · obtain rfl : k = m := by omega
      go_wp2_with fail
      rw [HC.out]
      go_at_call 53
      refine (PI _ (hT1.mono (HG _))).mono ?_
      rintro e w6 ⟨⟨ev, rfl, he⟩, hb6⟩
      go_wp2_with fail
      obtain ⟨hc6, hf6⟩ := bcell hb6
      have hz6 := hb6.size
      simp at hz6
      have hz6a : w.heap.size < w6.heap.size := by omega
      clear hz6
      have g0 := hc6 w.heap.size 0 (by simp)
      have g1 := hc6 w.heap.size 1 (by simp)
      have g2 := hc6 w.heap.size 2 (by simp)
      have g3 := hc6 w.heap.size 3 (by simp)
      have f0 := hf6 w.heap.size 0 (by simp)
      have f1 := hf6 w.heap.size 1 (by simp)
      have f2 := hf6 w.heap.size 2 (by simp)
      have f3 := hf6 w.heap.size 3 (by simp)
      simp [go_sem] at g0 g1 g2 g3 f0 f1 f2 f3
      clear hc6 hf6
      rcases he with ⟨rfl, rfl⟩ | ⟨rfl, te, pe, rfl⟩
      all_goals
        go_region
        go_wp2
        refine bodyPost_ret (v := .tuple #[Av 1 v ⟨#[]⟩ 0, .string rest, .bool _]) ?_ rfl ⟨rfl, ?_⟩
        · rw [← HD.out]
          simp [results, Tryd.results33, go_sem, g0, g1, g2, g3]
        · have hB6 : Below w.heap.size w w6 := ((below_zero w).trans (pw_below_drewN (Below.refl _ _) _)).trans (hb6.mono (by simp))
          repeat (first | exact hB6 | apply below_drew1 | refine below_set ?_ (Nat.le_refl _))
abbrev PutOk (t : ByteArray) (v : Value) (c : Int) : Prop := ∀ w, Errs w → Calls Tryd.prog 14 #[.string t] w fun e w' => e = .returned (.tuple #[v, .int .i64 c]) ∧ Below w.heap.size w w'
theorem not_special {c : UInt8} (h : c ≠ 34 ∧ c ≠ 116 ∧ c ≠ 102 ∧ c ≠ 120) (r : List UInt8) : c :: r = [] ∨ ∃ d r', c :: r = d :: r' ∧ d ≠ 34 ∧ d ≠ 116 ∧ d ≠ 102 ∧ d ≠ 120 := .inr ⟨c, r, rfl, h⟩
theorem num_plain {c : UInt8} (h : isNum c = true) : c ≠ 34 ∧ c ≠ 116 ∧ c ≠ 102 ∧ c ≠ 120 := by
  rw [isNum_iff] at h
  refine ⟨?_, ?_, ?_, ?_⟩ <;> rintro rfl <;> revert h <;> decide
theorem itoa_plain (n : Int) (m : List UInt8) : itoa n ++ m = [] ∨ ∃ d r, itoa n ++ m = d :: r ∧ d ≠ 34 ∧ d ≠ 116 ∧ d ≠ 102 ∧ d ≠ 120 := by
  have hne : itoa n ≠ [] := by
    unfold itoa
    split
    · simp
    · exact (dec_digits _).2
  cases h : itoa n with
  | nil => exact absurd h hne
  | cons c r => exact .inr ⟨c, r ++ m, rfl, num_plain (itoa_num n c (by rw [h]; simp))⟩
section
variable (n : Int) (h0 : -9223372036854775808 ≤ n) (h1 : n ≤ 9223372036854775807)
include h0 h1
theorem front_itoa (m : List UInt8) (hm : m = [] ∨ ∃ c r, m = c :: r ∧ isNum c = false) (hml : m.length ≤ 10000) (w : World) (hw : Errs w) :
    Calls Tryd.prog 33 #[.string (B (itoa n ++ m))] w fun e w' => e = .returned (.tuple #[Av 1 n ⟨#[]⟩ 0, .string (B m), .bool true]) ∧ Below w.heap.size w w' := by
  have hl := lead_all (itoa n) m (itoa_num n) hm
  have hs := itoa_short n h0 h1
  have := front_num (itoa n ++ m) (by rw [List.length_append]; omega) (itoa_plain n m) n true (.inl ⟨by rw [hl, List.take_left]; exact parse_itoa n h0 h1, rfl⟩) w hw
  rw [hl, List.drop_left] at this
  exact this
theorem bad_nought : PutOk (B [48] ++ B (itoa n)) (Av 0 0 ⟨#[]⟩ 0) 30 := fun w hw => by
  rw [append_B, List.singleton_append]
  have hl : lead (48 :: itoa n) = (48 :: itoa n).length := by
    have := lead_all (48 :: itoa n) [] (fun c hc => (List.mem_cons.1 hc).elim (fun h => by rw [h]; decide) (itoa_num n c)) (.inl rfl)
    rw [List.append_nil] at this
    exact this
  have hs := itoa_short n h0 h1
  have hp : (48 : UInt8) ≠ 34 ∧ (48 : UInt8) ≠ 116 ∧ (48 : UInt8) ≠ 102 ∧ (48 : UInt8) ≠ 120 := by decide
  have ht : (48 :: itoa n).take (lead (48 :: itoa n)) = 48 :: itoa n := by rw [hl, List.take_length]
  have hd : (48 :: itoa n).drop (lead (48 :: itoa n)) = [] := by rw [hl, List.drop_length]
  by_cases h : n < 0
  · refine parse_bad (T := Errs) Errs.mono _ (B []) false (.inl rfl) 1 0 ⟨#[]⟩ 0 w hw (fun w hw => ?_)
    have := front_num (48 :: itoa n) (by rw [List.length_cons]; omega) (not_special hp _) 0 false (.inr (.inl ⟨by rw [ht]; exact parse_nought_neg n h, rfl, rfl⟩)) w hw
    rw [hd] at this
    exact this
  · refine parse_other (T := Errs) Errs.mono _ (B []) (B (itoa n)) (toList_B []) ?_ 1 n ⟨#[]⟩ 0 w hw (fun w hw => ?_) (fun w hw => print_int n h0 h1 w hw.tabs)
    · rw [toList_B, toList_B, beq_eq_false_iff_ne]
      intro he
      have := congrArg List.length he
      simp at this
    · have := front_num (48 :: itoa n) (by rw [List.length_cons]; omega) (not_special hp _) n true (.inl ⟨by rw [ht]; exact parse_nought n (by omega) h1, rfl⟩) w hw
      rw [hd] at this
      exact this
end
end Go.Proofs.YtpjfhdbkkomogaaDoor.Mb
namespace Go.Proofs.YtpjfhdbkkomogaaDoor.Mb
open Go.RowKit
theorem err_cell {n : String} {g ti : Nat} {ms : Array (String × TypeId)} {nm : String} {d : DataW Unit} {W : World} (hg : Tryd.prog.globalNamed n = some g) (hty : (Tryd.prog.globals[g]?).map (·.type) = some ti) (hi : Tryd.prog.underlying ti = some (.interface ms)) (h : laidMet Tryd.prog [(n, .iface nm d)] W) : ∃ te pe, W.cell? ⟨g, 0, none⟩ = some (.iface te pe) := by
  obtain ⟨ps, hv, -, -⟩ := h
  obtain ⟨g', t, cs, fuel, p, q, h1, h2, h3, h4, -, -⟩ := hv
  rw [hg] at h1
  cases h1
  rw [hty] at h2
  cases h2
  obtain ⟨f', u, v, hcs, -, -⟩ := iface_of_trod hi h4
  obtain ⟨e, z, hh⟩ := var_at hg h3
  refine ⟨u, v, ?_⟩
  obtain rfl : cs = #[.iface u v] := Array.eq_one_of_toList hcs
  simp [World.cell?, hh]
theorem errs_of {W : World} (h : laidMetH Tryd.prog laid5 W) : Errs W :=
  ⟨tabs_of h,
    err_cell (by kernel_rfl) (by kernel_rfl) Tryd.underlying78 (only "strconv.ErrSyntax" [("strconv.ErrSyntax", Rows.laid_strconv_ErrSyntax)] (by kernel_rfl) (by kernel_rfl) h),
    err_cell (by kernel_rfl) (by kernel_rfl) Tryd.underlying78 (only "strconv.ErrRange" [("strconv.ErrRange", Rows.laid_strconv_ErrRange)] (by kernel_rfl) (by kernel_rfl) h)⟩
def dgt (d : Nat) : UInt8 := UInt8.ofNat (if d < 10 then 48 + d else 87 + d)
theorem dgt_toNat (d : Nat) (h : d < 16) : (dgt d).toNat = if d < 10 then 48 + d else 87 + d := by
  unfold dgt
  rw [UInt8.toNat_ofNat']
  split <;> omega
def tell (u : Nat) : List UInt8 := if _h : u < 16 then [dgt u] else tell (u / 16) ++ [dgt (u % 16)]
decreasing_by omega
theorem tell_small (u : Nat) (h : u < 16) : tell u = [dgt u] := by rw [tell, dif_pos h]
theorem tell_big (u : Nat) (h : ¬ u < 16) : tell u = tell (u / 16) ++ [dgt (u % 16)] := by rw [tell, dif_neg h]
def tells : Nat → Nat → List UInt8
  | 0, _ => []
  | n + 1, u => tells n (u / 16) ++ [dgt (u % 16)]
theorem tells_length : ∀ n u, (tells n u).length = n
  | 0, _ => rfl
  | n + 1, u => by rw [tells, List.length_append, tells_length n, List.length_singleton]
theorem tells_zero : ∀ n, tells n 0 = List.replicate n 48
  | 0 => rfl
  | n + 1 => by rw [tells, show 0 / 16 = 0 from rfl, tells_zero n, List.replicate_succ']; rfl
theorem tell_filled : ∀ (n u : Nat), u < 16 ^ (n + 1) → (tell u).length ≤ n + 1 ∧ List.replicate (n + 1 - (tell u).length) 48 ++ tell u = tells (n + 1) u
  | 0, u, h => by
    have h : u < 16 := by simpa using h
    rw [tell_small u h]
    refine ⟨by simp, ?_⟩
    rw [tells, tells, Nat.mod_eq_of_lt h]
    rfl
  | n + 1, u, h => by
    by_cases h16 : u < 16
    · rw [tell_small u h16]
      refine ⟨by simp, ?_⟩
      rw [tells, Nat.mod_eq_of_lt h16, show u / 16 = 0 by omega, tells_zero]
      rfl
    · have hq : u / 16 < 16 ^ (n + 1) := by
        rw [Nat.pow_succ] at h
        exact Nat.div_lt_of_lt_mul (by omega)
      obtain ⟨h1, h2⟩ := tell_filled n (u / 16) hq
      rw [tell_big u h16, List.length_append, List.length_singleton]
      refine ⟨by omega, ?_⟩
      rw [tells, ← h2, ← List.append_assoc]
      congr 3
      omega
def dgv (c : UInt8) : Nat := if c.toNat ≤ 57 then c.toNat - 48 else c.toNat - 87
theorem dgv_dgt (d : Nat) (h : d < 16) : dgv (dgt d) = d := by
  unfold dgv
  rw [dgt_toNat d h]
  split <;> split <;> omega
def isDgt (c : UInt8) : Prop := (48 ≤ c.toNat ∧ c.toNat ≤ 57) ∨ (97 ≤ c.toNat ∧ c.toNat ≤ 102)
theorem dgt_hex (d : Nat) (h : d < 16) : isDgt (dgt d) := by
  unfold isDgt
  rw [dgt_toNat d h]
  split <;> omega
theorem dgv_lt (c : UInt8) (h : isDgt c) : dgv c < 16 := by
  unfold isDgt at h
  unfold dgv
  split <;> omega
theorem tells_hex : ∀ n u, ∀ c ∈ tells n u, isDgt c
  | 0, _, c, hc => by cases hc
  | n + 1, u, c, hc => by
    rcases List.mem_append.1 hc with hc | hc
    · exact tells_hex n _ c hc
    · obtain rfl := List.mem_singleton.1 hc
      exact dgt_hex _ (Nat.mod_lt _ (by decide))
def hval (l : List UInt8) : Nat := l.foldl (fun a c => a * 16 + dgv c) 0
theorem hval_snoc (l : List UInt8) (c : UInt8) : hval (l ++ [c]) = hval l * 16 + dgv c := by
  unfold hval
  rw [List.foldl_append]
  rfl
theorem hval_tells : ∀ n u, u < 16 ^ n → hval (tells n u) = u
  | 0, u, h => by
    have : u = 0 := by simpa using h
    rw [this]; rfl
  | n + 1, u, h => by
    have hq : u / 16 < 16 ^ n := by
      rw [Nat.pow_succ] at h
      exact Nat.div_lt_of_lt_mul (by omega)
    rw [tells, hval_snoc, hval_tells n _ hq, dgv_dgt _ (Nat.mod_lt _ (by decide))]
    omega
theorem fold_lt : ∀ (l : List UInt8) (a : Nat), (∀ c ∈ l, isDgt c) → l.foldl (fun a c => a * 16 + dgv c) a < (a + 1) * 16 ^ l.length
  | [], a, _ => by simp
  | c :: l, a, h => by
    have h1 := fold_lt l (a * 16 + dgv c) fun d dgt => h d (List.mem_cons_of_mem _ dgt)
    have h2 := dgv_lt c (h c (List.mem_cons_self ..))
    have h3 : (a * 16 + dgv c + 1) * 16 ^ l.length ≤ ((a + 1) * 16) * 16 ^ l.length := Nat.mul_le_mul_right _ (by omega)
    rw [List.foldl_cons, List.length_cons, Nat.pow_succ]
    have h4 : (a + 1) * (16 ^ l.length * 16) = ((a + 1) * 16) * 16 ^ l.length := by rw [Nat.mul_comm (16 ^ l.length) 16, Nat.mul_assoc]
    omega
theorem hval_lt (l : List UInt8) (h : ∀ c ∈ l, isDgt c) : hval l < 16 ^ l.length := by
  have := fold_lt l 0 h
  unfold hval
  omega
end Go.Proofs.YtpjfhdbkkomogaaDoor.Mb
namespace Go.Proofs.YtpjfhdbkkomogaaDoor.Mb
open Go.RowKit Go.Proofs.YtpjfhdbkkomogaaDoorW.PrintWords Go.Proofs.YtpjfhdbkkomogaaDoorW.PrintLast Go.Proofs.YtpjfhdbkkomogaaDoorW.PrintMore Go.Proofs.YtpjfhdbkkomogaaDoor.Px Go.Proofs.YtpjfhdbkkomogaaDoor.Gvn
attribute [local go_sem] run_store_float
theorem tz_any (w : World) (h : Tabs w) : Calls Tryd.prog 79 #[.int .u64 16] w fun e w' => e = .returned (.int .i64 4) ∧ Below w.heap.size w w' := by
  obtain ⟨⟨e6, z6, h6⟩, _⟩ := h
  exact Ex.tz_calls w e6 z6 h6
structure At (w0 wr : World) (u v i : Nat) (l : List UInt8) (G : Nat → Int) : Prop where
  len : i + l.length = 65
  few : l.length ≤ 15
  fits : v * 16 ^ l.length ≤ u
  told : tell u = tell v ++ l
  cells : ∀ t, t < 65 → wr.cell? ⟨w0.heap.size, t, none⟩ = some (.int .u8 (G t))
  free : ∀ t, t < 65 → wr.frozen? ⟨w0.heap.size, t, none⟩ = false
  put : ∀ j (h : j < l.length), G (i + j) = (l[j].toNat : Int)
  below : Below w0.heap.size w0 wr
theorem zeros_at (t : Nat) (h : t < 65) : Tryd.zeroCells113[t]? = some (.int .u8 0) := by
  have e : Tryd.zeroCells113 = Array.replicate 65 (.int .u8 0) := by kernel_rfl
  rw [e, Array.getElem?_replicate, if_pos h]
theorem At.start {w w1 w2 : World} (hb1 : Below (w.alloc (.cells Tryd.zeroCells113 113)).heap.size (w.alloc (.cells Tryd.zeroCells113 113)) w1) (hb2 : Below w1.heap.size w1 w2) (u : Nat) : At w w2 u u 65 [] (fun _ => 0) := by
  have hb := hb1.trans (hb2.mono hb1.size)
  have hlt : w.heap.size < (w.alloc (.cells Tryd.zeroCells113 113)).heap.size := by simp
  refine ⟨rfl, by simp, by simp, by simp, fun t ht => ?_, fun t ht => ?_, fun j h => by simp at h, ((Below.refl w.heap.size w).alloc (Nat.le_refl _) _).trans (hb.mono (Nat.le_of_lt hlt))⟩
  · rw [hb.cell (p := ⟨w.heap.size, t, none⟩) hlt, World.cell?_alloc_new]
    exact zeros_at t ht
  · rw [hb.frozen (p := ⟨w.heap.size, t, none⟩) hlt]
    exact World.frozen?_alloc_new _ _ _ _
abbrev digs : ByteArray := ⟨#[48, 49, 50, 51, 52, 53, 54, 55, 56, 57, 97, 98, 99, 100, 101, 102, 103, 104, 105, 106, 107, 108, 109, 110, 111, 112, 113, 114, 115, 116, 117, 118, 119, 120, 121, 122]⟩
theorem digs_all : ∀ d, d < 16 → digs.data.toList[d]? = some (dgt d) := by decide
theorem digs_at (k : IntKind) (z : Int) (d : Nat) (hz : z = (d : Int)) (h : d < 16) (W : World) : (Instr.index 9 (.string digs) (.int k z)).run Tryd.prog W = .ok (.int .u8 ((dgt d).toNat : Int)) W := by
  subst hz
  have hs : digs.size = 36 := by kernel_rfl
  rw [run_index_string (P := Tryd.prog) (w := W) 9 digs k _ Tryd.underlying9, dif_pos ⟨by omega, by rw [hs]; omega⟩]
  have e := digs_all d h
  have h2 : ((d : Int)).toNat < digs.size := by rw [hs]; omega
  have e2 : digs[((d : Int)).toNat]'h2 = dgt d := by
    obtain ⟨h3, h4⟩ := List.getElem?_eq_some_iff.1 e
    rw [← h4]
    rfl
  rw [e2]
theorem and15w (v : Nat) (h : v < 18446744073709551616) : bits .and .u64 (v : Int) 15 = ((v % 16 : Nat) : Int) := by
  have := bits_and_u64_nat v 15 h (by decide)
  rw [show v &&& 15 = v % 16 from Nat.and_two_pow_sub_one_eq_mod v 4] at this
  exact this
theorem At.step {w0 wr : World} {u v m : Nat} {l : List UInt8} {G : Nat → Int} (h : At w0 wr u v (m + 1) l G) (h16 : 16 ≤ v) (h15 : l.length < 15) (g : UInt8) (hg : g = dgt (v % 16)) :
    At w0 (wr.setCell ⟨w0.heap.size, m, none⟩ (.int .u8 (g.toNat : Int))) u (v / 16) m (g :: l) (fun t => if t = m then (g.toNat : Int) else G t) := by
  have hm : m < 65 := by have := h.len; omega
  refine ⟨by have := h.len; rw [List.length_cons]; omega, by rw [List.length_cons]; omega, ?_, ?_, fun t ht => ?_, fun t ht => ?_, fun j hj => ?_, h.below.setCell (Nat.le_refl _) _⟩
  · have h1 : v / 16 * 16 * 16 ^ l.length ≤ v * 16 ^ l.length := Nat.mul_le_mul_right _ (by omega)
    have := h.fits
    rw [List.length_cons, Nat.pow_succ, Nat.mul_comm (16 ^ l.length) 16, ← Nat.mul_assoc]
    omega
  · rw [h.told, tell_big v (by omega), hg, List.append_assoc]
    rfl
  · by_cases e : t = m
    · subst e
      rw [if_pos rfl]
      exact World.cell?_setCell_same _ _ _ (h.cells t ht)
    · rw [if_neg e, World.cell?_setCell_other _ _ _ _ (by simp only [ne_eq, Addr.mk.injEq, true_and, and_true]; omega)]
      exact h.cells t ht
  · rw [World.frozen?_setCell]
    exact h.free t ht
  · cases j with
    | zero => simp
    | succ j =>
      have hj' : j < l.length := by simpa using hj
      have := h.put j hj'
      rw [if_neg (by omega), List.getElem_cons_succ, ← this]
      congr 1
      omega
set_option maxHeartbeats 1000000 in
set_option maxRecDepth 100000 in
theorem bits_any (u : Nat) (hu : u < 18446744073709551616) (w : World) (hw : Tabs w) :
    Calls Tryd.prog 63 #[.slice none 0 0, .int .u64 u, .int .i64 16, .bool false, .bool false] w fun e w' => e = .returned (.tuple #[.slice none 0 0, .string (B (tell u))]) ∧ Below w.heap.size w w' := by
  have TZ := fun (w : World) (h : Tabs w) => tz_any w h
  have PW := Ex.pow_calls
  generalize hr : B (tell u) = r
  have HR := Lib.hid hr
  clear hr
  go_enter Tryd.func63, Tryd.ntmps63
  go_wp2_with fail
  go_at_call 78
  refine (PW _).mono ?_
  rintro e w1 ⟨rfl, hb1⟩
  go_wp2_with fail
  go_at_call 79
  refine (TZ _ ?_).mono ?_
  · exact (hw.mono ((Below.refl w.heap.size w).alloc (Nat.le_refl _) _)).mono hb1
  rintro e w2 ⟨rfl, hb2⟩
  have HA := Lib.hid (At.start hb1 hb2 u)
  clear hb1 hb2 hw TZ PW
  go_wp2_with fail
  go_loopw [1, 13] (fun cu ci wr => ∃ (v i : Nat) (l : List UInt8) (G : Nat → Int), cu = .int .u64 v ∧ ci = .int .i64 i ∧ Hid (At w wr u v i l G)) (fun cu _ _ => (intOf cu).toNat)
  case atStart => exact ⟨u, 65, [], _, rfl, rfl, HA⟩
  case round =>
    obtain ⟨v, i, l, G, rfl, rfl, HI⟩ := hrel
    rename World => wr
    clear HA
    have hfit := HI.out.fits
    have hlen := HI.out.len
    have hvu : v ≤ u := Nat.le_trans (Nat.le_mul_of_pos_right _ (Nat.pow_pos (by decide))) hfit
    by_cases h16 : 16 ≤ v
    · have hl15 : l.length < 15 := by
        apply Nat.lt_of_not_le
        intro h
        have h1 : 16 ^ 15 ≤ 16 ^ l.length := Nat.pow_le_pow_right (by decide) h
        have h2 : 16 * 16 ^ 15 ≤ v * 16 ^ l.length := Nat.mul_le_mul h16 h1
        omega
      obtain ⟨m, rfl⟩ : ∃ m, i = m + 1 := ⟨i - 1, by omega⟩
      have hc := HI.out.cells
      have hf := HI.out.free
      have hm : m < 65 := by omega
      obtain ⟨g, hg⟩ : ∃ g : UInt8, g = dgt (v % 16) := ⟨_, rfl⟩
      have hix : ∀ W, (Instr.index 9 (.string digs) (.int .u64 (bits .and .u64 (v : Int) 15))).run Tryd.prog W = .ok (.int .u8 (g.toNat : Int)) W := fun W => by
        rw [hg]
        exact digs_at _ _ _ (and15w v (by omega)) (Nat.mod_lt _ (by decide)) W
      have HS := Lib.hid (HI.out.step h16 hl15 g hg)
      clear hg hlen hfit hl15 HI
      go_wp2
      go_roundw
      case rel => exact ⟨v / 16, m, g :: l, _, by simp, rfl, HS⟩
      case measure => simp [intOf]; omega
    · obtain ⟨m, rfl⟩ : ∃ m, i = m + 1 := ⟨i - 1, by have := HI.out.few; omega⟩
      have hc := HI.out.cells
      have hf := HI.out.free
      have hm : m < 65 := by omega
      obtain ⟨g, hg⟩ : ∃ g : UInt8, g = dgt v := ⟨_, rfl⟩
      have hix : ∀ W, (Instr.index 9 (.string digs) (.int .u64 (v : Int))).run Tryd.prog W = .ok (.int .u8 (g.toNat : Int)) W := fun W => by
        rw [hg]
        exact digs_at _ _ _ rfl (by omega) W
      have hal : Tryd.prog.arrayLen 113 = 65 := by kernel_rfl
      have hlm : 65 - m = l.length + 1 := by omega
      have hsl : ∀ W, (Instr.sliceAt 113 (.pointer (some ⟨w.heap.size, 0, none⟩)) (some (.int .i64 (m : Int))) none none).run Tryd.prog W = .ok (.slice (some ⟨w.heap.size, m, none⟩) (l.length + 1) (l.length + 1)) W := fun W => by
        rw [run_sliceAt_array_l W 113 ⟨w.heap.size, 0, none⟩ (by kernel_rfl) .i64 (m : Int) (by omega) (by rw [hal]; omega)]
        rw [hal]
        go_simp
        omega
      have hcv : (convert 57 9 (.slice (some ⟨w.heap.size, m, none⟩) (l.length + 1) (l.length + 1))).run Tryd.prog (wr.setCell ⟨w.heap.size, m, none⟩ (.int .u8 (g.toNat : Int))) = .ok (.string r) (wr.setCell ⟨w.heap.size, m, none⟩ (.int .u8 (g.toNat : Int))) := by
        have h := run_convert_bytes_back (P := Tryd.prog) (wr.setCell ⟨w.heap.size, m, none⟩ (.int .u8 (g.toNat : Int))) 57 9 5 ⟨w.heap.size, m, none⟩ (l.length + 1) (g :: l) Tryd.underlying57 Tryd.underlying5 Tryd.underlying9 (fun j hj => by
          rw [Lib.add_plain]
          cases j with
          | zero => exact World.cell?_setCell_same _ _ _ (hc m (by omega))
          | succ j =>
            have hj' : j < l.length := by simpa using hj
            have := HI.out.put j hj'
            rw [World.cell?_setCell_other _ _ _ _ (by simp), List.getElem_cons_succ, ← this, show m + 1 + j = m + (j + 1) by omega]
            exact hc _ (by omega))
        have e : (⟨(g :: l).toArray⟩ : ByteArray) = r := by
          rw [← HR.out, HI.out.told, hg, tell_small v (by omega)]
          rfl
        rw [e] at h
        exact h
      have HB : Hid (Below w.heap.size w (wr.setCell ⟨w.heap.size, m, none⟩ (.int .u8 (g.toNat : Int)))) := Lib.hid (HI.out.below.setCell (Nat.le_refl _) _)
      clear hg hlen hfit HI hlm hal
      go_wp2
      refine bodyPost_ret (v := .tuple #[.slice none 0 0, .string r]) (by simp [results, Tryd.results63, go_sem]) rfl ⟨rfl, HB.out⟩
theorem format_in (u : Nat) (hu : u < 18446744073709551616) (w : World) (hw : Tabs w) :
    Calls Tryd.prog 42 #[.int .u64 u, .int .i64 16] w fun e w' => e = .returned (.string (B (tell u))) ∧ Below w.heap.size w w' := by
  have FB := fun (w : World) (h : Tabs w) => bits_any u hu w h
  generalize B (tell u) = r at FB ⊢
  go_enter Tryd.func42, Tryd.ntmps42
  go_wp2_with fail
  go_at_call 63
  refine (FB _ hw).mono ?_
  rintro e w1 ⟨rfl, hb1⟩
  go_wp2
  go_ret
  exact ⟨rfl, hb1⟩
theorem format16 (u : Nat) (hu : u < 18446744073709551616) (w : World) (hw : Tabs w) :
    Calls Tryd.prog 29 #[.int .u64 u, .int .i64 16] w fun e w' => e = .returned (.string (B (tell u))) ∧ Below w.heap.size w w' := by
  have FB := fun (w : World) (h : Tabs w) => format_in u hu w h
  generalize B (tell u) = r at FB ⊢
  go_enter Tryd.func29, Tryd.ntmps29
  go_wp2_with fail
  go_at_call 42
  refine (FB _ hw).mono ?_
  rintro e w1 ⟨rfl, hb1⟩
  go_wp2
  go_ret
  exact ⟨rfl, hb1⟩
theorem is_float (f : Nat) (hf : f < 18446744073709551616) : value_Is.f 1 5 0 ⟨#[]⟩ f = some true := by
  have e : (⟨#[]⟩ : ByteArray).toList = [] := toList_B []
  unfold value_Is.f bits_Order.f
  rw [if_pos hf, Option.bind_some, if_neg (by decide), if_neg (by decide), if_neg (by decide), value_Is.j0, if_neg (by decide), if_pos rfl, if_pos rfl, e]
  rfl
theorem told16 (u : Nat) (hu : u < 18446744073709551616) : (tell u).length ≤ 16 ∧ 1 ≤ (tell u).length ∧ List.replicate (16 - (tell u).length) 48 ++ tell u = tells 16 u := by
  obtain ⟨h1, h2⟩ := tell_filled 15 u (by omega)
  refine ⟨h1, ?_, h2⟩
  by_cases h : u < 16
  · rw [tell_small u h]; simp
  · rw [tell_big u h]; simp
set_option maxHeartbeats 1000000 in
set_option maxRecDepth 100000 in
theorem print_float (f : Nat) (hf : f < 18446744073709551616) (w : World) (hw : Tabs w) :
    Calls Tryd.prog 10 #[Av 5 0 ⟨#[]⟩ f] w fun e w' => e = .returned (.string (B (102 :: tells 16 f))) ∧ Below w.heap.size w w' := by
  have HI := Lib.hid (is_float f hf)
  have FM := fun (w : World) (hw : Tabs w) => format16 f hf w hw
  obtain ⟨t1, t2, t3⟩ := told16 f hf
  obtain ⟨c, hc⟩ : ∃ c, c = 16 - (tell f).length := ⟨_, rfl⟩
  have RP := fun (w : World) => Ex.rep_calls c (by omega) w
  have HX : Hid ((⟨#[102]⟩ : ByteArray) ++ ⟨(List.replicate c 48).toArray⟩ ++ B (tell f) = B (102 :: tells 16 f)) := by
    show B [102] ++ B (List.replicate c 48) ++ B (tell f) = B (102 :: tells 16 f)
    rw [append_B, append_B, hc, List.append_assoc, t3]
    rfl
  have HC : Hid ((16 : Int) - ((B (tell f)).size : Int) = (c : Int)) := Lib.hid (by rw [size_B]; omega)
  have hz : (⟨(List.replicate c 48).toArray⟩ : ByteArray).size ≤ 16 := by
    show (B (List.replicate c 48)).size ≤ 16
    rw [size_B, List.length_replicate]; omega
  have hs : (B (tell f)).size ≤ 16 := by rw [size_B]; exact t1
  generalize B (102 :: tells 16 f) = x at HX ⊢
  generalize (⟨(List.replicate c 48).toArray⟩ : ByteArray) = z at RP HX hz
  generalize B (tell f) = s at FM HX HC hs
  have hT1 : Tabs (w.alloc (.cells #[Value.int IntKind.i64 5, Value.int IntKind.i64 0, Value.string ⟨#[]⟩, Value.float FloatKind.f64 f] 24)) := hw.mono ((Below.refl w.heap.size w).alloc (Nat.le_refl _) _)
  have k23 := run23
  clear hf hw t1 t2 t3 hc
  go_enter Tryd.func10, Tryd.ntmps10
  go_wp2_with fail
  go_at_call 24
  refine (value_Is.calls _ _ _ _ _ _ _ HI.out).mono ?_
  rintro e w1 ⟨rfl, hb1⟩
  obtain ⟨hc1, hf1⟩ := bcell hb1
  have hT2 := hT1.mono hb1
  have hB1 : Below w.heap.size w w1 := ((Below.refl w.heap.size w).alloc (Nat.le_refl _) _).trans (hb1.mono (by simp))
  go_wp2_with fail
  go_at_call 29
  refine (FM _ hT2).mono ?_
  rintro e w2 ⟨rfl, hb2⟩
  go_wp2_with fail
  rw [HC.out]
  go_at_call 30
  refine (RP _).mono ?_
  rintro e w3 ⟨rfl, hb3⟩
  go_wp2
  go_ret
  have hB2 := hB1.trans (hb2.mono hB1.size)
  exact ⟨by rw [← HX.out]; rfl, hB2.trans (hb3.mono hB2.size)⟩
theorem or32 : ∀ n : Fin 256, 97 ≤ n.val → n.val ≤ 102 → bits .or .u8 (n.val : Int) 32 = (n.val : Int) := by decide +kernel
theorem lower_any (c : UInt8) (h : 97 ≤ c.toNat ∧ c.toNat ≤ 102) (w : World) : Calls Tryd.prog 83 #[.int .u8 (c.toNat : Int)] w fun e w' => e = .returned (.int .u8 (c.toNat : Int)) ∧ w' = w := by
  have e := or32 ⟨c.toNat, c.toNat_lt⟩ h.1 h.2
  simp only at e
  obtain ⟨x, hx⟩ : ∃ x : Int, x = (c.toNat : Int) := ⟨_, rfl⟩
  have h0 : 0 ≤ x := by omega
  have h1 : x < 256 := by omega
  rw [← hx] at e ⊢
  clear h hx
  have he := Lib.hid e
  clear e
  generalize hy : bits .or .u8 x 32 = y at he
  go_enter Tryd.func83, Tryd.ntmps83
  go_wp2
  go_ret
  have e := he.out
  subst e
  exact ⟨rfl, rfl⟩
set_option maxHeartbeats 4000000 in
set_option maxRecDepth 100000 in
theorem parse16_in (l : List UInt8) (h1 : 1 ≤ l.length) (h2 : l.length ≤ 16) (hl : ∀ c ∈ l, isDgt c) (w : World) :
    Calls Tryd.prog 70 #[.string (B l), .int .i64 16, .int .i64 64] w fun e w' => e = .returned (.tuple #[.int .u64 (hval l : Int), .nilIface]) ∧ Below w.heap.size w w' := by
  obtain ⟨t, ht⟩ : ∃ t, t = B l := ⟨_, rfl⟩
  have hsz : t.size = l.length := by rw [ht, size_B]
  have hemp : t.toList.isEmpty = false := by
    rw [ht, toList_B]
    cases l with
    | nil => simp at h1
    | cons c r => rfl
  have hcv := Lib.run_convert_string_bytes (P := Tryd.prog) w 9 57 5 t (u := .string) Tryd.underlying9 Tryd.underlying57 Tryd.underlying5
  have hB : ∀ j, j < t.size → (Lib.bytesWorld w 5 t).cell? ⟨w.heap.size, j, none⟩ = some (.int .u8 (l.getD j 0).toNat) := fun j hj => by
    have := Lib.bytesWorld_cell w 5 t j hj
    rw [ht, data_B, ← ht] at this
    exact this
  have hW := Lib.bytesWorld_below w 5 t
  rw [← ht]
  obtain ⟨W1, hW1⟩ : ∃ W1, W1 = Lib.bytesWorld w 5 t := ⟨_, rfl⟩
  rw [← hW1] at hcv hB hW
  clear hW1 ht
  have hmv : IntKind.u64.wrap (IntKind.u64.wrap 18446744073709551616 - 1) = 18446744073709551615 := by
    rw [IntKind.wrap_u64, IntKind.wrap_u64]
    decide
  have HZ := Lib.hid hsz
  have hs1 : 1 ≤ t.size := by omega
  have hs2 : t.size ≤ 16 := by omega
  clear hsz
  generalize hr : (hval l : Int) = r
  have HR := Lib.hid hr
  clear hr
  go_enter Tryd.func70, Tryd.ntmps70
  have HWB := Lib.hid hW
  clear hW
  go_wp2_with fail
  go_loop [12, 13, 101] (fun vu vn vi => ∃ (k : Nat) (a : Int), vu = .bool false ∧ vn = .int .u64 a ∧ vi = .int .i64 k ∧ k ≤ t.size ∧ Hid (a = (hval (l.take k) : Int)))
    (fun _ _ vi => t.size - (intOf vi).toNat)
  case atStart => exact ⟨0, 0, rfl, rfl, rfl, by omega, rfl⟩
  case round =>
    obtain ⟨k, a, rfl, rfl, rfl, hk, hh⟩ := hrel
    have ha := hh.out
    clear hh
    by_cases hkn : k < t.size
    · have hc := hB k hkn
      have hkl : k < l.length := by have := HZ.out; omega
      have hget : l.getD k 0 = l[k] := by simp [List.getD, List.getElem?_eq_getElem hkl]
      have hdg := hl l[k] (List.getElem_mem _)
      have hlt := hval_lt (l.take k) fun c hc => hl c (List.mem_of_mem_take hc)
      have hlt2 : hval (l.take k) < 16 ^ 15 := by
        refine Nat.lt_of_lt_of_le hlt (Nat.pow_le_pow_right (by decide) ?_)
        rw [List.length_take]; omega
      have hsn : hval (l.take (k + 1)) = hval (l.take k) * 16 + dgv l[k] := by
        rw [List.take_succ_eq_append_getElem hkl, hval_snoc]
      rw [hget] at hc
      generalize l[k] = c at hc hdg hsn
      have a0 : 0 ≤ a := by omega
      have a1 : a < 1152921504606846976 := by omega
      have hc256 : c.toNat < 256 := c.toNat_lt
      have LW := fun (w : World) (h : 97 ≤ c.toNat ∧ c.toNat ≤ 102) => lower_any c h w
      clear hB hget hlt hlt2 hl hkl h1 h2
      by_cases hdig : c.toNat ≤ 57
      · have hd0 : 48 ≤ c.toNat := by unfold isDgt at hdg; omega
        have HN : Hid (a * 16 + ((c.toNat : Int) - 48) = (hval (l.take (k + 1)) : Int)) := Lib.hid (by
          rw [hsn, ha]; unfold dgv; rw [if_pos hdig]; omega)
        clear hdg hsn ha LW
        go_wp2
        refine ⟨⟨k + 1, a * 16 + ((c.toNat : Int) - 48), rfl, (by first | rfl | (congr 1; omega)), (by first | rfl | (congr 1; omega)), by omega, HN⟩, by simp [intOf]; omega⟩
      · have hd0 : 97 ≤ c.toNat := by unfold isDgt at hdg; omega
        have hd1 : c.toNat ≤ 102 := by unfold isDgt at hdg; omega
        have HN : Hid (a * 16 + ((c.toNat : Int) - 97 + 10) = (hval (l.take (k + 1)) : Int)) := Lib.hid (by
          rw [hsn, ha]; unfold dgv; rw [if_neg hdig]; omega)
        clear hdg hsn ha
        go_wp2_with (go_at_call 83; refine (LW _ ⟨hd0, hd1⟩).mono ?_; rintro e w' ⟨rfl, rfl⟩)
        refine ⟨⟨k + 1, a * 16 + ((c.toNat : Int) - 97 + 10), rfl, (by first | rfl | (congr 1; omega)), (by first | rfl | (congr 1; omega)), by omega, HN⟩, by simp [intOf]; omega⟩
    · have hkk : k = t.size := by omega
      subst hkk
      have hF : a = r := by rw [ha, ← HR.out, HZ.out, List.take_length]
      subst hF
      clear hB ha hl
      go_wp2
      go_ret2
      exact ⟨rfl, HWB.out⟩
theorem parse16 (l : List UInt8) (h1 : 1 ≤ l.length) (h2 : l.length ≤ 16) (hl : ∀ c ∈ l, isDgt c) (w : World) :
    Calls Tryd.prog 52 #[.string (B l), .int .i64 16, .int .i64 64] w fun e w' => e = .returned (.tuple #[.int .u64 (hval l : Int), .nilIface]) ∧ Below w.heap.size w w' := by
  have PI := fun (w : World) => parse16_in l h1 h2 hl w
  generalize (hval l : Int) = r at PI ⊢
  generalize B l = t at PI ⊢
  clear h1 h2 hl
  go_enter Tryd.func52, Tryd.ntmps52
  go_wp2_with fail
  go_at_call 70
  refine (PI _).mono ?_
  rintro e w1 ⟨rfl, hb1⟩
  go_wp2
  go_ret2
  exact ⟨rfl, hb1⟩
theorem not_false_ahead (l m : List UInt8) (h : l.length = 16) (hl : ∀ c ∈ l, isDgt c) : (((102 :: (l ++ m)).take ([102, 97, 108, 115, 101] : List UInt8).length) == [102, 97, 108, 115, 101]) = false := by
  match l, h, hl with
  | a :: b :: r, _, hl =>
    have hb := hl b (by simp)
    have : b ≠ 108 := by
      rintro rfl
      revert hb
      unfold isDgt
      decide
    simp [this]
set_option maxHeartbeats 2000000 in
set_option maxRecDepth 100000 in
theorem front_float (l m : List UInt8) (h : l.length = 16) (hm : m.length ≤ 10000) (hl : ∀ c ∈ l, isDgt c) (w : World) :
    Calls Tryd.prog 33 #[.string (B (102 :: (l ++ m)))] w fun e w' => e = .returned (.tuple #[Av 5 0 ⟨#[]⟩ (hval l), .string (B m), .bool true]) ∧ Below w.heap.size w w' := by
  have H1 : Hid (strings_HasPrefix.f (B (102 :: (l ++ m))) (⟨#[34]⟩ : ByteArray) = some false) := (hasPrefix_is (102 :: (l ++ m)) [34]).trans (by simp)
  have H2 : Hid (strings_HasPrefix.f (B (102 :: (l ++ m))) (⟨#[116, 114, 117, 101]⟩ : ByteArray) = some false) := (hasPrefix_is (102 :: (l ++ m)) [116, 114, 117, 101]).trans (by simp)
  have H3 : Hid (strings_HasPrefix.f (B (102 :: (l ++ m))) (⟨#[102, 97, 108, 115, 101]⟩ : ByteArray) = some false) := (hasPrefix_is (102 :: (l ++ m)) [102, 97, 108, 115, 101]).trans (by rw [not_false_ahead l m h hl])
  have H4 : Hid (strings_HasPrefix.f (B (102 :: (l ++ m))) (⟨#[120]⟩ : ByteArray) = some false) := (hasPrefix_is (102 :: (l ++ m)) [120]).trans (by simp)
  have H5 : Hid (strings_HasPrefix.f (B (102 :: (l ++ m))) (⟨#[102]⟩ : ByteArray) = some true) := (hasPrefix_is (102 :: (l ++ m)) [102]).trans (by simp)
  have PI := fun (w : World) => parse16 l (by omega) (by omega) hl w
  have hs0 : (B (102 :: (l ++ m))).size = 17 + m.length := by rw [size_B, List.length_cons, List.length_append]; omega
  have HC : Hid ((B (102 :: (l ++ m))).extract 1 17 = B l) := Lib.hid (by
    rw [extract_B, List.drop_succ_cons, List.drop_zero, show 17 - 1 = 16 from rfl, ← h, List.take_left])
  have HD : Hid ((B (102 :: (l ++ m))).extract 17 (B (102 :: (l ++ m))).size = B m) := Lib.hid (by
    rw [tail_B, List.drop_succ_cons, ← h, List.drop_left])
  have hs1 : 17 ≤ (B (102 :: (l ++ m))).size := by omega
  have hs2 : (B (102 :: (l ++ m))).size ≤ 100000 := by omega
  have hsI : (17 : Int) ≤ ((B (102 :: (l ++ m))).size : Int) := by omega
  clear hs0
  generalize B m = rest at HD ⊢
  generalize B (102 :: (l ++ m)) = s at *
  generalize B l = num at HC PI
  generalize hval l = f at PI ⊢
  have k22 := run22
  clear h hm hl
  go_enter Tryd.func33, Tryd.ntmps33
  go_wp2_with fail
  go_at_call 44
  refine (strings_HasPrefix.calls _ _ _ _ H1.out).mono ?_
  rintro e w1 ⟨rfl, ⟨n1, rfl⟩⟩
  go_wp2_with fail
  go_at_call 44
  refine (strings_HasPrefix.calls _ _ _ _ H2.out).mono ?_
  rintro e w2 ⟨rfl, ⟨n2, rfl⟩⟩
  go_wp2_with fail
  go_at_call 44
  refine (strings_HasPrefix.calls _ _ _ _ H3.out).mono ?_
  rintro e w3 ⟨rfl, ⟨n3, rfl⟩⟩
  go_wp2_with fail
  go_at_call 44
  refine (strings_HasPrefix.calls _ _ _ _ H4.out).mono ?_
  rintro e w4 ⟨rfl, ⟨n4, rfl⟩⟩
  go_wp2_with fail
  go_at_call 44
  refine (strings_HasPrefix.calls _ _ _ _ H5.out).mono ?_
  rintro e w5 ⟨rfl, ⟨n5, rfl⟩⟩
  clear H1 H2 H3 H4 H5
  go_wp2_with fail
  rw [HC.out]
  go_at_call 52
  refine (PI _).mono ?_
  rintro e w6 ⟨rfl, hb6⟩
  go_wp2_with fail
  obtain ⟨hc6, hf6⟩ := bcell hb6
  have hz6 := hb6.size
  simp at hz6
  have hz6a : w.heap.size < w6.heap.size := by omega
  clear hz6
  have g0 := hc6 w.heap.size 0 (by simp)
  have g1 := hc6 w.heap.size 1 (by simp)
  have g2 := hc6 w.heap.size 2 (by simp)
  have g3 := hc6 w.heap.size 3 (by simp)
  have f0 := hf6 w.heap.size 0 (by simp)
  have f1 := hf6 w.heap.size 1 (by simp)
  have f2 := hf6 w.heap.size 2 (by simp)
  have f3 := hf6 w.heap.size 3 (by simp)
  simp [go_sem] at g0 g1 g2 g3 f0 f1 f2 f3
  clear hc6 hf6
  go_region
  go_wp2
  refine bodyPost_ret (v := .tuple #[Av 5 0 ⟨#[]⟩ f, .string rest, .bool true]) ?_ rfl ⟨rfl, ?_⟩
  · rw [← HD.out]
    simp [results, Tryd.results33, go_sem, g0, g1, g2, g3]
  · have hB6 : Below w.heap.size w w6 := ((below_zero w).trans (pw_below_drewN (Below.refl _ _) _)).trans (hb6.mono (by simp))
    repeat (first | exact hB6 | apply below_drew1 | refine below_set ?_ (Nat.le_refl _))
end Go.Proofs.YtpjfhdbkkomogaaDoor.Mb
namespace Go.Proofs.YtpjfhdbkkomogaaDoor.Px
open Go.RowKit Go.Proofs.YtpjfhdbkkomogaaDoor.Gvn Go.Proofs.YtpjfhdbkkomogaaDoorW.PrintWords Go.Proofs.YtpjfhdbkkomogaaDoorW.PrintLast Go.Proofs.YtpjfhdbkkomogaaDoorW.PrintMore
attribute [local go_sem] run_store_float min2_int min_two
set_option linter.unusedVariables false
set_option linter.unusedSimpArgs false
def strconv_FormatBool_41.f (a0 : Bool) : Option (ByteArray) := if a0 = true then (some (⟨#[116, 114, 117, 101]⟩ : ByteArray)) else (some (⟨#[102, 97, 108, 115, 101]⟩ : ByteArray))
set_option maxHeartbeats 8000000 in
set_option maxRecDepth 100000 in
theorem strconv_FormatBool_41.calls (a0 : Bool) (r : ByteArray) (w : World) (h : strconv_FormatBool_41.f a0 = some r) :
  Calls Tryd.prog 41 #[.bool a0] w fun e w' => e = .returned (.string r) ∧ Drawn0 w w' := by
 have H : (if a0 = true then (some (⟨#[116, 114, 117, 101]⟩ : ByteArray)) else (some (⟨#[102, 97, 108, 115, 101]⟩ : ByteArray))) = some r := h
 clear h
 by_cases c2 : a0 = true
 ·subst c2
  have H1 : (some (⟨#[116, 114, 117, 101]⟩ : ByteArray)) = some r := by rw [if_pos rfl] at H; exact H
  clear H
  have H := H1
  clear H1
  obtain rfl := Option.some.inj H
  have k23 := run23
  have k22 := run22
  go_enter Tryd.func41, Tryd.ntmps41
  go_wp2
  go_ret
  exact ⟨by first | rfl | (simp; done) | (simp [*]; done), by repeat (first | exact Drawn0.refl _ | apply Drawn0.step)⟩
 ·replace c2 := Bool.eq_false_iff.mpr c2
  subst c2
  have H1 : (some (⟨#[102, 97, 108, 115, 101]⟩ : ByteArray)) = some r := by rw [if_neg (show ¬ (false = true) by decide)] at H; exact H
  clear H
  have H := H1
  clear H1
  obtain rfl := Option.some.inj H
  have k23 := run23
  have k22 := run22
  go_enter Tryd.func41, Tryd.ntmps41
  go_wp2
  go_ret
  exact ⟨by first | rfl | (simp; done) | (simp [*]; done), by repeat (first | exact Drawn0.refl _ | apply Drawn0.step)⟩
def strconv_FormatBool_26.f (a0 : Bool) : Option (ByteArray) := (strconv_FormatBool_41.f a0).bind fun t119 => (some t119)
set_option maxHeartbeats 8000000 in
set_option maxRecDepth 100000 in
theorem strconv_FormatBool_26.calls (a0 : Bool) (r : ByteArray) (w : World) (h : strconv_FormatBool_26.f a0 = some r) :
  Calls Tryd.prog 26 #[.bool a0] w fun e w' => e = .returned (.string r) ∧ Drawn0 w w' := by
 have H : ((strconv_FormatBool_41.f a0).bind fun t119 => (some t119)) = some r := h
 clear h
 replace H := Option.bind_eq_some_iff.mp H
 obtain ⟨t119, A20, H⟩ := H
 replace H : (some t119) = some r := H
 have A2 := Aside0.mk A20
 clear A20
 obtain rfl := Option.some.inj H
 have k23 := run23
 have k22 := run22
 go_enter Tryd.func26, Tryd.ntmps26
 go_wp2_with (first | ((with_reducible refine gate_callee (f := 41) rfl ?_); refine goesL_ (some 4) rfl rfl Tryd.func41 (by kernel_rfl) rfl #[.bool a0] rfl (by (try simp only [List.map_toArray, List.map_cons, List.map_nil]); first | done | rfl | (simp only [List.length_drop, List.length_take]; rfl)) ?_; (with_reducible refine (strconv_FormatBool_41.calls a0 t119 _ A2.out).mono ?_); rintro e w' ⟨rfl, ⟨nd, rfl⟩⟩; refine ⟨_, rfl, ?_⟩))
 go_ret
 exact ⟨by first | rfl | (simp; done) | (simp [*]; done), by repeat (first | exact Drawn0.refl _ | apply Drawn0.step)⟩
end Go.Proofs.YtpjfhdbkkomogaaDoor.Px
namespace Go.Proofs.YtpjfhdbkkomogaaDoor.Mb
open Go.RowKit Go.Proofs.YtpjfhdbkkomogaaDoorW.PrintWords Go.Proofs.YtpjfhdbkkomogaaDoorW.PrintLast Go.Proofs.YtpjfhdbkkomogaaDoorW.PrintMore Go.Proofs.YtpjfhdbkkomogaaDoor.Px Go.Proofs.YtpjfhdbkkomogaaDoor.Gvn
attribute [local go_sem] run_store_float
set_option maxRecDepth 100000 in
theorem print_bad (k i : Int) (s : ByteArray) (f : Nat) (h : value_Is.f 1 k i s f = some false) (w : World) :
    Calls Tryd.prog 10 #[Av k i s f] w fun e w' => e = .returned (.string (B [63])) ∧ Below w.heap.size w w' := by
  have HI := Lib.hid h
  clear h
  go_enter Tryd.func10, Tryd.ntmps10
  go_wp2_with (first | (go_at_call 24; refine (value_Is.calls _ _ _ _ _ _ _ HI.out).mono ?_; rintro e w1 ⟨rfl, hb1⟩))
  go_ret
  refine ⟨rfl, ?_⟩
  exact ((Below.refl w.heap.size w).alloc (Nat.le_refl _) _).trans (hb1.mono (by simp))
theorem bool_told (b : Bool) : strconv_FormatBool_26.f b = some (B (if b then [116, 114, 117, 101] else [102, 97, 108, 115, 101])) := by
  cases b <;> rfl
set_option maxRecDepth 100000 in
theorem print_bool (i : Int) (hi : i = 0 ∨ i = 1) (w : World) :
    Calls Tryd.prog 10 #[Av 2 i ⟨#[]⟩ 0] w fun e w' => e = .returned (.string (B (if i = 1 then [116, 114, 117, 101] else [102, 97, 108, 115, 101]))) ∧ Below w.heap.size w w' := by
  have is : value_Is.f 1 2 i ⟨#[]⟩ 0 = some true := by
    have e : (⟨#[]⟩ : ByteArray).toList = [] := toList_B []
    unfold value_Is.f
    rw [order0, Option.bind_some, if_neg (by decide), if_pos rfl, if_pos e]
    rcases hi with rfl | rfl
    · rfl
    · rfl
  have HI := Lib.hid is
  have HT := Lib.hid (bool_told (decide (i = 1)))
  have hx : (if decide (i = 1) = true then [116, 114, 117, 101] else [102, 97, 108, 115, 101] : List UInt8) = if i = 1 then [116, 114, 117, 101] else [102, 97, 108, 115, 101] := by
    simp only [decide_eq_true_eq]
  rw [hx] at HT
  generalize B (if i = 1 then [116, 114, 117, 101] else [102, 97, 108, 115, 101]) = r at HT ⊢
  have hb : (i == 1) = decide (i = 1) := by rcases hi with rfl | rfl <;> rfl
  have HBB := Lib.hid hb
  clear is hi hb hx
  go_enter Tryd.func10, Tryd.ntmps10
  go_wp2_with fail
  go_at_call 24
  refine (value_Is.calls _ _ _ _ _ _ _ HI.out).mono ?_
  rintro e w1 ⟨rfl, hb1⟩
  obtain ⟨hc1, hf1⟩ := bcell hb1
  go_wp2_with fail
  rw [HBB.out]
  go_at_call 26
  refine (strconv_FormatBool_26.calls _ _ _ HT.out).mono ?_
  rintro e w2 ⟨rfl, ⟨n2, rfl⟩⟩
  go_wp2
  go_ret
  refine ⟨rfl, ?_⟩
  exact pw_below_drewN (((Below.refl w.heap.size w).alloc (Nat.le_refl _) _).trans (hb1.mono (by simp))) _
set_option maxRecDepth 100000 in
theorem print_bytes (s : ByteArray) (h : s.size ≤ 60) (w : World) :
    Calls Tryd.prog 10 #[Av 4 0 s 0] w fun e w' => e = .returned (.string (B (120 :: hexL s.data.toList))) ∧ Below w.heap.size w w' := by
  have is : value_Is.f 1 4 0 s 0 = some true := by
    unfold value_Is.f
    have h' : (s.size : Int) ≤ 60 := by omega
    rw [order0, Option.bind_some, if_neg (by decide), if_neg (by decide), if_neg (by decide), value_Is.j0, if_pos rfl, if_pos h', if_pos rfl]
    rfl
  have hq := hexed_is (s.size + 5) s.data.toList (by rw [size_data]; omega) (by rw [size_data]; omega)
  rw [B_data] at hq
  have HI := Lib.hid is
  have HQ := Lib.hid hq
  have HX : Hid ((⟨#[120]⟩ : ByteArray) ++ B (hexL s.data.toList) = B (120 :: hexL s.data.toList)) := append_B [120] _
  have hz : (B (hexL s.data.toList)).size ≤ 1000 := by rw [size_B, hexL_length, size_data]; omega
  generalize B (120 :: hexL s.data.toList) = r at HX ⊢
  generalize B (hexL s.data.toList) = x at HX HQ hz
  clear is hq
  go_enter Tryd.func10, Tryd.ntmps10
  go_wp2_with (first | (go_at_call 24; refine (value_Is.calls _ _ _ _ _ _ _ HI.out).mono ?_; rintro e w1 ⟨rfl, hb1⟩; obtain ⟨hc1, hf1⟩ := bcell hb1) | (go_at_call 28; refine (text_hexed.calls _ _ _ _ HQ.out).mono ?_; rintro e w2 ⟨rfl, hb2⟩))
  go_ret
  have h2 := ((Below.refl w.heap.size w).alloc (Nat.le_refl _) (.cells #[Value.int IntKind.i64 4, Value.int IntKind.i64 0, Value.string s, Value.float FloatKind.f64 0] 24)).trans (hb1.mono (by simp))
  exact ⟨by rw [← HX.out]; rfl, h2.trans (hb2.mono h2.size)⟩
set_option maxHeartbeats 1000000 in
set_option maxRecDepth 100000 in
theorem front_true (m : List UInt8) (hm : m.length ≤ 10000) (w : World) :
    Calls Tryd.prog 33 #[.string (B ([116, 114, 117, 101] ++ m))] w fun e w' => e = .returned (.tuple #[Av 2 1 ⟨#[]⟩ 0, .string (B m), .bool true]) ∧ Below w.heap.size w w' := by
  have H1 : Hid (strings_HasPrefix.f (B ([116, 114, 117, 101] ++ m)) (⟨#[34]⟩ : ByteArray) = some false) := (hasPrefix_is ([116, 114, 117, 101] ++ m) [34]).trans (by simp)
  have H2 : Hid (strings_HasPrefix.f (B ([116, 114, 117, 101] ++ m)) (⟨#[116, 114, 117, 101]⟩ : ByteArray) = some true) := (hasPrefix_is ([116, 114, 117, 101] ++ m) [116, 114, 117, 101]).trans (by simp)
  have hs0 : (B ([116, 114, 117, 101] ++ m)).size = 4 + m.length := by rw [size_B]; simp; omega
  have HD : Hid ((B ([116, 114, 117, 101] ++ m)).extract 4 (B ([116, 114, 117, 101] ++ m)).size = B m) := Lib.hid (by rw [tail_B]; rfl)
  have hs1 : 4 ≤ (B ([116, 114, 117, 101] ++ m)).size := by omega
  have hs2 : (B ([116, 114, 117, 101] ++ m)).size ≤ 100000 := by omega
  clear hs0
  generalize B m = rest at HD ⊢
  generalize B ([116, 114, 117, 101] ++ m) = s at *
  clear hm
  go_enter Tryd.func33, Tryd.ntmps33
  go_wp2_with fail
  go_at_call 44
  refine (strings_HasPrefix.calls _ _ _ _ H1.out).mono ?_
  rintro e w1 ⟨rfl, ⟨n1, rfl⟩⟩
  go_wp2_with fail
  go_at_call 44
  refine (strings_HasPrefix.calls _ _ _ _ H2.out).mono ?_
  rintro e w2 ⟨rfl, ⟨n2, rfl⟩⟩
  clear H1 H2
  go_wp2_with fail
  go_region
  go_wp2
  refine bodyPost_ret (v := .tuple #[Av 2 1 ⟨#[]⟩ 0, .string rest, .bool true]) ?_ rfl ⟨rfl, ?_⟩
  · rw [← HD.out]
    simp [results, Tryd.results33, go_sem]
  · have hB6 : Below w.heap.size w (w.alloc zeroCells) := below_zero w
    repeat (first | exact hB6 | apply pw_below_drewN | apply below_drew1 | refine below_set ?_ (Nat.le_refl _))
set_option maxHeartbeats 1000000 in
set_option maxRecDepth 100000 in
theorem front_false (m : List UInt8) (hm : m.length ≤ 10000) (w : World) :
    Calls Tryd.prog 33 #[.string (B ([102, 97, 108, 115, 101] ++ m))] w fun e w' => e = .returned (.tuple #[Av 2 0 ⟨#[]⟩ 0, .string (B m), .bool true]) ∧ Below w.heap.size w w' := by
  have H1 : Hid (strings_HasPrefix.f (B ([102, 97, 108, 115, 101] ++ m)) (⟨#[34]⟩ : ByteArray) = some false) := (hasPrefix_is ([102, 97, 108, 115, 101] ++ m) [34]).trans (by simp)
  have H2 : Hid (strings_HasPrefix.f (B ([102, 97, 108, 115, 101] ++ m)) (⟨#[116, 114, 117, 101]⟩ : ByteArray) = some false) := (hasPrefix_is ([102, 97, 108, 115, 101] ++ m) [116, 114, 117, 101]).trans (by simp)
  have H3 : Hid (strings_HasPrefix.f (B ([102, 97, 108, 115, 101] ++ m)) (⟨#[102, 97, 108, 115, 101]⟩ : ByteArray) = some true) := (hasPrefix_is ([102, 97, 108, 115, 101] ++ m) [102, 97, 108, 115, 101]).trans (by simp)
  have hs0 : (B ([102, 97, 108, 115, 101] ++ m)).size = 5 + m.length := by rw [size_B]; simp; omega
  have HD : Hid ((B ([102, 97, 108, 115, 101] ++ m)).extract 5 (B ([102, 97, 108, 115, 101] ++ m)).size = B m) := Lib.hid (by rw [tail_B]; rfl)
  have hs1 : 5 ≤ (B ([102, 97, 108, 115, 101] ++ m)).size := by omega
  have hs2 : (B ([102, 97, 108, 115, 101] ++ m)).size ≤ 100000 := by omega
  clear hs0
  generalize B m = rest at HD ⊢
  generalize B ([102, 97, 108, 115, 101] ++ m) = s at *
  clear hm
  go_enter Tryd.func33, Tryd.ntmps33
  go_wp2_with fail
  go_at_call 44
  refine (strings_HasPrefix.calls _ _ _ _ H1.out).mono ?_
  rintro e w1 ⟨rfl, ⟨n1, rfl⟩⟩
  go_wp2_with fail
  go_at_call 44
  refine (strings_HasPrefix.calls _ _ _ _ H2.out).mono ?_
  rintro e w2 ⟨rfl, ⟨n2, rfl⟩⟩
  go_wp2_with fail
  go_at_call 44
  refine (strings_HasPrefix.calls _ _ _ _ H3.out).mono ?_
  rintro e w3 ⟨rfl, ⟨n3, rfl⟩⟩
  clear H1 H2 H3
  go_wp2_with fail
  go_region
  go_wp2
  refine bodyPost_ret (v := .tuple #[Av 2 0 ⟨#[]⟩ 0, .string rest, .bool true]) ?_ rfl ⟨rfl, ?_⟩
  · rw [← HD.out]
    simp [results, Tryd.results33, go_sem]
  · have hB6 : Below w.heap.size w (w.alloc zeroCells) := below_zero w
    repeat (first | exact hB6 | apply pw_below_drewN | apply below_drew1 | refine below_set ?_ (Nat.le_refl _))
set_option maxHeartbeats 1000000 in
set_option maxRecDepth 100000 in
theorem front_bytes (l : List UInt8) (k : Nat) (o r : ByteArray) (w : World) (h : text_unhexed.f k (B l) = some (o, r)) :
    Calls Tryd.prog 33 #[.string (B (120 :: l))] w fun e w' => e = .returned (.tuple #[Av 4 0 o 0, .string r, .bool true]) ∧ Below w.heap.size w w' := by
  have H1 : Hid (strings_HasPrefix.f (B (120 :: l)) (⟨#[34]⟩ : ByteArray) = some false) := (hasPrefix_is (120 :: l) [34]).trans (by simp)
  have H2 : Hid (strings_HasPrefix.f (B (120 :: l)) (⟨#[116, 114, 117, 101]⟩ : ByteArray) = some false) := (hasPrefix_is (120 :: l) [116, 114, 117, 101]).trans (by simp)
  have H3 : Hid (strings_HasPrefix.f (B (120 :: l)) (⟨#[102, 97, 108, 115, 101]⟩ : ByteArray) = some false) := (hasPrefix_is (120 :: l) [102, 97, 108, 115, 101]).trans (by simp)
  have H4 : Hid (strings_HasPrefix.f (B (120 :: l)) (⟨#[120]⟩ : ByteArray) = some true) := (hasPrefix_is (120 :: l) [120]).trans (by simp)
  have HU := Lib.hid h
  have HT := Lib.hid (tail1 120 l)
  have hsz : 1 ≤ (B (120 :: l)).size := by rw [size_cons]; omega
  generalize B (120 :: l) = s at *
  clear h
  go_enter Tryd.func33, Tryd.ntmps33
  go_wp2_with fail
  go_at_call 44
  refine (strings_HasPrefix.calls _ _ _ _ H1.out).mono ?_
  rintro e w1 ⟨rfl, ⟨n1, rfl⟩⟩
  go_wp2_with fail
  go_at_call 44
  refine (strings_HasPrefix.calls _ _ _ _ H2.out).mono ?_
  rintro e w2 ⟨rfl, ⟨n2, rfl⟩⟩
  go_wp2_with fail
  go_at_call 44
  refine (strings_HasPrefix.calls _ _ _ _ H3.out).mono ?_
  rintro e w3 ⟨rfl, ⟨n3, rfl⟩⟩
  go_wp2_with fail
  go_at_call 44
  refine (strings_HasPrefix.calls _ _ _ _ H4.out).mono ?_
  rintro e w4 ⟨rfl, ⟨n4, rfl⟩⟩
  clear H1 H2 H3 H4
  go_wp2_with fail
  rw [HT.out]
  go_at_call 51
  refine (text_unhexed.calls _ _ _ _ _ HU.out).mono ?_
  rintro e w6 ⟨rfl, hb6⟩
  obtain ⟨hc6, hf6⟩ := bcell hb6
  have hz6 := hb6.size
  simp at hz6
  have hz6a : w.heap.size < w6.heap.size := by omega
  clear hz6
  have g0 := hc6 w.heap.size 0 (by simp)
  have g1 := hc6 w.heap.size 1 (by simp)
  have g2 := hc6 w.heap.size 2 (by simp)
  have g3 := hc6 w.heap.size 3 (by simp)
  have f0 := hf6 w.heap.size 0 (by simp)
  have f1 := hf6 w.heap.size 1 (by simp)
  have f2 := hf6 w.heap.size 2 (by simp)
  have f3 := hf6 w.heap.size 3 (by simp)
  simp [go_sem] at g0 g1 g2 g3 f0 f1 f2 f3
  clear hc6 hf6
  go_wp2
  refine bodyPost_ret (v := .tuple #[Av 4 0 o 0, .string r, .bool true]) ?_ rfl ⟨rfl, ?_⟩
  · simp [results, Tryd.results33, go_sem, g0, g1, g2, g3]
  · have hB6 : Below w.heap.size w w6 := ((below_zero w).trans (pw_below_drewN (Below.refl _ _) _)).trans (hb6.mono (by simp))
    repeat (first | exact hB6 | apply below_drew1 | refine below_set ?_ (Nat.le_refl _))
end Go.Proofs.YtpjfhdbkkomogaaDoor.Mb
namespace Go.Proofs.YtpjfhdbkkomogaaDoor.Mb
open Go.RowKit Go.Proofs.YtpjfhdbkkomogaaDoorW.PrintWords Go.Proofs.YtpjfhdbkkomogaaDoorW.PrintLast Go.Proofs.YtpjfhdbkkomogaaDoorW.PrintMore Go.Proofs.YtpjfhdbkkomogaaDoor.Px Go.Proofs.YtpjfhdbkkomogaaDoor.Gvn
open Go.Lib (itoa)
inductive Vt : Int → Int → ByteArray → Nat → List UInt8 → Prop
  | int (n : Int) (h0 : -9223372036854775808 ≤ n) (h1 : n ≤ 9223372036854775807) : Vt 1 n ⟨#[]⟩ 0 (itoa n)
  | yes : Vt 2 1 ⟨#[]⟩ 0 [116, 114, 117, 101]
  | no : Vt 2 0 ⟨#[]⟩ 0 [102, 97, 108, 115, 101]
  | str (s : ByteArray) (h : s.size ≤ 60) : Vt 3 0 s 0 (quoteL s.data.toList)
  | bytes (s : ByteArray) (h : s.size ≤ 60) : Vt 4 0 s 0 (120 :: hexL s.data.toList)
  | float (f : Nat) (h : f < 18446744073709551616) : Vt 5 0 ⟨#[]⟩ f (102 :: tells 16 f)
theorem Vt.print {k i : Int} {s : ByteArray} {f : Nat} {t : List UInt8} (h : Vt k i s f t) (w : World) (hw : Tabs w) :
    Calls Tryd.prog 10 #[Av k i s f] w fun e w' => e = .returned (.string (B t)) ∧ Below w.heap.size w w' := by
  cases h with
  | int n h0 h1 => exact print_int i h0 h1 w hw
  | yes => exact print_bool 1 (.inr rfl) w
  | no => exact print_bool 0 (.inl rfl) w
  | str s h => exact print_str s w h
  | bytes s h => exact print_bytes s h w
  | float f h => exact print_float f h w hw
def Behind (m : List UInt8) : Prop := m.length ≤ 10000 ∧ (m = [] ∨ ∃ c r, m = c :: r ∧ (c = 44 ∨ c = 41))
theorem Behind.num {m : List UInt8} (h : Behind m) : m = [] ∨ ∃ c r, m = c :: r ∧ isNum c = false := by
  rcases h.2 with rfl | ⟨c, r, rfl, rfl | rfl⟩
  · exact .inl rfl
  · exact .inr ⟨_, _, rfl, by decide⟩
  · exact .inr ⟨_, _, rfl, by decide⟩
theorem Behind.dig {m : List UInt8} (h : Behind m) : m = [] ∨ ∃ c r, m = c :: r ∧ dg c < 0 := by
  rcases h.2 with rfl | ⟨c, r, rfl, rfl | rfl⟩
  · exact .inl rfl
  · exact .inr ⟨_, _, rfl, by decide⟩
  · exact .inr ⟨_, _, rfl, by decide⟩
theorem Vt.front {k i : Int} {s : ByteArray} {f : Nat} {t : List UInt8} (h : Vt k i s f t) (m : List UInt8) (hm : Behind m) (w : World) (hw : Errs w) :
    Calls Tryd.prog 33 #[.string (B (t ++ m))] w fun e w' => e = .returned (.tuple #[Av k i s f, .string (B m), .bool true]) ∧ Below w.heap.size w w' := by
  cases h with
  | int n h0 h1 => exact front_itoa i h0 h1 m hm.num hm.1 w hw
  | yes => exact front_true m hm.1 w
  | no => exact front_false m hm.1 w
  | str s h =>
    obtain ⟨k, hk⟩ := unquoted_back s.data.toList m (by rw [size_data]; omega)
    have := front_quote (s.data.toList.flatMap esc ++ 34 :: m) k _ _ _ w hk
    rw [B_data] at this
    have e : quoteL s.data.toList ++ m = 34 :: (s.data.toList.flatMap esc ++ 34 :: m) := by simp [quoteL]
    rw [e]
    exact this
  | bytes s h =>
    obtain ⟨k, hk⟩ := unhexed_is s.data.toList m [] hm.dig (by rw [size_data]; simp; omega)
    have := front_bytes (hexL s.data.toList ++ m) k _ _ w hk
    rw [List.nil_append, B_data] at this
    exact this
  | float f h =>
    have := front_float (tells 16 f) m (tells_length 16 f) hm.1 (tells_hex 16 f) w
    rw [hval_tells 16 f h] at this
    exact this
theorem Vt.parse {k i : Int} {s : ByteArray} {f : Nat} {t : List UInt8} (h : Vt k i s f t) (w : World) (hw : Errs w) :
    Calls Tryd.prog 14 #[.string (B t)] w fun e w' => e = .returned (.tuple #[Av k i s f, .int .i64 0]) ∧ Below w.heap.size w w' := by
  refine parse_ok (T := Errs) Errs.mono _ (B []) (toList_B []) k i s f w hw (fun w hw => ?_) (fun w hw => h.print w hw.tabs)
  have := h.front [] ⟨by decide, .inl rfl⟩ w hw
  rw [List.append_nil] at this
  exact this
theorem order_zero (f : Nat) (hf : f < 18446744073709551616) : ∃ b : Bool, (b = true → f = 0) ∧ ∃ x : Int, bits_Order.f f = some x ∧ (x == 9223372036854775808) = b := by
  refine ⟨decide (f = 0), of_decide_eq_true, _, by unfold bits_Order.f; rw [if_pos hf], ?_⟩
  rw [Bool.eq_iff_iff, beq_iff_eq, decide_eq_true_eq]
  split <;> omega
theorem empty_of {s : ByteArray} (h : s.toList = []) : s = ⟨#[]⟩ := by
  rw [ByteArray.toList_eq] at h
  exact ext_data h
theorem is_or (k i : Int) (s : ByteArray) (f : Nat) (h0 : -9223372036854775808 ≤ i) (h1 : i ≤ 9223372036854775807) (hf : f < 18446744073709551616) :
    (value_Is.f 1 k i s f = some true ∧ ∃ t, Vt k i s f t) ∨ value_Is.f 1 k i s f = some false := by
  obtain ⟨b, hb, x, hx, hxb⟩ := order_zero f hf
  unfold value_Is.f
  rw [hx, Option.bind_some, hxb]
  by_cases k1 : k = 1
  · rw [if_pos k1]
    by_cases hs : s.toList = []
    · rw [if_pos hs]
      cases b with
      | false => exact .inr rfl
      | true =>
        obtain rfl := hb rfl
        obtain rfl := empty_of hs
        subst k1
        exact .inl ⟨rfl, _, .int i h0 h1⟩
    · rw [if_neg hs]; exact .inr rfl
  · rw [if_neg k1]
    by_cases k2 : k = 2
    · rw [if_pos k2]
      subst k2
      by_cases hs : s.toList = []
      · rw [if_pos hs]
        cases b with
        | false => right; split <;> (try split) <;> rfl
        | true =>
          obtain rfl := hb rfl
          obtain rfl := empty_of hs
          by_cases i0 : i = 0
          · subst i0; exact .inl ⟨rfl, _, .no⟩
          · by_cases i1 : i = 1
            · subst i1; exact .inl ⟨rfl, _, .yes⟩
            · rw [if_neg i0, if_neg i1]; exact .inr rfl
      · rw [if_neg hs]
        right; split <;> (try split) <;> rfl
    · rw [if_neg k2]
      have key : ∀ q : Bool, (q = true → k = 3 ∨ k = 4) → (q = false → k ≠ 3 ∧ k ≠ 4) →
          (value_Is.j0 1 b k q k i s f = some true ∧ ∃ t, Vt k i s f t) ∨ value_Is.j0 1 b k q k i s f = some false := fun q hq hq' => by
        rw [value_Is.j0]
        cases q with
        | true =>
          rw [if_pos rfl]
          by_cases hz : (s.size : Int) ≤ 60
          · rw [if_pos hz]
            by_cases i0 : i = 0
            · rw [if_pos i0]
              subst i0
              cases b with
              | false => exact .inr rfl
              | true =>
                obtain rfl := hb rfl
                rcases hq rfl with rfl | rfl
                · exact .inl ⟨rfl, _, .str s (by omega)⟩
                · exact .inl ⟨rfl, _, .bytes s (by omega)⟩
            · rw [if_neg i0]; exact .inr rfl
          · rw [if_neg hz]; exact .inr rfl
        | false =>
          rw [if_neg (by decide)]
          by_cases k5 : k = 5
          · rw [if_pos k5]
            subst k5
            by_cases i0 : i = 0
            · rw [if_pos i0]
              subst i0
              by_cases hs : s.toList = []
              · obtain rfl := empty_of hs
                rw [hs]
                exact .inl ⟨rfl, _, .float f hf⟩
              · right
                rw [beq_eq_false_iff_ne.2 hs]
            · rw [if_neg i0]; exact .inr rfl
          · rw [if_neg k5]; exact .inr rfl
      by_cases k3 : k = 3
      · rw [if_pos k3]
        exact key _ (fun h => .inl (eq_of_beq h)) (fun h => absurd (beq_iff_eq.2 k3) (by rw [h]; decide))
      · rw [if_neg k3]
        exact key _ (fun h => .inr (eq_of_beq h)) (fun h => ⟨k3, fun k4 => absurd (beq_iff_eq.2 k4) (by rw [h]; decide)⟩)
end Go.Proofs.YtpjfhdbkkomogaaDoor.Mb
namespace Go.Proofs.YtpjfhdbkkomogaaDoor.Px
open Go.RowKit Go.Proofs.YtpjfhdbkkomogaaDoor.Gvn Go.Proofs.YtpjfhdbkkomogaaDoorW.PrintWords Go.Proofs.YtpjfhdbkkomogaaDoorW.PrintLast Go.Proofs.YtpjfhdbkkomogaaDoorW.PrintMore
attribute [local go_sem] run_store_float min2_int min_two
set_option linter.unusedVariables false
set_option linter.unusedSimpArgs false
def rialtoref1_Same.f (a0 : Nat) (a1 : Nat) : Option (Bool) := some (((a0 : Nat) : Int) == ((a1 : Nat) : Int))
set_option maxHeartbeats 8000000 in
set_option maxRecDepth 100000 in
theorem rialtoref1_Same.calls (a0 : Nat) (a1 : Nat) (r : Bool) (w : World) (h : rialtoref1_Same.f a0 a1 = some r) :
  Calls Tryd.prog 59 #[.float .f64 a0, .float .f64 a1] w fun e w' => e = .returned (.bool r) ∧ Drawn0 w w' := by
 have H : (some (((a0 : Nat) : Int) == ((a1 : Nat) : Int))) = some r := h
 clear h
 obtain rfl := Option.some.inj H
 have k23 := run23
 have k22 := run22
 go_enter Tryd.func59, Tryd.ntmps59
 go_wp2
 go_ret
 exact ⟨by first | rfl | (simp; done) | (simp [*]; done), by repeat (first | exact Drawn0.refl _ | apply Drawn0.step)⟩
def rialtoref2_zero.f (a0 : Nat) : Option (Bool) := (rialtoref1_Same.f a0 0).bind fun t189 => (some t189)
set_option maxHeartbeats 8000000 in
set_option maxRecDepth 100000 in
theorem rialtoref2_zero.calls (a0 : Nat) (r : Bool) (w : World) (h : rialtoref2_zero.f a0 = some r) :
  Calls Tryd.prog 38 #[.float .f64 a0] w fun e w' => e = .returned (.bool r) ∧ Drawn0 w w' := by
 have H : ((rialtoref1_Same.f a0 0).bind fun t189 => (some t189)) = some r := h
 clear h
 replace H := Option.bind_eq_some_iff.mp H
 obtain ⟨t189, A20, H⟩ := H
 replace H : (some t189) = some r := H
 have A2 := Aside0.mk A20
 clear A20
 obtain rfl := Option.some.inj H
 have k23 := run23
 have k22 := run22
 go_enter Tryd.func38, Tryd.ntmps38
 go_wp2_with (first | ((with_reducible refine gate_callee (f := 59) rfl ?_); refine goesL_ (some 4) rfl rfl Tryd.func59 (by kernel_rfl) rfl #[.float .f64 a0, .float .f64 0] rfl (by (try simp only [List.map_toArray, List.map_cons, List.map_nil]); first | done | rfl | (simp only [List.length_drop, List.length_take]; rfl)) ?_; (with_reducible refine (rialtoref1_Same.calls a0 0 t189 _ A2.out).mono ?_); rintro e w' ⟨rfl, ⟨nd, rfl⟩⟩; refine ⟨_, rfl, ?_⟩))
 go_ret
 exact ⟨by first | rfl | (simp; done) | (simp [*]; done), by repeat (first | exact Drawn0.refl _ | apply Drawn0.step)⟩
def rialtoref2_Is.j0 : Nat → Int → Bool → Int → Int → ByteArray → Nat → Option (Bool)
 | 0, _, _, _, _, _, _ => none
 | k + 1, x4, x35, x191000, x191001, x191002, x191003 => if x35 = true then (if x191001 = 0 then (if (x191002.size : Int) ≤ 60 then ((rialtoref2_zero.f x191003).bind fun t194 => (some t194)) else (some false)) else (some false)) else (if x4 = 5 then (if x191001 = 0 then (some (x191002.toList == ([] : List UInt8))) else (some false)) else (some false))
def rialtoref2_Is.f (k : Nat) (a0_0 : Int) (a0_1 : Int) (a0_2 : ByteArray) (a0_3 : Nat) : Option (Bool) := if a0_0 = 1 then (if a0_2.toList = ([] : List UInt8) then ((rialtoref2_zero.f a0_3).bind fun t191 => (some t191)) else (some false)) else (if a0_0 = 2 then (if a0_1 = 0 then (if a0_2.toList = ([] : List UInt8) then ((rialtoref2_zero.f a0_3).bind fun t192 => (some t192)) else (some false)) else (if a0_1 = 1 then (if a0_2.toList = ([] : List UInt8) then ((rialtoref2_zero.f a0_3).bind fun t193 => (some t193)) else (some false)) else (some false))) else (if a0_0 = 3 then (rialtoref2_Is.j0 k a0_0 (a0_0 == 3) a0_0 a0_1 a0_2 a0_3) else (rialtoref2_Is.j0 k a0_0 (a0_0 == 4) a0_0 a0_1 a0_2 a0_3)))
theorem rialtoref2_Is.mono_l : ∀ k, (∀ y0 y1 y2 y3 y4 y5, LeO (rialtoref2_Is.j0 k y0 y1 y2 y3 y4 y5) (rialtoref2_Is.j0 (k + 1) y0 y1 y2 y3 y4 y5))
 | 0 => fun _ _ _ _ _ _ r h => by simp [rialtoref2_Is.j0] at h
 | k + 1 => by
  have ih0 := rialtoref2_Is.mono_l k
  ·intro y0 y1 y2 y3 y4 y5
   unfold rialtoref2_Is.j0
   repeat' first
   | (with_reducible exact ih0 _ _ _ _ _ _)
   | (with_reducible exact LeO.refl _)
   | (with_reducible exact LeO.none _)
   | (with_reducible refine LeO.ite ?_ ?_)
   | (with_reducible refine LeO.bind ?_ (fun _ => ?_))
   | exact ih0 _ _ _ _ _ _
   | exact LeO.none _
   | refine LeO.ite ?_ ?_
   | refine LeO.bind ?_ (fun _ => ?_)
theorem rialtoref2_Is.mono : ∀ a0 a1 a2 a3 k, LeO (rialtoref2_Is.f k a0 a1 a2 a3) (rialtoref2_Is.f (k + 1) a0 a1 a2 a3) := by
 intro a0 a1 a2 a3 k
 have ih0 := rialtoref2_Is.mono_l k
 unfold rialtoref2_Is.f
 repeat' first
   | (with_reducible exact ih0 _ _ _ _ _ _)
   | (with_reducible exact LeO.refl _)
   | (with_reducible exact LeO.none _)
   | (with_reducible refine LeO.ite ?_ ?_)
   | (with_reducible refine LeO.bind ?_ (fun _ => ?_))
   | exact ih0 _ _ _ _ _ _
   | exact LeO.none _
   | refine LeO.ite ?_ ?_
   | refine LeO.bind ?_ (fun _ => ?_)
set_option maxHeartbeats 8000000 in
set_option maxRecDepth 100000 in
theorem rialtoref2_Is.calls (k : Nat) (a0_0 : Int) (a0_1 : Int) (a0_2 : ByteArray) (a0_3 : Nat) (r : Bool) (w : World) (h : rialtoref2_Is.f k a0_0 a0_1 a0_2 a0_3 = some r) :
  Calls Tryd.prog 20 #[.agg #[.int .i64 a0_0, .int .i64 a0_1, .string a0_2, .float .f64 a0_3]] w fun e w' => e = .returned (.bool r) ∧ Below w.heap.size w w' := by
 have hu24 := Tryd.underlying24
 have HB := Aside0.mk (Below.refl w.heap.size w)
 have H : (if a0_0 = 1 then (if a0_2.toList = ([] : List UInt8) then ((rialtoref2_zero.f a0_3).bind fun t191 => (some t191)) else (some false)) else (if a0_0 = 2 then (if a0_1 = 0 then (if a0_2.toList = ([] : List UInt8) then ((rialtoref2_zero.f a0_3).bind fun t192 => (some t192)) else (some false)) else (if a0_1 = 1 then (if a0_2.toList = ([] : List UInt8) then ((rialtoref2_zero.f a0_3).bind fun t193 => (some t193)) else (some false)) else (some false))) else (if a0_0 = 3 then (rialtoref2_Is.j0 k a0_0 (a0_0 == 3) a0_0 a0_1 a0_2 a0_3) else (rialtoref2_Is.j0 k a0_0 (a0_0 == 4) a0_0 a0_1 a0_2 a0_3)))) = some r := h
 clear h
 by_cases c2 : a0_0 = 1
 ·rw [if_pos c2] at H
  have c2b0 : (a0_0 == 1) = true := beq_iff_eq.mpr c2
  have c2b1 : (a0_0 != 1) = false := bne_eq_false_iff_eq.mpr c2
  clear c2
  by_cases c3 : a0_2.toList = ([] : List UInt8)
  ·rw [if_pos c3] at H
   have c3b0 : (a0_2.toList == ([] : List UInt8)) = true := beq_iff_eq.mpr c3
   have c3b1 : (a0_2.toList != ([] : List UInt8)) = false := bne_eq_false_iff_eq.mpr c3
   clear c3
   replace H := Option.bind_eq_some_iff.mp H
   obtain ⟨t191, A40, H⟩ := H
   replace H : (some t191) = some r := H
   have A4 := Aside0.mk A40
   clear A40
   obtain rfl := Option.some.inj H
   have k23 := run23
   have k22 := run22
   go_enter Tryd.func20, Tryd.ntmps20
   go_wp2_with (first | ((with_reducible refine gate_dst (N := 1) rfl ?_); (try (refine gate_guard (by rfl) ?_; dsimp only)); refine box_event ?hg (N := 1) ?hd (cs := #[.int .i64 a0_0, .int .i64 a0_1, .string a0_2, .float .f64 a0_3]) (t := 24) ?hr ?_; (case hd => rfl); (case hg => rfl); (case hr => first | (go_simp; done) | (go_simp; rfl)); intro gb190 hg w5 hbox hb; have n0_ := Aside0.mk (below_step (by repeat (first | (with_reducible first | exact HB.out | apply below_alloc | apply pw_below_drewN | apply below_drew1) | exact HB.out)) hb); have n1_ := Aside0.mk (hbox); have n2_ := Aside0.mk ((by rw [hg]; exact (below_size (by repeat (first | (with_reducible first | exact HB.out | apply below_alloc | apply pw_below_drewN | apply below_drew1) | exact HB.out))) : w.heap.size ≤ gb190)); have n3_ := Aside0.mk ((by rw [hg]; exact (below_size (by repeat (first | (with_reducible first | exact HB.out | apply below_alloc | apply pw_below_drewN | apply below_drew1) | exact HB.out))) : w.heap.size ≤ gb190)); clear HB; have HB := n0_; have BK190 := n1_; have GW190 := n2_; have GE190 := n3_; clear n0_ n1_ n2_ n3_; clear hb hbox hg; have hcz6_0 : w5.cell? ⟨gb190, 0, none⟩ = some (.int .i64 a0_0) := (blk_cell BK190.out 0).trans rfl; have hcz6_1 : w5.cell? ⟨gb190, 1, none⟩ = some (.int .i64 a0_1) := (blk_cell BK190.out 1).trans rfl; have hcz6_2 : w5.cell? ⟨gb190, 2, none⟩ = some (.string a0_2) := (blk_cell BK190.out 2).trans rfl; have hcz6_3 : w5.cell? ⟨gb190, 3, none⟩ = some (.float .f64 a0_3) := (blk_cell BK190.out 3).trans rfl; have hfz6_0 := blk_frozen BK190.out 0; have hfz6_1 := blk_frozen BK190.out 1; have hfz6_2 := blk_frozen BK190.out 2; have hfz6_3 := blk_frozen BK190.out 3) | (go_at_call 38; (with_reducible refine (rialtoref2_zero.calls a0_3 t191 _ A4.out).mono ?_); rintro e w' ⟨rfl, ⟨nd, rfl⟩⟩))
   go_ret
   exact ⟨by first | rfl | (simp [errW_none, errW_some] <;> rfl) | (simp [*, errW_none, errW_some] <;> rfl), by repeat (first | (with_reducible first | exact HB.out | apply below_alloc | apply pw_below_drewN | apply below_drew1 | refine below_set ?_ GE190.out) | exact HB.out)⟩
  ·rw [if_neg c3] at H
   have c3b0 : (a0_2.toList == ([] : List UInt8)) = false := beq_eq_false_iff_ne.mpr c3
   have c3b1 : (a0_2.toList != ([] : List UInt8)) = true := bne_iff_ne.mpr c3
   obtain rfl := Option.some.inj H
   have k23 := run23
   have k22 := run22
   go_enter Tryd.func20, Tryd.ntmps20
   go_wp2_with (first | ((with_reducible refine gate_dst (N := 1) rfl ?_); (try (refine gate_guard (by rfl) ?_; dsimp only)); refine box_event ?hg (N := 1) ?hd (cs := #[.int .i64 a0_0, .int .i64 a0_1, .string a0_2, .float .f64 a0_3]) (t := 24) ?hr ?_; (case hd => rfl); (case hg => rfl); (case hr => first | (go_simp; done) | (go_simp; rfl)); intro gb190 hg w7 hbox hb; have n0_ := Aside0.mk (below_step (by repeat (first | (with_reducible first | exact HB.out | apply below_alloc | apply pw_below_drewN | apply below_drew1) | exact HB.out)) hb); have n1_ := Aside0.mk (hbox); have n2_ := Aside0.mk ((by rw [hg]; exact (below_size (by repeat (first | (with_reducible first | exact HB.out | apply below_alloc | apply pw_below_drewN | apply below_drew1) | exact HB.out))) : w.heap.size ≤ gb190)); have n3_ := Aside0.mk ((by rw [hg]; exact (below_size (by repeat (first | (with_reducible first | exact HB.out | apply below_alloc | apply pw_below_drewN | apply below_drew1) | exact HB.out))) : w.heap.size ≤ gb190)); clear HB; have HB := n0_; have BK190 := n1_; have GW190 := n2_; have GE190 := n3_; clear n0_ n1_ n2_ n3_; clear hb hbox hg; have hcz8_0 : w7.cell? ⟨gb190, 0, none⟩ = some (.int .i64 a0_0) := (blk_cell BK190.out 0).trans rfl; have hcz8_1 : w7.cell? ⟨gb190, 1, none⟩ = some (.int .i64 a0_1) := (blk_cell BK190.out 1).trans rfl; have hcz8_2 : w7.cell? ⟨gb190, 2, none⟩ = some (.string a0_2) := (blk_cell BK190.out 2).trans rfl; have hcz8_3 : w7.cell? ⟨gb190, 3, none⟩ = some (.float .f64 a0_3) := (blk_cell BK190.out 3).trans rfl; have hfz8_0 := blk_frozen BK190.out 0; have hfz8_1 := blk_frozen BK190.out 1; have hfz8_2 := blk_frozen BK190.out 2; have hfz8_3 := blk_frozen BK190.out 3))
   go_ret
   exact ⟨by first | rfl | (simp [errW_none, errW_some] <;> rfl) | (simp [*, errW_none, errW_some] <;> rfl), by repeat (first | (with_reducible first | exact HB.out | apply below_alloc | apply pw_below_drewN | apply below_drew1 | refine below_set ?_ GE190.out) | exact HB.out)⟩
 ·rw [if_neg c2] at H
  have c2b0 : (a0_0 == 1) = false := beq_eq_false_iff_ne.mpr c2
  have c2b1 : (a0_0 != 1) = true := bne_iff_ne.mpr c2
  by_cases c9 : a0_0 = 2
  ·rw [if_pos c9] at H
   have c9b0 : (a0_0 == 2) = true := beq_iff_eq.mpr c9
   have c9b1 : (a0_0 != 2) = false := bne_eq_false_iff_eq.mpr c9
   clear c9
   by_cases c10 : a0_1 = 0
   ·rw [if_pos c10] at H
    have c10b0 : (a0_1 == 0) = true := beq_iff_eq.mpr c10
    have c10b1 : (a0_1 != 0) = false := bne_eq_false_iff_eq.mpr c10
    clear c10
    by_cases c11 : a0_2.toList = ([] : List UInt8)
    ·rw [if_pos c11] at H
     have c11b0 : (a0_2.toList == ([] : List UInt8)) = true := beq_iff_eq.mpr c11
     have c11b1 : (a0_2.toList != ([] : List UInt8)) = false := bne_eq_false_iff_eq.mpr c11
     clear c11
     replace H := Option.bind_eq_some_iff.mp H
     obtain ⟨t192, A120, H⟩ := H
     replace H : (some t192) = some r := H
     have A12 := Aside0.mk A120
     clear A120
     obtain rfl := Option.some.inj H
     have k23 := run23
     have k22 := run22
     go_enter Tryd.func20, Tryd.ntmps20
     go_wp2_with (first | ((with_reducible refine gate_dst (N := 1) rfl ?_); (try (refine gate_guard (by rfl) ?_; dsimp only)); refine box_event ?hg (N := 1) ?hd (cs := #[.int .i64 a0_0, .int .i64 a0_1, .string a0_2, .float .f64 a0_3]) (t := 24) ?hr ?_; (case hd => rfl); (case hg => rfl); (case hr => first | (go_simp; done) | (go_simp; rfl)); intro gb190 hg w13 hbox hb; have n0_ := Aside0.mk (below_step (by repeat (first | (with_reducible first | exact HB.out | apply below_alloc | apply pw_below_drewN | apply below_drew1) | exact HB.out)) hb); have n1_ := Aside0.mk (hbox); have n2_ := Aside0.mk ((by rw [hg]; exact (below_size (by repeat (first | (with_reducible first | exact HB.out | apply below_alloc | apply pw_below_drewN | apply below_drew1) | exact HB.out))) : w.heap.size ≤ gb190)); have n3_ := Aside0.mk ((by rw [hg]; exact (below_size (by repeat (first | (with_reducible first | exact HB.out | apply below_alloc | apply pw_below_drewN | apply below_drew1) | exact HB.out))) : w.heap.size ≤ gb190)); clear HB; have HB := n0_; have BK190 := n1_; have GW190 := n2_; have GE190 := n3_; clear n0_ n1_ n2_ n3_; clear hb hbox hg; have hcz14_0 : w13.cell? ⟨gb190, 0, none⟩ = some (.int .i64 a0_0) := (blk_cell BK190.out 0).trans rfl; have hcz14_1 : w13.cell? ⟨gb190, 1, none⟩ = some (.int .i64 a0_1) := (blk_cell BK190.out 1).trans rfl; have hcz14_2 : w13.cell? ⟨gb190, 2, none⟩ = some (.string a0_2) := (blk_cell BK190.out 2).trans rfl; have hcz14_3 : w13.cell? ⟨gb190, 3, none⟩ = some (.float .f64 a0_3) := (blk_cell BK190.out 3).trans rfl; have hfz14_0 := blk_frozen BK190.out 0; have hfz14_1 := blk_frozen BK190.out 1; have hfz14_2 := blk_frozen BK190.out 2; have hfz14_3 := blk_frozen BK190.out 3) | (go_at_call 38; (with_reducible refine (rialtoref2_zero.calls a0_3 t192 _ A12.out).mono ?_); rintro e w' ⟨rfl, ⟨nd, rfl⟩⟩))
     go_ret
     exact ⟨by first | rfl | (simp [errW_none, errW_some] <;> rfl) | (simp [*, errW_none, errW_some] <;> rfl), by repeat (first | (with_reducible first | exact HB.out | apply below_alloc | apply pw_below_drewN | apply below_drew1 | refine below_set ?_ GE190.out) | exact HB.out)⟩
    ·rw [if_neg c11] at H
     have c11b0 : (a0_2.toList == ([] : List UInt8)) = false := beq_eq_false_iff_ne.mpr c11
     have c11b1 : (a0_2.toList != ([] : List UInt8)) = true := bne_iff_ne.mpr c11
     obtain rfl := Option.some.inj H
     have k23 := run23
     have k22 := run22
     go_enter Tryd.func20, Tryd.ntmps20
     go_wp2_with (first | ((with_reducible refine gate_dst (N := 1) rfl ?_); (try (refine gate_guard (by rfl) ?_; dsimp only)); refine box_event ?hg (N := 1) ?hd (cs := #[.int .i64 a0_0, .int .i64 a0_1, .string a0_2, .float .f64 a0_3]) (t := 24) ?hr ?_; (case hd => rfl); (case hg => rfl); (case hr => first | (go_simp; done) | (go_simp; rfl)); intro gb190 hg w15 hbox hb; have n0_ := Aside0.mk (below_step (by repeat (first | (with_reducible first | exact HB.out | apply below_alloc | apply pw_below_drewN | apply below_drew1) | exact HB.out)) hb); have n1_ := Aside0.mk (hbox); have n2_ := Aside0.mk ((by rw [hg]; exact (below_size (by repeat (first | (with_reducible first | exact HB.out | apply below_alloc | apply pw_below_drewN | apply below_drew1) | exact HB.out))) : w.heap.size ≤ gb190)); have n3_ := Aside0.mk ((by rw [hg]; exact (below_size (by repeat (first | (with_reducible first | exact HB.out | apply below_alloc | apply pw_below_drewN | apply below_drew1) | exact HB.out))) : w.heap.size ≤ gb190)); clear HB; have HB := n0_; have BK190 := n1_; have GW190 := n2_; have GE190 := n3_; clear n0_ n1_ n2_ n3_; clear hb hbox hg; have hcz16_0 : w15.cell? ⟨gb190, 0, none⟩ = some (.int .i64 a0_0) := (blk_cell BK190.out 0).trans rfl; have hcz16_1 : w15.cell? ⟨gb190, 1, none⟩ = some (.int .i64 a0_1) := (blk_cell BK190.out 1).trans rfl; have hcz16_2 : w15.cell? ⟨gb190, 2, none⟩ = some (.string a0_2) := (blk_cell BK190.out 2).trans rfl; have hcz16_3 : w15.cell? ⟨gb190, 3, none⟩ = some (.float .f64 a0_3) := (blk_cell BK190.out 3).trans rfl; have hfz16_0 := blk_frozen BK190.out 0; have hfz16_1 := blk_frozen BK190.out 1; have hfz16_2 := blk_frozen BK190.out 2; have hfz16_3 := blk_frozen BK190.out 3))
     go_ret
     exact ⟨by first | rfl | (simp [errW_none, errW_some] <;> rfl) | (simp [*, errW_none, errW_some] <;> rfl), by repeat (first | (with_reducible first | exact HB.out | apply below_alloc | apply pw_below_drewN | apply below_drew1 | refine below_set ?_ GE190.out) | exact HB.out)⟩
   ·rw [if_neg c10] at H
    have c10b0 : (a0_1 == 0) = false := beq_eq_false_iff_ne.mpr c10
    have c10b1 : (a0_1 != 0) = true := bne_iff_ne.mpr c10
    by_cases c17 : a0_1 = 1
    ·rw [if_pos c17] at H
     have c17b0 : (a0_1 == 1) = true := beq_iff_eq.mpr c17
     have c17b1 : (a0_1 != 1) = false := bne_eq_false_iff_eq.mpr c17
     clear c17
     by_cases c18 : a0_2.toList = ([] : List UInt8)
     ·rw [if_pos c18] at H
      have c18b0 : (a0_2.toList == ([] : List UInt8)) = true := beq_iff_eq.mpr c18
      have c18b1 : (a0_2.toList != ([] : List UInt8)) = false := bne_eq_false_iff_eq.mpr c18
      clear c18
      replace H := Option.bind_eq_some_iff.mp H
      obtain ⟨t193, A190, H⟩ := H
      replace H : (some t193) = some r := H
      have A19 := Aside0.mk A190
      clear A190
      obtain rfl := Option.some.inj H
      have k23 := run23
      have k22 := run22
      go_enter Tryd.func20, Tryd.ntmps20
      go_wp2_with (first | ((with_reducible refine gate_dst (N := 1) rfl ?_); (try (refine gate_guard (by rfl) ?_; dsimp only)); refine box_event ?hg (N := 1) ?hd (cs := #[.int .i64 a0_0, .int .i64 a0_1, .string a0_2, .float .f64 a0_3]) (t := 24) ?hr ?_; (case hd => rfl); (case hg => rfl); (case hr => first | (go_simp; done) | (go_simp; rfl)); intro gb190 hg w20 hbox hb; have n0_ := Aside0.mk (below_step (by repeat (first | (with_reducible first | exact HB.out | apply below_alloc | apply pw_below_drewN | apply below_drew1) | exact HB.out)) hb); have n1_ := Aside0.mk (hbox); have n2_ := Aside0.mk ((by rw [hg]; exact (below_size (by repeat (first | (with_reducible first | exact HB.out | apply below_alloc | apply pw_below_drewN | apply below_drew1) | exact HB.out))) : w.heap.size ≤ gb190)); have n3_ := Aside0.mk ((by rw [hg]; exact (below_size (by repeat (first | (with_reducible first | exact HB.out | apply below_alloc | apply pw_below_drewN | apply below_drew1) | exact HB.out))) : w.heap.size ≤ gb190)); clear HB; have HB := n0_; have BK190 := n1_; have GW190 := n2_; have GE190 := n3_; clear n0_ n1_ n2_ n3_; clear hb hbox hg; have hcz21_0 : w20.cell? ⟨gb190, 0, none⟩ = some (.int .i64 a0_0) := (blk_cell BK190.out 0).trans rfl; have hcz21_1 : w20.cell? ⟨gb190, 1, none⟩ = some (.int .i64 a0_1) := (blk_cell BK190.out 1).trans rfl; have hcz21_2 : w20.cell? ⟨gb190, 2, none⟩ = some (.string a0_2) := (blk_cell BK190.out 2).trans rfl; have hcz21_3 : w20.cell? ⟨gb190, 3, none⟩ = some (.float .f64 a0_3) := (blk_cell BK190.out 3).trans rfl; have hfz21_0 := blk_frozen BK190.out 0; have hfz21_1 := blk_frozen BK190.out 1; have hfz21_2 := blk_frozen BK190.out 2; have hfz21_3 := blk_frozen BK190.out 3) | (go_at_call 38; (with_reducible refine (rialtoref2_zero.calls a0_3 t193 _ A19.out).mono ?_); rintro e w' ⟨rfl, ⟨nd, rfl⟩⟩))
      go_ret
      exact ⟨by first | rfl | (simp [errW_none, errW_some] <;> rfl) | (simp [*, errW_none, errW_some] <;> rfl), by repeat (first | (with_reducible first | exact HB.out | apply below_alloc | apply pw_below_drewN | apply below_drew1 | refine below_set ?_ GE190.out) | exact HB.out)⟩
     ·rw [if_neg c18] at H
      have c18b0 : (a0_2.toList == ([] : List UInt8)) = false := beq_eq_false_iff_ne.mpr c18
      have c18b1 : (a0_2.toList != ([] : List UInt8)) = true := bne_iff_ne.mpr c18
      obtain rfl := Option.some.inj H
      have k23 := run23
      have k22 := run22
      go_enter Tryd.func20, Tryd.ntmps20
      go_wp2_with (first | ((with_reducible refine gate_dst (N := 1) rfl ?_); (try (refine gate_guard (by rfl) ?_; dsimp only)); refine box_event ?hg (N := 1) ?hd (cs := #[.int .i64 a0_0, .int .i64 a0_1, .string a0_2, .float .f64 a0_3]) (t := 24) ?hr ?_; (case hd => rfl); (case hg => rfl); (case hr => first | (go_simp; done) | (go_simp; rfl)); intro gb190 hg w22 hbox hb; have n0_ := Aside0.mk (below_step (by repeat (first | (with_reducible first | exact HB.out | apply below_alloc | apply pw_below_drewN | apply below_drew1) | exact HB.out)) hb); have n1_ := Aside0.mk (hbox); have n2_ := Aside0.mk ((by rw [hg]; exact (below_size (by repeat (first | (with_reducible first | exact HB.out | apply below_alloc | apply pw_below_drewN | apply below_drew1) | exact HB.out))) : w.heap.size ≤ gb190)); have n3_ := Aside0.mk ((by rw [hg]; exact (below_size (by repeat (first | (with_reducible first | exact HB.out | apply below_alloc | apply pw_below_drewN | apply below_drew1) | exact HB.out))) : w.heap.size ≤ gb190)); clear HB; have HB := n0_; have BK190 := n1_; have GW190 := n2_; have GE190 := n3_; clear n0_ n1_ n2_ n3_; clear hb hbox hg; have hcz23_0 : w22.cell? ⟨gb190, 0, none⟩ = some (.int .i64 a0_0) := (blk_cell BK190.out 0).trans rfl; have hcz23_1 : w22.cell? ⟨gb190, 1, none⟩ = some (.int .i64 a0_1) := (blk_cell BK190.out 1).trans rfl; have hcz23_2 : w22.cell? ⟨gb190, 2, none⟩ = some (.string a0_2) := (blk_cell BK190.out 2).trans rfl; have hcz23_3 : w22.cell? ⟨gb190, 3, none⟩ = some (.float .f64 a0_3) := (blk_cell BK190.out 3).trans rfl; have hfz23_0 := blk_frozen BK190.out 0; have hfz23_1 := blk_frozen BK190.out 1; have hfz23_2 := blk_frozen BK190.out 2; have hfz23_3 := blk_frozen BK190.out 3))
      go_ret
      exact ⟨by first | rfl | (simp [errW_none, errW_some] <;> rfl) | (simp [*, errW_none, errW_some] <;> rfl), by repeat (first | (with_reducible first | exact HB.out | apply below_alloc | apply pw_below_drewN | apply below_drew1 | refine below_set ?_ GE190.out) | exact HB.out)⟩
    ·rw [if_neg c17] at H
     have c17b0 : (a0_1 == 1) = false := beq_eq_false_iff_ne.mpr c17
     have c17b1 : (a0_1 != 1) = true := bne_iff_ne.mpr c17
     obtain rfl := Option.some.inj H
     have k23 := run23
     have k22 := run22
     go_enter Tryd.func20, Tryd.ntmps20
     go_wp2_with (first | ((with_reducible refine gate_dst (N := 1) rfl ?_); (try (refine gate_guard (by rfl) ?_; dsimp only)); refine box_event ?hg (N := 1) ?hd (cs := #[.int .i64 a0_0, .int .i64 a0_1, .string a0_2, .float .f64 a0_3]) (t := 24) ?hr ?_; (case hd => rfl); (case hg => rfl); (case hr => first | (go_simp; done) | (go_simp; rfl)); intro gb190 hg w24 hbox hb; have n0_ := Aside0.mk (below_step (by repeat (first | (with_reducible first | exact HB.out | apply below_alloc | apply pw_below_drewN | apply below_drew1) | exact HB.out)) hb); have n1_ := Aside0.mk (hbox); have n2_ := Aside0.mk ((by rw [hg]; exact (below_size (by repeat (first | (with_reducible first | exact HB.out | apply below_alloc | apply pw_below_drewN | apply below_drew1) | exact HB.out))) : w.heap.size ≤ gb190)); have n3_ := Aside0.mk ((by rw [hg]; exact (below_size (by repeat (first | (with_reducible first | exact HB.out | apply below_alloc | apply pw_below_drewN | apply below_drew1) | exact HB.out))) : w.heap.size ≤ gb190)); clear HB; have HB := n0_; have BK190 := n1_; have GW190 := n2_; have GE190 := n3_; clear n0_ n1_ n2_ n3_; clear hb hbox hg; have hcz25_0 : w24.cell? ⟨gb190, 0, none⟩ = some (.int .i64 a0_0) := (blk_cell BK190.out 0).trans rfl; have hcz25_1 : w24.cell? ⟨gb190, 1, none⟩ = some (.int .i64 a0_1) := (blk_cell BK190.out 1).trans rfl; have hcz25_2 : w24.cell? ⟨gb190, 2, none⟩ = some (.string a0_2) := (blk_cell BK190.out 2).trans rfl; have hcz25_3 : w24.cell? ⟨gb190, 3, none⟩ = some (.float .f64 a0_3) := (blk_cell BK190.out 3).trans rfl; have hfz25_0 := blk_frozen BK190.out 0; have hfz25_1 := blk_frozen BK190.out 1; have hfz25_2 := blk_frozen BK190.out 2; have hfz25_3 := blk_frozen BK190.out 3))
     go_ret
     exact ⟨by first | rfl | (simp [errW_none, errW_some] <;> rfl) | (simp [*, errW_none, errW_some] <;> rfl), by repeat (first | (with_reducible first | exact HB.out | apply below_alloc | apply pw_below_drewN | apply below_drew1 | refine below_set ?_ GE190.out) | exact HB.out)⟩
  ·rw [if_neg c9] at H
   have c9b0 : (a0_0 == 2) = false := beq_eq_false_iff_ne.mpr c9
   have c9b1 : (a0_0 != 2) = true := bne_iff_ne.mpr c9
   have HC26 := Aside0.mk H
   clear H
   have k23 := run23
   have k22 := run22
   go_enter Tryd.func20, Tryd.ntmps20
   go_upto_if 35 with (first | ((with_reducible refine gate_dst (N := 1) rfl ?_); (try (refine gate_guard (by rfl) ?_; dsimp only)); refine box_event ?hg (N := 1) ?hd (cs := #[.int .i64 a0_0, .int .i64 a0_1, .string a0_2, .float .f64 a0_3]) (t := 24) ?hr ?_; (case hd => rfl); (case hg => rfl); (case hr => first | (go_simp; done) | (go_simp; rfl)); intro gb190 hg w27 hbox hb; have n0_ := Aside0.mk (below_step (by repeat (first | (with_reducible first | exact HB.out | apply below_alloc | apply pw_below_drewN | apply below_drew1) | exact HB.out)) hb); have n1_ := Aside0.mk (hbox); have n2_ := Aside0.mk ((by rw [hg]; exact (below_size (by repeat (first | (with_reducible first | exact HB.out | apply below_alloc | apply pw_below_drewN | apply below_drew1) | exact HB.out))) : w.heap.size ≤ gb190)); have n3_ := Aside0.mk ((by rw [hg]; exact (below_size (by repeat (first | (with_reducible first | exact HB.out | apply below_alloc | apply pw_below_drewN | apply below_drew1) | exact HB.out))) : w.heap.size ≤ gb190)); clear HB; have HB := n0_; have BK190 := n1_; have GW190 := n2_; have GE190 := n3_; clear n0_ n1_ n2_ n3_; clear hb hbox hg; have hcz28_0 : w27.cell? ⟨gb190, 0, none⟩ = some (.int .i64 a0_0) := (blk_cell BK190.out 0).trans rfl; have hcz28_1 : w27.cell? ⟨gb190, 1, none⟩ = some (.int .i64 a0_1) := (blk_cell BK190.out 1).trans rfl; have hcz28_2 : w27.cell? ⟨gb190, 2, none⟩ = some (.string a0_2) := (blk_cell BK190.out 2).trans rfl; have hcz28_3 : w27.cell? ⟨gb190, 3, none⟩ = some (.float .f64 a0_3) := (blk_cell BK190.out 3).trans rfl; have hfz28_0 := blk_frozen BK190.out 0; have hfz28_1 := blk_frozen BK190.out 1; have hfz28_2 := blk_frozen BK190.out 2; have hfz28_3 := blk_frozen BK190.out 3))
   (try simp only [Act.put, List.setIfInBounds_toArray, List.set_cons_zero, List.set_cons_succ])
   go_cut [35] (fun v35 wc => ∃ (kq : Nat) (x35_25 : Bool), v35 = .bool x35_25 ∧ Aside0 (rialtoref2_Is.j0 kq a0_0 x35_25 a0_0 a0_1 a0_2 a0_3 = some r) ∧ Aside0 (kq ≤ k) ∧ Aside0 (wc.heap[gb190]? = some (.cells #[.int .i64 a0_0, .int .i64 a0_1, .string a0_2, .float .f64 a0_3] 24 (0, 0))) ∧ Aside0 (Below w.heap.size w wc))
   case first =>
    have H := HC26.out
    clear HC26
    by_cases c29 : a0_0 = 3
    ·rw [if_pos c29] at H
     have c29b0 : (a0_0 == 3) = true := beq_iff_eq.mpr c29
     have c29b1 : (a0_0 != 3) = false := bne_eq_false_iff_eq.mpr c29
     clear c29
     (first | rw [c29b0] | (simp only [i64_w, i32_w]; rw [c29b0]) | skip)
     have H' := Aside0.mk H
     clear H
     go_wp2
     go_meet
     case rel => exact ⟨_, ((a0_0 == 3)), (by first | rfl | (simp; done) | (simp [*]; done)), H', ⟨by first | omega | exact Nat.le_refl _⟩, ⟨by (with_reducible repeat (first | refine blk_drewN ?_ _ | refine blk_drew ?_ | refine blk_alloc ?_ _)); exact BK190.out⟩, ⟨by repeat (first | (with_reducible first | exact HB.out | apply below_alloc | apply pw_below_drewN | apply below_drew1 | refine below_set ?_ GE190.out) | exact HB.out)⟩⟩
    ·rw [if_neg c29] at H
     have c29b0 : (a0_0 == 3) = false := beq_eq_false_iff_ne.mpr c29
     have c29b1 : (a0_0 != 3) = true := bne_iff_ne.mpr c29
     (first | rw [c29b0] | (simp only [i64_w, i32_w]; rw [c29b0]) | skip)
     have H' := Aside0.mk H
     clear H
     go_wp2
     go_meet
     case rel => exact ⟨_, ((a0_0 == 4)), (by first | rfl | (simp; done) | (simp [*]; done)), H', ⟨by first | omega | exact Nat.le_refl _⟩, ⟨by (with_reducible repeat (first | refine blk_drewN ?_ _ | refine blk_drew ?_ | refine blk_alloc ?_ _)); exact BK190.out⟩, ⟨by repeat (first | (with_reducible first | exact HB.out | apply below_alloc | apply pw_below_drewN | apply below_drew1 | refine below_set ?_ GE190.out) | exact HB.out)⟩⟩
   case rest =>
    clear HC26
    try clear c1;try clear c2;try clear c2b0;try clear c2b1;try clear p2;try clear c3;try clear c3b0;try clear c3b1;try clear c9;try clear c9b0;try clear c9b1;try clear c10;try clear c10b0;try clear c10b1;try clear c11;try clear c11b0;try clear c11b1;try clear c17;try clear c17b0;try clear c17b1;try clear c18;try clear c18b0;try clear c18b1;try clear c20;try clear c29;try clear c29b0;try clear c29b1;try clear hcz14_0;try clear hcz14_1;try clear hcz14_2;try clear hcz14_3;try clear hcz16_0;try clear hcz16_1;try clear hcz16_2;try clear hcz16_3;try clear hcz21_0;try clear hcz21_1;try clear hcz21_2;try clear hcz21_3;try clear hcz23_0;try clear hcz23_1;try clear hcz23_2;try clear hcz23_3;try clear hcz25_0;try clear hcz25_1;try clear hcz25_2;try clear hcz25_3;try clear hcz28_0;try clear hcz28_1;try clear hcz28_2;try clear hcz28_3;try clear hcz6_0;try clear hcz6_1;try clear hcz6_2;try clear hcz6_3;try clear hcz8_0;try clear hcz8_1;try clear hcz8_2;try clear hcz8_3;try clear hfz14_0;try clear hfz14_1;try clear hfz14_2;try clear hfz14_3;try clear hfz16_0;try clear hfz16_1;try clear hfz16_2;try clear hfz16_3;try clear hfz21_0;try clear hfz21_1;try clear hfz21_2;try clear hfz21_3;try clear hfz23_0;try clear hfz23_1;try clear hfz23_2;try clear hfz23_3;try clear hfz25_0;try clear hfz25_1;try clear hfz25_2;try clear hfz25_3;try clear hfz28_0;try clear hfz28_1;try clear hfz28_2;try clear hfz28_3;try clear hfz6_0;try clear hfz6_1;try clear hfz6_2;try clear hfz6_3;try clear hfz8_0;try clear hfz8_1;try clear hfz8_2;try clear hfz8_3
    obtain ⟨kq, x35_25, rfl, HA, HJ25, BK190, HB⟩ := hcut
    cases kq with
    | zero => exact absurd HA.out (by simp [rialtoref2_Is.j0])
    | succ kj25 =>
     have H := HA.out
     clear HA
     simp only [rialtoref2_Is.j0] at H
     by_cases c30 : x35_25 = true
     ·subst c30
      have H1 : (if a0_1 = 0 then (if (a0_2.size : Int) ≤ 60 then ((rialtoref2_zero.f a0_3).bind fun t194 => (some t194)) else (some false)) else (some false)) = some r := by rw [if_pos rfl] at H; exact H
      clear H
      have H := H1
      clear H1
      by_cases c31 : a0_1 = 0
      ·rw [if_pos c31] at H
       have c31b0 : (a0_1 == 0) = true := beq_iff_eq.mpr c31
       have c31b1 : (a0_1 != 0) = false := bne_eq_false_iff_eq.mpr c31
       clear c31
       by_cases c32 : (a0_2.size : Int) ≤ 60
       ·rw [if_pos c32] at H
        have c32b0 : decide ((a0_2.size : Int) ≤ 60) = true := decide_eq_true c32
        have c32b1 : decide (a0_2.size ≤ 60) = true := decide_eq_true (by omega)
        clear c32
        replace H := Option.bind_eq_some_iff.mp H
        obtain ⟨t194, A330, H⟩ := H
        replace H : (some t194) = some r := H
        have A33 := Aside0.mk A330
        clear A330
        obtain rfl := Option.some.inj H
        have hcz34_0 : wc.cell? ⟨gb190, 0, none⟩ = some (.int .i64 a0_0) := (blk_cell BK190.out 0).trans rfl
        have hcz34_1 : wc.cell? ⟨gb190, 1, none⟩ = some (.int .i64 a0_1) := (blk_cell BK190.out 1).trans rfl
        have hcz34_2 : wc.cell? ⟨gb190, 2, none⟩ = some (.string a0_2) := (blk_cell BK190.out 2).trans rfl
        have hcz34_3 : wc.cell? ⟨gb190, 3, none⟩ = some (.float .f64 a0_3) := (blk_cell BK190.out 3).trans rfl
        have hfz34_0 := blk_frozen BK190.out 0
        have hfz34_1 := blk_frozen BK190.out 1
        have hfz34_2 := blk_frozen BK190.out 2
        have hfz34_3 := blk_frozen BK190.out 3
        go_wp2_with (first | (go_at_call 38; (with_reducible refine (rialtoref2_zero.calls a0_3 t194 _ A33.out).mono ?_); rintro e w' ⟨rfl, ⟨nd, rfl⟩⟩))
        go_ret
        exact ⟨by first | rfl | (simp [errW_none, errW_some] <;> rfl) | (simp [*, errW_none, errW_some] <;> rfl), by repeat (first | (with_reducible first | exact HB.out | apply below_alloc | apply pw_below_drewN | apply below_drew1 | refine below_set ?_ GE190.out) | exact HB.out)⟩
       ·rw [if_neg c32] at H
        have c32b0 : decide ((a0_2.size : Int) ≤ 60) = false := decide_eq_false c32
        have c32b1 : decide (a0_2.size ≤ 60) = false := decide_eq_false (by omega)
        clear c32
        obtain rfl := Option.some.inj H
        have hcz35_0 : wc.cell? ⟨gb190, 0, none⟩ = some (.int .i64 a0_0) := (blk_cell BK190.out 0).trans rfl
        have hcz35_1 : wc.cell? ⟨gb190, 1, none⟩ = some (.int .i64 a0_1) := (blk_cell BK190.out 1).trans rfl
        have hcz35_2 : wc.cell? ⟨gb190, 2, none⟩ = some (.string a0_2) := (blk_cell BK190.out 2).trans rfl
        have hcz35_3 : wc.cell? ⟨gb190, 3, none⟩ = some (.float .f64 a0_3) := (blk_cell BK190.out 3).trans rfl
        have hfz35_0 := blk_frozen BK190.out 0
        have hfz35_1 := blk_frozen BK190.out 1
        have hfz35_2 := blk_frozen BK190.out 2
        have hfz35_3 := blk_frozen BK190.out 3
        go_wp2
        go_ret
        exact ⟨by first | rfl | (simp [errW_none, errW_some] <;> rfl) | (simp [*, errW_none, errW_some] <;> rfl), by repeat (first | (with_reducible first | exact HB.out | apply below_alloc | apply pw_below_drewN | apply below_drew1 | refine below_set ?_ GE190.out) | exact HB.out)⟩
      ·rw [if_neg c31] at H
       have c31b0 : (a0_1 == 0) = false := beq_eq_false_iff_ne.mpr c31
       have c31b1 : (a0_1 != 0) = true := bne_iff_ne.mpr c31
       obtain rfl := Option.some.inj H
       have hcz36_0 : wc.cell? ⟨gb190, 0, none⟩ = some (.int .i64 a0_0) := (blk_cell BK190.out 0).trans rfl
       have hcz36_1 : wc.cell? ⟨gb190, 1, none⟩ = some (.int .i64 a0_1) := (blk_cell BK190.out 1).trans rfl
       have hcz36_2 : wc.cell? ⟨gb190, 2, none⟩ = some (.string a0_2) := (blk_cell BK190.out 2).trans rfl
       have hcz36_3 : wc.cell? ⟨gb190, 3, none⟩ = some (.float .f64 a0_3) := (blk_cell BK190.out 3).trans rfl
       have hfz36_0 := blk_frozen BK190.out 0
       have hfz36_1 := blk_frozen BK190.out 1
       have hfz36_2 := blk_frozen BK190.out 2
       have hfz36_3 := blk_frozen BK190.out 3
       go_wp2
       go_ret
       exact ⟨by first | rfl | (simp [errW_none, errW_some] <;> rfl) | (simp [*, errW_none, errW_some] <;> rfl), by repeat (first | (with_reducible first | exact HB.out | apply below_alloc | apply pw_below_drewN | apply below_drew1 | refine below_set ?_ GE190.out) | exact HB.out)⟩
     ·replace c30 := Bool.eq_false_iff.mpr c30
      subst c30
      have H1 : (if a0_0 = 5 then (if a0_1 = 0 then (some (a0_2.toList == ([] : List UInt8))) else (some false)) else (some false)) = some r := by rw [if_neg (show ¬ (false = true) by decide)] at H; exact H
      clear H
      have H := H1
      clear H1
      by_cases c37 : a0_0 = 5
      ·rw [if_pos c37] at H
       have c37b0 : (a0_0 == 5) = true := beq_iff_eq.mpr c37
       have c37b1 : (a0_0 != 5) = false := bne_eq_false_iff_eq.mpr c37
       clear c37
       by_cases c38 : a0_1 = 0
       ·rw [if_pos c38] at H
        have c38b0 : (a0_1 == 0) = true := beq_iff_eq.mpr c38
        have c38b1 : (a0_1 != 0) = false := bne_eq_false_iff_eq.mpr c38
        clear c38
        obtain rfl := Option.some.inj H
        have hcz39_0 : wc.cell? ⟨gb190, 0, none⟩ = some (.int .i64 a0_0) := (blk_cell BK190.out 0).trans rfl
        have hcz39_1 : wc.cell? ⟨gb190, 1, none⟩ = some (.int .i64 a0_1) := (blk_cell BK190.out 1).trans rfl
        have hcz39_2 : wc.cell? ⟨gb190, 2, none⟩ = some (.string a0_2) := (blk_cell BK190.out 2).trans rfl
        have hcz39_3 : wc.cell? ⟨gb190, 3, none⟩ = some (.float .f64 a0_3) := (blk_cell BK190.out 3).trans rfl
        have hfz39_0 := blk_frozen BK190.out 0
        have hfz39_1 := blk_frozen BK190.out 1
        have hfz39_2 := blk_frozen BK190.out 2
        have hfz39_3 := blk_frozen BK190.out 3
        go_wp2
        go_ret
        exact ⟨by first | rfl | (simp [errW_none, errW_some] <;> rfl) | (simp [*, errW_none, errW_some] <;> rfl), by repeat (first | (with_reducible first | exact HB.out | apply below_alloc | apply pw_below_drewN | apply below_drew1 | refine below_set ?_ GE190.out) | exact HB.out)⟩
       ·rw [if_neg c38] at H
        have c38b0 : (a0_1 == 0) = false := beq_eq_false_iff_ne.mpr c38
        have c38b1 : (a0_1 != 0) = true := bne_iff_ne.mpr c38
        obtain rfl := Option.some.inj H
        have hcz40_0 : wc.cell? ⟨gb190, 0, none⟩ = some (.int .i64 a0_0) := (blk_cell BK190.out 0).trans rfl
        have hcz40_1 : wc.cell? ⟨gb190, 1, none⟩ = some (.int .i64 a0_1) := (blk_cell BK190.out 1).trans rfl
        have hcz40_2 : wc.cell? ⟨gb190, 2, none⟩ = some (.string a0_2) := (blk_cell BK190.out 2).trans rfl
        have hcz40_3 : wc.cell? ⟨gb190, 3, none⟩ = some (.float .f64 a0_3) := (blk_cell BK190.out 3).trans rfl
        have hfz40_0 := blk_frozen BK190.out 0
        have hfz40_1 := blk_frozen BK190.out 1
        have hfz40_2 := blk_frozen BK190.out 2
        have hfz40_3 := blk_frozen BK190.out 3
        go_wp2
        go_ret
        exact ⟨by first | rfl | (simp [errW_none, errW_some] <;> rfl) | (simp [*, errW_none, errW_some] <;> rfl), by repeat (first | (with_reducible first | exact HB.out | apply below_alloc | apply pw_below_drewN | apply below_drew1 | refine below_set ?_ GE190.out) | exact HB.out)⟩
      ·rw [if_neg c37] at H
       have c37b0 : (a0_0 == 5) = false := beq_eq_false_iff_ne.mpr c37
       have c37b1 : (a0_0 != 5) = true := bne_iff_ne.mpr c37
       obtain rfl := Option.some.inj H
       go_wp2
       go_ret
       exact ⟨by first | rfl | (simp [errW_none, errW_some] <;> rfl) | (simp [*, errW_none, errW_some] <;> rfl), by repeat (first | (with_reducible first | exact HB.out | apply below_alloc | apply pw_below_drewN | apply below_drew1 | refine below_set ?_ GE190.out) | exact HB.out)⟩
def rialtoref2_sign.f (a0 : Bool) : Option (Int) := if a0 = true then (some (-1)) else (some 1)
set_option maxHeartbeats 8000000 in
set_option maxRecDepth 100000 in
theorem rialtoref2_sign.calls (a0 : Bool) (r : Int) (w : World) (h : rialtoref2_sign.f a0 = some r) :
  Calls Tryd.prog 57 #[.bool a0] w fun e w' => e = .returned (.int .i64 r) ∧ Drawn0 w w' := by
 have H : (if a0 = true then (some (-1)) else (some 1)) = some r := h
 clear h
 by_cases c2 : a0 = true
 ·subst c2
  have H1 : (some (-1)) = some r := by rw [if_pos rfl] at H; exact H
  clear H
  have H := H1
  clear H1
  obtain rfl := Option.some.inj H
  have k23 := run23
  have k22 := run22
  go_enter Tryd.func57, Tryd.ntmps57
  go_wp2
  go_ret
  exact ⟨by first | rfl | (simp; done) | (simp [*]; done), by repeat (first | exact Drawn0.refl _ | apply Drawn0.step)⟩
 ·replace c2 := Bool.eq_false_iff.mpr c2
  subst c2
  have H1 : (some 1) = some r := by rw [if_neg (show ¬ (false = true) by decide)] at H; exact H
  clear H
  have H := H1
  clear H1
  obtain rfl := Option.some.inj H
  have k23 := run23
  have k22 := run22
  go_enter Tryd.func57, Tryd.ntmps57
  go_wp2
  go_ret
  exact ⟨by first | rfl | (simp; done) | (simp [*]; done), by repeat (first | exact Drawn0.refl _ | apply Drawn0.step)⟩
def rialtoref1_Compare.f (a0 : Nat) (a1 : Nat) : Option (Int) := (rialtoref1_Order.f a0).bind fun t307 => ((rialtoref1_Order.f a1).bind fun t308 => (if t307 < t308 then (some (-1)) else (if t307 > t308 then (some 1) else (some 0))))
set_option maxHeartbeats 8000000 in
set_option maxRecDepth 100000 in
theorem rialtoref1_Compare.calls (a0 : Nat) (a1 : Nat) (r : Int) (w : World) (h : rialtoref1_Compare.f a0 a1 = some r) :
  Calls Tryd.prog 58 #[.float .f64 a0, .float .f64 a1] w fun e w' => e = .returned (.int .i64 r) ∧ Drawn0 w w' := by
 have H : ((rialtoref1_Order.f a0).bind fun t307 => ((rialtoref1_Order.f a1).bind fun t308 => (if t307 < t308 then (some (-1)) else (if t307 > t308 then (some 1) else (some 0))))) = some r := h
 clear h
 replace H := Option.bind_eq_some_iff.mp H
 obtain ⟨t307, A30, H⟩ := H
 replace H : ((rialtoref1_Order.f a1).bind fun t308 => (if t307 < t308 then (some (-1)) else (if t307 > t308 then (some 1) else (some 0)))) = some r := H
 have A3 := Aside0.mk A30
 clear A30
 replace H := Option.bind_eq_some_iff.mp H
 obtain ⟨t308, A40, H⟩ := H
 replace H : (if t307 < t308 then (some (-1)) else (if t307 > t308 then (some 1) else (some 0))) = some r := H
 have A4 := Aside0.mk A40
 clear A40
 by_cases c5 : t307 < t308
 ·rw [if_pos c5] at H
  have c5b0 : decide (t307 < t308) = true := decide_eq_true c5
  clear c5
  obtain rfl := Option.some.inj H
  have k23 := run23
  have k22 := run22
  go_enter Tryd.func58, Tryd.ntmps58
  go_wp2_with (first | ((with_reducible refine gate_callee (f := 74) rfl ?_); refine goesL_ (some 8) rfl rfl Tryd.func74 (by kernel_rfl) rfl #[.float .f64 a0] rfl (by (try simp only [List.map_toArray, List.map_cons, List.map_nil]); first | done | rfl | (simp only [List.length_drop, List.length_take]; rfl)) ?_; (with_reducible refine (rialtoref1_Order.calls a0 t307 _ A3.out).mono ?_); rintro e w' ⟨rfl, ⟨nd, rfl⟩⟩; refine ⟨_, rfl, ?_⟩) | ((with_reducible refine gate_callee (f := 74) rfl ?_); refine goesL_ (some 10) rfl rfl Tryd.func74 (by kernel_rfl) rfl #[.float .f64 a1] rfl (by (try simp only [List.map_toArray, List.map_cons, List.map_nil]); first | done | rfl | (simp only [List.length_drop, List.length_take]; rfl)) ?_; (with_reducible refine (rialtoref1_Order.calls a1 t308 _ A4.out).mono ?_); rintro e w' ⟨rfl, ⟨nd, rfl⟩⟩; refine ⟨_, rfl, ?_⟩))
  go_ret
  exact ⟨by first | rfl | (simp; done) | (simp [*]; done), by repeat (first | exact Drawn0.refl _ | apply Drawn0.step)⟩
 ·rw [if_neg c5] at H
  have c5b0 : decide (t307 < t308) = false := decide_eq_false c5
  clear c5
  by_cases c6 : t307 > t308
  ·rw [if_pos c6] at H
   have c6b0 : decide (t308 < t307) = true := decide_eq_true c6
   clear c6
   obtain rfl := Option.some.inj H
   have k23 := run23
   have k22 := run22
   go_enter Tryd.func58, Tryd.ntmps58
   go_wp2_with (first | ((with_reducible refine gate_callee (f := 74) rfl ?_); refine goesL_ (some 8) rfl rfl Tryd.func74 (by kernel_rfl) rfl #[.float .f64 a0] rfl (by (try simp only [List.map_toArray, List.map_cons, List.map_nil]); first | done | rfl | (simp only [List.length_drop, List.length_take]; rfl)) ?_; (with_reducible refine (rialtoref1_Order.calls a0 t307 _ A3.out).mono ?_); rintro e w' ⟨rfl, ⟨nd, rfl⟩⟩; refine ⟨_, rfl, ?_⟩) | ((with_reducible refine gate_callee (f := 74) rfl ?_); refine goesL_ (some 10) rfl rfl Tryd.func74 (by kernel_rfl) rfl #[.float .f64 a1] rfl (by (try simp only [List.map_toArray, List.map_cons, List.map_nil]); first | done | rfl | (simp only [List.length_drop, List.length_take]; rfl)) ?_; (with_reducible refine (rialtoref1_Order.calls a1 t308 _ A4.out).mono ?_); rintro e w' ⟨rfl, ⟨nd, rfl⟩⟩; refine ⟨_, rfl, ?_⟩))
   go_ret
   exact ⟨by first | rfl | (simp; done) | (simp [*]; done), by repeat (first | exact Drawn0.refl _ | apply Drawn0.step)⟩
  ·rw [if_neg c6] at H
   have c6b0 : decide (t308 < t307) = false := decide_eq_false c6
   clear c6
   obtain rfl := Option.some.inj H
   have k23 := run23
   have k22 := run22
   go_enter Tryd.func58, Tryd.ntmps58
   go_wp2_with (first | ((with_reducible refine gate_callee (f := 74) rfl ?_); refine goesL_ (some 8) rfl rfl Tryd.func74 (by kernel_rfl) rfl #[.float .f64 a0] rfl (by (try simp only [List.map_toArray, List.map_cons, List.map_nil]); first | done | rfl | (simp only [List.length_drop, List.length_take]; rfl)) ?_; (with_reducible refine (rialtoref1_Order.calls a0 t307 _ A3.out).mono ?_); rintro e w' ⟨rfl, ⟨nd, rfl⟩⟩; refine ⟨_, rfl, ?_⟩) | ((with_reducible refine gate_callee (f := 74) rfl ?_); refine goesL_ (some 10) rfl rfl Tryd.func74 (by kernel_rfl) rfl #[.float .f64 a1] rfl (by (try simp only [List.map_toArray, List.map_cons, List.map_nil]); first | done | rfl | (simp only [List.length_drop, List.length_take]; rfl)) ?_; (with_reducible refine (rialtoref1_Order.calls a1 t308 _ A4.out).mono ?_); rintro e w' ⟨rfl, ⟨nd, rfl⟩⟩; refine ⟨_, rfl, ?_⟩))
   go_ret
   exact ⟨by first | rfl | (simp; done) | (simp [*]; done), by repeat (first | exact Drawn0.refl _ | apply Drawn0.step)⟩
end Go.Proofs.YtpjfhdbkkomogaaDoor.Px
