/- Of this program: the functions that the executor takes by contract: slices.Sorted over maps.Keys (the library's contracts, laid in YtbikkkjoolcadaaGreatDoorLay), and the model's entries for internal/reflectlite. -/
import Derived.Test.YtbikkkjoolcadaaGreatDoorEx4
import Derived.Test.YtbikkkjoolcadaaGreatDoorLay
import Derived.Test.YtbikkkjoolcadaaGreatDoorProg
import Derived.KernelRfl
namespace Go.Ex
noncomputable section
open Go.Proofs Go.RowKit Go.Maps Go.Sort Go.Shelf

theorem sorts126 (m : Nat) : AnyZI.SortsIn Tryz.prog Tryz.sorted126_ren Fence.wide m :=
  ⟨fun blk off cap ss W hH hblk hsz => callsIn_wide.2 (AnyM.slices_Sort_int Tryz.sort204 blk off cap ss W hH hblk hsz),
   fun p cap W => callsIn_wide.2 (AnyM.slices_Sort_int_none Tryz.sort204 p cap W)⟩

set_option maxHeartbeats 1000000 in
theorem sorted205 : SortedI Tryz.prog 126 205 2 2 where
  key := Tryz.underlying2
  enters := enters_of Tryz.func126 (by kernel_rfl) rfl
  gives := fun Bm b nn D0 w hBm hm hown hmax hbytes => by
    have hseq : SeqGives Fence.wide 2 Tryz.prog 205 #[.pointer (some ⟨Bm, 0, none⟩)] encZ (fun ss => ss.Perm (intKeys D0)) (Maps.size D0) w :=
      AnyZI.keys_gives (ρ := Tryz.keys127_ren) { Tryz.keys127 with } Fence.wide _ trivial rfl (by omega) Bm b nn D0 w hBm hm hown
    have cS := AnyZI.sorted_in Tryz.sorted126 Fence.wide 5 trivial trivial trivial trivial rfl (by omega) (sorts126 _) (enters_of Tryz.func204 (by kernel_rfl) rfl) 205 #[.pointer (some ⟨Bm, 0, none⟩)] trivial (enters_of Tryz.func205 (by kernel_rfl) rfl) _ _ hmax hbytes w hseq
    exact (callsIn_wide (n := 5)).1 cS
  givesNil := fun Bm w hBm hm => by
    have hseq : SeqGives Fence.wide 2 Tryz.prog 205 #[.pointer (some ⟨Bm, 0, none⟩)] encZ (fun ss : List Int => ss = []) 0 w :=
      AnyZI.keys_gives_nil (ρ := Tryz.keys127_ren) { Tryz.keys127 with } Fence.wide _ trivial rfl Bm w hBm hm
    have cS := AnyZI.sorted_in Tryz.sorted126 Fence.wide 5 trivial trivial trivial trivial rfl (by omega) (sorts126 _) (enters_of Tryz.func204 (by kernel_rfl) rfl) 205 #[.pointer (some ⟨Bm, 0, none⟩)] trivial (enters_of Tryz.func205 (by kernel_rfl) rfl) _ 0 (Nat.zero_le _) (by omega) w hseq
    refine ((callsIn_wide (n := 5)).1 cS).mono fun e w' ⟨v, ss, he, hs, _, hn, hb⟩ => ⟨by rw [he, hn.2 hs], hb⟩

theorem sorts198 (m : Nat) : AnyZ.SortsIn Tryz.prog Tryz.sorted198_ren Fence.wide m :=
  ⟨fun blk off cap ss W hH hblk hsz => callsIn_wide.2 (AnyM.slices_Sort_string Tryz.sort293 blk off cap ss W hH hblk hsz),
   fun p cap W => callsIn_wide.2 (AnyM.slices_Sort_string_none Tryz.sort293 p cap W)⟩

set_option maxHeartbeats 1000000 in
theorem sorted294 : SortedS Tryz.prog 198 294 9 9 where
  key := Tryz.underlying9
  enters := enters_of Tryz.func198 (by kernel_rfl) rfl
  gives := fun Bm b nn D0 w hBm hm hown hmax hbytes => by
    have hseq : SeqGives Fence.wide 2 Tryz.prog 294 #[.pointer (some ⟨Bm, 0, none⟩)] encStr (fun ss => ss.Perm (strKeys D0)) (Maps.size D0) w :=
      AnyZ.keys_gives (ρ := Tryz.keys199_ren) { Tryz.keys199 with } Fence.wide _ trivial rfl (by omega) Bm b nn D0 w hBm hm hown
    have cS := AnyZ.sorted_in Tryz.sorted198 Fence.wide 5 trivial trivial trivial trivial rfl (by omega) (sorts198 _) (enters_of Tryz.func293 (by kernel_rfl) rfl) 294 #[.pointer (some ⟨Bm, 0, none⟩)] trivial (enters_of Tryz.func294 (by kernel_rfl) rfl) _ _ hmax hbytes w hseq
    exact (callsIn_wide (n := 5)).1 cS

set_option maxHeartbeats 1000000 in
theorem sorted384 : SortedI Tryz.prog 126 384 2 2 where
  key := Tryz.underlying2
  enters := enters_of Tryz.func126 (by kernel_rfl) rfl
  gives := fun Bm b nn D0 w hBm hm hown hmax hbytes => by
    have hseq : SeqGives Fence.wide 2 Tryz.prog 384 #[.pointer (some ⟨Bm, 0, none⟩)] encZ (fun ss => ss.Perm (intKeys D0)) (Maps.size D0) w :=
      AnyZI.keys_gives (ρ := Tryz.keys295_ren) { Tryz.keys295 with } Fence.wide _ trivial rfl (by omega) Bm b nn D0 w hBm hm hown
    have cS := AnyZI.sorted_in Tryz.sorted126 Fence.wide 5 trivial trivial trivial trivial rfl (by omega) (sorts126 _) (enters_of Tryz.func204 (by kernel_rfl) rfl) 384 #[.pointer (some ⟨Bm, 0, none⟩)] trivial (enters_of Tryz.func384 (by kernel_rfl) rfl) _ _ hmax hbytes w hseq
    exact (callsIn_wide (n := 5)).1 cS
  givesNil := fun Bm w hBm hm => by
    have hseq : SeqGives Fence.wide 2 Tryz.prog 384 #[.pointer (some ⟨Bm, 0, none⟩)] encZ (fun ss : List Int => ss = []) 0 w :=
      AnyZI.keys_gives_nil (ρ := Tryz.keys295_ren) { Tryz.keys295 with } Fence.wide _ trivial rfl Bm w hBm hm
    have cS := AnyZI.sorted_in Tryz.sorted126 Fence.wide 5 trivial trivial trivial trivial rfl (by omega) (sorts126 _) (enters_of Tryz.func204 (by kernel_rfl) rfl) 384 #[.pointer (some ⟨Bm, 0, none⟩)] trivial (enters_of Tryz.func384 (by kernel_rfl) rfl) _ 0 (Nat.zero_le _) (by omega) w hseq
    refine ((callsIn_wide (n := 5)).1 cS).mono fun e w' ⟨v, ss, he, hs, _, hn, hb⟩ => ⟨by rw [he, hn.2 hs], hb⟩

theorem joinExtra : Builder.Extra Tryz.prog Tryz.join156_ren where
  sizeBuilder := by kernel_rfl
  liesBuilder := by kernel_rfl
  t5 := Tryz.underlying5
  a5 := Tryz.isAgg5
  z5 := Tryz.sizeOf5
  v5 := Tryz.zeroValue5
  infoByte := by kernel_rfl
  cellsByte := by kernel_rfl
  sizeByte := by kernel_rfl
  neB5 := by decide
theorem joinC : JoinC Tryz.prog 202 where
  enters := enters_of Tryz.func202 (by kernel_rfl) rfl
  gives := fun bk o c xs sep w h1 h2 h3 h4 h5 => Any.strings_Join Tryz.join156 joinExtra bk o c xs sep w h1 h2 h3 h4 h5
  givesNil := fun c sep w => Any.strings_Join_none Tryz.join156 joinExtra none c sep w

theorem nat214 (args : Array Value) (w : World) : (callFunc 214 args).run Tryz.prog w = ((fun args => Extern.ReflectliteValue.unpack (args.getD 0 (.tuple #[]))) args >>= fun v => (Pure.pure (.value v) : Sem Next)).run Tryz.prog w := by kernel_rfl
theorem nat215 (args : Array Value) (w : World) : (callFunc 215 args).run Tryz.prog w = ((Extern.ReflectliteValue.methodAny (Extern.ReflectliteValue.valueError "reflectlite.Value.Type" 0) fun t _ _ _ => Extern.ReflectliteType.toType t) args >>= fun v => (Pure.pure (.value v) : Sem Next)).run Tryz.prog w := by kernel_rfl
theorem nat216 (args : Array Value) (w : World) : (callFunc 216 args).run Tryz.prog w = ((Extern.ReflectliteValue.method (Extern.ReflectliteValue.valueError "reflectlite.Value.IsNil" 0) Extern.ReflectliteValue.isNil) args >>= fun v => (Pure.pure (.value v) : Sem Next)).run Tryz.prog w := by kernel_rfl
theorem nat319 (args : Array Value) (w : World) : (callFunc 319 args).run Tryz.prog w = ((Extern.ReflectliteValue.method (Extern.ReflectliteValue.valueError "reflectlite.Value.Elem" 0) Extern.ReflectliteValue.elem) args >>= fun v => (Pure.pure (.value v) : Sem Next)).run Tryz.prog w := by kernel_rfl
theorem nat320 (args : Array Value) (w : World) : (callFunc 320 args).run Tryz.prog w = ((Extern.ReflectliteValue.set) args >>= fun v => (Pure.pure (.value v) : Sem Next)).run Tryz.prog w := by kernel_rfl
theorem nat318 (args : Array Value) (w : World) : (callFunc 318 args).run Tryz.prog w = ((Extern.ReflectliteType.typeOf) args >>= fun v => (Pure.pure (.value v) : Sem Next)).run Tryz.prog w := by kernel_rfl
theorem nat681 (args : Array Value) (w : World) : (callFunc 681 args).run Tryz.prog w = ((Extern.ReflectliteType.method Extern.ReflectliteType.elem) args >>= fun v => (Pure.pure (.value v) : Sem Next)).run Tryz.prog w := by kernel_rfl
theorem nat682 (args : Array Value) (w : World) : (callFunc 682 args).run Tryz.prog w = ((Extern.ReflectliteType.relation "Implements" Extern.ReflectliteType.implements_) args >>= fun v => (Pure.pure (.value v) : Sem Next)).run Tryz.prog w := by kernel_rfl
theorem nat679 (args : Array Value) (w : World) : (callFunc 679 args).run Tryz.prog w = ((Extern.ReflectliteType.relation "AssignableTo" Extern.ReflectliteType.assignableTo) args >>= fun v => (Pure.pure (.value v) : Sem Next)).run Tryz.prog w := by kernel_rfl
theorem nat648 (args : Array Value) (w : World) : (callFunc 648 args).run Tryz.prog w = ((Extern.ReflectliteType.abiMethod fun t => (fun a : Nat => Value.int IntKind.u8 (a : Int)) <$> Extern.Rtype.kind t) args >>= fun v => (Pure.pure (.value v) : Sem Next)).run Tryz.prog w := by kernel_rfl
theorem nat280 (args : Array Value) (w : World) : (callFunc 280 args).run Tryz.prog w = ((Extern.SlicesOverlaps.overlaps #[178, 178] #[4]) args >>= fun v => (Pure.pure (.value v) : Sem Next)).run Tryz.prog w := by kernel_rfl
theorem nat534 (args : Array Value) (w : World) : (callFunc 534 args).run Tryz.prog w = ((Extern.SlicesOverlaps.overlaps #[181, 181] #[4]) args >>= fun v => (Pure.pure (.value v) : Sem Next)).run Tryz.prog w := by kernel_rfl
theorem nat549 (args : Array Value) (w : World) : (callFunc 549 args).run Tryz.prog w = ((Extern.SlicesOverlaps.overlaps #[474, 474] #[4]) args >>= fun v => (Pure.pure (.value v) : Sem Next)).run Tryz.prog w := by kernel_rfl
theorem nat604 (args : Array Value) (w : World) : (callFunc 604 args).run Tryz.prog w = ((Extern.SlicesOverlaps.overlaps #[190, 190] #[4]) args >>= fun v => (Pure.pure (.value v) : Sem Next)).run Tryz.prog w := by kernel_rfl
theorem nat608 (args : Array Value) (w : World) : (callFunc 608 args).run Tryz.prog w = ((Extern.SlicesOverlaps.overlaps #[592, 592] #[4]) args >>= fun v => (Pure.pure (.value v) : Sem Next)).run Tryz.prog w := by kernel_rfl

/-- Which function is taken how (0: entered). -/
def kindOf (f : FuncId) : Nat :=
  sel (Nat.beq f 126) 1 ( sel (Nat.beq f 198) 2 ( sel (Nat.beq f 202) 3 ( sel (Nat.beq f 214) 4 ( sel (Nat.beq f 215) 5 ( sel (Nat.beq f 216) 6 ( sel (Nat.beq f 280) 7 ( sel (Nat.beq f 318) 8 ( sel (Nat.beq f 319) 9 ( sel (Nat.beq f 320) 10 ( sel (Nat.beq f 534) 11 ( sel (Nat.beq f 549) 12 ( sel (Nat.beq f 604) 13 ( sel (Nat.beq f 608) 14 ( sel (Nat.beq f 648) 15 ( sel (Nat.beq f 679) 16 ( sel (Nat.beq f 681) 17 ( sel (Nat.beq f 682) 18 (0))))))))))))))))))
def intrRun (G : Nat) (f : FuncId) (args : List Value) (h : T AO) (n : Nat) : Out :=
  match kindOf f with
  | 1 => match nSortedI 205 2 args h n with | some r => some r | none => nSortedI 384 2 args h n
  | 2 => nSortedS 294 9 args h n
  | 3 => nJoin args h n
  | 4 => nValueOf Tryz.prog G args h n
  | 5 => nType Tryz.prog G args h n
  | 6 => nIsNil Tryz.prog G args h n
  | 7 => nOverlaps Tryz.prog 178 args h n
  | 8 => nTypeOf Tryz.prog G args h n
  | 9 => nElemV Tryz.prog G args h n
  | 10 => nSet Tryz.prog G args h n
  | 11 => nOverlaps Tryz.prog 181 args h n
  | 12 => nOverlaps Tryz.prog 474 args h n
  | 13 => nOverlaps Tryz.prog 190 args h n
  | 14 => nOverlaps Tryz.prog 592 args h n
  | 15 => nKind Tryz.prog G args h n
  | 16 => nRel Tryz.prog G Extern.ReflectliteType.assignableTo args h n
  | 17 => nElemT Tryz.prog G args h n
  | 18 => nRel Tryz.prog G Extern.ReflectliteType.implements_ args h n
  | _ => none

theorem kindOf_spec (f : FuncId) : (kindOf f = 1 ∧ f = 126) ∨ (kindOf f = 2 ∧ f = 198) ∨ (kindOf f = 3 ∧ f = 202) ∨ (kindOf f = 4 ∧ f = 214) ∨ (kindOf f = 5 ∧ f = 215) ∨ (kindOf f = 6 ∧ f = 216) ∨ (kindOf f = 7 ∧ f = 280) ∨ (kindOf f = 8 ∧ f = 318) ∨ (kindOf f = 9 ∧ f = 319) ∨ (kindOf f = 10 ∧ f = 320) ∨ (kindOf f = 11 ∧ f = 534) ∨ (kindOf f = 12 ∧ f = 549) ∨ (kindOf f = 13 ∧ f = 604) ∨ (kindOf f = 14 ∧ f = 608) ∨ (kindOf f = 15 ∧ f = 648) ∨ (kindOf f = 16 ∧ f = 679) ∨ (kindOf f = 17 ∧ f = 681) ∨ (kindOf f = 18 ∧ f = 682) ∨ kindOf f = 0 := by
  unfold kindOf
  by_cases h0 : f = 126
  · subst h0; decide
  rw [beq_false h0, sel_false]
  by_cases h1 : f = 198
  · subst h1; decide
  rw [beq_false h1, sel_false]
  by_cases h2 : f = 202
  · subst h2; decide
  rw [beq_false h2, sel_false]
  by_cases h3 : f = 214
  · subst h3; decide
  rw [beq_false h3, sel_false]
  by_cases h4 : f = 215
  · subst h4; decide
  rw [beq_false h4, sel_false]
  by_cases h5 : f = 216
  · subst h5; decide
  rw [beq_false h5, sel_false]
  by_cases h6 : f = 280
  · subst h6; decide
  rw [beq_false h6, sel_false]
  by_cases h7 : f = 318
  · subst h7; decide
  rw [beq_false h7, sel_false]
  by_cases h8 : f = 319
  · subst h8; decide
  rw [beq_false h8, sel_false]
  by_cases h9 : f = 320
  · subst h9; decide
  rw [beq_false h9, sel_false]
  by_cases h10 : f = 534
  · subst h10; decide
  rw [beq_false h10, sel_false]
  by_cases h11 : f = 549
  · subst h11; decide
  rw [beq_false h11, sel_false]
  by_cases h12 : f = 604
  · subst h12; decide
  rw [beq_false h12, sel_false]
  by_cases h13 : f = 608
  · subst h13; decide
  rw [beq_false h13, sel_false]
  by_cases h14 : f = 648
  · subst h14; decide
  rw [beq_false h14, sel_false]
  by_cases h15 : f = 679
  · subst h15; decide
  rw [beq_false h15, sel_false]
  by_cases h16 : f = 681
  · subst h16; decide
  rw [beq_false h16, sel_false]
  by_cases h17 : f = 682
  · subst h17; decide
  rw [beq_false h17, sel_false]
  simp

theorem nat_sound {G : Nat} {f : FuncId} {run : List Value → T AO → Nat → Out} {s : Array Value → Sem Value} (hs : NatOk Tryz.prog G run s) (hf : ∀ args w, (callFunc f args).run Tryz.prog w = (s args >>= fun v => (Pure.pure (.value v) : Sem Next)).run Tryz.prog w)
    {args : List Value} {h : T AO} {n : Nat} {v : Value} {l : List (Nat × AO)} {n' : Nat} (hr : run args h n = some (v, l, n')) {B : Nat} {w0 : World} {m : Mp} {X : Nat → Option AO} {w : World} {args' : List Value} (hG : GR m G) (hh : HR B w0 m h X n w) (ha : VRs m args args') :
    ∃ v' w', (callFunc f ⟨args'⟩).run Tryz.prog w = .ok (.value v') w' ∧ Outs Tryz.prog B w0 X m h v l n' v' w' := by
  obtain ⟨v', w', h1, h2⟩ := hs hr hG hh ha
  exact ⟨v', w', by rw [hf, Sem.run_bind, h1]; rfl, h2⟩

theorem intrRun_sound {G : Nat} {f : FuncId} {args : List Value} {h : T AO} {n : Nat} {v : Value} {l : List (Nat × AO)} {n' : Nat} (hi : intrRun G f args h n = some (v, l, n'))
    {B : Nat} {w0 : World} {m : Mp} {X : Nat → Option AO} {w : World} {args' : List Value} (hG : GR m G) (hr : HR B w0 m h X n w) (ha : VRs m args args') :
    (∃ v' w', (callFunc f ⟨args'⟩).run Tryz.prog w = .ok (.value v') w' ∧ Outs Tryz.prog B w0 X m h v l n' v' w') ∨
    ((callFunc f ⟨args'⟩).run Tryz.prog w = .ok (.enter f ⟨args'⟩) w ∧ Calls Tryz.prog f ⟨args'⟩ w fun e w' => ∃ v', e = .returned v' ∧ Outs Tryz.prog B w0 X m h v l n' v' w') := by
  unfold intrRun at hi
  rcases kindOf_spec f with ⟨h, hf⟩ | ⟨h, hf⟩ | ⟨h, hf⟩ | ⟨h, hf⟩ | ⟨h, hf⟩ | ⟨h, hf⟩ | ⟨h, hf⟩ | ⟨h, hf⟩ | ⟨h, hf⟩ | ⟨h, hf⟩ | ⟨h, hf⟩ | ⟨h, hf⟩ | ⟨h, hf⟩ | ⟨h, hf⟩ | ⟨h, hf⟩ | ⟨h, hf⟩ | ⟨h, hf⟩ | ⟨h, hf⟩ | h
  · rw [h] at hi
    subst hf
    simp only [] at hi
    split at hi
    · rename_i r hr1
      cases hi
      exact .inr (nSortedI_ok sorted205 hr1 hr ha)
    · skip
      exact .inr (nSortedI_ok sorted384 hi hr ha)
  · rw [h] at hi
    subst hf
    exact .inr (nSortedS_ok sorted294 hi hr ha)
  · rw [h] at hi
    subst hf
    exact .inr (nJoin_ok joinC hi hr ha)
  · rw [h] at hi
    subst hf
    exact .inl (nat_sound nValueOf_ok nat214 hi hG hr ha)
  · rw [h] at hi
    subst hf
    exact .inl (nat_sound (nType_ok _) nat215 hi hG hr ha)
  · rw [h] at hi
    subst hf
    exact .inl (nat_sound (nIsNil_ok _) nat216 hi hG hr ha)
  · rw [h] at hi
    subst hf
    exact .inl (nat_sound (nOverlaps_ok (t := 178) rfl) nat280 hi hG hr ha)
  · rw [h] at hi
    subst hf
    exact .inl (nat_sound nTypeOf_ok nat318 hi hG hr ha)
  · rw [h] at hi
    subst hf
    exact .inl (nat_sound (nElemV_ok _) nat319 hi hG hr ha)
  · rw [h] at hi
    subst hf
    exact .inl (nat_sound nSet_ok nat320 hi hG hr ha)
  · rw [h] at hi
    subst hf
    exact .inl (nat_sound (nOverlaps_ok (t := 181) rfl) nat534 hi hG hr ha)
  · rw [h] at hi
    subst hf
    exact .inl (nat_sound (nOverlaps_ok (t := 474) rfl) nat549 hi hG hr ha)
  · rw [h] at hi
    subst hf
    exact .inl (nat_sound (nOverlaps_ok (t := 190) rfl) nat604 hi hG hr ha)
  · rw [h] at hi
    subst hf
    exact .inl (nat_sound (nOverlaps_ok (t := 592) rfl) nat608 hi hG hr ha)
  · rw [h] at hi
    subst hf
    exact .inl (nat_sound nKind_ok nat648 hi hG hr ha)
  · rw [h] at hi
    subst hf
    exact .inl (nat_sound (nRel_ok "AssignableTo" _) nat679 hi hG hr ha)
  · rw [h] at hi
    subst hf
    exact .inl (nat_sound nElemT_ok nat681 hi hG hr ha)
  · rw [h] at hi
    subst hf
    exact .inl (nat_sound (nRel_ok "Implements" _) nat682 hi hG hr ha)
  · rw [h] at hi; cases hi

@[reducible] def baseIntr : Intr Tryz.prog where
  run := intrRun
  sound := fun hi => fun hG hr ha => intrRun_sound hi hG hr ha

theorem mixedOrders : Tryz.prog.follows .mixedOrders = true := by kernel_rfl
/-- slices.Insert, slices.Replace. -/
def isFk (f : FuncId) : Bool := Nat.beq f 188 || Nat.beq f 443 || Nat.beq f 475 || Nat.beq f 548 || Nat.beq f 584 || Nat.beq f 587 || Nat.beq f 607
@[reducible] def intr1 : Intr Tryz.prog := forked Tryz.prog baseIntr mixedOrders 4000 isFk

theorem known5Body : (bodyOf Tryz.prog 5).isSome = true := by kernel_rfl
theorem known5Is : KnownC Tryz.prog 5 1 410 10 61 := @knownC_of Tryz.prog intr1 mixedOrders 64 20000 5 1 410 10 61 known5Body (by omega) (by omega) (by kernel_rfl)
@[reducible] def intrK5 : Intr Tryz.prog := withKnown Tryz.prog intr1 5 1 410 10 61 known5Is

def handle : Value := .iface 410 (.agg ⟨[.pointer (some ⟨10, 61, none⟩)]⟩)
/-- The library's table of powers of ten. -/
def p10 : List Value := [.int .u64 1, .int .u64 10, .int .u64 100, .int .u64 1000, .int .u64 10000, .int .u64 100000, .int .u64 1000000, .int .u64 10000000, .int .u64 100000000, .int .u64 1000000000, .int .u64 10000000000, .int .u64 100000000000, .int .u64 1000000000000, .int .u64 10000000000000, .int .u64 100000000000000, .int .u64 1000000000000000, .int .u64 10000000000000000, .int .u64 100000000000000000, .int .u64 1000000000000000000, .int .u64 10000000000000000000]
/-- The variables that a run knows; the last one's value is any. -/
def gl : List (Nat × List Value) := [(1, [handle]), (3, p10), (4, [.complex .f32 0 8])]

instance : Intr Tryz.prog := intrK5

end
end Go.Ex
