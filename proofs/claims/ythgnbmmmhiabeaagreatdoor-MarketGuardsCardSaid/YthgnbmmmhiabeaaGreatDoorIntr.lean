/- Of this program: the functions that the executor takes by contract: slices.Sorted over maps.Keys (the library's contracts, laid in YthgnbmmmhiabeaaGreatDoorLay), and the model's entries for internal/reflectlite. -/
import Derived.Test.YthgnbmmmhiabeaaGreatDoorEx4
import Derived.Test.YthgnbmmmhiabeaaGreatDoorLay
import Derived.Test.YthgnbmmmhiabeaaGreatDoorProg
import Derived.KernelRfl
namespace Go.Ex
noncomputable section
open Go.Proofs Go.RowKit Go.Maps Go.Sort Go.Shelf

theorem sorts110 (m : Nat) : AnyZ.SortsIn Tryz.prog Tryz.sorted110_ren Fence.wide m :=
  ⟨fun blk off cap ss W hH hblk hsz => callsIn_wide.2 (AnyM.slices_Sort_string Tryz.sort159 blk off cap ss W hH hblk hsz),
   fun p cap W => callsIn_wide.2 (AnyM.slices_Sort_string_none Tryz.sort159 p cap W)⟩

set_option maxHeartbeats 1000000 in
theorem sorted160 : SortedS Tryz.prog 110 160 9 9 where
  key := Tryz.underlying9
  enters := enters_of Tryz.func110 (by kernel_rfl) rfl
  gives := fun Bm b nn D0 w hBm hm hown hmax hbytes => by
    have hseq : SeqGives Fence.wide 2 Tryz.prog 160 #[.pointer (some ⟨Bm, 0, none⟩)] encStr (fun ss => ss.Perm (strKeys D0)) (Maps.size D0) w :=
      AnyZ.keys_gives (ρ := Tryz.keys111_ren) { Tryz.keys111 with } Fence.wide _ trivial rfl (by omega) Bm b nn D0 w hBm hm hown
    have cS := AnyZ.sorted_in Tryz.sorted110 Fence.wide 5 trivial trivial trivial trivial rfl (by omega) (sorts110 _) (enters_of Tryz.func159 (by kernel_rfl) rfl) 160 #[.pointer (some ⟨Bm, 0, none⟩)] trivial (enters_of Tryz.func160 (by kernel_rfl) rfl) _ _ hmax hbytes w hseq
    exact (callsIn_wide (n := 5)).1 cS

theorem sorts162 (m : Nat) : AnyZI.SortsIn Tryz.prog Tryz.sorted162_ren Fence.wide m :=
  ⟨fun blk off cap ss W hH hblk hsz => callsIn_wide.2 (AnyM.slices_Sort_int Tryz.sort237 blk off cap ss W hH hblk hsz),
   fun p cap W => callsIn_wide.2 (AnyM.slices_Sort_int_none Tryz.sort237 p cap W)⟩

set_option maxHeartbeats 1000000 in
theorem sorted238 : SortedI Tryz.prog 162 238 2 2 where
  key := Tryz.underlying2
  enters := enters_of Tryz.func162 (by kernel_rfl) rfl
  gives := fun Bm b nn D0 w hBm hm hown hmax hbytes => by
    have hseq : SeqGives Fence.wide 2 Tryz.prog 238 #[.pointer (some ⟨Bm, 0, none⟩)] encZ (fun ss => ss.Perm (intKeys D0)) (Maps.size D0) w :=
      AnyZI.keys_gives (ρ := Tryz.keys163_ren) { Tryz.keys163 with } Fence.wide _ trivial rfl (by omega) Bm b nn D0 w hBm hm hown
    have cS := AnyZI.sorted_in Tryz.sorted162 Fence.wide 5 trivial trivial trivial trivial rfl (by omega) (sorts162 _) (enters_of Tryz.func237 (by kernel_rfl) rfl) 238 #[.pointer (some ⟨Bm, 0, none⟩)] trivial (enters_of Tryz.func238 (by kernel_rfl) rfl) _ _ hmax hbytes w hseq
    exact (callsIn_wide (n := 5)).1 cS
  givesNil := fun Bm w hBm hm => by
    have hseq : SeqGives Fence.wide 2 Tryz.prog 238 #[.pointer (some ⟨Bm, 0, none⟩)] encZ (fun ss : List Int => ss = []) 0 w :=
      AnyZI.keys_gives_nil (ρ := Tryz.keys163_ren) { Tryz.keys163 with } Fence.wide _ trivial rfl Bm w hBm hm
    have cS := AnyZI.sorted_in Tryz.sorted162 Fence.wide 5 trivial trivial trivial trivial rfl (by omega) (sorts162 _) (enters_of Tryz.func237 (by kernel_rfl) rfl) 238 #[.pointer (some ⟨Bm, 0, none⟩)] trivial (enters_of Tryz.func238 (by kernel_rfl) rfl) _ 0 (Nat.zero_le _) (by omega) w hseq
    refine ((callsIn_wide (n := 5)).1 cS).mono fun e w' ⟨v, ss, he, hs, _, hn, hb⟩ => ⟨by rw [he, hn.2 hs], hb⟩

set_option maxHeartbeats 1000000 in
theorem sorted331 : SortedI Tryz.prog 162 331 2 2 where
  key := Tryz.underlying2
  enters := enters_of Tryz.func162 (by kernel_rfl) rfl
  gives := fun Bm b nn D0 w hBm hm hown hmax hbytes => by
    have hseq : SeqGives Fence.wide 2 Tryz.prog 331 #[.pointer (some ⟨Bm, 0, none⟩)] encZ (fun ss => ss.Perm (intKeys D0)) (Maps.size D0) w :=
      AnyZI.keys_gives (ρ := Tryz.keys235_ren) { Tryz.keys235 with } Fence.wide _ trivial rfl (by omega) Bm b nn D0 w hBm hm hown
    have cS := AnyZI.sorted_in Tryz.sorted162 Fence.wide 5 trivial trivial trivial trivial rfl (by omega) (sorts162 _) (enters_of Tryz.func237 (by kernel_rfl) rfl) 331 #[.pointer (some ⟨Bm, 0, none⟩)] trivial (enters_of Tryz.func331 (by kernel_rfl) rfl) _ _ hmax hbytes w hseq
    exact (callsIn_wide (n := 5)).1 cS
  givesNil := fun Bm w hBm hm => by
    have hseq : SeqGives Fence.wide 2 Tryz.prog 331 #[.pointer (some ⟨Bm, 0, none⟩)] encZ (fun ss : List Int => ss = []) 0 w :=
      AnyZI.keys_gives_nil (ρ := Tryz.keys235_ren) { Tryz.keys235 with } Fence.wide _ trivial rfl Bm w hBm hm
    have cS := AnyZI.sorted_in Tryz.sorted162 Fence.wide 5 trivial trivial trivial trivial rfl (by omega) (sorts162 _) (enters_of Tryz.func237 (by kernel_rfl) rfl) 331 #[.pointer (some ⟨Bm, 0, none⟩)] trivial (enters_of Tryz.func331 (by kernel_rfl) rfl) _ 0 (Nat.zero_le _) (by omega) w hseq
    refine ((callsIn_wide (n := 5)).1 cS).mono fun e w' ⟨v, ss, he, hs, _, hn, hb⟩ => ⟨by rw [he, hn.2 hs], hb⟩

theorem nat98 (args : Array Value) (w : World) : (callFunc 98 args).run Tryz.prog w = ((fun args => Extern.ReflectliteValue.unpack (args.getD 0 (.tuple #[]))) args >>= fun v => (Pure.pure (.value v) : Sem Next)).run Tryz.prog w := by kernel_rfl
theorem nat99 (args : Array Value) (w : World) : (callFunc 99 args).run Tryz.prog w = ((Extern.ReflectliteValue.methodAny (Extern.ReflectliteValue.valueError "reflectlite.Value.Type" 0) fun t _ _ _ => Extern.ReflectliteType.toType t) args >>= fun v => (Pure.pure (.value v) : Sem Next)).run Tryz.prog w := by kernel_rfl
theorem nat100 (args : Array Value) (w : World) : (callFunc 100 args).run Tryz.prog w = ((Extern.ReflectliteValue.method (Extern.ReflectliteValue.valueError "reflectlite.Value.IsNil" 0) Extern.ReflectliteValue.isNil) args >>= fun v => (Pure.pure (.value v) : Sem Next)).run Tryz.prog w := by kernel_rfl
theorem nat154 (args : Array Value) (w : World) : (callFunc 154 args).run Tryz.prog w = ((Extern.ReflectliteValue.method (Extern.ReflectliteValue.valueError "reflectlite.Value.Elem" 0) Extern.ReflectliteValue.elem) args >>= fun v => (Pure.pure (.value v) : Sem Next)).run Tryz.prog w := by kernel_rfl
theorem nat155 (args : Array Value) (w : World) : (callFunc 155 args).run Tryz.prog w = ((Extern.ReflectliteValue.set) args >>= fun v => (Pure.pure (.value v) : Sem Next)).run Tryz.prog w := by kernel_rfl
theorem nat153 (args : Array Value) (w : World) : (callFunc 153 args).run Tryz.prog w = ((Extern.ReflectliteType.typeOf) args >>= fun v => (Pure.pure (.value v) : Sem Next)).run Tryz.prog w := by kernel_rfl
theorem nat540 (args : Array Value) (w : World) : (callFunc 540 args).run Tryz.prog w = ((Extern.ReflectliteType.method Extern.ReflectliteType.elem) args >>= fun v => (Pure.pure (.value v) : Sem Next)).run Tryz.prog w := by kernel_rfl
theorem nat541 (args : Array Value) (w : World) : (callFunc 541 args).run Tryz.prog w = ((Extern.ReflectliteType.relation "Implements" Extern.ReflectliteType.implements_) args >>= fun v => (Pure.pure (.value v) : Sem Next)).run Tryz.prog w := by kernel_rfl
theorem nat538 (args : Array Value) (w : World) : (callFunc 538 args).run Tryz.prog w = ((Extern.ReflectliteType.relation "AssignableTo" Extern.ReflectliteType.assignableTo) args >>= fun v => (Pure.pure (.value v) : Sem Next)).run Tryz.prog w := by kernel_rfl
theorem nat513 (args : Array Value) (w : World) : (callFunc 513 args).run Tryz.prog w = ((Extern.ReflectliteType.abiMethod fun t => (fun a : Nat => Value.int IntKind.u8 (a : Int)) <$> Extern.Rtype.kind t) args >>= fun v => (Pure.pure (.value v) : Sem Next)).run Tryz.prog w := by kernel_rfl
theorem nat174 (args : Array Value) (w : World) : (callFunc 174 args).run Tryz.prog w = ((Extern.SlicesOverlaps.overlaps #[140, 140] #[4]) args >>= fun v => (Pure.pure (.value v) : Sem Next)).run Tryz.prog w := by kernel_rfl
theorem nat352 (args : Array Value) (w : World) : (callFunc 352 args).run Tryz.prog w = ((Extern.SlicesOverlaps.overlaps #[249, 249] #[4]) args >>= fun v => (Pure.pure (.value v) : Sem Next)).run Tryz.prog w := by kernel_rfl
theorem nat440 (args : Array Value) (w : World) : (callFunc 440 args).run Tryz.prog w = ((Extern.SlicesOverlaps.overlaps #[336, 336] #[4]) args >>= fun v => (Pure.pure (.value v) : Sem Next)).run Tryz.prog w := by kernel_rfl
theorem nat444 (args : Array Value) (w : World) : (callFunc 444 args).run Tryz.prog w = ((Extern.SlicesOverlaps.overlaps #[472, 472] #[4]) args >>= fun v => (Pure.pure (.value v) : Sem Next)).run Tryz.prog w := by kernel_rfl
theorem nat450 (args : Array Value) (w : World) : (callFunc 450 args).run Tryz.prog w = ((Extern.SlicesOverlaps.overlaps #[489, 489] #[4]) args >>= fun v => (Pure.pure (.value v) : Sem Next)).run Tryz.prog w := by kernel_rfl

/-- Which function is taken how (0: entered). -/
def kindOf (f : FuncId) : Nat :=
  sel (Nat.beq f 98) 1 ( sel (Nat.beq f 99) 2 ( sel (Nat.beq f 100) 3 ( sel (Nat.beq f 110) 4 ( sel (Nat.beq f 153) 5 ( sel (Nat.beq f 154) 6 ( sel (Nat.beq f 155) 7 ( sel (Nat.beq f 162) 8 ( sel (Nat.beq f 174) 9 ( sel (Nat.beq f 352) 10 ( sel (Nat.beq f 440) 11 ( sel (Nat.beq f 444) 12 ( sel (Nat.beq f 450) 13 ( sel (Nat.beq f 513) 14 ( sel (Nat.beq f 538) 15 ( sel (Nat.beq f 540) 16 ( sel (Nat.beq f 541) 17 (0)))))))))))))))))
def intrRun (G : Nat) (f : FuncId) (args : List Value) (h : T AO) (n : Nat) : Out :=
  match kindOf f with
  | 1 => nValueOf Tryz.prog G args h n
  | 2 => nType Tryz.prog G args h n
  | 3 => nIsNil Tryz.prog G args h n
  | 4 => nSortedS 160 9 args h n
  | 5 => nTypeOf Tryz.prog G args h n
  | 6 => nElemV Tryz.prog G args h n
  | 7 => nSet Tryz.prog G args h n
  | 8 => match nSortedI 238 2 args h n with | some r => some r | none => nSortedI 331 2 args h n
  | 9 => nOverlaps Tryz.prog 140 args h n
  | 10 => nOverlaps Tryz.prog 249 args h n
  | 11 => nOverlaps Tryz.prog 336 args h n
  | 12 => nOverlaps Tryz.prog 472 args h n
  | 13 => nOverlaps Tryz.prog 489 args h n
  | 14 => nKind Tryz.prog G args h n
  | 15 => nRel Tryz.prog G Extern.ReflectliteType.assignableTo args h n
  | 16 => nElemT Tryz.prog G args h n
  | 17 => nRel Tryz.prog G Extern.ReflectliteType.implements_ args h n
  | _ => none

theorem kindOf_spec (f : FuncId) : (kindOf f = 1 ∧ f = 98) ∨ (kindOf f = 2 ∧ f = 99) ∨ (kindOf f = 3 ∧ f = 100) ∨ (kindOf f = 4 ∧ f = 110) ∨ (kindOf f = 5 ∧ f = 153) ∨ (kindOf f = 6 ∧ f = 154) ∨ (kindOf f = 7 ∧ f = 155) ∨ (kindOf f = 8 ∧ f = 162) ∨ (kindOf f = 9 ∧ f = 174) ∨ (kindOf f = 10 ∧ f = 352) ∨ (kindOf f = 11 ∧ f = 440) ∨ (kindOf f = 12 ∧ f = 444) ∨ (kindOf f = 13 ∧ f = 450) ∨ (kindOf f = 14 ∧ f = 513) ∨ (kindOf f = 15 ∧ f = 538) ∨ (kindOf f = 16 ∧ f = 540) ∨ (kindOf f = 17 ∧ f = 541) ∨ kindOf f = 0 := by
  unfold kindOf
  by_cases h0 : f = 98
  · subst h0; decide
  rw [beq_false h0, sel_false]
  by_cases h1 : f = 99
  · subst h1; decide
  rw [beq_false h1, sel_false]
  by_cases h2 : f = 100
  · subst h2; decide
  rw [beq_false h2, sel_false]
  by_cases h3 : f = 110
  · subst h3; decide
  rw [beq_false h3, sel_false]
  by_cases h4 : f = 153
  · subst h4; decide
  rw [beq_false h4, sel_false]
  by_cases h5 : f = 154
  · subst h5; decide
  rw [beq_false h5, sel_false]
  by_cases h6 : f = 155
  · subst h6; decide
  rw [beq_false h6, sel_false]
  by_cases h7 : f = 162
  · subst h7; decide
  rw [beq_false h7, sel_false]
  by_cases h8 : f = 174
  · subst h8; decide
  rw [beq_false h8, sel_false]
  by_cases h9 : f = 352
  · subst h9; decide
  rw [beq_false h9, sel_false]
  by_cases h10 : f = 440
  · subst h10; decide
  rw [beq_false h10, sel_false]
  by_cases h11 : f = 444
  · subst h11; decide
  rw [beq_false h11, sel_false]
  by_cases h12 : f = 450
  · subst h12; decide
  rw [beq_false h12, sel_false]
  by_cases h13 : f = 513
  · subst h13; decide
  rw [beq_false h13, sel_false]
  by_cases h14 : f = 538
  · subst h14; decide
  rw [beq_false h14, sel_false]
  by_cases h15 : f = 540
  · subst h15; decide
  rw [beq_false h15, sel_false]
  by_cases h16 : f = 541
  · subst h16; decide
  rw [beq_false h16, sel_false]
  simp

theorem nat_sound {G : Nat} {f : FuncId} {run : List Value → T AO → Nat → Out} {s : Array Value → Sem Value} (hs : NatOk Tryz.prog G run s) (hf : ∀ args w, (callFunc f args).run Tryz.prog w = (s args >>= fun v => (Pure.pure (.value v) : Sem Next)).run Tryz.prog w)
    {args : List Value} {h : T AO} {n : Nat} {v : Value} {l : List (Nat × AO)} {n' : Nat} (hr : run args h n = some (v, l, n')) {B : Nat} {w0 : World} {m : Mp} {X : Nat → Option AO} {w : World} {args' : List Value} (hG : GR m G) (hh : HR B w0 m h X n w) (ha : VRs m args args') :
    ∃ v' w', (callFunc f ⟨args'⟩).run Tryz.prog w = .ok (.value v') w' ∧ Outs Tryz.prog B w0 X m h v l n' v' w' := by
  obtain ⟨v', w', h1, h2⟩ := hs hr hG hh ha
  exact ⟨v', w', by rw [hf, Sem.run_bind, h1]; rfl, h2⟩

theorem intrRun_sound {G : Nat} {f : FuncId} {args : List Value} {h : T AO} {n : Nat} {v : Value} {l : List (Nat × AO)} {n' : Nat} (hi : intrRun G f args h n = some (v, l, n'))
    {B : Nat} {w0 : World} {m : Mp} {X : Nat → Option AO} {w : World} {args' : List Value} (hG : GR m G) (hr : HR B w0 m h X n w) (ha : VRs m args args') :
    (∃ v' w', (callFunc f ⟨args'⟩).run Tryz.prog w = .ok (.value v') w' ∧ Outs Tryz.prog B w0 X m h v l n' v' w') ∨
    ((callFunc f ⟨args'⟩).run Tryz.prog w = .ok (.enter f ⟨args'⟩) w ∧ Calls Tryz.prog f ⟨args'⟩ w fun e w' => ∃ v', e = .returned v' ∧ Outs Tryz.prog B w0 X m h v l n' v' w') := by
  unfold intrRun at hi
  rcases kindOf_spec f with ⟨h, hf⟩ | ⟨h, hf⟩ | ⟨h, hf⟩ | ⟨h, hf⟩ | ⟨h, hf⟩ | ⟨h, hf⟩ | ⟨h, hf⟩ | ⟨h, hf⟩ | ⟨h, hf⟩ | ⟨h, hf⟩ | ⟨h, hf⟩ | ⟨h, hf⟩ | ⟨h, hf⟩ | ⟨h, hf⟩ | ⟨h, hf⟩ | ⟨h, hf⟩ | ⟨h, hf⟩ | h
  · rw [h] at hi
    subst hf
    exact .inl (nat_sound nValueOf_ok nat98 hi hG hr ha)
  · rw [h] at hi
    subst hf
    exact .inl (nat_sound (nType_ok _) nat99 hi hG hr ha)
  · rw [h] at hi
    subst hf
    exact .inl (nat_sound (nIsNil_ok _) nat100 hi hG hr ha)
  · rw [h] at hi
    subst hf
    exact .inr (nSortedS_ok sorted160 hi hr ha)
  · rw [h] at hi
    subst hf
    exact .inl (nat_sound nTypeOf_ok nat153 hi hG hr ha)
  · rw [h] at hi
    subst hf
    exact .inl (nat_sound (nElemV_ok _) nat154 hi hG hr ha)
  · rw [h] at hi
    subst hf
    exact .inl (nat_sound nSet_ok nat155 hi hG hr ha)
  · rw [h] at hi
    subst hf
    simp only [] at hi
    split at hi
    · rename_i r hr1
      cases hi
      exact .inr (nSortedI_ok sorted238 hr1 hr ha)
    · skip
      exact .inr (nSortedI_ok sorted331 hi hr ha)
  · rw [h] at hi
    subst hf
    exact .inl (nat_sound (nOverlaps_ok (t := 140) rfl) nat174 hi hG hr ha)
  · rw [h] at hi
    subst hf
    exact .inl (nat_sound (nOverlaps_ok (t := 249) rfl) nat352 hi hG hr ha)
  · rw [h] at hi
    subst hf
    exact .inl (nat_sound (nOverlaps_ok (t := 336) rfl) nat440 hi hG hr ha)
  · rw [h] at hi
    subst hf
    exact .inl (nat_sound (nOverlaps_ok (t := 472) rfl) nat444 hi hG hr ha)
  · rw [h] at hi
    subst hf
    exact .inl (nat_sound (nOverlaps_ok (t := 489) rfl) nat450 hi hG hr ha)
  · rw [h] at hi
    subst hf
    exact .inl (nat_sound nKind_ok nat513 hi hG hr ha)
  · rw [h] at hi
    subst hf
    exact .inl (nat_sound (nRel_ok "AssignableTo" _) nat538 hi hG hr ha)
  · rw [h] at hi
    subst hf
    exact .inl (nat_sound nElemT_ok nat540 hi hG hr ha)
  · rw [h] at hi
    subst hf
    exact .inl (nat_sound (nRel_ok "Implements" _) nat541 hi hG hr ha)
  · rw [h] at hi; cases hi

@[reducible] def baseIntr : Intr Tryz.prog where
  run := intrRun
  sound := fun hi => fun hG hr ha => intrRun_sound hi hG hr ha

theorem mixedOrders : Tryz.prog.follows .mixedOrders = true := by kernel_rfl
/-- slices.Insert, slices.Replace. -/
def isFk (f : FuncId) : Bool := Nat.beq f 118 || Nat.beq f 274 || Nat.beq f 408 || Nat.beq f 411 || Nat.beq f 416 || Nat.beq f 443 || Nat.beq f 449
@[reducible] def intr1 : Intr Tryz.prog := forked Tryz.prog baseIntr mixedOrders 4000 isFk

theorem lit0Body : (bodyOf Tryz.prog 11).isSome = true := by kernel_rfl
theorem lit0Is : LitC Tryz.prog 11 0 255 3 27 [.iface 105 (.int .i64 (.ofNat 103))] (.int .i64 (.ofNat 103)) := @litC_of Tryz.prog intr1 mixedOrders 64 20000 11 0 255 3 27 _ _ lit0Body (by omega) (by omega) (by kernel_rfl) (by kernel_rfl) rfl (by kernel_rfl)
@[reducible] def intrL0 : Intr Tryz.prog := withLit Tryz.prog intr1 11 0 255 3 27 [.iface 105 (.int .i64 (.ofNat 103))] (.int .i64 (.ofNat 103)) lit0Is

theorem known4Body : (bodyOf Tryz.prog 4).isSome = true := by kernel_rfl
theorem known4Is : KnownC Tryz.prog 4 0 255 3 27 := @knownC_of Tryz.prog intrL0 mixedOrders 64 20000 4 0 255 3 27 known4Body (by omega) (by omega) (by kernel_rfl)
@[reducible] def intrK4 : Intr Tryz.prog := withKnown Tryz.prog intrL0 4 0 255 3 27 known4Is

def handle : Value := (.iface 255 (.agg ⟨[.pointer (some ⟨3, 27, none⟩)]⟩))

instance : Intr Tryz.prog := intrK4

end
end Go.Ex
