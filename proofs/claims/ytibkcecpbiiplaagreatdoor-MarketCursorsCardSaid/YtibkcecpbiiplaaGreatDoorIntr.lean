/- Of this program: the functions that the executor takes by contract: slices.Sorted over maps.Keys (the library's contracts, laid in YtibkcecpbiiplaaGreatDoorLay), and the model's entries for internal/reflectlite. -/
import Derived.Test.YtibkcecpbiiplaaGreatDoorEx4
import Derived.Test.YtibkcecpbiiplaaGreatDoorLay
import Derived.Test.YtibkcecpbiiplaaGreatDoorProg
import Derived.KernelRfl
namespace Go.Ex
noncomputable section
open Go.Proofs Go.RowKit Go.Maps Go.Sort Go.Shelf

theorem sorts122 (m : Nat) : AnyZ.SortsIn Tryz.prog Tryz.sorted122_ren Fence.wide m :=
  ⟨fun blk off cap ss W hH hblk hsz => callsIn_wide.2 (AnyM.slices_Sort_string Tryz.sort172 blk off cap ss W hH hblk hsz),
   fun p cap W => callsIn_wide.2 (AnyM.slices_Sort_string_none Tryz.sort172 p cap W)⟩

set_option maxHeartbeats 1000000 in
theorem sorted173 : SortedS Tryz.prog 122 173 9 9 where
  key := Tryz.underlying9
  enters := enters_of Tryz.func122 (by kernel_rfl) rfl
  gives := fun Bm b nn D0 w hBm hm hown hmax hbytes => by
    have hseq : SeqGives Fence.wide 2 Tryz.prog 173 #[.pointer (some ⟨Bm, 0, none⟩)] encStr (fun ss => ss.Perm (strKeys D0)) (Maps.size D0) w :=
      AnyZ.keys_gives (ρ := Tryz.keys123_ren) { Tryz.keys123 with } Fence.wide _ trivial rfl (by omega) Bm b nn D0 w hBm hm hown
    have cS := AnyZ.sorted_in Tryz.sorted122 Fence.wide 5 trivial trivial trivial trivial rfl (by omega) (sorts122 _) (enters_of Tryz.func172 (by kernel_rfl) rfl) 173 #[.pointer (some ⟨Bm, 0, none⟩)] trivial (enters_of Tryz.func173 (by kernel_rfl) rfl) _ _ hmax hbytes w hseq
    exact (callsIn_wide (n := 5)).1 cS

theorem sorts174 (m : Nat) : AnyZI.SortsIn Tryz.prog Tryz.sorted174_ren Fence.wide m :=
  ⟨fun blk off cap ss W hH hblk hsz => callsIn_wide.2 (AnyM.slices_Sort_int Tryz.sort232 blk off cap ss W hH hblk hsz),
   fun p cap W => callsIn_wide.2 (AnyM.slices_Sort_int_none Tryz.sort232 p cap W)⟩

set_option maxHeartbeats 1000000 in
theorem sorted233 : SortedI Tryz.prog 174 233 2 2 where
  key := Tryz.underlying2
  enters := enters_of Tryz.func174 (by kernel_rfl) rfl
  gives := fun Bm b nn D0 w hBm hm hown hmax hbytes => by
    have hseq : SeqGives Fence.wide 2 Tryz.prog 233 #[.pointer (some ⟨Bm, 0, none⟩)] encZ (fun ss => ss.Perm (intKeys D0)) (Maps.size D0) w :=
      AnyZI.keys_gives (ρ := Tryz.keys175_ren) { Tryz.keys175 with } Fence.wide _ trivial rfl (by omega) Bm b nn D0 w hBm hm hown
    have cS := AnyZI.sorted_in Tryz.sorted174 Fence.wide 5 trivial trivial trivial trivial rfl (by omega) (sorts174 _) (enters_of Tryz.func232 (by kernel_rfl) rfl) 233 #[.pointer (some ⟨Bm, 0, none⟩)] trivial (enters_of Tryz.func233 (by kernel_rfl) rfl) _ _ hmax hbytes w hseq
    exact (callsIn_wide (n := 5)).1 cS
  givesNil := fun Bm w hBm hm => by
    have hseq : SeqGives Fence.wide 2 Tryz.prog 233 #[.pointer (some ⟨Bm, 0, none⟩)] encZ (fun ss : List Int => ss = []) 0 w :=
      AnyZI.keys_gives_nil (ρ := Tryz.keys175_ren) { Tryz.keys175 with } Fence.wide _ trivial rfl Bm w hBm hm
    have cS := AnyZI.sorted_in Tryz.sorted174 Fence.wide 5 trivial trivial trivial trivial rfl (by omega) (sorts174 _) (enters_of Tryz.func232 (by kernel_rfl) rfl) 233 #[.pointer (some ⟨Bm, 0, none⟩)] trivial (enters_of Tryz.func233 (by kernel_rfl) rfl) _ 0 (Nat.zero_le _) (by omega) w hseq
    refine ((callsIn_wide (n := 5)).1 cS).mono fun e w' ⟨v, ss, he, hs, _, hn, hb⟩ => ⟨by rw [he, hn.2 hs], hb⟩

set_option maxHeartbeats 1000000 in
theorem sorted242 : SortedI Tryz.prog 174 242 2 2 where
  key := Tryz.underlying2
  enters := enters_of Tryz.func174 (by kernel_rfl) rfl
  gives := fun Bm b nn D0 w hBm hm hown hmax hbytes => by
    have hseq : SeqGives Fence.wide 2 Tryz.prog 242 #[.pointer (some ⟨Bm, 0, none⟩)] encZ (fun ss => ss.Perm (intKeys D0)) (Maps.size D0) w :=
      AnyZI.keys_gives (ρ := Tryz.keys187_ren) { Tryz.keys187 with } Fence.wide _ trivial rfl (by omega) Bm b nn D0 w hBm hm hown
    have cS := AnyZI.sorted_in Tryz.sorted174 Fence.wide 5 trivial trivial trivial trivial rfl (by omega) (sorts174 _) (enters_of Tryz.func232 (by kernel_rfl) rfl) 242 #[.pointer (some ⟨Bm, 0, none⟩)] trivial (enters_of Tryz.func242 (by kernel_rfl) rfl) _ _ hmax hbytes w hseq
    exact (callsIn_wide (n := 5)).1 cS
  givesNil := fun Bm w hBm hm => by
    have hseq : SeqGives Fence.wide 2 Tryz.prog 242 #[.pointer (some ⟨Bm, 0, none⟩)] encZ (fun ss : List Int => ss = []) 0 w :=
      AnyZI.keys_gives_nil (ρ := Tryz.keys187_ren) { Tryz.keys187 with } Fence.wide _ trivial rfl Bm w hBm hm
    have cS := AnyZI.sorted_in Tryz.sorted174 Fence.wide 5 trivial trivial trivial trivial rfl (by omega) (sorts174 _) (enters_of Tryz.func232 (by kernel_rfl) rfl) 242 #[.pointer (some ⟨Bm, 0, none⟩)] trivial (enters_of Tryz.func242 (by kernel_rfl) rfl) _ 0 (Nat.zero_le _) (by omega) w hseq
    refine ((callsIn_wide (n := 5)).1 cS).mono fun e w' ⟨v, ss, he, hs, _, hn, hb⟩ => ⟨by rw [he, hn.2 hs], hb⟩

theorem nat93 (args : Array Value) (w : World) : (callFunc 93 args).run Tryz.prog w = ((fun args => Extern.ReflectliteValue.unpack (args.getD 0 (.tuple #[]))) args >>= fun v => (Pure.pure (.value v) : Sem Next)).run Tryz.prog w := by kernel_rfl
theorem nat94 (args : Array Value) (w : World) : (callFunc 94 args).run Tryz.prog w = ((Extern.ReflectliteValue.methodAny (Extern.ReflectliteValue.valueError "reflectlite.Value.Type" 0) fun t _ _ _ => Extern.ReflectliteType.toType t) args >>= fun v => (Pure.pure (.value v) : Sem Next)).run Tryz.prog w := by kernel_rfl
theorem nat95 (args : Array Value) (w : World) : (callFunc 95 args).run Tryz.prog w = ((Extern.ReflectliteValue.method (Extern.ReflectliteValue.valueError "reflectlite.Value.IsNil" 0) Extern.ReflectliteValue.isNil) args >>= fun v => (Pure.pure (.value v) : Sem Next)).run Tryz.prog w := by kernel_rfl
theorem nat150 (args : Array Value) (w : World) : (callFunc 150 args).run Tryz.prog w = ((Extern.ReflectliteValue.method (Extern.ReflectliteValue.valueError "reflectlite.Value.Elem" 0) Extern.ReflectliteValue.elem) args >>= fun v => (Pure.pure (.value v) : Sem Next)).run Tryz.prog w := by kernel_rfl
theorem nat151 (args : Array Value) (w : World) : (callFunc 151 args).run Tryz.prog w = ((Extern.ReflectliteValue.set) args >>= fun v => (Pure.pure (.value v) : Sem Next)).run Tryz.prog w := by kernel_rfl
theorem nat149 (args : Array Value) (w : World) : (callFunc 149 args).run Tryz.prog w = ((Extern.ReflectliteType.typeOf) args >>= fun v => (Pure.pure (.value v) : Sem Next)).run Tryz.prog w := by kernel_rfl
theorem nat478 (args : Array Value) (w : World) : (callFunc 478 args).run Tryz.prog w = ((Extern.ReflectliteType.method Extern.ReflectliteType.elem) args >>= fun v => (Pure.pure (.value v) : Sem Next)).run Tryz.prog w := by kernel_rfl
theorem nat479 (args : Array Value) (w : World) : (callFunc 479 args).run Tryz.prog w = ((Extern.ReflectliteType.relation "Implements" Extern.ReflectliteType.implements_) args >>= fun v => (Pure.pure (.value v) : Sem Next)).run Tryz.prog w := by kernel_rfl
theorem nat476 (args : Array Value) (w : World) : (callFunc 476 args).run Tryz.prog w = ((Extern.ReflectliteType.relation "AssignableTo" Extern.ReflectliteType.assignableTo) args >>= fun v => (Pure.pure (.value v) : Sem Next)).run Tryz.prog w := by kernel_rfl
theorem nat453 (args : Array Value) (w : World) : (callFunc 453 args).run Tryz.prog w = ((Extern.ReflectliteType.abiMethod fun t => (fun a : Nat => Value.int IntKind.u8 (a : Int)) <$> Extern.Rtype.kind t) args >>= fun v => (Pure.pure (.value v) : Sem Next)).run Tryz.prog w := by kernel_rfl
theorem nat153 (args : Array Value) (w : World) : (callFunc 153 args).run Tryz.prog w = ((Extern.SlicesOverlaps.overlaps #[130, 130] #[4]) args >>= fun v => (Pure.pure (.value v) : Sem Next)).run Tryz.prog w := by kernel_rfl
theorem nat319 (args : Array Value) (w : World) : (callFunc 319 args).run Tryz.prog w = ((Extern.SlicesOverlaps.overlaps #[170, 170] #[4]) args >>= fun v => (Pure.pure (.value v) : Sem Next)).run Tryz.prog w := by kernel_rfl
theorem nat337 (args : Array Value) (w : World) : (callFunc 337 args).run Tryz.prog w = ((Extern.SlicesOverlaps.overlaps #[327, 327] #[4]) args >>= fun v => (Pure.pure (.value v) : Sem Next)).run Tryz.prog w := by kernel_rfl
theorem nat399 (args : Array Value) (w : World) : (callFunc 399 args).run Tryz.prog w = ((Extern.SlicesOverlaps.overlaps #[248, 248] #[4]) args >>= fun v => (Pure.pure (.value v) : Sem Next)).run Tryz.prog w := by kernel_rfl
theorem nat403 (args : Array Value) (w : World) : (callFunc 403 args).run Tryz.prog w = ((Extern.SlicesOverlaps.overlaps #[430, 430] #[4]) args >>= fun v => (Pure.pure (.value v) : Sem Next)).run Tryz.prog w := by kernel_rfl

/-- Which function is taken how (0: entered). -/
def kindOf (f : FuncId) : Nat :=
  sel (Nat.beq f 93) 1 ( sel (Nat.beq f 94) 2 ( sel (Nat.beq f 95) 3 ( sel (Nat.beq f 122) 4 ( sel (Nat.beq f 149) 5 ( sel (Nat.beq f 150) 6 ( sel (Nat.beq f 151) 7 ( sel (Nat.beq f 153) 8 ( sel (Nat.beq f 174) 9 ( sel (Nat.beq f 319) 10 ( sel (Nat.beq f 337) 11 ( sel (Nat.beq f 399) 12 ( sel (Nat.beq f 403) 13 ( sel (Nat.beq f 453) 14 ( sel (Nat.beq f 476) 15 ( sel (Nat.beq f 478) 16 ( sel (Nat.beq f 479) 17 (0)))))))))))))))))
def intrRun (G : Nat) (f : FuncId) (args : List Value) (h : T AO) (n : Nat) : Out :=
  match kindOf f with
  | 1 => nValueOf Tryz.prog G args h n
  | 2 => nType Tryz.prog G args h n
  | 3 => nIsNil Tryz.prog G args h n
  | 4 => nSortedS 173 9 args h n
  | 5 => nTypeOf Tryz.prog G args h n
  | 6 => nElemV Tryz.prog G args h n
  | 7 => nSet Tryz.prog G args h n
  | 8 => nOverlaps Tryz.prog 130 args h n
  | 9 => match nSortedI 233 2 args h n with | some r => some r | none => nSortedI 242 2 args h n
  | 10 => nOverlaps Tryz.prog 170 args h n
  | 11 => nOverlaps Tryz.prog 327 args h n
  | 12 => nOverlaps Tryz.prog 248 args h n
  | 13 => nOverlaps Tryz.prog 430 args h n
  | 14 => nKind Tryz.prog G args h n
  | 15 => nRel Tryz.prog G Extern.ReflectliteType.assignableTo args h n
  | 16 => nElemT Tryz.prog G args h n
  | 17 => nRel Tryz.prog G Extern.ReflectliteType.implements_ args h n
  | _ => none

theorem kindOf_spec (f : FuncId) : (kindOf f = 1 ∧ f = 93) ∨ (kindOf f = 2 ∧ f = 94) ∨ (kindOf f = 3 ∧ f = 95) ∨ (kindOf f = 4 ∧ f = 122) ∨ (kindOf f = 5 ∧ f = 149) ∨ (kindOf f = 6 ∧ f = 150) ∨ (kindOf f = 7 ∧ f = 151) ∨ (kindOf f = 8 ∧ f = 153) ∨ (kindOf f = 9 ∧ f = 174) ∨ (kindOf f = 10 ∧ f = 319) ∨ (kindOf f = 11 ∧ f = 337) ∨ (kindOf f = 12 ∧ f = 399) ∨ (kindOf f = 13 ∧ f = 403) ∨ (kindOf f = 14 ∧ f = 453) ∨ (kindOf f = 15 ∧ f = 476) ∨ (kindOf f = 16 ∧ f = 478) ∨ (kindOf f = 17 ∧ f = 479) ∨ kindOf f = 0 := by
  unfold kindOf
  by_cases h0 : f = 93
  · subst h0; decide
  rw [beq_false h0, sel_false]
  by_cases h1 : f = 94
  · subst h1; decide
  rw [beq_false h1, sel_false]
  by_cases h2 : f = 95
  · subst h2; decide
  rw [beq_false h2, sel_false]
  by_cases h3 : f = 122
  · subst h3; decide
  rw [beq_false h3, sel_false]
  by_cases h4 : f = 149
  · subst h4; decide
  rw [beq_false h4, sel_false]
  by_cases h5 : f = 150
  · subst h5; decide
  rw [beq_false h5, sel_false]
  by_cases h6 : f = 151
  · subst h6; decide
  rw [beq_false h6, sel_false]
  by_cases h7 : f = 153
  · subst h7; decide
  rw [beq_false h7, sel_false]
  by_cases h8 : f = 174
  · subst h8; decide
  rw [beq_false h8, sel_false]
  by_cases h9 : f = 319
  · subst h9; decide
  rw [beq_false h9, sel_false]
  by_cases h10 : f = 337
  · subst h10; decide
  rw [beq_false h10, sel_false]
  by_cases h11 : f = 399
  · subst h11; decide
  rw [beq_false h11, sel_false]
  by_cases h12 : f = 403
  · subst h12; decide
  rw [beq_false h12, sel_false]
  by_cases h13 : f = 453
  · subst h13; decide
  rw [beq_false h13, sel_false]
  by_cases h14 : f = 476
  · subst h14; decide
  rw [beq_false h14, sel_false]
  by_cases h15 : f = 478
  · subst h15; decide
  rw [beq_false h15, sel_false]
  by_cases h16 : f = 479
  · subst h16; decide
  rw [beq_false h16, sel_false]
  simp

theorem nat_sound {G : Nat} {f : FuncId} {run : List Value → T AO → Nat → Out} {s : Array Value → Sem Value} (hs : NatOk Tryz.prog G run s) (hf : ∀ args w, (callFunc f args).run Tryz.prog w = (s args >>= fun v => (Pure.pure (.value v) : Sem Next)).run Tryz.prog w)
    {args : List Value} {h : T AO} {n : Nat} {v : Value} {l : List (Nat × AO)} {n' : Nat} (hr : run args h n = some (v, l, n')) {B : Nat} {w0 : World} {m : Mp} {X : Nat → Option AO} {w : World} {args' : List Value} (hG : GR m G) (hh : HR B w0 m h X n w) (ha : VRs m args args') :
    ∃ v' w', (callFunc f ⟨args'⟩).run Tryz.prog w = .ok (.value v') w' ∧ Outs Tryz.prog B w0 X m h v l n' v' w' := by
  obtain ⟨v', w', h1, h2⟩ := hs hr hG hh ha
  exact ⟨v', w', by rw [hf, Sem.run_bind, h1]; rfl, h2⟩

theorem intrRun_sound {G : Nat} {f : FuncId} {args : List Value} {h : T AO} {n : Nat} {v : Value} {l : List (Nat × AO)} {n' : Nat} (hi : intrRun G f args h n = some (v, l, n'))
    {B : Nat} {w0 : World} {m : Mp} {X : Nat → Option AO} {w : World} {args' : List Value} (hG : GR m G) (hr : HR B w0 m h X n w) (ha : VRs m args args') :
    (∃ v' w', (callFunc f ⟨args'⟩).run Tryz.prog w = .ok (.value v') w' ∧ Outs Tryz.prog B w0 X m h v l n' v' w') ∨
    ((callFunc f ⟨args'⟩).run Tryz.prog w = .ok (.enter f ⟨args'⟩) w ∧ Calls Tryz.prog f ⟨args'⟩ w fun e w' => ∃ v', e = .returned v' ∧ Outs Tryz.prog B w0 X m h v l n' v' w') := by
  unfold intrRun at hi
  rcases kindOf_spec f with ⟨h, hf⟩ | ⟨h, hf⟩ | ⟨h, hf⟩ | ⟨h, hf⟩ | ⟨h, hf⟩ | ⟨h, hf⟩ | ⟨h, hf⟩ | ⟨h, hf⟩ | ⟨h, hf⟩ | ⟨h, hf⟩ | ⟨h, hf⟩ | ⟨h, hf⟩ | ⟨h, hf⟩ | ⟨h, hf⟩ | ⟨h, hf⟩ | ⟨h, hf⟩ | ⟨h, hf⟩ | h
  · rw [h] at hi
    subst hf
    exact .inl (nat_sound nValueOf_ok nat93 hi hG hr ha)
  · rw [h] at hi
    subst hf
    exact .inl (nat_sound (nType_ok _) nat94 hi hG hr ha)
  · rw [h] at hi
    subst hf
    exact .inl (nat_sound (nIsNil_ok _) nat95 hi hG hr ha)
  · rw [h] at hi
    subst hf
    exact .inr (nSortedS_ok sorted173 hi hr ha)
  · rw [h] at hi
    subst hf
    exact .inl (nat_sound nTypeOf_ok nat149 hi hG hr ha)
  · rw [h] at hi
    subst hf
    exact .inl (nat_sound (nElemV_ok _) nat150 hi hG hr ha)
  · rw [h] at hi
    subst hf
    exact .inl (nat_sound nSet_ok nat151 hi hG hr ha)
  · rw [h] at hi
    subst hf
    exact .inl (nat_sound (nOverlaps_ok (t := 130) rfl) nat153 hi hG hr ha)
  · rw [h] at hi
    subst hf
    simp only [] at hi
    split at hi
    · rename_i r hr1
      cases hi
      exact .inr (nSortedI_ok sorted233 hr1 hr ha)
    · skip
      exact .inr (nSortedI_ok sorted242 hi hr ha)
  · rw [h] at hi
    subst hf
    exact .inl (nat_sound (nOverlaps_ok (t := 170) rfl) nat319 hi hG hr ha)
  · rw [h] at hi
    subst hf
    exact .inl (nat_sound (nOverlaps_ok (t := 327) rfl) nat337 hi hG hr ha)
  · rw [h] at hi
    subst hf
    exact .inl (nat_sound (nOverlaps_ok (t := 248) rfl) nat399 hi hG hr ha)
  · rw [h] at hi
    subst hf
    exact .inl (nat_sound (nOverlaps_ok (t := 430) rfl) nat403 hi hG hr ha)
  · rw [h] at hi
    subst hf
    exact .inl (nat_sound nKind_ok nat453 hi hG hr ha)
  · rw [h] at hi
    subst hf
    exact .inl (nat_sound (nRel_ok "AssignableTo" _) nat476 hi hG hr ha)
  · rw [h] at hi
    subst hf
    exact .inl (nat_sound nElemT_ok nat478 hi hG hr ha)
  · rw [h] at hi
    subst hf
    exact .inl (nat_sound (nRel_ok "Implements" _) nat479 hi hG hr ha)
  · rw [h] at hi; cases hi

@[reducible] def baseIntr : Intr Tryz.prog where
  run := intrRun
  sound := fun hi => fun hG hr ha => intrRun_sound hi hG hr ha

theorem mixedOrders : Tryz.prog.follows .mixedOrders = true := by kernel_rfl
/-- slices.Insert, slices.Replace. -/
def isFk (f : FuncId) : Bool := Nat.beq f 102 || Nat.beq f 258 || Nat.beq f 285 || Nat.beq f 336 || Nat.beq f 367 || Nat.beq f 370 || Nat.beq f 402
@[reducible] def intr1 : Intr Tryz.prog := forked Tryz.prog baseIntr mixedOrders 4000 isFk

theorem known4Body : (bodyOf Tryz.prog 4).isSome = true := by kernel_rfl
theorem known4Is : KnownC Tryz.prog 4 0 236 3 26 := @knownC_of Tryz.prog intr1 mixedOrders 64 20000 4 0 236 3 26 known4Body (by omega) (by omega) (by kernel_rfl)
@[reducible] def intrK4 : Intr Tryz.prog := withKnown Tryz.prog intr1 4 0 236 3 26 known4Is

def handle : Value := (.iface 236 (.agg ⟨[.pointer (some ⟨3, 26, none⟩)]⟩))

instance : Intr Tryz.prog := intrK4

end
end Go.Ex
