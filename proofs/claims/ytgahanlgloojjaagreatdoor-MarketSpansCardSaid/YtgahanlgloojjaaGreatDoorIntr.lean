/- Of this program: the functions that the executor takes by contract: slices.Sorted over maps.Keys (the library's contracts, laid in YtgahanlgloojjaaGreatDoorLay), and the model's entries for internal/reflectlite. -/
import Derived.Test.YtgahanlgloojjaaGreatDoorEx4
import Derived.Test.YtgahanlgloojjaaGreatDoorLay
import Derived.Test.YtgahanlgloojjaaGreatDoorProg
import Derived.KernelRfl
namespace Go.Ex
noncomputable section
open Go.Proofs Go.RowKit Go.Maps Go.Sort Go.Shelf

theorem sorts85 (m : Nat) : AnyZ.SortsIn Tryz.prog Tryz.sorted85_ren Fence.wide m :=
  ⟨fun blk off cap ss W hH hblk hsz => callsIn_wide.2 (AnyM.slices_Sort_string Tryz.sort131 blk off cap ss W hH hblk hsz),
   fun p cap W => callsIn_wide.2 (AnyM.slices_Sort_string_none Tryz.sort131 p cap W)⟩

set_option maxHeartbeats 1000000 in
theorem sorted132 : SortedS Tryz.prog 85 132 9 9 where
  key := Tryz.underlying9
  enters := enters_of Tryz.func85 (by kernel_rfl) rfl
  gives := fun Bm b nn D0 w hBm hm hown hmax hbytes => by
    have hseq : SeqGives Fence.wide 2 Tryz.prog 132 #[.pointer (some ⟨Bm, 0, none⟩)] encStr (fun ss => ss.Perm (strKeys D0)) (Maps.size D0) w :=
      AnyZ.keys_gives (ρ := Tryz.keys86_ren) { Tryz.keys86 with } Fence.wide _ trivial rfl (by omega) Bm b nn D0 w hBm hm hown
    have cS := AnyZ.sorted_in Tryz.sorted85 Fence.wide 5 trivial trivial trivial trivial rfl (by omega) (sorts85 _) (enters_of Tryz.func131 (by kernel_rfl) rfl) 132 #[.pointer (some ⟨Bm, 0, none⟩)] trivial (enters_of Tryz.func132 (by kernel_rfl) rfl) _ _ hmax hbytes w hseq
    exact (callsIn_wide (n := 5)).1 cS

theorem sorts134 (m : Nat) : AnyZI.SortsIn Tryz.prog Tryz.sorted134_ren Fence.wide m :=
  ⟨fun blk off cap ss W hH hblk hsz => callsIn_wide.2 (AnyM.slices_Sort_int Tryz.sort180 blk off cap ss W hH hblk hsz),
   fun p cap W => callsIn_wide.2 (AnyM.slices_Sort_int_none Tryz.sort180 p cap W)⟩

set_option maxHeartbeats 1000000 in
theorem sorted181 : SortedI Tryz.prog 134 181 2 2 where
  key := Tryz.underlying2
  enters := enters_of Tryz.func134 (by kernel_rfl) rfl
  gives := fun Bm b nn D0 w hBm hm hown hmax hbytes => by
    have hseq : SeqGives Fence.wide 2 Tryz.prog 181 #[.pointer (some ⟨Bm, 0, none⟩)] encZ (fun ss => ss.Perm (intKeys D0)) (Maps.size D0) w :=
      AnyZI.keys_gives (ρ := Tryz.keys135_ren) { Tryz.keys135 with } Fence.wide _ trivial rfl (by omega) Bm b nn D0 w hBm hm hown
    have cS := AnyZI.sorted_in Tryz.sorted134 Fence.wide 5 trivial trivial trivial trivial rfl (by omega) (sorts134 _) (enters_of Tryz.func180 (by kernel_rfl) rfl) 181 #[.pointer (some ⟨Bm, 0, none⟩)] trivial (enters_of Tryz.func181 (by kernel_rfl) rfl) _ _ hmax hbytes w hseq
    exact (callsIn_wide (n := 5)).1 cS
  givesNil := fun Bm w hBm hm => by
    have hseq : SeqGives Fence.wide 2 Tryz.prog 181 #[.pointer (some ⟨Bm, 0, none⟩)] encZ (fun ss : List Int => ss = []) 0 w :=
      AnyZI.keys_gives_nil (ρ := Tryz.keys135_ren) { Tryz.keys135 with } Fence.wide _ trivial rfl Bm w hBm hm
    have cS := AnyZI.sorted_in Tryz.sorted134 Fence.wide 5 trivial trivial trivial trivial rfl (by omega) (sorts134 _) (enters_of Tryz.func180 (by kernel_rfl) rfl) 181 #[.pointer (some ⟨Bm, 0, none⟩)] trivial (enters_of Tryz.func181 (by kernel_rfl) rfl) _ 0 (Nat.zero_le _) (by omega) w hseq
    refine ((callsIn_wide (n := 5)).1 cS).mono fun e w' ⟨v, ss, he, hs, _, hn, hb⟩ => ⟨by rw [he, hn.2 hs], hb⟩

set_option maxHeartbeats 1000000 in
theorem sorted244 : SortedI Tryz.prog 134 244 2 2 where
  key := Tryz.underlying2
  enters := enters_of Tryz.func134 (by kernel_rfl) rfl
  gives := fun Bm b nn D0 w hBm hm hown hmax hbytes => by
    have hseq : SeqGives Fence.wide 2 Tryz.prog 244 #[.pointer (some ⟨Bm, 0, none⟩)] encZ (fun ss => ss.Perm (intKeys D0)) (Maps.size D0) w :=
      AnyZI.keys_gives (ρ := Tryz.keys178_ren) { Tryz.keys178 with } Fence.wide _ trivial rfl (by omega) Bm b nn D0 w hBm hm hown
    have cS := AnyZI.sorted_in Tryz.sorted134 Fence.wide 5 trivial trivial trivial trivial rfl (by omega) (sorts134 _) (enters_of Tryz.func180 (by kernel_rfl) rfl) 244 #[.pointer (some ⟨Bm, 0, none⟩)] trivial (enters_of Tryz.func244 (by kernel_rfl) rfl) _ _ hmax hbytes w hseq
    exact (callsIn_wide (n := 5)).1 cS
  givesNil := fun Bm w hBm hm => by
    have hseq : SeqGives Fence.wide 2 Tryz.prog 244 #[.pointer (some ⟨Bm, 0, none⟩)] encZ (fun ss : List Int => ss = []) 0 w :=
      AnyZI.keys_gives_nil (ρ := Tryz.keys178_ren) { Tryz.keys178 with } Fence.wide _ trivial rfl Bm w hBm hm
    have cS := AnyZI.sorted_in Tryz.sorted134 Fence.wide 5 trivial trivial trivial trivial rfl (by omega) (sorts134 _) (enters_of Tryz.func180 (by kernel_rfl) rfl) 244 #[.pointer (some ⟨Bm, 0, none⟩)] trivial (enters_of Tryz.func244 (by kernel_rfl) rfl) _ 0 (Nat.zero_le _) (by omega) w hseq
    refine ((callsIn_wide (n := 5)).1 cS).mono fun e w' ⟨v, ss, he, hs, _, hn, hb⟩ => ⟨by rw [he, hn.2 hs], hb⟩

theorem nat97 (args : Array Value) (w : World) : (callFunc 97 args).run Tryz.prog w = ((fun args => Extern.ReflectliteValue.unpack (args.getD 0 (.tuple #[]))) args >>= fun v => (Pure.pure (.value v) : Sem Next)).run Tryz.prog w := by kernel_rfl
theorem nat98 (args : Array Value) (w : World) : (callFunc 98 args).run Tryz.prog w = ((Extern.ReflectliteValue.methodAny (Extern.ReflectliteValue.valueError "reflectlite.Value.Type" 0) fun t _ _ _ => Extern.ReflectliteType.toType t) args >>= fun v => (Pure.pure (.value v) : Sem Next)).run Tryz.prog w := by kernel_rfl
theorem nat99 (args : Array Value) (w : World) : (callFunc 99 args).run Tryz.prog w = ((Extern.ReflectliteValue.method (Extern.ReflectliteValue.valueError "reflectlite.Value.IsNil" 0) Extern.ReflectliteValue.isNil) args >>= fun v => (Pure.pure (.value v) : Sem Next)).run Tryz.prog w := by kernel_rfl
theorem nat144 (args : Array Value) (w : World) : (callFunc 144 args).run Tryz.prog w = ((Extern.ReflectliteValue.method (Extern.ReflectliteValue.valueError "reflectlite.Value.Elem" 0) Extern.ReflectliteValue.elem) args >>= fun v => (Pure.pure (.value v) : Sem Next)).run Tryz.prog w := by kernel_rfl
theorem nat145 (args : Array Value) (w : World) : (callFunc 145 args).run Tryz.prog w = ((Extern.ReflectliteValue.set) args >>= fun v => (Pure.pure (.value v) : Sem Next)).run Tryz.prog w := by kernel_rfl
theorem nat143 (args : Array Value) (w : World) : (callFunc 143 args).run Tryz.prog w = ((Extern.ReflectliteType.typeOf) args >>= fun v => (Pure.pure (.value v) : Sem Next)).run Tryz.prog w := by kernel_rfl
theorem nat443 (args : Array Value) (w : World) : (callFunc 443 args).run Tryz.prog w = ((Extern.ReflectliteType.method Extern.ReflectliteType.elem) args >>= fun v => (Pure.pure (.value v) : Sem Next)).run Tryz.prog w := by kernel_rfl
theorem nat444 (args : Array Value) (w : World) : (callFunc 444 args).run Tryz.prog w = ((Extern.ReflectliteType.relation "Implements" Extern.ReflectliteType.implements_) args >>= fun v => (Pure.pure (.value v) : Sem Next)).run Tryz.prog w := by kernel_rfl
theorem nat441 (args : Array Value) (w : World) : (callFunc 441 args).run Tryz.prog w = ((Extern.ReflectliteType.relation "AssignableTo" Extern.ReflectliteType.assignableTo) args >>= fun v => (Pure.pure (.value v) : Sem Next)).run Tryz.prog w := by kernel_rfl
theorem nat417 (args : Array Value) (w : World) : (callFunc 417 args).run Tryz.prog w = ((Extern.ReflectliteType.abiMethod fun t => (fun a : Nat => Value.int IntKind.u8 (a : Int)) <$> Extern.Rtype.kind t) args >>= fun v => (Pure.pure (.value v) : Sem Next)).run Tryz.prog w := by kernel_rfl
theorem nat263 (args : Array Value) (w : World) : (callFunc 263 args).run Tryz.prog w = ((Extern.SlicesOverlaps.overlaps #[215, 215] #[4]) args >>= fun v => (Pure.pure (.value v) : Sem Next)).run Tryz.prog w := by kernel_rfl
theorem nat337 (args : Array Value) (w : World) : (callFunc 337 args).run Tryz.prog w = ((Extern.SlicesOverlaps.overlaps #[334, 334] #[4]) args >>= fun v => (Pure.pure (.value v) : Sem Next)).run Tryz.prog w := by kernel_rfl
theorem nat341 (args : Array Value) (w : World) : (callFunc 341 args).run Tryz.prog w = ((Extern.SlicesOverlaps.overlaps #[373, 373] #[4]) args >>= fun v => (Pure.pure (.value v) : Sem Next)).run Tryz.prog w := by kernel_rfl
theorem nat347 (args : Array Value) (w : World) : (callFunc 347 args).run Tryz.prog w = ((Extern.SlicesOverlaps.overlaps #[391, 391] #[4]) args >>= fun v => (Pure.pure (.value v) : Sem Next)).run Tryz.prog w := by kernel_rfl

/-- Which function is taken how (0: entered). -/
def kindOf (f : FuncId) : Nat :=
  sel (Nat.beq f 85) 1 ( sel (Nat.beq f 97) 2 ( sel (Nat.beq f 98) 3 ( sel (Nat.beq f 99) 4 ( sel (Nat.beq f 134) 5 ( sel (Nat.beq f 143) 6 ( sel (Nat.beq f 144) 7 ( sel (Nat.beq f 145) 8 ( sel (Nat.beq f 263) 9 ( sel (Nat.beq f 337) 10 ( sel (Nat.beq f 341) 11 ( sel (Nat.beq f 347) 12 ( sel (Nat.beq f 417) 13 ( sel (Nat.beq f 441) 14 ( sel (Nat.beq f 443) 15 ( sel (Nat.beq f 444) 16 (0))))))))))))))))
def intrRun (G : Nat) (f : FuncId) (args : List Value) (h : T AO) (n : Nat) : Out :=
  match kindOf f with
  | 1 => nSortedS 132 9 args h n
  | 2 => nValueOf Tryz.prog G args h n
  | 3 => nType Tryz.prog G args h n
  | 4 => nIsNil Tryz.prog G args h n
  | 5 => match nSortedI 181 2 args h n with | some r => some r | none => nSortedI 244 2 args h n
  | 6 => nTypeOf Tryz.prog G args h n
  | 7 => nElemV Tryz.prog G args h n
  | 8 => nSet Tryz.prog G args h n
  | 9 => nOverlaps Tryz.prog 215 args h n
  | 10 => nOverlaps Tryz.prog 334 args h n
  | 11 => nOverlaps Tryz.prog 373 args h n
  | 12 => nOverlaps Tryz.prog 391 args h n
  | 13 => nKind Tryz.prog G args h n
  | 14 => nRel Tryz.prog G Extern.ReflectliteType.assignableTo args h n
  | 15 => nElemT Tryz.prog G args h n
  | 16 => nRel Tryz.prog G Extern.ReflectliteType.implements_ args h n
  | _ => none

theorem kindOf_spec (f : FuncId) : (kindOf f = 1 ∧ f = 85) ∨ (kindOf f = 2 ∧ f = 97) ∨ (kindOf f = 3 ∧ f = 98) ∨ (kindOf f = 4 ∧ f = 99) ∨ (kindOf f = 5 ∧ f = 134) ∨ (kindOf f = 6 ∧ f = 143) ∨ (kindOf f = 7 ∧ f = 144) ∨ (kindOf f = 8 ∧ f = 145) ∨ (kindOf f = 9 ∧ f = 263) ∨ (kindOf f = 10 ∧ f = 337) ∨ (kindOf f = 11 ∧ f = 341) ∨ (kindOf f = 12 ∧ f = 347) ∨ (kindOf f = 13 ∧ f = 417) ∨ (kindOf f = 14 ∧ f = 441) ∨ (kindOf f = 15 ∧ f = 443) ∨ (kindOf f = 16 ∧ f = 444) ∨ kindOf f = 0 := by
  unfold kindOf
  by_cases h0 : f = 85
  · subst h0; decide
  rw [beq_false h0, sel_false]
  by_cases h1 : f = 97
  · subst h1; decide
  rw [beq_false h1, sel_false]
  by_cases h2 : f = 98
  · subst h2; decide
  rw [beq_false h2, sel_false]
  by_cases h3 : f = 99
  · subst h3; decide
  rw [beq_false h3, sel_false]
  by_cases h4 : f = 134
  · subst h4; decide
  rw [beq_false h4, sel_false]
  by_cases h5 : f = 143
  · subst h5; decide
  rw [beq_false h5, sel_false]
  by_cases h6 : f = 144
  · subst h6; decide
  rw [beq_false h6, sel_false]
  by_cases h7 : f = 145
  · subst h7; decide
  rw [beq_false h7, sel_false]
  by_cases h8 : f = 263
  · subst h8; decide
  rw [beq_false h8, sel_false]
  by_cases h9 : f = 337
  · subst h9; decide
  rw [beq_false h9, sel_false]
  by_cases h10 : f = 341
  · subst h10; decide
  rw [beq_false h10, sel_false]
  by_cases h11 : f = 347
  · subst h11; decide
  rw [beq_false h11, sel_false]
  by_cases h12 : f = 417
  · subst h12; decide
  rw [beq_false h12, sel_false]
  by_cases h13 : f = 441
  · subst h13; decide
  rw [beq_false h13, sel_false]
  by_cases h14 : f = 443
  · subst h14; decide
  rw [beq_false h14, sel_false]
  by_cases h15 : f = 444
  · subst h15; decide
  rw [beq_false h15, sel_false]
  simp

theorem nat_sound {G : Nat} {f : FuncId} {run : List Value → T AO → Nat → Out} {s : Array Value → Sem Value} (hs : NatOk Tryz.prog G run s) (hf : ∀ args w, (callFunc f args).run Tryz.prog w = (s args >>= fun v => (Pure.pure (.value v) : Sem Next)).run Tryz.prog w)
    {args : List Value} {h : T AO} {n : Nat} {v : Value} {l : List (Nat × AO)} {n' : Nat} (hr : run args h n = some (v, l, n')) {B : Nat} {w0 : World} {m : Mp} {X : Nat → Option AO} {w : World} {args' : List Value} (hG : GR m G) (hh : HR B w0 m h X n w) (ha : VRs m args args') :
    ∃ v' w', (callFunc f ⟨args'⟩).run Tryz.prog w = .ok (.value v') w' ∧ Outs Tryz.prog B w0 X m h v l n' v' w' := by
  obtain ⟨v', w', h1, h2⟩ := hs hr hG hh ha
  exact ⟨v', w', by rw [hf, Sem.run_bind, h1]; rfl, h2⟩

theorem intrRun_sound {G : Nat} {f : FuncId} {args : List Value} {h : T AO} {n : Nat} {v : Value} {l : List (Nat × AO)} {n' : Nat} (hi : intrRun G f args h n = some (v, l, n'))
    {B : Nat} {w0 : World} {m : Mp} {X : Nat → Option AO} {w : World} {args' : List Value} (hG : GR m G) (hr : HR B w0 m h X n w) (ha : VRs m args args') :
    (∃ v' w', (callFunc f ⟨args'⟩).run Tryz.prog w = .ok (.value v') w' ∧ Outs Tryz.prog B w0 X m h v l n' v' w') ∨
    ((callFunc f ⟨args'⟩).run Tryz.prog w = .ok (.enter f ⟨args'⟩) w ∧ Calls Tryz.prog f ⟨args'⟩ w fun e w' => ∃ v', e = .returned v' ∧ Outs Tryz.prog B w0 X m h v l n' v' w') := by
  unfold intrRun at hi
  rcases kindOf_spec f with ⟨h, hf⟩ | ⟨h, hf⟩ | ⟨h, hf⟩ | ⟨h, hf⟩ | ⟨h, hf⟩ | ⟨h, hf⟩ | ⟨h, hf⟩ | ⟨h, hf⟩ | ⟨h, hf⟩ | ⟨h, hf⟩ | ⟨h, hf⟩ | ⟨h, hf⟩ | ⟨h, hf⟩ | ⟨h, hf⟩ | ⟨h, hf⟩ | ⟨h, hf⟩ | h
  · rw [h] at hi
    subst hf
    exact .inr (nSortedS_ok sorted132 hi hr ha)
  · rw [h] at hi
    subst hf
    exact .inl (nat_sound nValueOf_ok nat97 hi hG hr ha)
  · rw [h] at hi
    subst hf
    exact .inl (nat_sound (nType_ok _) nat98 hi hG hr ha)
  · rw [h] at hi
    subst hf
    exact .inl (nat_sound (nIsNil_ok _) nat99 hi hG hr ha)
  · rw [h] at hi
    subst hf
    simp only [] at hi
    split at hi
    · rename_i r hr1
      cases hi
      exact .inr (nSortedI_ok sorted181 hr1 hr ha)
    · skip
      exact .inr (nSortedI_ok sorted244 hi hr ha)
  · rw [h] at hi
    subst hf
    exact .inl (nat_sound nTypeOf_ok nat143 hi hG hr ha)
  · rw [h] at hi
    subst hf
    exact .inl (nat_sound (nElemV_ok _) nat144 hi hG hr ha)
  · rw [h] at hi
    subst hf
    exact .inl (nat_sound nSet_ok nat145 hi hG hr ha)
  · rw [h] at hi
    subst hf
    exact .inl (nat_sound (nOverlaps_ok (t := 215) rfl) nat263 hi hG hr ha)
  · rw [h] at hi
    subst hf
    exact .inl (nat_sound (nOverlaps_ok (t := 334) rfl) nat337 hi hG hr ha)
  · rw [h] at hi
    subst hf
    exact .inl (nat_sound (nOverlaps_ok (t := 373) rfl) nat341 hi hG hr ha)
  · rw [h] at hi
    subst hf
    exact .inl (nat_sound (nOverlaps_ok (t := 391) rfl) nat347 hi hG hr ha)
  · rw [h] at hi
    subst hf
    exact .inl (nat_sound nKind_ok nat417 hi hG hr ha)
  · rw [h] at hi
    subst hf
    exact .inl (nat_sound (nRel_ok "AssignableTo" _) nat441 hi hG hr ha)
  · rw [h] at hi
    subst hf
    exact .inl (nat_sound nElemT_ok nat443 hi hG hr ha)
  · rw [h] at hi
    subst hf
    exact .inl (nat_sound (nRel_ok "Implements" _) nat444 hi hG hr ha)
  · rw [h] at hi; cases hi

@[reducible] def baseIntr : Intr Tryz.prog where
  run := intrRun
  sound := fun hi => fun hG hr ha => intrRun_sound hi hG hr ha

theorem mixedOrders : Tryz.prog.follows .mixedOrders = true := by kernel_rfl
/-- slices.Insert, slices.Replace. -/
def isFk (f : FuncId) : Bool := Nat.beq f 207 || Nat.beq f 308 || Nat.beq f 311 || Nat.beq f 316 || Nat.beq f 340 || Nat.beq f 346
@[reducible] def intr1 : Intr Tryz.prog := forked Tryz.prog baseIntr mixedOrders 4000 isFk

theorem known4Body : (bodyOf Tryz.prog 4).isSome = true := by kernel_rfl
theorem known4Is : KnownC Tryz.prog 4 0 225 3 29 := @knownC_of Tryz.prog intr1 mixedOrders 64 20000 4 0 225 3 29 known4Body (by omega) (by omega) (by kernel_rfl)
@[reducible] def intrK4 : Intr Tryz.prog := withKnown Tryz.prog intr1 4 0 225 3 29 known4Is

def handle : Value := (.iface 225 (.agg ⟨[.pointer (some ⟨3, 29, none⟩)]⟩))

instance : Intr Tryz.prog := intrK4

end
end Go.Ex
