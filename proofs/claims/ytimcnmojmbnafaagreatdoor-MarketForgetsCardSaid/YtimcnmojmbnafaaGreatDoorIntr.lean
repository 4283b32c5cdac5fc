/- Of this program: the functions that the executor takes by contract: slices.Sorted over maps.Keys (the library's contracts, laid in YtimcnmojmbnafaaGreatDoorLay), and the model's entries for internal/reflectlite. -/
import Derived.Test.YtimcnmojmbnafaaGreatDoorEx3
import Derived.Test.YtimcnmojmbnafaaGreatDoorLay
import Derived.Test.YtimcnmojmbnafaaGreatDoorProg
import Derived.KernelRfl
namespace Go.Ex
noncomputable section
open Go.Proofs Go.RowKit Go.Maps Go.Sort Go.Shelf

theorem sorts88 (m : Nat) : AnyZ.SortsIn Tryz.prog Tryz.sorted88_ren Fence.wide m :=
  ⟨fun blk off cap ss W hH hblk hsz => callsIn_wide.2 (AnyM.slices_Sort_string Tryz.sort126 blk off cap ss W hH hblk hsz),
   fun p cap W => callsIn_wide.2 (AnyM.slices_Sort_string_none Tryz.sort126 p cap W)⟩

set_option maxHeartbeats 1000000 in
theorem sorted127 : SortedS Tryz.prog 88 127 9 9 where
  key := Tryz.underlying9
  enters := enters_of Tryz.func88 (by kernel_rfl) rfl
  gives := fun Bm b nn D0 w hBm hm hown hmax hbytes => by
    have hseq : SeqGives Fence.wide 2 Tryz.prog 127 #[.pointer (some ⟨Bm, 0, none⟩)] encStr (fun ss => ss.Perm (strKeys D0)) (Maps.size D0) w :=
      AnyZ.keys_gives (ρ := Tryz.keys89_ren) { Tryz.keys89 with } Fence.wide _ trivial rfl (by omega) Bm b nn D0 w hBm hm hown
    have cS := AnyZ.sorted_in Tryz.sorted88 Fence.wide 5 trivial trivial trivial trivial rfl (by omega) (sorts88 _) (enters_of Tryz.func126 (by kernel_rfl) rfl) 127 #[.pointer (some ⟨Bm, 0, none⟩)] trivial (enters_of Tryz.func127 (by kernel_rfl) rfl) _ _ hmax hbytes w hseq
    exact (callsIn_wide (n := 5)).1 cS

theorem sorts129 (m : Nat) : AnyZI.SortsIn Tryz.prog Tryz.sorted129_ren Fence.wide m :=
  ⟨fun blk off cap ss W hH hblk hsz => callsIn_wide.2 (AnyM.slices_Sort_int Tryz.sort174 blk off cap ss W hH hblk hsz),
   fun p cap W => callsIn_wide.2 (AnyM.slices_Sort_int_none Tryz.sort174 p cap W)⟩

set_option maxHeartbeats 1000000 in
theorem sorted175 : SortedI Tryz.prog 129 175 2 2 where
  key := Tryz.underlying2
  enters := enters_of Tryz.func129 (by kernel_rfl) rfl
  gives := fun Bm b nn D0 w hBm hm hown hmax hbytes => by
    have hseq : SeqGives Fence.wide 2 Tryz.prog 175 #[.pointer (some ⟨Bm, 0, none⟩)] encZ (fun ss => ss.Perm (intKeys D0)) (Maps.size D0) w :=
      AnyZI.keys_gives (ρ := Tryz.keys130_ren) { Tryz.keys130 with } Fence.wide _ trivial rfl (by omega) Bm b nn D0 w hBm hm hown
    have cS := AnyZI.sorted_in Tryz.sorted129 Fence.wide 5 trivial trivial trivial trivial rfl (by omega) (sorts129 _) (enters_of Tryz.func174 (by kernel_rfl) rfl) 175 #[.pointer (some ⟨Bm, 0, none⟩)] trivial (enters_of Tryz.func175 (by kernel_rfl) rfl) _ _ hmax hbytes w hseq
    exact (callsIn_wide (n := 5)).1 cS
  givesNil := fun Bm w hBm hm => by
    have hseq : SeqGives Fence.wide 2 Tryz.prog 175 #[.pointer (some ⟨Bm, 0, none⟩)] encZ (fun ss : List Int => ss = []) 0 w :=
      AnyZI.keys_gives_nil (ρ := Tryz.keys130_ren) { Tryz.keys130 with } Fence.wide _ trivial rfl Bm w hBm hm
    have cS := AnyZI.sorted_in Tryz.sorted129 Fence.wide 5 trivial trivial trivial trivial rfl (by omega) (sorts129 _) (enters_of Tryz.func174 (by kernel_rfl) rfl) 175 #[.pointer (some ⟨Bm, 0, none⟩)] trivial (enters_of Tryz.func175 (by kernel_rfl) rfl) _ 0 (Nat.zero_le _) (by omega) w hseq
    refine ((callsIn_wide (n := 5)).1 cS).mono fun e w' ⟨v, ss, he, hs, _, hn, hb⟩ => ⟨by rw [he, hn.2 hs], hb⟩

set_option maxHeartbeats 1000000 in
theorem sorted240 : SortedI Tryz.prog 129 240 2 2 where
  key := Tryz.underlying2
  enters := enters_of Tryz.func129 (by kernel_rfl) rfl
  gives := fun Bm b nn D0 w hBm hm hown hmax hbytes => by
    have hseq : SeqGives Fence.wide 2 Tryz.prog 240 #[.pointer (some ⟨Bm, 0, none⟩)] encZ (fun ss => ss.Perm (intKeys D0)) (Maps.size D0) w :=
      AnyZI.keys_gives (ρ := Tryz.keys172_ren) { Tryz.keys172 with } Fence.wide _ trivial rfl (by omega) Bm b nn D0 w hBm hm hown
    have cS := AnyZI.sorted_in Tryz.sorted129 Fence.wide 5 trivial trivial trivial trivial rfl (by omega) (sorts129 _) (enters_of Tryz.func174 (by kernel_rfl) rfl) 240 #[.pointer (some ⟨Bm, 0, none⟩)] trivial (enters_of Tryz.func240 (by kernel_rfl) rfl) _ _ hmax hbytes w hseq
    exact (callsIn_wide (n := 5)).1 cS
  givesNil := fun Bm w hBm hm => by
    have hseq : SeqGives Fence.wide 2 Tryz.prog 240 #[.pointer (some ⟨Bm, 0, none⟩)] encZ (fun ss : List Int => ss = []) 0 w :=
      AnyZI.keys_gives_nil (ρ := Tryz.keys172_ren) { Tryz.keys172 with } Fence.wide _ trivial rfl Bm w hBm hm
    have cS := AnyZI.sorted_in Tryz.sorted129 Fence.wide 5 trivial trivial trivial trivial rfl (by omega) (sorts129 _) (enters_of Tryz.func174 (by kernel_rfl) rfl) 240 #[.pointer (some ⟨Bm, 0, none⟩)] trivial (enters_of Tryz.func240 (by kernel_rfl) rfl) _ 0 (Nat.zero_le _) (by omega) w hseq
    refine ((callsIn_wide (n := 5)).1 cS).mono fun e w' ⟨v, ss, he, hs, _, hn, hb⟩ => ⟨by rw [he, hn.2 hs], hb⟩

theorem nat98 (args : Array Value) (w : World) : (callFunc 98 args).run Tryz.prog w = ((fun args => Extern.ReflectliteValue.unpack (args.getD 0 (.tuple #[]))) args >>= fun v => (Pure.pure (.value v) : Sem Next)).run Tryz.prog w := by kernel_rfl
theorem nat99 (args : Array Value) (w : World) : (callFunc 99 args).run Tryz.prog w = ((Extern.ReflectliteValue.methodAny (Extern.ReflectliteValue.valueError "reflectlite.Value.Type" 0) fun t _ _ _ => Extern.ReflectliteType.toType t) args >>= fun v => (Pure.pure (.value v) : Sem Next)).run Tryz.prog w := by kernel_rfl
theorem nat100 (args : Array Value) (w : World) : (callFunc 100 args).run Tryz.prog w = ((Extern.ReflectliteValue.method (Extern.ReflectliteValue.valueError "reflectlite.Value.IsNil" 0) Extern.ReflectliteValue.isNil) args >>= fun v => (Pure.pure (.value v) : Sem Next)).run Tryz.prog w := by kernel_rfl
theorem nat138 (args : Array Value) (w : World) : (callFunc 138 args).run Tryz.prog w = ((Extern.ReflectliteValue.method (Extern.ReflectliteValue.valueError "reflectlite.Value.Elem" 0) Extern.ReflectliteValue.elem) args >>= fun v => (Pure.pure (.value v) : Sem Next)).run Tryz.prog w := by kernel_rfl
theorem nat139 (args : Array Value) (w : World) : (callFunc 139 args).run Tryz.prog w = ((Extern.ReflectliteValue.set) args >>= fun v => (Pure.pure (.value v) : Sem Next)).run Tryz.prog w := by kernel_rfl
theorem nat137 (args : Array Value) (w : World) : (callFunc 137 args).run Tryz.prog w = ((Extern.ReflectliteType.typeOf) args >>= fun v => (Pure.pure (.value v) : Sem Next)).run Tryz.prog w := by kernel_rfl
theorem nat439 (args : Array Value) (w : World) : (callFunc 439 args).run Tryz.prog w = ((Extern.ReflectliteType.method Extern.ReflectliteType.elem) args >>= fun v => (Pure.pure (.value v) : Sem Next)).run Tryz.prog w := by kernel_rfl
theorem nat440 (args : Array Value) (w : World) : (callFunc 440 args).run Tryz.prog w = ((Extern.ReflectliteType.relation "Implements" Extern.ReflectliteType.implements_) args >>= fun v => (Pure.pure (.value v) : Sem Next)).run Tryz.prog w := by kernel_rfl
theorem nat437 (args : Array Value) (w : World) : (callFunc 437 args).run Tryz.prog w = ((Extern.ReflectliteType.relation "AssignableTo" Extern.ReflectliteType.assignableTo) args >>= fun v => (Pure.pure (.value v) : Sem Next)).run Tryz.prog w := by kernel_rfl
theorem nat414 (args : Array Value) (w : World) : (callFunc 414 args).run Tryz.prog w = ((Extern.ReflectliteType.abiMethod fun t => (fun a : Nat => Value.int IntKind.u8 (a : Int)) <$> Extern.Rtype.kind t) args >>= fun v => (Pure.pure (.value v) : Sem Next)).run Tryz.prog w := by kernel_rfl
theorem nat260 (args : Array Value) (w : World) : (callFunc 260 args).run Tryz.prog w = ((Extern.SlicesOverlaps.overlaps #[210, 210] #[4]) args >>= fun v => (Pure.pure (.value v) : Sem Next)).run Tryz.prog w := by kernel_rfl
theorem nat334 (args : Array Value) (w : World) : (callFunc 334 args).run Tryz.prog w = ((Extern.SlicesOverlaps.overlaps #[331, 331] #[4]) args >>= fun v => (Pure.pure (.value v) : Sem Next)).run Tryz.prog w := by kernel_rfl
theorem nat338 (args : Array Value) (w : World) : (callFunc 338 args).run Tryz.prog w = ((Extern.SlicesOverlaps.overlaps #[371, 371] #[4]) args >>= fun v => (Pure.pure (.value v) : Sem Next)).run Tryz.prog w := by kernel_rfl
theorem nat344 (args : Array Value) (w : World) : (callFunc 344 args).run Tryz.prog w = ((Extern.SlicesOverlaps.overlaps #[389, 389] #[4]) args >>= fun v => (Pure.pure (.value v) : Sem Next)).run Tryz.prog w := by kernel_rfl

/-- Which function is taken how (0: entered). -/
def kindOf (f : FuncId) : Nat :=
  sel (Nat.beq f 88) 1 ( sel (Nat.beq f 98) 2 ( sel (Nat.beq f 99) 3 ( sel (Nat.beq f 100) 4 ( sel (Nat.beq f 129) 5 ( sel (Nat.beq f 137) 6 ( sel (Nat.beq f 138) 7 ( sel (Nat.beq f 139) 8 ( sel (Nat.beq f 260) 9 ( sel (Nat.beq f 334) 10 ( sel (Nat.beq f 338) 11 ( sel (Nat.beq f 344) 12 ( sel (Nat.beq f 414) 13 ( sel (Nat.beq f 437) 14 ( sel (Nat.beq f 439) 15 ( sel (Nat.beq f 440) 16 (0))))))))))))))))
def intrRun (G : Nat) (f : FuncId) (args : List Value) (h : T AO) (n : Nat) : Out :=
  match kindOf f with
  | 1 => nSortedS 127 9 args h n
  | 2 => nValueOf Tryz.prog G args h n
  | 3 => nType Tryz.prog G args h n
  | 4 => nIsNil Tryz.prog G args h n
  | 5 => match nSortedI 175 2 args h n with | some r => some r | none => nSortedI 240 2 args h n
  | 6 => nTypeOf Tryz.prog G args h n
  | 7 => nElemV Tryz.prog G args h n
  | 8 => nSet Tryz.prog G args h n
  | 9 => nOverlaps Tryz.prog 210 args h n
  | 10 => nOverlaps Tryz.prog 331 args h n
  | 11 => nOverlaps Tryz.prog 371 args h n
  | 12 => nOverlaps Tryz.prog 389 args h n
  | 13 => nKind Tryz.prog G args h n
  | 14 => nRel Tryz.prog G Extern.ReflectliteType.assignableTo args h n
  | 15 => nElemT Tryz.prog G args h n
  | 16 => nRel Tryz.prog G Extern.ReflectliteType.implements_ args h n
  | _ => none

theorem kindOf_spec (f : FuncId) : (kindOf f = 1 ∧ f = 88) ∨ (kindOf f = 2 ∧ f = 98) ∨ (kindOf f = 3 ∧ f = 99) ∨ (kindOf f = 4 ∧ f = 100) ∨ (kindOf f = 5 ∧ f = 129) ∨ (kindOf f = 6 ∧ f = 137) ∨ (kindOf f = 7 ∧ f = 138) ∨ (kindOf f = 8 ∧ f = 139) ∨ (kindOf f = 9 ∧ f = 260) ∨ (kindOf f = 10 ∧ f = 334) ∨ (kindOf f = 11 ∧ f = 338) ∨ (kindOf f = 12 ∧ f = 344) ∨ (kindOf f = 13 ∧ f = 414) ∨ (kindOf f = 14 ∧ f = 437) ∨ (kindOf f = 15 ∧ f = 439) ∨ (kindOf f = 16 ∧ f = 440) ∨ kindOf f = 0 := by
  unfold kindOf
  by_cases h0 : f = 88
  · subst h0; decide
  rw [beq_false h0, sel_false]
  by_cases h1 : f = 98
  · subst h1; decide
  rw [beq_false h1, sel_false]
  by_cases h2 : f = 99
  · subst h2; decide
  rw [beq_false h2, sel_false]
  by_cases h3 : f = 100
  · subst h3; decide
  rw [beq_false h3, sel_false]
  by_cases h4 : f = 129
  · subst h4; decide
  rw [beq_false h4, sel_false]
  by_cases h5 : f = 137
  · subst h5; decide
  rw [beq_false h5, sel_false]
  by_cases h6 : f = 138
  · subst h6; decide
  rw [beq_false h6, sel_false]
  by_cases h7 : f = 139
  · subst h7; decide
  rw [beq_false h7, sel_false]
  by_cases h8 : f = 260
  · subst h8; decide
  rw [beq_false h8, sel_false]
  by_cases h9 : f = 334
  · subst h9; decide
  rw [beq_false h9, sel_false]
  by_cases h10 : f = 338
  · subst h10; decide
  rw [beq_false h10, sel_false]
  by_cases h11 : f = 344
  · subst h11; decide
  rw [beq_false h11, sel_false]
  by_cases h12 : f = 414
  · subst h12; decide
  rw [beq_false h12, sel_false]
  by_cases h13 : f = 437
  · subst h13; decide
  rw [beq_false h13, sel_false]
  by_cases h14 : f = 439
  · subst h14; decide
  rw [beq_false h14, sel_false]
  by_cases h15 : f = 440
  · subst h15; decide
  rw [beq_false h15, sel_false]
  simp

theorem nat_sound {G : Nat} {f : FuncId} {run : List Value → T AO → Nat → Out} {s : Array Value → Sem Value} (hs : NatOk Tryz.prog G run s) (hf : ∀ args w, (callFunc f args).run Tryz.prog w = (s args >>= fun v => (Pure.pure (.value v) : Sem Next)).run Tryz.prog w)
    {args : List Value} {h : T AO} {n : Nat} {v : Value} {l : List (Nat × AO)} {n' : Nat} (hr : run args h n = some (v, l, n')) {B : Nat} {w0 : World} {m : Mp} {X : Nat → Option AO} {w : World} {args' : List Value} (hG : GR m G) (hh : HR B w0 m h X n w) (ha : VRs m args args') :
    ∃ v' w', (callFunc f ⟨args'⟩).run Tryz.prog w = .ok (.value v') w' ∧ Outs Tryz.prog B w0 X m h v l n' v' w' := by
  obtain ⟨v', w', h1, h2⟩ := hs hr hG hh ha
  exact ⟨v', w', by rw [hf, Sem.run_bind, h1]; rfl, h2⟩

theorem intrRun_sound {G : Nat} {f : FuncId} {args : List Value} {h : T AO} {n : Nat} {v : Value} {l : List (Nat × AO)} {n' : Nat} (hi : intrRun G f args h n = some (v, l, n'))
    {B : Nat} {w0 : World} {m : Mp} {X : Nat → Option AO} {w : World} {args' : List Value} (hG : GR m G) (hr : HR B w0 m h X n w) (ha : VRs m args args') :
    (∃ v' w', (callFunc f ⟨args'⟩).run Tryz.prog w = .ok (.value v') w' ∧ Outs Tryz.prog B w0 X m h v l n' v' w') ∨
    ((callFunc f ⟨args'⟩).run Tryz.prog w = .ok (.enter f ⟨args'⟩) w ∧ Calls Tryz.prog f ⟨args'⟩ w fun e w' => ∃ v', e = .returned v' ∧ Outs Tryz.prog B w0 X m h v l n' v' w') := by
  unfold intrRun at hi
  rcases kindOf_spec f with ⟨h, hf⟩ | ⟨h, hf⟩ | ⟨h, hf⟩ | ⟨h, hf⟩ | ⟨h, hf⟩ | ⟨h, hf⟩ | ⟨h, hf⟩ | ⟨h, hf⟩ | ⟨h, hf⟩ | ⟨h, hf⟩ | ⟨h, hf⟩ | ⟨h, hf⟩ | ⟨h, hf⟩ | ⟨h, hf⟩ | ⟨h, hf⟩ | ⟨h, hf⟩ | h
  · rw [h] at hi
    subst hf
    exact .inr (nSortedS_ok sorted127 hi hr ha)
  · rw [h] at hi
    subst hf
    exact .inl (nat_sound nValueOf_ok nat98 hi hG hr ha)
  · rw [h] at hi
    subst hf
    exact .inl (nat_sound (nType_ok _) nat99 hi hG hr ha)
  · rw [h] at hi
    subst hf
    exact .inl (nat_sound (nIsNil_ok _) nat100 hi hG hr ha)
  · rw [h] at hi
    subst hf
    simp only [] at hi
    split at hi
    · rename_i r hr1
      cases hi
      exact .inr (nSortedI_ok sorted175 hr1 hr ha)
    · skip
      exact .inr (nSortedI_ok sorted240 hi hr ha)
  · rw [h] at hi
    subst hf
    exact .inl (nat_sound nTypeOf_ok nat137 hi hG hr ha)
  · rw [h] at hi
    subst hf
    exact .inl (nat_sound (nElemV_ok _) nat138 hi hG hr ha)
  · rw [h] at hi
    subst hf
    exact .inl (nat_sound nSet_ok nat139 hi hG hr ha)
  · rw [h] at hi
    subst hf
    exact .inl (nat_sound (nOverlaps_ok (t := 210) rfl) nat260 hi hG hr ha)
  · rw [h] at hi
    subst hf
    exact .inl (nat_sound (nOverlaps_ok (t := 331) rfl) nat334 hi hG hr ha)
  · rw [h] at hi
    subst hf
    exact .inl (nat_sound (nOverlaps_ok (t := 371) rfl) nat338 hi hG hr ha)
  · rw [h] at hi
    subst hf
    exact .inl (nat_sound (nOverlaps_ok (t := 389) rfl) nat344 hi hG hr ha)
  · rw [h] at hi
    subst hf
    exact .inl (nat_sound nKind_ok nat414 hi hG hr ha)
  · rw [h] at hi
    subst hf
    exact .inl (nat_sound (nRel_ok "AssignableTo" _) nat437 hi hG hr ha)
  · rw [h] at hi
    subst hf
    exact .inl (nat_sound nElemT_ok nat439 hi hG hr ha)
  · rw [h] at hi
    subst hf
    exact .inl (nat_sound (nRel_ok "Implements" _) nat440 hi hG hr ha)
  · rw [h] at hi; cases hi

@[reducible] def baseIntr : Intr Tryz.prog where
  run := intrRun
  sound := fun hi => fun hG hr ha => intrRun_sound hi hG hr ha

theorem mixedOrders : Tryz.prog.follows .mixedOrders = true := by kernel_rfl
/-- slices.Insert, slices.Replace. -/
def isFk (f : FuncId) : Bool := Nat.beq f 203 || Nat.beq f 305 || Nat.beq f 308 || Nat.beq f 313 || Nat.beq f 337 || Nat.beq f 343
def handle : Value := (.iface 220 (.agg ⟨[.pointer (some ⟨3, 31, none⟩)]⟩))

instance : Intr Tryz.prog := forked Tryz.prog baseIntr mixedOrders 4000 isFk

end
end Go.Ex
