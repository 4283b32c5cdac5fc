/- Of this program: the functions that the executor takes by contract: slices.Sorted over maps.Keys (the library's contracts, laid in YtbhkafbpkiagbaaGreatDoorLay), and the model's entries for internal/reflectlite. -/
import Derived.Test.YtbhkafbpkiagbaaGreatDoorEx3
import Derived.Test.YtbhkafbpkiagbaaGreatDoorLay
import Derived.Test.YtbhkafbpkiagbaaGreatDoorProg
import Derived.KernelRfl
namespace Go.Ex
noncomputable section
open Go.Proofs Go.RowKit Go.Maps Go.Sort Go.Shelf

theorem sorts78 (m : Nat) : AnyZI.SortsIn Tryz.prog Tryz.sorted78_ren Fence.wide m :=
  ⟨fun blk off cap ss W hH hblk hsz => callsIn_wide.2 (AnyM.slices_Sort_int Tryz.sort100 blk off cap ss W hH hblk hsz),
   fun p cap W => callsIn_wide.2 (AnyM.slices_Sort_int_none Tryz.sort100 p cap W)⟩

set_option maxHeartbeats 1000000 in
theorem sorted101 : SortedI Tryz.prog 78 101 2 2 where
  key := Tryz.underlying2
  enters := enters_of Tryz.func78 (by kernel_rfl) rfl
  gives := fun Bm b nn D0 w hBm hm hown hmax hbytes => by
    have hseq : SeqGives Fence.wide 2 Tryz.prog 101 #[.pointer (some ⟨Bm, 0, none⟩)] encZ (fun ss => ss.Perm (intKeys D0)) (Maps.size D0) w :=
      AnyZI.keys_gives (ρ := Tryz.keys79_ren) { Tryz.keys79 with } Fence.wide _ trivial rfl (by omega) Bm b nn D0 w hBm hm hown
    have cS := AnyZI.sorted_in Tryz.sorted78 Fence.wide 5 trivial trivial trivial trivial rfl (by omega) (sorts78 _) (enters_of Tryz.func100 (by kernel_rfl) rfl) 101 #[.pointer (some ⟨Bm, 0, none⟩)] trivial (enters_of Tryz.func101 (by kernel_rfl) rfl) _ _ hmax hbytes w hseq
    exact (callsIn_wide (n := 5)).1 cS
  givesNil := fun Bm w hBm hm => by
    have hseq : SeqGives Fence.wide 2 Tryz.prog 101 #[.pointer (some ⟨Bm, 0, none⟩)] encZ (fun ss : List Int => ss = []) 0 w :=
      AnyZI.keys_gives_nil (ρ := Tryz.keys79_ren) { Tryz.keys79 with } Fence.wide _ trivial rfl Bm w hBm hm
    have cS := AnyZI.sorted_in Tryz.sorted78 Fence.wide 5 trivial trivial trivial trivial rfl (by omega) (sorts78 _) (enters_of Tryz.func100 (by kernel_rfl) rfl) 101 #[.pointer (some ⟨Bm, 0, none⟩)] trivial (enters_of Tryz.func101 (by kernel_rfl) rfl) _ 0 (Nat.zero_le _) (by omega) w hseq
    refine ((callsIn_wide (n := 5)).1 cS).mono fun e w' ⟨v, ss, he, hs, _, hn, hb⟩ => ⟨by rw [he, hn.2 hs], hb⟩

theorem nat54 (args : Array Value) (w : World) : (callFunc 54 args).run Tryz.prog w = ((fun args => Extern.ReflectliteValue.unpack (args.getD 0 (.tuple #[]))) args >>= fun v => (Pure.pure (.value v) : Sem Next)).run Tryz.prog w := by kernel_rfl
theorem nat55 (args : Array Value) (w : World) : (callFunc 55 args).run Tryz.prog w = ((Extern.ReflectliteValue.methodAny (Extern.ReflectliteValue.valueError "reflectlite.Value.Type" 0) fun t _ _ _ => Extern.ReflectliteType.toType t) args >>= fun v => (Pure.pure (.value v) : Sem Next)).run Tryz.prog w := by kernel_rfl
theorem nat56 (args : Array Value) (w : World) : (callFunc 56 args).run Tryz.prog w = ((Extern.ReflectliteValue.method (Extern.ReflectliteValue.valueError "reflectlite.Value.IsNil" 0) Extern.ReflectliteValue.isNil) args >>= fun v => (Pure.pure (.value v) : Sem Next)).run Tryz.prog w := by kernel_rfl
theorem nat88 (args : Array Value) (w : World) : (callFunc 88 args).run Tryz.prog w = ((Extern.ReflectliteValue.method (Extern.ReflectliteValue.valueError "reflectlite.Value.Elem" 0) Extern.ReflectliteValue.elem) args >>= fun v => (Pure.pure (.value v) : Sem Next)).run Tryz.prog w := by kernel_rfl
theorem nat89 (args : Array Value) (w : World) : (callFunc 89 args).run Tryz.prog w = ((Extern.ReflectliteValue.set) args >>= fun v => (Pure.pure (.value v) : Sem Next)).run Tryz.prog w := by kernel_rfl
theorem nat87 (args : Array Value) (w : World) : (callFunc 87 args).run Tryz.prog w = ((Extern.ReflectliteType.typeOf) args >>= fun v => (Pure.pure (.value v) : Sem Next)).run Tryz.prog w := by kernel_rfl
theorem nat314 (args : Array Value) (w : World) : (callFunc 314 args).run Tryz.prog w = ((Extern.ReflectliteType.method Extern.ReflectliteType.elem) args >>= fun v => (Pure.pure (.value v) : Sem Next)).run Tryz.prog w := by kernel_rfl
theorem nat315 (args : Array Value) (w : World) : (callFunc 315 args).run Tryz.prog w = ((Extern.ReflectliteType.relation "Implements" Extern.ReflectliteType.implements_) args >>= fun v => (Pure.pure (.value v) : Sem Next)).run Tryz.prog w := by kernel_rfl
theorem nat312 (args : Array Value) (w : World) : (callFunc 312 args).run Tryz.prog w = ((Extern.ReflectliteType.relation "AssignableTo" Extern.ReflectliteType.assignableTo) args >>= fun v => (Pure.pure (.value v) : Sem Next)).run Tryz.prog w := by kernel_rfl
theorem nat292 (args : Array Value) (w : World) : (callFunc 292 args).run Tryz.prog w = ((Extern.ReflectliteType.abiMethod fun t => (fun a : Nat => Value.int IntKind.u8 (a : Int)) <$> Extern.Rtype.kind t) args >>= fun v => (Pure.pure (.value v) : Sem Next)).run Tryz.prog w := by kernel_rfl
theorem nat58 (args : Array Value) (w : World) : (callFunc 58 args).run Tryz.prog w = ((Extern.SlicesOverlaps.overlaps #[47, 47] #[4]) args >>= fun v => (Pure.pure (.value v) : Sem Next)).run Tryz.prog w := by kernel_rfl
theorem nat196 (args : Array Value) (w : World) : (callFunc 196 args).run Tryz.prog w = ((Extern.SlicesOverlaps.overlaps #[167, 167] #[4]) args >>= fun v => (Pure.pure (.value v) : Sem Next)).run Tryz.prog w := by kernel_rfl
theorem nat251 (args : Array Value) (w : World) : (callFunc 251 args).run Tryz.prog w = ((Extern.SlicesOverlaps.overlaps #[285, 285] #[4]) args >>= fun v => (Pure.pure (.value v) : Sem Next)).run Tryz.prog w := by kernel_rfl
theorem nat255 (args : Array Value) (w : World) : (callFunc 255 args).run Tryz.prog w = ((Extern.SlicesOverlaps.overlaps #[311, 311] #[4]) args >>= fun v => (Pure.pure (.value v) : Sem Next)).run Tryz.prog w := by kernel_rfl
theorem nat261 (args : Array Value) (w : World) : (callFunc 261 args).run Tryz.prog w = ((Extern.SlicesOverlaps.overlaps #[325, 325] #[4]) args >>= fun v => (Pure.pure (.value v) : Sem Next)).run Tryz.prog w := by kernel_rfl

/-- Which function is taken how (0: entered). -/
def kindOf (f : FuncId) : Nat :=
  sel (Nat.beq f 54) 1 ( sel (Nat.beq f 55) 2 ( sel (Nat.beq f 56) 3 ( sel (Nat.beq f 58) 4 ( sel (Nat.beq f 78) 5 ( sel (Nat.beq f 87) 6 ( sel (Nat.beq f 88) 7 ( sel (Nat.beq f 89) 8 ( sel (Nat.beq f 196) 9 ( sel (Nat.beq f 251) 10 ( sel (Nat.beq f 255) 11 ( sel (Nat.beq f 261) 12 ( sel (Nat.beq f 292) 13 ( sel (Nat.beq f 312) 14 ( sel (Nat.beq f 314) 15 ( sel (Nat.beq f 315) 16 (0))))))))))))))))
def intrRun (G : Nat) (f : FuncId) (args : List Value) (h : T AO) (n : Nat) : Out :=
  match kindOf f with
  | 1 => nValueOf Tryz.prog G args h n
  | 2 => nType Tryz.prog G args h n
  | 3 => nIsNil Tryz.prog G args h n
  | 4 => nOverlaps Tryz.prog 47 args h n
  | 5 => nSortedI 101 2 args h n
  | 6 => nTypeOf Tryz.prog G args h n
  | 7 => nElemV Tryz.prog G args h n
  | 8 => nSet Tryz.prog G args h n
  | 9 => nOverlaps Tryz.prog 167 args h n
  | 10 => nOverlaps Tryz.prog 285 args h n
  | 11 => nOverlaps Tryz.prog 311 args h n
  | 12 => nOverlaps Tryz.prog 325 args h n
  | 13 => nKind Tryz.prog G args h n
  | 14 => nRel Tryz.prog G Extern.ReflectliteType.assignableTo args h n
  | 15 => nElemT Tryz.prog G args h n
  | 16 => nRel Tryz.prog G Extern.ReflectliteType.implements_ args h n
  | _ => none

theorem kindOf_spec (f : FuncId) : (kindOf f = 1 ∧ f = 54) ∨ (kindOf f = 2 ∧ f = 55) ∨ (kindOf f = 3 ∧ f = 56) ∨ (kindOf f = 4 ∧ f = 58) ∨ (kindOf f = 5 ∧ f = 78) ∨ (kindOf f = 6 ∧ f = 87) ∨ (kindOf f = 7 ∧ f = 88) ∨ (kindOf f = 8 ∧ f = 89) ∨ (kindOf f = 9 ∧ f = 196) ∨ (kindOf f = 10 ∧ f = 251) ∨ (kindOf f = 11 ∧ f = 255) ∨ (kindOf f = 12 ∧ f = 261) ∨ (kindOf f = 13 ∧ f = 292) ∨ (kindOf f = 14 ∧ f = 312) ∨ (kindOf f = 15 ∧ f = 314) ∨ (kindOf f = 16 ∧ f = 315) ∨ kindOf f = 0 := by
  unfold kindOf
  by_cases h0 : f = 54
  · subst h0; decide
  rw [beq_false h0, sel_false]
  by_cases h1 : f = 55
  · subst h1; decide
  rw [beq_false h1, sel_false]
  by_cases h2 : f = 56
  · subst h2; decide
  rw [beq_false h2, sel_false]
  by_cases h3 : f = 58
  · subst h3; decide
  rw [beq_false h3, sel_false]
  by_cases h4 : f = 78
  · subst h4; decide
  rw [beq_false h4, sel_false]
  by_cases h5 : f = 87
  · subst h5; decide
  rw [beq_false h5, sel_false]
  by_cases h6 : f = 88
  · subst h6; decide
  rw [beq_false h6, sel_false]
  by_cases h7 : f = 89
  · subst h7; decide
  rw [beq_false h7, sel_false]
  by_cases h8 : f = 196
  · subst h8; decide
  rw [beq_false h8, sel_false]
  by_cases h9 : f = 251
  · subst h9; decide
  rw [beq_false h9, sel_false]
  by_cases h10 : f = 255
  · subst h10; decide
  rw [beq_false h10, sel_false]
  by_cases h11 : f = 261
  · subst h11; decide
  rw [beq_false h11, sel_false]
  by_cases h12 : f = 292
  · subst h12; decide
  rw [beq_false h12, sel_false]
  by_cases h13 : f = 312
  · subst h13; decide
  rw [beq_false h13, sel_false]
  by_cases h14 : f = 314
  · subst h14; decide
  rw [beq_false h14, sel_false]
  by_cases h15 : f = 315
  · subst h15; decide
  rw [beq_false h15, sel_false]
  simp

theorem nat_sound {G : Nat} {f : FuncId} {run : List Value → T AO → Nat → Out} {s : Array Value → Sem Value} (hs : NatOk Tryz.prog G run s) (hf : ∀ args w, (callFunc f args).run Tryz.prog w = (s args >>= fun v => (Pure.pure (.value v) : Sem Next)).run Tryz.prog w)
    {args : List Value} {h : T AO} {n : Nat} {v : Value} {l : List (Nat × AO)} {n' : Nat} (hr : run args h n = some (v, l, n')) {B : Nat} {w0 : World} {m : Mp} {X : Nat → Option AO} {w : World} {args' : List Value} (hG : GR m G) (hh : HR B w0 m h X n w) (ha : VRs m args args') :
    ∃ v' w', (callFunc f ⟨args'⟩).run Tryz.prog w = .ok (.value v') w' ∧ Outs Tryz.prog B w0 X m h v l n' v' w' := by
  obtain ⟨v', w', h1, h2⟩ := hs hr hG hh ha
  exact ⟨v', w', by rw [hf, Sem.run_bind, h1]; rfl, h2⟩

theorem intrRun_sound {G : Nat} {f : FuncId} {args : List Value} {h : T AO} {n : Nat} {v : Value} {l : List (Nat × AO)} {n' : Nat} (hi : intrRun G f args h n = some (v, l, n'))
    {B : Nat} {w0 : World} {m : Mp} {X : Nat → Option AO} {w : World} {args' : List Value} (hG : GR m G) (hr : HR B w0 m h X n w) (ha : VRs m args args') :
    (∃ v' w', (callFunc f ⟨args'⟩).run Tryz.prog w = .ok (.value v') w' ∧ Outs Tryz.prog B w0 X m h v l n' v' w') ∨
    ((callFunc f ⟨args'⟩).run Tryz.prog w = .ok (.enter f ⟨args'⟩) w ∧ Calls Tryz.prog f ⟨args'⟩ w fun e w' => ∃ v', e = .returned v' ∧ Outs Tryz.prog B w0 X m h v l n' v' w') := by
  unfold intrRun at hi
  rcases kindOf_spec f with ⟨h, hf⟩ | ⟨h, hf⟩ | ⟨h, hf⟩ | ⟨h, hf⟩ | ⟨h, hf⟩ | ⟨h, hf⟩ | ⟨h, hf⟩ | ⟨h, hf⟩ | ⟨h, hf⟩ | ⟨h, hf⟩ | ⟨h, hf⟩ | ⟨h, hf⟩ | ⟨h, hf⟩ | ⟨h, hf⟩ | ⟨h, hf⟩ | ⟨h, hf⟩ | h
  · rw [h] at hi
    subst hf
    exact .inl (nat_sound nValueOf_ok nat54 hi hG hr ha)
  · rw [h] at hi
    subst hf
    exact .inl (nat_sound (nType_ok _) nat55 hi hG hr ha)
  · rw [h] at hi
    subst hf
    exact .inl (nat_sound (nIsNil_ok _) nat56 hi hG hr ha)
  · rw [h] at hi
    subst hf
    exact .inl (nat_sound (nOverlaps_ok (t := 47) rfl) nat58 hi hG hr ha)
  · rw [h] at hi
    subst hf
    exact .inr (nSortedI_ok sorted101 hi hr ha)
  · rw [h] at hi
    subst hf
    exact .inl (nat_sound nTypeOf_ok nat87 hi hG hr ha)
  · rw [h] at hi
    subst hf
    exact .inl (nat_sound (nElemV_ok _) nat88 hi hG hr ha)
  · rw [h] at hi
    subst hf
    exact .inl (nat_sound nSet_ok nat89 hi hG hr ha)
  · rw [h] at hi
    subst hf
    exact .inl (nat_sound (nOverlaps_ok (t := 167) rfl) nat196 hi hG hr ha)
  · rw [h] at hi
    subst hf
    exact .inl (nat_sound (nOverlaps_ok (t := 285) rfl) nat251 hi hG hr ha)
  · rw [h] at hi
    subst hf
    exact .inl (nat_sound (nOverlaps_ok (t := 311) rfl) nat255 hi hG hr ha)
  · rw [h] at hi
    subst hf
    exact .inl (nat_sound (nOverlaps_ok (t := 325) rfl) nat261 hi hG hr ha)
  · rw [h] at hi
    subst hf
    exact .inl (nat_sound nKind_ok nat292 hi hG hr ha)
  · rw [h] at hi
    subst hf
    exact .inl (nat_sound (nRel_ok "AssignableTo" _) nat312 hi hG hr ha)
  · rw [h] at hi
    subst hf
    exact .inl (nat_sound nElemT_ok nat314 hi hG hr ha)
  · rw [h] at hi
    subst hf
    exact .inl (nat_sound (nRel_ok "Implements" _) nat315 hi hG hr ha)
  · rw [h] at hi; cases hi

@[reducible] def baseIntr : Intr Tryz.prog where
  run := intrRun
  sound := fun hi => fun hG hr ha => intrRun_sound hi hG hr ha

theorem mixedOrders : Tryz.prog.follows .mixedOrders = true := by kernel_rfl
/-- slices.Insert, slices.Replace. -/
def isFk (f : FuncId) : Bool := Nat.beq f 32 || Nat.beq f 147 || Nat.beq f 228 || Nat.beq f 231 || Nat.beq f 236 || Nat.beq f 254 || Nat.beq f 260
def handle : Value := (.iface 184 (.agg ⟨[.pointer (some ⟨3, 40, none⟩)]⟩))

instance : Intr Tryz.prog := forked Tryz.prog baseIntr mixedOrders 4000 isFk

end
end Go.Ex
