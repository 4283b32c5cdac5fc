/- Of this program: the functions that the executor takes by contract: slices.Sorted over maps.Keys (the library's contracts, laid in YtpbfiddnnpmblaaGreatDoorLay), and the model's entries for internal/reflectlite. -/
import Derived.Test.YtpbfiddnnpmblaaGreatDoorFw
import Derived.Test.YtpbfiddnnpmblaaGreatDoorLay
import Derived.Test.YtpbfiddnnpmblaaGreatDoorProg
import Derived.KernelRfl
namespace Go.Ex
noncomputable section
open Go.Proofs Go.RowKit Go.Maps Go.Sort Go.Shelf

theorem sorts152 (m : Nat) : AnyZI.SortsIn Tryz.prog Tryz.sorted152_ren Fence.wide m :=
  ⟨fun blk off cap ss W hH hblk hsz => callsIn_wide.2 (AnyM.slices_Sort_int Tryz.sort204 blk off cap ss W hH hblk hsz),
   fun p cap W => callsIn_wide.2 (AnyM.slices_Sort_int_none Tryz.sort204 p cap W)⟩

set_option maxHeartbeats 1000000 in
theorem sorted205 : SortedI Tryz.prog 152 205 2 2 where
  key := Tryz.underlying2
  enters := enters_of Tryz.func152 (by kernel_rfl) rfl
  gives := fun Bm b nn D0 w hBm hm hown hmax hbytes => by
    have hseq : SeqGives Fence.wide 2 Tryz.prog 205 #[.pointer (some ⟨Bm, 0, none⟩)] encZ (fun ss => ss.Perm (intKeys D0)) (Maps.size D0) w :=
      AnyZI.keys_gives (ρ := Tryz.keys153_ren) { Tryz.keys153 with } Fence.wide _ trivial rfl (by omega) Bm b nn D0 w hBm hm hown
    have cS := AnyZI.sorted_in Tryz.sorted152 Fence.wide 5 trivial trivial trivial trivial rfl (by omega) (sorts152 _) (enters_of Tryz.func204 (by kernel_rfl) rfl) 205 #[.pointer (some ⟨Bm, 0, none⟩)] trivial (enters_of Tryz.func205 (by kernel_rfl) rfl) _ _ hmax hbytes w hseq
    exact (callsIn_wide (n := 5)).1 cS
  givesNil := fun Bm w hBm hm => by
    have hseq : SeqGives Fence.wide 2 Tryz.prog 205 #[.pointer (some ⟨Bm, 0, none⟩)] encZ (fun ss : List Int => ss = []) 0 w :=
      AnyZI.keys_gives_nil (ρ := Tryz.keys153_ren) { Tryz.keys153 with } Fence.wide _ trivial rfl Bm w hBm hm
    have cS := AnyZI.sorted_in Tryz.sorted152 Fence.wide 5 trivial trivial trivial trivial rfl (by omega) (sorts152 _) (enters_of Tryz.func204 (by kernel_rfl) rfl) 205 #[.pointer (some ⟨Bm, 0, none⟩)] trivial (enters_of Tryz.func205 (by kernel_rfl) rfl) _ 0 (Nat.zero_le _) (by omega) w hseq
    refine ((callsIn_wide (n := 5)).1 cS).mono fun e w' ⟨v, ss, he, hs, _, hn, hb⟩ => ⟨by rw [he, hn.2 hs], hb⟩

theorem nat84 (args : Array Value) (w : World) : (callFunc 84 args).run Tryz.prog w = ((fun args => Extern.ReflectliteValue.unpack (args.getD 0 (.tuple #[]))) args >>= fun v => (Pure.pure (.value v) : Sem Next)).run Tryz.prog w := by kernel_rfl
theorem nat85 (args : Array Value) (w : World) : (callFunc 85 args).run Tryz.prog w = ((Extern.ReflectliteValue.methodAny (Extern.ReflectliteValue.valueError "reflectlite.Value.Type" 0) fun t _ _ _ => Extern.ReflectliteType.toType t) args >>= fun v => (Pure.pure (.value v) : Sem Next)).run Tryz.prog w := by kernel_rfl
theorem nat86 (args : Array Value) (w : World) : (callFunc 86 args).run Tryz.prog w = ((Extern.ReflectliteValue.method (Extern.ReflectliteValue.valueError "reflectlite.Value.IsNil" 0) Extern.ReflectliteValue.isNil) args >>= fun v => (Pure.pure (.value v) : Sem Next)).run Tryz.prog w := by kernel_rfl
theorem nat134 (args : Array Value) (w : World) : (callFunc 134 args).run Tryz.prog w = ((Extern.ReflectliteValue.method (Extern.ReflectliteValue.valueError "reflectlite.Value.Elem" 0) Extern.ReflectliteValue.elem) args >>= fun v => (Pure.pure (.value v) : Sem Next)).run Tryz.prog w := by kernel_rfl
theorem nat135 (args : Array Value) (w : World) : (callFunc 135 args).run Tryz.prog w = ((Extern.ReflectliteValue.set) args >>= fun v => (Pure.pure (.value v) : Sem Next)).run Tryz.prog w := by kernel_rfl
theorem nat133 (args : Array Value) (w : World) : (callFunc 133 args).run Tryz.prog w = ((Extern.ReflectliteType.typeOf) args >>= fun v => (Pure.pure (.value v) : Sem Next)).run Tryz.prog w := by kernel_rfl
theorem nat363 (args : Array Value) (w : World) : (callFunc 363 args).run Tryz.prog w = ((Extern.ReflectliteType.method Extern.ReflectliteType.elem) args >>= fun v => (Pure.pure (.value v) : Sem Next)).run Tryz.prog w := by kernel_rfl
theorem nat364 (args : Array Value) (w : World) : (callFunc 364 args).run Tryz.prog w = ((Extern.ReflectliteType.relation "Implements" Extern.ReflectliteType.implements_) args >>= fun v => (Pure.pure (.value v) : Sem Next)).run Tryz.prog w := by kernel_rfl
theorem nat361 (args : Array Value) (w : World) : (callFunc 361 args).run Tryz.prog w = ((Extern.ReflectliteType.relation "AssignableTo" Extern.ReflectliteType.assignableTo) args >>= fun v => (Pure.pure (.value v) : Sem Next)).run Tryz.prog w := by kernel_rfl
theorem nat335 (args : Array Value) (w : World) : (callFunc 335 args).run Tryz.prog w = ((Extern.ReflectliteType.abiMethod fun t => (fun a : Nat => Value.int IntKind.u8 (a : Int)) <$> Extern.Rtype.kind t) args >>= fun v => (Pure.pure (.value v) : Sem Next)).run Tryz.prog w := by kernel_rfl
theorem nat218 (args : Array Value) (w : World) : (callFunc 218 args).run Tryz.prog w = ((Extern.SlicesOverlaps.overlaps #[189, 189] #[4]) args >>= fun v => (Pure.pure (.value v) : Sem Next)).run Tryz.prog w := by kernel_rfl
theorem nat286 (args : Array Value) (w : World) : (callFunc 286 args).run Tryz.prog w = ((Extern.SlicesOverlaps.overlaps #[294, 294] #[4]) args >>= fun v => (Pure.pure (.value v) : Sem Next)).run Tryz.prog w := by kernel_rfl
theorem nat290 (args : Array Value) (w : World) : (callFunc 290 args).run Tryz.prog w = ((Extern.SlicesOverlaps.overlaps #[325, 325] #[4]) args >>= fun v => (Pure.pure (.value v) : Sem Next)).run Tryz.prog w := by kernel_rfl
theorem nat296 (args : Array Value) (w : World) : (callFunc 296 args).run Tryz.prog w = ((Extern.SlicesOverlaps.overlaps #[343, 343] #[4]) args >>= fun v => (Pure.pure (.value v) : Sem Next)).run Tryz.prog w := by kernel_rfl

/-- Which function is taken how (0: entered). -/
def kindOf (f : FuncId) : Nat :=
  sel (Nat.beq f 84) 1 ( sel (Nat.beq f 85) 2 ( sel (Nat.beq f 86) 3 ( sel (Nat.beq f 133) 4 ( sel (Nat.beq f 134) 5 ( sel (Nat.beq f 135) 6 ( sel (Nat.beq f 152) 7 ( sel (Nat.beq f 218) 8 ( sel (Nat.beq f 286) 9 ( sel (Nat.beq f 290) 10 ( sel (Nat.beq f 296) 11 ( sel (Nat.beq f 335) 12 ( sel (Nat.beq f 361) 13 ( sel (Nat.beq f 363) 14 ( sel (Nat.beq f 364) 15 (0)))))))))))))))
def intrRun (G : Nat) (f : FuncId) (args : List Value) (h : T AO) (n : Nat) : Out :=
  match kindOf f with
  | 1 => nValueOf Tryz.prog G args h n
  | 2 => nType Tryz.prog G args h n
  | 3 => nIsNil Tryz.prog G args h n
  | 4 => nTypeOf Tryz.prog G args h n
  | 5 => nElemV Tryz.prog G args h n
  | 6 => nSet Tryz.prog G args h n
  | 7 => nSortedI 205 2 args h n
  | 8 => nOverlaps Tryz.prog 189 args h n
  | 9 => nOverlaps Tryz.prog 294 args h n
  | 10 => nOverlaps Tryz.prog 325 args h n
  | 11 => nOverlaps Tryz.prog 343 args h n
  | 12 => nKind Tryz.prog G args h n
  | 13 => nRel Tryz.prog G Extern.ReflectliteType.assignableTo args h n
  | 14 => nElemT Tryz.prog G args h n
  | 15 => nRel Tryz.prog G Extern.ReflectliteType.implements_ args h n
  | _ => none

theorem kindOf_spec (f : FuncId) : (kindOf f = 1 ∧ f = 84) ∨ (kindOf f = 2 ∧ f = 85) ∨ (kindOf f = 3 ∧ f = 86) ∨ (kindOf f = 4 ∧ f = 133) ∨ (kindOf f = 5 ∧ f = 134) ∨ (kindOf f = 6 ∧ f = 135) ∨ (kindOf f = 7 ∧ f = 152) ∨ (kindOf f = 8 ∧ f = 218) ∨ (kindOf f = 9 ∧ f = 286) ∨ (kindOf f = 10 ∧ f = 290) ∨ (kindOf f = 11 ∧ f = 296) ∨ (kindOf f = 12 ∧ f = 335) ∨ (kindOf f = 13 ∧ f = 361) ∨ (kindOf f = 14 ∧ f = 363) ∨ (kindOf f = 15 ∧ f = 364) ∨ kindOf f = 0 := by
  unfold kindOf
  by_cases h0 : f = 84
  · subst h0; decide
  rw [beq_false h0, sel_false]
  by_cases h1 : f = 85
  · subst h1; decide
  rw [beq_false h1, sel_false]
  by_cases h2 : f = 86
  · subst h2; decide
  rw [beq_false h2, sel_false]
  by_cases h3 : f = 133
  · subst h3; decide
  rw [beq_false h3, sel_false]
  by_cases h4 : f = 134
  · subst h4; decide
  rw [beq_false h4, sel_false]
  by_cases h5 : f = 135
  · subst h5; decide
  rw [beq_false h5, sel_false]
  by_cases h6 : f = 152
  · subst h6; decide
  rw [beq_false h6, sel_false]
  by_cases h7 : f = 218
  · subst h7; decide
  rw [beq_false h7, sel_false]
  by_cases h8 : f = 286
  · subst h8; decide
  rw [beq_false h8, sel_false]
  by_cases h9 : f = 290
  · subst h9; decide
  rw [beq_false h9, sel_false]
  by_cases h10 : f = 296
  · subst h10; decide
  rw [beq_false h10, sel_false]
  by_cases h11 : f = 335
  · subst h11; decide
  rw [beq_false h11, sel_false]
  by_cases h12 : f = 361
  · subst h12; decide
  rw [beq_false h12, sel_false]
  by_cases h13 : f = 363
  · subst h13; decide
  rw [beq_false h13, sel_false]
  by_cases h14 : f = 364
  · subst h14; decide
  rw [beq_false h14, sel_false]
  simp

theorem nat_sound {G : Nat} {f : FuncId} {run : List Value → T AO → Nat → Out} {s : Array Value → Sem Value} (hs : NatOk Tryz.prog G run s) (hf : ∀ args w, (callFunc f args).run Tryz.prog w = (s args >>= fun v => (Pure.pure (.value v) : Sem Next)).run Tryz.prog w)
    {args : List Value} {h : T AO} {n : Nat} {v : Value} {l : List (Nat × AO)} {n' : Nat} (hr : run args h n = some (v, l, n')) {B : Nat} {w0 : World} {m : Mp} {X : Nat → Option AO} {w : World} {args' : List Value} (hG : GR m G) (hh : HR B w0 m h X n w) (ha : VRs m args args') :
    ∃ v' w', (callFunc f ⟨args'⟩).run Tryz.prog w = .ok (.value v') w' ∧ Outs Tryz.prog B w0 X m h v l n' v' w' := by
  obtain ⟨v', w', h1, h2⟩ := hs hr hG hh ha
  exact ⟨v', w', by rw [hf, Sem.run_bind, h1]; rfl, h2⟩

theorem intrRun_sound {G : Nat} {f : FuncId} {args : List Value} {h : T AO} {n : Nat} {v : Value} {l : List (Nat × AO)} {n' : Nat} (hi : intrRun G f args h n = some (v, l, n'))
    {B : Nat} {w0 : World} {m : Mp} {X : Nat → Option AO} {w : World} {args' : List Value} (hG : GR m G) (hr : HR B w0 m h X n w) (ha : VRs m args args') :
    (∃ v' w', (callFunc f ⟨args'⟩).run Tryz.prog w = .ok (.value v') w' ∧ Outs Tryz.prog B w0 X m h v l n' v' w') ∨
    ((callFunc f ⟨args'⟩).run Tryz.prog w = .ok (.enter f ⟨args'⟩) w ∧ Calls Tryz.prog f ⟨args'⟩ w fun e w' => ∃ v', e = .returned v' ∧ Outs Tryz.prog B w0 X m h v l n' v' w') := by
  unfold intrRun at hi
  rcases kindOf_spec f with ⟨h, hf⟩ | ⟨h, hf⟩ | ⟨h, hf⟩ | ⟨h, hf⟩ | ⟨h, hf⟩ | ⟨h, hf⟩ | ⟨h, hf⟩ | ⟨h, hf⟩ | ⟨h, hf⟩ | ⟨h, hf⟩ | ⟨h, hf⟩ | ⟨h, hf⟩ | ⟨h, hf⟩ | ⟨h, hf⟩ | ⟨h, hf⟩ | h
  · rw [h] at hi
    subst hf
    exact .inl (nat_sound nValueOf_ok nat84 hi hG hr ha)
  · rw [h] at hi
    subst hf
    exact .inl (nat_sound (nType_ok _) nat85 hi hG hr ha)
  · rw [h] at hi
    subst hf
    exact .inl (nat_sound (nIsNil_ok _) nat86 hi hG hr ha)
  · rw [h] at hi
    subst hf
    exact .inl (nat_sound nTypeOf_ok nat133 hi hG hr ha)
  · rw [h] at hi
    subst hf
    exact .inl (nat_sound (nElemV_ok _) nat134 hi hG hr ha)
  · rw [h] at hi
    subst hf
    exact .inl (nat_sound nSet_ok nat135 hi hG hr ha)
  · rw [h] at hi
    subst hf
    exact .inr (nSortedI_ok sorted205 hi hr ha)
  · rw [h] at hi
    subst hf
    exact .inl (nat_sound (nOverlaps_ok (t := 189) rfl) nat218 hi hG hr ha)
  · rw [h] at hi
    subst hf
    exact .inl (nat_sound (nOverlaps_ok (t := 294) rfl) nat286 hi hG hr ha)
  · rw [h] at hi
    subst hf
    exact .inl (nat_sound (nOverlaps_ok (t := 325) rfl) nat290 hi hG hr ha)
  · rw [h] at hi
    subst hf
    exact .inl (nat_sound (nOverlaps_ok (t := 343) rfl) nat296 hi hG hr ha)
  · rw [h] at hi
    subst hf
    exact .inl (nat_sound nKind_ok nat335 hi hG hr ha)
  · rw [h] at hi
    subst hf
    exact .inl (nat_sound (nRel_ok "AssignableTo" _) nat361 hi hG hr ha)
  · rw [h] at hi
    subst hf
    exact .inl (nat_sound nElemT_ok nat363 hi hG hr ha)
  · rw [h] at hi
    subst hf
    exact .inl (nat_sound (nRel_ok "Implements" _) nat364 hi hG hr ha)
  · rw [h] at hi; cases hi

@[reducible] def baseIntr : Intr Tryz.prog where
  run := intrRun
  sound := fun hi => fun hG hr ha => intrRun_sound hi hG hr ha

theorem mixedOrders : Tryz.prog.follows .mixedOrders = true := by kernel_rfl
/-- slices.Insert, slices.Replace. -/
def isFk (f : FuncId) : Bool := Nat.beq f 171 || Nat.beq f 254 || Nat.beq f 257 || Nat.beq f 262 || Nat.beq f 289 || Nat.beq f 295
@[reducible] def intr1 : Intr Tryz.prog := forked Tryz.prog baseIntr mixedOrders 4000 isFk

@[reducible] def intrF : Intr Tryz.prog := withFind Tryz.prog intr1 mixedOrders 4000 156 169 131 Go.Proofs.YtpbfiddnnpmblaaGreatDoor.Fw.findC

theorem known4Body : (bodyOf Tryz.prog 4).isSome = true := by kernel_rfl
theorem known4Is : KnownC Tryz.prog 4 0 225 3 34 := @knownC_of Tryz.prog intrF mixedOrders 64 20000 4 0 225 3 34 known4Body (by omega) (by omega) (by kernel_rfl)
@[reducible] def intrK4 : Intr Tryz.prog := withKnown Tryz.prog intrF 4 0 225 3 34 known4Is

def handle : Value := (.iface 225 (.agg ⟨[.pointer (some ⟨3, 34, none⟩)]⟩))

instance : Intr Tryz.prog := intrK4

end
end Go.Ex
