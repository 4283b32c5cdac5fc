/- Of this program: the functions that the executor takes by contract: slices.Sorted over maps.Keys (the library's contracts, laid in YtihifldpknpjhaaGreatDoorLay), and the model's entries for internal/reflectlite. -/
import Derived.Test.YtihifldpknpjhaaGreatDoorEx4
import Derived.Test.YtihifldpknpjhaaGreatDoorProg
import Derived.KernelRfl
namespace Go.Ex
noncomputable section
open Go.Proofs Go.RowKit Go.Maps Go.Sort

theorem nat47 (args : Array Value) (w : World) : (callFunc 47 args).run Tryz.prog w = ((fun args => Extern.ReflectliteValue.unpack (args.getD 0 (.tuple #[]))) args >>= fun v => (Pure.pure (.value v) : Sem Next)).run Tryz.prog w := by kernel_rfl
theorem nat48 (args : Array Value) (w : World) : (callFunc 48 args).run Tryz.prog w = ((Extern.ReflectliteValue.methodAny (Extern.ReflectliteValue.valueError "reflectlite.Value.Type" 0) fun t _ _ _ => Extern.ReflectliteType.toType t) args >>= fun v => (Pure.pure (.value v) : Sem Next)).run Tryz.prog w := by kernel_rfl
theorem nat49 (args : Array Value) (w : World) : (callFunc 49 args).run Tryz.prog w = ((Extern.ReflectliteValue.method (Extern.ReflectliteValue.valueError "reflectlite.Value.IsNil" 0) Extern.ReflectliteValue.isNil) args >>= fun v => (Pure.pure (.value v) : Sem Next)).run Tryz.prog w := by kernel_rfl
theorem nat79 (args : Array Value) (w : World) : (callFunc 79 args).run Tryz.prog w = ((Extern.ReflectliteValue.method (Extern.ReflectliteValue.valueError "reflectlite.Value.Elem" 0) Extern.ReflectliteValue.elem) args >>= fun v => (Pure.pure (.value v) : Sem Next)).run Tryz.prog w := by kernel_rfl
theorem nat80 (args : Array Value) (w : World) : (callFunc 80 args).run Tryz.prog w = ((Extern.ReflectliteValue.set) args >>= fun v => (Pure.pure (.value v) : Sem Next)).run Tryz.prog w := by kernel_rfl
theorem nat78 (args : Array Value) (w : World) : (callFunc 78 args).run Tryz.prog w = ((Extern.ReflectliteType.typeOf) args >>= fun v => (Pure.pure (.value v) : Sem Next)).run Tryz.prog w := by kernel_rfl
theorem nat299 (args : Array Value) (w : World) : (callFunc 299 args).run Tryz.prog w = ((Extern.ReflectliteType.method Extern.ReflectliteType.elem) args >>= fun v => (Pure.pure (.value v) : Sem Next)).run Tryz.prog w := by kernel_rfl
theorem nat300 (args : Array Value) (w : World) : (callFunc 300 args).run Tryz.prog w = ((Extern.ReflectliteType.relation "Implements" Extern.ReflectliteType.implements_) args >>= fun v => (Pure.pure (.value v) : Sem Next)).run Tryz.prog w := by kernel_rfl
theorem nat297 (args : Array Value) (w : World) : (callFunc 297 args).run Tryz.prog w = ((Extern.ReflectliteType.relation "AssignableTo" Extern.ReflectliteType.assignableTo) args >>= fun v => (Pure.pure (.value v) : Sem Next)).run Tryz.prog w := by kernel_rfl
theorem nat277 (args : Array Value) (w : World) : (callFunc 277 args).run Tryz.prog w = ((Extern.ReflectliteType.abiMethod fun t => (fun a : Nat => Value.int IntKind.u8 (a : Int)) <$> Extern.Rtype.kind t) args >>= fun v => (Pure.pure (.value v) : Sem Next)).run Tryz.prog w := by kernel_rfl
theorem nat139 (args : Array Value) (w : World) : (callFunc 139 args).run Tryz.prog w = ((Extern.SlicesOverlaps.overlaps #[32, 32] #[4]) args >>= fun v => (Pure.pure (.value v) : Sem Next)).run Tryz.prog w := by kernel_rfl
theorem nat193 (args : Array Value) (w : World) : (callFunc 193 args).run Tryz.prog w = ((Extern.SlicesOverlaps.overlaps #[241, 241] #[4]) args >>= fun v => (Pure.pure (.value v) : Sem Next)).run Tryz.prog w := by kernel_rfl
theorem nat197 (args : Array Value) (w : World) : (callFunc 197 args).run Tryz.prog w = ((Extern.SlicesOverlaps.overlaps #[255, 255] #[4]) args >>= fun v => (Pure.pure (.value v) : Sem Next)).run Tryz.prog w := by kernel_rfl
theorem nat203 (args : Array Value) (w : World) : (callFunc 203 args).run Tryz.prog w = ((Extern.SlicesOverlaps.overlaps #[270, 270] #[4]) args >>= fun v => (Pure.pure (.value v) : Sem Next)).run Tryz.prog w := by kernel_rfl

/-- Which function is taken how (0: entered). -/
def kindOf (f : FuncId) : Nat :=
  sel (Nat.beq f 47) 1 ( sel (Nat.beq f 48) 2 ( sel (Nat.beq f 49) 3 ( sel (Nat.beq f 78) 4 ( sel (Nat.beq f 79) 5 ( sel (Nat.beq f 80) 6 ( sel (Nat.beq f 139) 7 ( sel (Nat.beq f 193) 8 ( sel (Nat.beq f 197) 9 ( sel (Nat.beq f 203) 10 ( sel (Nat.beq f 277) 11 ( sel (Nat.beq f 297) 12 ( sel (Nat.beq f 299) 13 ( sel (Nat.beq f 300) 14 (0))))))))))))))
def intrRun (G : Nat) (f : FuncId) (args : List Value) (h : T AO) (n : Nat) : Out :=
  match kindOf f with
  | 1 => nValueOf Tryz.prog G args h n
  | 2 => nType Tryz.prog G args h n
  | 3 => nIsNil Tryz.prog G args h n
  | 4 => nTypeOf Tryz.prog G args h n
  | 5 => nElemV Tryz.prog G args h n
  | 6 => nSet Tryz.prog G args h n
  | 7 => nOverlaps Tryz.prog 32 args h n
  | 8 => nOverlaps Tryz.prog 241 args h n
  | 9 => nOverlaps Tryz.prog 255 args h n
  | 10 => nOverlaps Tryz.prog 270 args h n
  | 11 => nKind Tryz.prog G args h n
  | 12 => nRel Tryz.prog G Extern.ReflectliteType.assignableTo args h n
  | 13 => nElemT Tryz.prog G args h n
  | 14 => nRel Tryz.prog G Extern.ReflectliteType.implements_ args h n
  | _ => none

theorem kindOf_spec (f : FuncId) : (kindOf f = 1 ∧ f = 47) ∨ (kindOf f = 2 ∧ f = 48) ∨ (kindOf f = 3 ∧ f = 49) ∨ (kindOf f = 4 ∧ f = 78) ∨ (kindOf f = 5 ∧ f = 79) ∨ (kindOf f = 6 ∧ f = 80) ∨ (kindOf f = 7 ∧ f = 139) ∨ (kindOf f = 8 ∧ f = 193) ∨ (kindOf f = 9 ∧ f = 197) ∨ (kindOf f = 10 ∧ f = 203) ∨ (kindOf f = 11 ∧ f = 277) ∨ (kindOf f = 12 ∧ f = 297) ∨ (kindOf f = 13 ∧ f = 299) ∨ (kindOf f = 14 ∧ f = 300) ∨ kindOf f = 0 := by
  unfold kindOf
  by_cases h0 : f = 47
  · subst h0; decide
  rw [beq_false h0, sel_false]
  by_cases h1 : f = 48
  · subst h1; decide
  rw [beq_false h1, sel_false]
  by_cases h2 : f = 49
  · subst h2; decide
  rw [beq_false h2, sel_false]
  by_cases h3 : f = 78
  · subst h3; decide
  rw [beq_false h3, sel_false]
  by_cases h4 : f = 79
  · subst h4; decide
  rw [beq_false h4, sel_false]
  by_cases h5 : f = 80
  · subst h5; decide
  rw [beq_false h5, sel_false]
  by_cases h6 : f = 139
  · subst h6; decide
  rw [beq_false h6, sel_false]
  by_cases h7 : f = 193
  · subst h7; decide
  rw [beq_false h7, sel_false]
  by_cases h8 : f = 197
  · subst h8; decide
  rw [beq_false h8, sel_false]
  by_cases h9 : f = 203
  · subst h9; decide
  rw [beq_false h9, sel_false]
  by_cases h10 : f = 277
  · subst h10; decide
  rw [beq_false h10, sel_false]
  by_cases h11 : f = 297
  · subst h11; decide
  rw [beq_false h11, sel_false]
  by_cases h12 : f = 299
  · subst h12; decide
  rw [beq_false h12, sel_false]
  by_cases h13 : f = 300
  · subst h13; decide
  rw [beq_false h13, sel_false]
  simp

theorem nat_sound {G : Nat} {f : FuncId} {run : List Value → T AO → Nat → Out} {s : Array Value → Sem Value} (hs : NatOk Tryz.prog G run s) (hf : ∀ args w, (callFunc f args).run Tryz.prog w = (s args >>= fun v => (Pure.pure (.value v) : Sem Next)).run Tryz.prog w)
    {args : List Value} {h : T AO} {n : Nat} {v : Value} {l : List (Nat × AO)} {n' : Nat} (hr : run args h n = some (v, l, n')) {B : Bd} {w0 : World} {m : Mp} {X : Nat → Option AO} {w : World} {args' : List Value} (hG : GR m G) (hh : HR B w0 m h X n w) (ha : VRs m args args') :
    ∃ v' w', (callFunc f ⟨args'⟩).run Tryz.prog w = .ok (.value v') w' ∧ Outs Tryz.prog B w0 X m h v l n' v' w' := by
  obtain ⟨v', w', h1, h2⟩ := hs hr hG hh ha
  exact ⟨v', w', by rw [hf, Sem.run_bind, h1]; rfl, h2⟩

theorem intrRun_sound {G : Nat} {f : FuncId} {args : List Value} {h : T AO} {n : Nat} {v : Value} {l : List (Nat × AO)} {n' : Nat} (hi : intrRun G f args h n = some (v, l, n'))
    {B : Bd} {w0 : World} {m : Mp} {X : Nat → Option AO} {w : World} {args' : List Value} (hG : GR m G) (hr : HR B w0 m h X n w) (ha : VRs m args args') :
    (∃ v' w', (callFunc f ⟨args'⟩).run Tryz.prog w = .ok (.value v') w' ∧ Outs Tryz.prog B w0 X m h v l n' v' w') ∨
    ((callFunc f ⟨args'⟩).run Tryz.prog w = .ok (.enter f ⟨args'⟩) w ∧ Calls Tryz.prog f ⟨args'⟩ w fun e w' => ∃ v', e = .returned v' ∧ Outs Tryz.prog B w0 X m h v l n' v' w') := by
  unfold intrRun at hi
  rcases kindOf_spec f with ⟨h, hf⟩ | ⟨h, hf⟩ | ⟨h, hf⟩ | ⟨h, hf⟩ | ⟨h, hf⟩ | ⟨h, hf⟩ | ⟨h, hf⟩ | ⟨h, hf⟩ | ⟨h, hf⟩ | ⟨h, hf⟩ | ⟨h, hf⟩ | ⟨h, hf⟩ | ⟨h, hf⟩ | ⟨h, hf⟩ | h
  · rw [h] at hi
    subst hf
    exact .inl (nat_sound nValueOf_ok nat47 hi hG hr ha)
  · rw [h] at hi
    subst hf
    exact .inl (nat_sound (nType_ok _) nat48 hi hG hr ha)
  · rw [h] at hi
    subst hf
    exact .inl (nat_sound (nIsNil_ok _) nat49 hi hG hr ha)
  · rw [h] at hi
    subst hf
    exact .inl (nat_sound nTypeOf_ok nat78 hi hG hr ha)
  · rw [h] at hi
    subst hf
    exact .inl (nat_sound (nElemV_ok _) nat79 hi hG hr ha)
  · rw [h] at hi
    subst hf
    exact .inl (nat_sound nSet_ok nat80 hi hG hr ha)
  · rw [h] at hi
    subst hf
    exact .inl (nat_sound (nOverlaps_ok (t := 32) rfl) nat139 hi hG hr ha)
  · rw [h] at hi
    subst hf
    exact .inl (nat_sound (nOverlaps_ok (t := 241) rfl) nat193 hi hG hr ha)
  · rw [h] at hi
    subst hf
    exact .inl (nat_sound (nOverlaps_ok (t := 255) rfl) nat197 hi hG hr ha)
  · rw [h] at hi
    subst hf
    exact .inl (nat_sound (nOverlaps_ok (t := 270) rfl) nat203 hi hG hr ha)
  · rw [h] at hi
    subst hf
    exact .inl (nat_sound nKind_ok nat277 hi hG hr ha)
  · rw [h] at hi
    subst hf
    exact .inl (nat_sound (nRel_ok "AssignableTo" _) nat297 hi hG hr ha)
  · rw [h] at hi
    subst hf
    exact .inl (nat_sound nElemT_ok nat299 hi hG hr ha)
  · rw [h] at hi
    subst hf
    exact .inl (nat_sound (nRel_ok "Implements" _) nat300 hi hG hr ha)
  · rw [h] at hi; cases hi

@[reducible] def baseIntr : Intr Tryz.prog where
  run := intrRun
  sound := fun hi => fun hG hr ha => intrRun_sound hi hG hr ha

theorem mixedOrders : Tryz.prog.follows .mixedOrders = true := by kernel_rfl
/-- slices.Insert, slices.Replace. -/
def isFk (f : FuncId) : Bool := Nat.beq f 101 || Nat.beq f 168 || Nat.beq f 171 || Nat.beq f 176 || Nat.beq f 196 || Nat.beq f 202
@[reducible] def intr1 : Intr Tryz.prog := forked Tryz.prog baseIntr mixedOrders 4000 isFk

theorem known4Body : (bodyOf Tryz.prog 4).isSome = true := by kernel_rfl
theorem known4Is : KnownC Tryz.prog 4 0 193 3 36 := @knownC_of Tryz.prog intr1 mixedOrders 64 20000 4 0 193 3 36 known4Body (by omega) (by omega) (by kernel_rfl)
@[reducible] def intrK4 : Intr Tryz.prog := withKnown Tryz.prog intr1 4 0 193 3 36 known4Is

instance : Intr Tryz.prog := intrK4

end
end Go.Ex
