/- Of this program: the functions that the executor takes by contract: slices.Sorted over maps.Keys (the library's contracts, laid in YtlmdgpflcfdhdaaGreatDoorLay), and the model's entries for internal/reflectlite. -/
import Derived.Test.YtlmdgpflcfdhdaaGreatDoorEx3
import Derived.Test.YtlmdgpflcfdhdaaGreatDoorLay
import Derived.Test.YtlmdgpflcfdhdaaGreatDoorProg
import Derived.KernelRfl
namespace Go.Ex
noncomputable section
open Go.Proofs Go.RowKit Go.Maps Go.Sort Go.Shelf

theorem sorts139 (m : Nat) : AnyZI.SortsIn Tryz.prog Tryz.sorted139_ren Fence.wide m :=
  ⟨fun blk off cap ss W hH hblk hsz => callsIn_wide.2 (AnyM.slices_Sort_int Tryz.sort185 blk off cap ss W hH hblk hsz),
   fun p cap W => callsIn_wide.2 (AnyM.slices_Sort_int_none Tryz.sort185 p cap W)⟩

set_option maxHeartbeats 1000000 in
theorem sorted186 : SortedI Tryz.prog 139 186 2 2 where
  key := Tryz.underlying2
  enters := enters_of Tryz.func139 (by kernel_rfl) rfl
  gives := fun Bm b nn D0 w hBm hm hown hmax hbytes => by
    have hseq : SeqGives Fence.wide 2 Tryz.prog 186 #[.pointer (some ⟨Bm, 0, none⟩)] encZ (fun ss => ss.Perm (intKeys D0)) (Maps.size D0) w :=
      AnyZI.keys_gives (ρ := Tryz.keys140_ren) { Tryz.keys140 with } Fence.wide _ trivial rfl (by omega) Bm b nn D0 w hBm hm hown
    have cS := AnyZI.sorted_in Tryz.sorted139 Fence.wide 5 trivial trivial trivial trivial rfl (by omega) (sorts139 _) (enters_of Tryz.func185 (by kernel_rfl) rfl) 186 #[.pointer (some ⟨Bm, 0, none⟩)] trivial (enters_of Tryz.func186 (by kernel_rfl) rfl) _ _ hmax hbytes w hseq
    exact (callsIn_wide (n := 5)).1 cS
  givesNil := fun Bm w hBm hm => by
    have hseq : SeqGives Fence.wide 2 Tryz.prog 186 #[.pointer (some ⟨Bm, 0, none⟩)] encZ (fun ss : List Int => ss = []) 0 w :=
      AnyZI.keys_gives_nil (ρ := Tryz.keys140_ren) { Tryz.keys140 with } Fence.wide _ trivial rfl Bm w hBm hm
    have cS := AnyZI.sorted_in Tryz.sorted139 Fence.wide 5 trivial trivial trivial trivial rfl (by omega) (sorts139 _) (enters_of Tryz.func185 (by kernel_rfl) rfl) 186 #[.pointer (some ⟨Bm, 0, none⟩)] trivial (enters_of Tryz.func186 (by kernel_rfl) rfl) _ 0 (Nat.zero_le _) (by omega) w hseq
    refine ((callsIn_wide (n := 5)).1 cS).mono fun e w' ⟨v, ss, he, hs, _, hn, hb⟩ => ⟨by rw [he, hn.2 hs], hb⟩

theorem nat72 (args : Array Value) (w : World) : (callFunc 72 args).run Tryz.prog w = ((fun args => Extern.ReflectliteValue.unpack (args.getD 0 (.tuple #[]))) args >>= fun v => (Pure.pure (.value v) : Sem Next)).run Tryz.prog w := by kernel_rfl
theorem nat73 (args : Array Value) (w : World) : (callFunc 73 args).run Tryz.prog w = ((Extern.ReflectliteValue.methodAny (Extern.ReflectliteValue.valueError "reflectlite.Value.Type" 0) fun t _ _ _ => Extern.ReflectliteType.toType t) args >>= fun v => (Pure.pure (.value v) : Sem Next)).run Tryz.prog w := by kernel_rfl
theorem nat74 (args : Array Value) (w : World) : (callFunc 74 args).run Tryz.prog w = ((Extern.ReflectliteValue.method (Extern.ReflectliteValue.valueError "reflectlite.Value.IsNil" 0) Extern.ReflectliteValue.isNil) args >>= fun v => (Pure.pure (.value v) : Sem Next)).run Tryz.prog w := by kernel_rfl
theorem nat149 (args : Array Value) (w : World) : (callFunc 149 args).run Tryz.prog w = ((Extern.ReflectliteValue.method (Extern.ReflectliteValue.valueError "reflectlite.Value.Elem" 0) Extern.ReflectliteValue.elem) args >>= fun v => (Pure.pure (.value v) : Sem Next)).run Tryz.prog w := by kernel_rfl
theorem nat150 (args : Array Value) (w : World) : (callFunc 150 args).run Tryz.prog w = ((Extern.ReflectliteValue.set) args >>= fun v => (Pure.pure (.value v) : Sem Next)).run Tryz.prog w := by kernel_rfl
theorem nat148 (args : Array Value) (w : World) : (callFunc 148 args).run Tryz.prog w = ((Extern.ReflectliteType.typeOf) args >>= fun v => (Pure.pure (.value v) : Sem Next)).run Tryz.prog w := by kernel_rfl
theorem nat413 (args : Array Value) (w : World) : (callFunc 413 args).run Tryz.prog w = ((Extern.ReflectliteType.method Extern.ReflectliteType.elem) args >>= fun v => (Pure.pure (.value v) : Sem Next)).run Tryz.prog w := by kernel_rfl
theorem nat414 (args : Array Value) (w : World) : (callFunc 414 args).run Tryz.prog w = ((Extern.ReflectliteType.relation "Implements" Extern.ReflectliteType.implements_) args >>= fun v => (Pure.pure (.value v) : Sem Next)).run Tryz.prog w := by kernel_rfl
theorem nat411 (args : Array Value) (w : World) : (callFunc 411 args).run Tryz.prog w = ((Extern.ReflectliteType.relation "AssignableTo" Extern.ReflectliteType.assignableTo) args >>= fun v => (Pure.pure (.value v) : Sem Next)).run Tryz.prog w := by kernel_rfl
theorem nat388 (args : Array Value) (w : World) : (callFunc 388 args).run Tryz.prog w = ((Extern.ReflectliteType.abiMethod fun t => (fun a : Nat => Value.int IntKind.u8 (a : Int)) <$> Extern.Rtype.kind t) args >>= fun v => (Pure.pure (.value v) : Sem Next)).run Tryz.prog w := by kernel_rfl

/-- Which function is taken how (0: entered). -/
def kindOf (f : FuncId) : Nat :=
  sel (Nat.beq f 72) 1 ( sel (Nat.beq f 73) 2 ( sel (Nat.beq f 74) 3 ( sel (Nat.beq f 139) 4 ( sel (Nat.beq f 148) 5 ( sel (Nat.beq f 149) 6 ( sel (Nat.beq f 150) 7 ( sel (Nat.beq f 388) 8 ( sel (Nat.beq f 411) 9 ( sel (Nat.beq f 413) 10 ( sel (Nat.beq f 414) 11 (0)))))))))))
def intrRun (G : Nat) (f : FuncId) (args : List Value) (h : T AO) (n : Nat) : Out :=
  match kindOf f with
  | 1 => nValueOf Tryz.prog G args h n
  | 2 => nType Tryz.prog G args h n
  | 3 => nIsNil Tryz.prog G args h n
  | 4 => nSortedI 186 2 args h n
  | 5 => nTypeOf Tryz.prog G args h n
  | 6 => nElemV Tryz.prog G args h n
  | 7 => nSet Tryz.prog G args h n
  | 8 => nKind Tryz.prog G args h n
  | 9 => nRel Tryz.prog G Extern.ReflectliteType.assignableTo args h n
  | 10 => nElemT Tryz.prog G args h n
  | 11 => nRel Tryz.prog G Extern.ReflectliteType.implements_ args h n
  | _ => none

theorem kindOf_spec (f : FuncId) : (kindOf f = 1 ∧ f = 72) ∨ (kindOf f = 2 ∧ f = 73) ∨ (kindOf f = 3 ∧ f = 74) ∨ (kindOf f = 4 ∧ f = 139) ∨ (kindOf f = 5 ∧ f = 148) ∨ (kindOf f = 6 ∧ f = 149) ∨ (kindOf f = 7 ∧ f = 150) ∨ (kindOf f = 8 ∧ f = 388) ∨ (kindOf f = 9 ∧ f = 411) ∨ (kindOf f = 10 ∧ f = 413) ∨ (kindOf f = 11 ∧ f = 414) ∨ kindOf f = 0 := by
  unfold kindOf
  by_cases h0 : f = 72
  · subst h0; decide
  rw [beq_false h0, sel_false]
  by_cases h1 : f = 73
  · subst h1; decide
  rw [beq_false h1, sel_false]
  by_cases h2 : f = 74
  · subst h2; decide
  rw [beq_false h2, sel_false]
  by_cases h3 : f = 139
  · subst h3; decide
  rw [beq_false h3, sel_false]
  by_cases h4 : f = 148
  · subst h4; decide
  rw [beq_false h4, sel_false]
  by_cases h5 : f = 149
  · subst h5; decide
  rw [beq_false h5, sel_false]
  by_cases h6 : f = 150
  · subst h6; decide
  rw [beq_false h6, sel_false]
  by_cases h7 : f = 388
  · subst h7; decide
  rw [beq_false h7, sel_false]
  by_cases h8 : f = 411
  · subst h8; decide
  rw [beq_false h8, sel_false]
  by_cases h9 : f = 413
  · subst h9; decide
  rw [beq_false h9, sel_false]
  by_cases h10 : f = 414
  · subst h10; decide
  rw [beq_false h10, sel_false]
  simp

theorem nat_sound {G : Nat} {f : FuncId} {run : List Value → T AO → Nat → Out} {s : Array Value → Sem Value} (hs : NatOk Tryz.prog G run s) (hf : ∀ args w, (callFunc f args).run Tryz.prog w = (s args >>= fun v => (Pure.pure (.value v) : Sem Next)).run Tryz.prog w)
    {args : List Value} {h : T AO} {n : Nat} {v : Value} {l : List (Nat × AO)} {n' : Nat} (hr : run args h n = some (v, l, n')) {B : Nat} {w0 : World} {m : Mp} {X : Nat → Option AO} {w : World} {args' : List Value} (hG : GR m G) (hh : HR B w0 m h X n w) (ha : VRs m args args') :
    ∃ v' w', (callFunc f ⟨args'⟩).run Tryz.prog w = .ok (.value v') w' ∧ Outs Tryz.prog B w0 X m h v l n' v' w' := by
  obtain ⟨v', w', h1, h2⟩ := hs hr hG hh ha
  exact ⟨v', w', by rw [hf, Sem.run_bind, h1]; rfl, h2⟩

theorem intrRun_sound {G : Nat} {f : FuncId} {args : List Value} {h : T AO} {n : Nat} {v : Value} {l : List (Nat × AO)} {n' : Nat} (hi : intrRun G f args h n = some (v, l, n'))
    {B : Nat} {w0 : World} {m : Mp} {X : Nat → Option AO} {w : World} {args' : List Value} (hG : GR m G) (hr : HR B w0 m h X n w) (ha : VRs m args args') :
    (∃ v' w', (callFunc f ⟨args'⟩).run Tryz.prog w = .ok (.value v') w' ∧ Outs Tryz.prog B w0 X m h v l n' v' w') ∨
    ((callFunc f ⟨args'⟩).run Tryz.prog w = .ok (.enter f ⟨args'⟩) w ∧ Calls Tryz.prog f ⟨args'⟩ w fun e w' => ∃ v', e = .returned v' ∧ Outs Tryz.prog B w0 X m h v l n' v' w') := by
  unfold intrRun at hi
  rcases kindOf_spec f with ⟨h, hf⟩ | ⟨h, hf⟩ | ⟨h, hf⟩ | ⟨h, hf⟩ | ⟨h, hf⟩ | ⟨h, hf⟩ | ⟨h, hf⟩ | ⟨h, hf⟩ | ⟨h, hf⟩ | ⟨h, hf⟩ | ⟨h, hf⟩ | h
  · rw [h] at hi
    subst hf
    exact .inl (nat_sound nValueOf_ok nat72 hi hG hr ha)
  · rw [h] at hi
    subst hf
    exact .inl (nat_sound (nType_ok _) nat73 hi hG hr ha)
  · rw [h] at hi
    subst hf
    exact .inl (nat_sound (nIsNil_ok _) nat74 hi hG hr ha)
  · rw [h] at hi
    subst hf
    exact .inr (nSortedI_ok sorted186 hi hr ha)
  · rw [h] at hi
    subst hf
    exact .inl (nat_sound nTypeOf_ok nat148 hi hG hr ha)
  · rw [h] at hi
    subst hf
    exact .inl (nat_sound (nElemV_ok _) nat149 hi hG hr ha)
  · rw [h] at hi
    subst hf
    exact .inl (nat_sound nSet_ok nat150 hi hG hr ha)
  · rw [h] at hi
    subst hf
    exact .inl (nat_sound nKind_ok nat388 hi hG hr ha)
  · rw [h] at hi
    subst hf
    exact .inl (nat_sound (nRel_ok "AssignableTo" _) nat411 hi hG hr ha)
  · rw [h] at hi
    subst hf
    exact .inl (nat_sound nElemT_ok nat413 hi hG hr ha)
  · rw [h] at hi
    subst hf
    exact .inl (nat_sound (nRel_ok "Implements" _) nat414 hi hG hr ha)
  · rw [h] at hi; cases hi

def handle : Value := (.iface 268 (.agg ⟨[.pointer (some ⟨3, 40, none⟩)]⟩))

instance : Intr Tryz.prog where
  run := intrRun
  sound := fun hi => fun hG hr ha => intrRun_sound hi hG hr ha

end
end Go.Ex
