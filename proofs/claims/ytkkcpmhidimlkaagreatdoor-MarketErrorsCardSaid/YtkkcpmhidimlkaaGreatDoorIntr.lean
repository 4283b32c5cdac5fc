/- Of this program: the functions that the executor takes by contract: slices.Sorted over maps.Keys (the library's contracts, laid in YtkkcpmhidimlkaaGreatDoorLay), and the model's entries for internal/reflectlite. -/
import Derived.Test.YtkkcpmhidimlkaaGreatDoorEx3
import Derived.Test.YtkkcpmhidimlkaaGreatDoorLay
import Derived.Test.YtkkcpmhidimlkaaGreatDoorProg
import Derived.KernelRfl
namespace Go.Ex
noncomputable section
open Go.Proofs Go.RowKit Go.Maps Go.Sort Go.Shelf

theorem sorts121 (m : Nat) : AnyZ.SortsIn Tryz.prog Tryz.sorted121_ren Fence.wide m :=
  ⟨fun blk off cap ss W hH hblk hsz => callsIn_wide.2 (AnyM.slices_Sort_string Tryz.sort175 blk off cap ss W hH hblk hsz),
   fun p cap W => callsIn_wide.2 (AnyM.slices_Sort_string_none Tryz.sort175 p cap W)⟩

set_option maxHeartbeats 1000000 in
theorem sorted176 : SortedS Tryz.prog 121 176 9 9 where
  key := Tryz.underlying9
  enters := enters_of Tryz.func121 (by kernel_rfl) rfl
  gives := fun Bm b nn D0 w hBm hm hown hmax hbytes => by
    have hseq : SeqGives Fence.wide 2 Tryz.prog 176 #[.pointer (some ⟨Bm, 0, none⟩)] encStr (fun ss => ss.Perm (strKeys D0)) (Maps.size D0) w :=
      AnyZ.keys_gives (ρ := Tryz.keys122_ren) { Tryz.keys122 with } Fence.wide _ trivial rfl (by omega) Bm b nn D0 w hBm hm hown
    have cS := AnyZ.sorted_in Tryz.sorted121 Fence.wide 5 trivial trivial trivial trivial rfl (by omega) (sorts121 _) (enters_of Tryz.func175 (by kernel_rfl) rfl) 176 #[.pointer (some ⟨Bm, 0, none⟩)] trivial (enters_of Tryz.func176 (by kernel_rfl) rfl) _ _ hmax hbytes w hseq
    exact (callsIn_wide (n := 5)).1 cS

theorem sorts177 (m : Nat) : AnyZI.SortsIn Tryz.prog Tryz.sorted177_ren Fence.wide m :=
  ⟨fun blk off cap ss W hH hblk hsz => callsIn_wide.2 (AnyM.slices_Sort_int Tryz.sort228 blk off cap ss W hH hblk hsz),
   fun p cap W => callsIn_wide.2 (AnyM.slices_Sort_int_none Tryz.sort228 p cap W)⟩

set_option maxHeartbeats 1000000 in
theorem sorted229 : SortedI Tryz.prog 177 229 2 2 where
  key := Tryz.underlying2
  enters := enters_of Tryz.func177 (by kernel_rfl) rfl
  gives := fun Bm b nn D0 w hBm hm hown hmax hbytes => by
    have hseq : SeqGives Fence.wide 2 Tryz.prog 229 #[.pointer (some ⟨Bm, 0, none⟩)] encZ (fun ss => ss.Perm (intKeys D0)) (Maps.size D0) w :=
      AnyZI.keys_gives (ρ := Tryz.keys178_ren) { Tryz.keys178 with } Fence.wide _ trivial rfl (by omega) Bm b nn D0 w hBm hm hown
    have cS := AnyZI.sorted_in Tryz.sorted177 Fence.wide 5 trivial trivial trivial trivial rfl (by omega) (sorts177 _) (enters_of Tryz.func228 (by kernel_rfl) rfl) 229 #[.pointer (some ⟨Bm, 0, none⟩)] trivial (enters_of Tryz.func229 (by kernel_rfl) rfl) _ _ hmax hbytes w hseq
    exact (callsIn_wide (n := 5)).1 cS
  givesNil := fun Bm w hBm hm => by
    have hseq : SeqGives Fence.wide 2 Tryz.prog 229 #[.pointer (some ⟨Bm, 0, none⟩)] encZ (fun ss : List Int => ss = []) 0 w :=
      AnyZI.keys_gives_nil (ρ := Tryz.keys178_ren) { Tryz.keys178 with } Fence.wide _ trivial rfl Bm w hBm hm
    have cS := AnyZI.sorted_in Tryz.sorted177 Fence.wide 5 trivial trivial trivial trivial rfl (by omega) (sorts177 _) (enters_of Tryz.func228 (by kernel_rfl) rfl) 229 #[.pointer (some ⟨Bm, 0, none⟩)] trivial (enters_of Tryz.func229 (by kernel_rfl) rfl) _ 0 (Nat.zero_le _) (by omega) w hseq
    refine ((callsIn_wide (n := 5)).1 cS).mono fun e w' ⟨v, ss, he, hs, _, hn, hb⟩ => ⟨by rw [he, hn.2 hs], hb⟩

set_option maxHeartbeats 1000000 in
theorem sorted237 : SortedI Tryz.prog 177 237 2 2 where
  key := Tryz.underlying2
  enters := enters_of Tryz.func177 (by kernel_rfl) rfl
  gives := fun Bm b nn D0 w hBm hm hown hmax hbytes => by
    have hseq : SeqGives Fence.wide 2 Tryz.prog 237 #[.pointer (some ⟨Bm, 0, none⟩)] encZ (fun ss => ss.Perm (intKeys D0)) (Maps.size D0) w :=
      AnyZI.keys_gives (ρ := Tryz.keys189_ren) { Tryz.keys189 with } Fence.wide _ trivial rfl (by omega) Bm b nn D0 w hBm hm hown
    have cS := AnyZI.sorted_in Tryz.sorted177 Fence.wide 5 trivial trivial trivial trivial rfl (by omega) (sorts177 _) (enters_of Tryz.func228 (by kernel_rfl) rfl) 237 #[.pointer (some ⟨Bm, 0, none⟩)] trivial (enters_of Tryz.func237 (by kernel_rfl) rfl) _ _ hmax hbytes w hseq
    exact (callsIn_wide (n := 5)).1 cS
  givesNil := fun Bm w hBm hm => by
    have hseq : SeqGives Fence.wide 2 Tryz.prog 237 #[.pointer (some ⟨Bm, 0, none⟩)] encZ (fun ss : List Int => ss = []) 0 w :=
      AnyZI.keys_gives_nil (ρ := Tryz.keys189_ren) { Tryz.keys189 with } Fence.wide _ trivial rfl Bm w hBm hm
    have cS := AnyZI.sorted_in Tryz.sorted177 Fence.wide 5 trivial trivial trivial trivial rfl (by omega) (sorts177 _) (enters_of Tryz.func228 (by kernel_rfl) rfl) 237 #[.pointer (some ⟨Bm, 0, none⟩)] trivial (enters_of Tryz.func237 (by kernel_rfl) rfl) _ 0 (Nat.zero_le _) (by omega) w hseq
    refine ((callsIn_wide (n := 5)).1 cS).mono fun e w' ⟨v, ss, he, hs, _, hn, hb⟩ => ⟨by rw [he, hn.2 hs], hb⟩

theorem nat102 (args : Array Value) (w : World) : (callFunc 102 args).run Tryz.prog w = ((fun args => Extern.ReflectliteValue.unpack (args.getD 0 (.tuple #[]))) args >>= fun v => (Pure.pure (.value v) : Sem Next)).run Tryz.prog w := by kernel_rfl
theorem nat103 (args : Array Value) (w : World) : (callFunc 103 args).run Tryz.prog w = ((Extern.ReflectliteValue.methodAny (Extern.ReflectliteValue.valueError "reflectlite.Value.Type" 0) fun t _ _ _ => Extern.ReflectliteType.toType t) args >>= fun v => (Pure.pure (.value v) : Sem Next)).run Tryz.prog w := by kernel_rfl
theorem nat104 (args : Array Value) (w : World) : (callFunc 104 args).run Tryz.prog w = ((Extern.ReflectliteValue.method (Extern.ReflectliteValue.valueError "reflectlite.Value.IsNil" 0) Extern.ReflectliteValue.isNil) args >>= fun v => (Pure.pure (.value v) : Sem Next)).run Tryz.prog w := by kernel_rfl
theorem nat165 (args : Array Value) (w : World) : (callFunc 165 args).run Tryz.prog w = ((Extern.ReflectliteValue.method (Extern.ReflectliteValue.valueError "reflectlite.Value.Elem" 0) Extern.ReflectliteValue.elem) args >>= fun v => (Pure.pure (.value v) : Sem Next)).run Tryz.prog w := by kernel_rfl
theorem nat166 (args : Array Value) (w : World) : (callFunc 166 args).run Tryz.prog w = ((Extern.ReflectliteValue.set) args >>= fun v => (Pure.pure (.value v) : Sem Next)).run Tryz.prog w := by kernel_rfl
theorem nat164 (args : Array Value) (w : World) : (callFunc 164 args).run Tryz.prog w = ((Extern.ReflectliteType.typeOf) args >>= fun v => (Pure.pure (.value v) : Sem Next)).run Tryz.prog w := by kernel_rfl
theorem nat476 (args : Array Value) (w : World) : (callFunc 476 args).run Tryz.prog w = ((Extern.ReflectliteType.method Extern.ReflectliteType.elem) args >>= fun v => (Pure.pure (.value v) : Sem Next)).run Tryz.prog w := by kernel_rfl
theorem nat477 (args : Array Value) (w : World) : (callFunc 477 args).run Tryz.prog w = ((Extern.ReflectliteType.relation "Implements" Extern.ReflectliteType.implements_) args >>= fun v => (Pure.pure (.value v) : Sem Next)).run Tryz.prog w := by kernel_rfl
theorem nat474 (args : Array Value) (w : World) : (callFunc 474 args).run Tryz.prog w = ((Extern.ReflectliteType.relation "AssignableTo" Extern.ReflectliteType.assignableTo) args >>= fun v => (Pure.pure (.value v) : Sem Next)).run Tryz.prog w := by kernel_rfl
theorem nat448 (args : Array Value) (w : World) : (callFunc 448 args).run Tryz.prog w = ((Extern.ReflectliteType.abiMethod fun t => (fun a : Nat => Value.int IntKind.u8 (a : Int)) <$> Extern.Rtype.kind t) args >>= fun v => (Pure.pure (.value v) : Sem Next)).run Tryz.prog w := by kernel_rfl

/-- Which function is taken how (0: entered). -/
def kindOf (f : FuncId) : Nat :=
  sel (Nat.beq f 102) 1 ( sel (Nat.beq f 103) 2 ( sel (Nat.beq f 104) 3 ( sel (Nat.beq f 121) 4 ( sel (Nat.beq f 164) 5 ( sel (Nat.beq f 165) 6 ( sel (Nat.beq f 166) 7 ( sel (Nat.beq f 177) 8 ( sel (Nat.beq f 448) 9 ( sel (Nat.beq f 474) 10 ( sel (Nat.beq f 476) 11 ( sel (Nat.beq f 477) 12 (0))))))))))))
def intrRun (G : Nat) (f : FuncId) (args : List Value) (h : T AO) (n : Nat) : Out :=
  match kindOf f with
  | 1 => nValueOf Tryz.prog G args h n
  | 2 => nType Tryz.prog G args h n
  | 3 => nIsNil Tryz.prog G args h n
  | 4 => nSortedS 176 9 args h n
  | 5 => nTypeOf Tryz.prog G args h n
  | 6 => nElemV Tryz.prog G args h n
  | 7 => nSet Tryz.prog G args h n
  | 8 => match nSortedI 229 2 args h n with | some r => some r | none => nSortedI 237 2 args h n
  | 9 => nKind Tryz.prog G args h n
  | 10 => nRel Tryz.prog G Extern.ReflectliteType.assignableTo args h n
  | 11 => nElemT Tryz.prog G args h n
  | 12 => nRel Tryz.prog G Extern.ReflectliteType.implements_ args h n
  | _ => none

theorem kindOf_spec (f : FuncId) : (kindOf f = 1 ∧ f = 102) ∨ (kindOf f = 2 ∧ f = 103) ∨ (kindOf f = 3 ∧ f = 104) ∨ (kindOf f = 4 ∧ f = 121) ∨ (kindOf f = 5 ∧ f = 164) ∨ (kindOf f = 6 ∧ f = 165) ∨ (kindOf f = 7 ∧ f = 166) ∨ (kindOf f = 8 ∧ f = 177) ∨ (kindOf f = 9 ∧ f = 448) ∨ (kindOf f = 10 ∧ f = 474) ∨ (kindOf f = 11 ∧ f = 476) ∨ (kindOf f = 12 ∧ f = 477) ∨ kindOf f = 0 := by
  unfold kindOf
  by_cases h0 : f = 102
  · subst h0; decide
  rw [beq_false h0, sel_false]
  by_cases h1 : f = 103
  · subst h1; decide
  rw [beq_false h1, sel_false]
  by_cases h2 : f = 104
  · subst h2; decide
  rw [beq_false h2, sel_false]
  by_cases h3 : f = 121
  · subst h3; decide
  rw [beq_false h3, sel_false]
  by_cases h4 : f = 164
  · subst h4; decide
  rw [beq_false h4, sel_false]
  by_cases h5 : f = 165
  · subst h5; decide
  rw [beq_false h5, sel_false]
  by_cases h6 : f = 166
  · subst h6; decide
  rw [beq_false h6, sel_false]
  by_cases h7 : f = 177
  · subst h7; decide
  rw [beq_false h7, sel_false]
  by_cases h8 : f = 448
  · subst h8; decide
  rw [beq_false h8, sel_false]
  by_cases h9 : f = 474
  · subst h9; decide
  rw [beq_false h9, sel_false]
  by_cases h10 : f = 476
  · subst h10; decide
  rw [beq_false h10, sel_false]
  by_cases h11 : f = 477
  · subst h11; decide
  rw [beq_false h11, sel_false]
  simp

theorem nat_sound {G : Nat} {f : FuncId} {run : List Value → T AO → Nat → Out} {s : Array Value → Sem Value} (hs : NatOk Tryz.prog G run s) (hf : ∀ args w, (callFunc f args).run Tryz.prog w = (s args >>= fun v => (Pure.pure (.value v) : Sem Next)).run Tryz.prog w)
    {args : List Value} {h : T AO} {n : Nat} {v : Value} {l : List (Nat × AO)} {n' : Nat} (hr : run args h n = some (v, l, n')) {B : Nat} {w0 : World} {m : Mp} {X : Nat → Option AO} {w : World} {args' : List Value} (hG : GR m G) (hh : HR B w0 m h X n w) (ha : VRs m args args') :
    ∃ v' w', (callFunc f ⟨args'⟩).run Tryz.prog w = .ok (.value v') w' ∧ Outs Tryz.prog B w0 X m h v l n' v' w' := by
  obtain ⟨v', w', h1, h2⟩ := hs hr hG hh ha
  exact ⟨v', w', by rw [hf, Sem.run_bind, h1]; rfl, h2⟩

theorem intrRun_sound {G : Nat} {f : FuncId} {args : List Value} {h : T AO} {n : Nat} {v : Value} {l : List (Nat × AO)} {n' : Nat} (hi : intrRun G f args h n = some (v, l, n'))
    {B : Nat} {w0 : World} {m : Mp} {X : Nat → Option AO} {w : World} {args' : List Value} (hG : GR m G) (hr : HR B w0 m h X n w) (ha : VRs m args args') :
    (∃ v' w', (callFunc f ⟨args'⟩).run Tryz.prog w = .ok (.value v') w' ∧ Outs Tryz.prog B w0 X m h v l n' v' w') ∨
    ((callFunc f ⟨args'⟩).run Tryz.prog w = .ok (.enter f ⟨args'⟩) w ∧ Calls Tryz.prog f ⟨args'⟩ w fun e w' => ∃ v', e = .returned v' ∧ Outs Tryz.prog B w0 X m h v l n' v' w') := by
  unfold intrRun at hi
  rcases kindOf_spec f with ⟨h, hf⟩ | ⟨h, hf⟩ | ⟨h, hf⟩ | ⟨h, hf⟩ | ⟨h, hf⟩ | ⟨h, hf⟩ | ⟨h, hf⟩ | ⟨h, hf⟩ | ⟨h, hf⟩ | ⟨h, hf⟩ | ⟨h, hf⟩ | ⟨h, hf⟩ | h
  · rw [h] at hi
    subst hf
    exact .inl (nat_sound nValueOf_ok nat102 hi hG hr ha)
  · rw [h] at hi
    subst hf
    exact .inl (nat_sound (nType_ok _) nat103 hi hG hr ha)
  · rw [h] at hi
    subst hf
    exact .inl (nat_sound (nIsNil_ok _) nat104 hi hG hr ha)
  · rw [h] at hi
    subst hf
    exact .inr (nSortedS_ok sorted176 hi hr ha)
  · rw [h] at hi
    subst hf
    exact .inl (nat_sound nTypeOf_ok nat164 hi hG hr ha)
  · rw [h] at hi
    subst hf
    exact .inl (nat_sound (nElemV_ok _) nat165 hi hG hr ha)
  · rw [h] at hi
    subst hf
    exact .inl (nat_sound nSet_ok nat166 hi hG hr ha)
  · rw [h] at hi
    subst hf
    simp only [] at hi
    split at hi
    · rename_i r hr1
      cases hi
      exact .inr (nSortedI_ok sorted229 hr1 hr ha)
    · skip
      exact .inr (nSortedI_ok sorted237 hi hr ha)
  · rw [h] at hi
    subst hf
    exact .inl (nat_sound nKind_ok nat448 hi hG hr ha)
  · rw [h] at hi
    subst hf
    exact .inl (nat_sound (nRel_ok "AssignableTo" _) nat474 hi hG hr ha)
  · rw [h] at hi
    subst hf
    exact .inl (nat_sound nElemT_ok nat476 hi hG hr ha)
  · rw [h] at hi
    subst hf
    exact .inl (nat_sound (nRel_ok "Implements" _) nat477 hi hG hr ha)
  · rw [h] at hi; cases hi

def handle : Value := (.iface 251 (.agg ⟨[.pointer (some ⟨3, 26, none⟩)]⟩))

instance : Intr Tryz.prog where
  run := intrRun
  sound := fun hi => fun hG hr ha => intrRun_sound hi hG hr ha

end
end Go.Ex
