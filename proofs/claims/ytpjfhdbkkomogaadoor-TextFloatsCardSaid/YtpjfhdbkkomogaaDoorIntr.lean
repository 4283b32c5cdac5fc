/- Of this program: the functions that the executor takes by contract: strings.Join (the library's contract) -/
import Derived.Test.YtpjfhdbkkomogaaDoorEx3
import Derived.Test.YtpjfhdbkkomogaaDoorLay
import Derived.Test.YtpjfhdbkkomogaaDoorProg
import Derived.KernelRfl
namespace Go.Ex
noncomputable section
open Go.Proofs Go.RowKit Go.Maps Go.Sort Go.Shelf

theorem joinExtra : Builder.Extra Tryd.prog Tryd.join156_ren where
  sizeBuilder := by kernel_rfl
  liesBuilder := by kernel_rfl
  t5 := Tryd.underlying5
  a5 := Tryd.isAgg5
  z5 := Tryd.sizeOf5
  v5 := Tryd.zeroValue5
  infoByte := by kernel_rfl
  cellsByte := by kernel_rfl
  sizeByte := by kernel_rfl
  neB5 := by decide
theorem joinC : JoinC Tryd.prog 32 where
  enters := enters_of Tryd.func32 (by kernel_rfl) rfl
  gives := fun bk o c xs sep w h1 h2 h3 h4 h5 => Any.strings_Join Tryd.join156 joinExtra bk o c xs sep w h1 h2 h3 h4 h5
  givesNil := fun c sep w => Any.strings_Join_none Tryd.join156 joinExtra none c sep w


/-- Which function is taken how (0: entered). -/
def kindOf (f : FuncId) : Nat :=
  sel (Nat.beq f 32) 1 (0)
def intrRun (_G : Nat) (f : FuncId) (args : List Value) (h : T AO) (n : Nat) : Out :=
  match kindOf f with
  | 1 => nJoin args h n
  | _ => none

theorem kindOf_spec (f : FuncId) : (kindOf f = 1 ∧ f = 32) ∨ kindOf f = 0 := by
  unfold kindOf
  by_cases h0 : f = 32
  · subst h0; decide
  rw [beq_false h0, sel_false]
  simp

theorem intrRun_sound {G : Nat} {f : FuncId} {args : List Value} {h : T AO} {n : Nat} {v : Value} {l : List (Nat × AO)} {n' : Nat} (hi : intrRun G f args h n = some (v, l, n'))
    {B : Nat} {w0 : World} {m : Mp} {X : Nat → Option AO} {w : World} {args' : List Value} (_ : GR m G) (hr : HR B w0 m h X n w) (ha : VRs m args args') :
    (∃ v' w', (callFunc f ⟨args'⟩).run Tryd.prog w = .ok (.value v') w' ∧ Outs Tryd.prog B w0 X m h v l n' v' w') ∨
    ((callFunc f ⟨args'⟩).run Tryd.prog w = .ok (.enter f ⟨args'⟩) w ∧ Calls Tryd.prog f ⟨args'⟩ w fun e w' => ∃ v', e = .returned v' ∧ Outs Tryd.prog B w0 X m h v l n' v' w') := by
  unfold intrRun at hi
  rcases kindOf_spec f with ⟨h, hf⟩ | h
  · rw [h] at hi
    subst hf
    exact .inr (nJoin_ok joinC hi hr ha)
  · rw [h] at hi; cases hi

@[reducible] def baseIntr : Intr Tryd.prog where
  run := intrRun
  sound := fun hi => fun hG hr ha => intrRun_sound hi hG hr ha

instance : Intr Tryd.prog := baseIntr

end
end Go.Ex
