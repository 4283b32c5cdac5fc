/- Functions of this program as Lean functions, and that the calls answer as they do: printed by this session's printmore.py. -/
import Derived.Test.YtpjfhdbkkomogaaDoorProg
import Derived.Test.YtpjfhdbkkomogaaDoorLay
import Derived.Test.YtpjfhdbkkomogaaDoorGv
import Derived.Lib.Bytealg
import Derived.Below
import Derived.Deep.Draws
import Derived.Deep.AppendLies
import Derived.Maps.AppendAt
import Derived.OwnWalk
import Derived.Laws.BytesArg
import Derived.Laws.MakeOwn
import Derived.Laws.OwnMore
import Derived.Deep.OwnRows
import Derived.Tactics
import Derived.Lib.ConvBytes
import Derived.Laws.Slices
import Derived.WalkKit
import Derived.KernelRfl
import Derived.RowKit3
import Derived.Deep.LoopGhost
import Derived.Deep.QuietTactic
import Derived.BigQuiet
import Derived.WideLaws
import Derived.Deep.DeepCutAuto
import Derived.Deep.CutBlock
import Derived.Deep.RegionHeld3
import Derived.Laws.Rows
import Derived.Lib.AppendStr
import Derived.ArgAppend
import Derived.Laws.IdiomCopy
import Derived.OrdersHeld
import Derived.Laws.BitsLemmas
import Derived.RowKit
import Derived.Test.YtpjfhdbkkomogaaDoorWWords
import Derived.Test.YtpjfhdbkkomogaaDoorWLast
import Derived.Test.YtpjfhdbkkomogaaDoorWTab
import Derived.Test.YtpjfhdbkkomogaaDoorWFour
import Derived.Test.YtpjfhdbkkomogaaDoorWQPut
import Derived.Test.YtpjfhdbkkomogaaDoorWApart
import Derived.Test.YtpjfhdbkkomogaaDoorWArr
import Derived.Test.YtpjfhdbkkomogaaDoorWZeros
import Derived.Test.YtpjfhdbkkomogaaDoorWFoot
import Derived.Test.YtpjfhdbkkomogaaDoorWKept
import Derived.Test.YtpjfhdbkkomogaaDoorWShare
import Derived.Test.YtpjfhdbkkomogaaDoorWN
import Derived.Test.YtpjfhdbkkomogaaDoorWFootNe
import Derived.Test.YtpjfhdbkkomogaaDoorWAt
import Derived.Test.YtpjfhdbkkomogaaDoorWEqStruct
import Derived.Test.YtpjfhdbkkomogaaDoorWRepsOne
import Derived.Test.YtpjfhdbkkomogaaDoorWInv
import Derived.Test.YtpjfhdbkkomogaaDoorWInvWords
import Derived.Test.YtpjfhdbkkomogaaDoorWGuard
import Derived.Test.YtpjfhdbkkomogaaDoorWNEv
import Derived.Test.YtpjfhdbkkomogaaDoorWMore
namespace Go.Proofs.YtpjfhdbkkomogaaDoor.Px
open Go.RowKit Go.Proofs.YtpjfhdbkkomogaaDoor.Gvn Go.Proofs.YtpjfhdbkkomogaaDoorW.PrintWords Go.Proofs.YtpjfhdbkkomogaaDoorW.PrintLast Go.Proofs.YtpjfhdbkkomogaaDoorW.PrintMore
attribute [local go_sem] run_store_float max2_int min2_int max_two min_two max_three min_three max_four min_four   -- for this text's walks alone
set_option linter.unusedVariables false
set_option linter.unusedSimpArgs false



def errW : Option Int → Value
  | none => .nilIface
  | some c => .iface 120 (.int .i64 c)
theorem errW_none : errW none = .nilIface := rfl
theorem errW_some (c : Int) : errW (some c) = .iface 120 (.int .i64 c) := rfl

theorem info5 : (Tryd.prog.info? 5).map (fun i => (i.zero, i.size, i.bytes)) = some (some (.int .u8 0), 1, 1) := by kernel_rfl
theorem info24 : (Tryd.prog.info? 24).map (fun i => (i.zero, i.size, i.bytes)) = some (some (.agg #[(.int .i64 0), (.int .i64 0), (.string ⟨#[]⟩), (.float .f64 0)]), 4, 40) := by kernel_rfl
theorem run23 (b : Nat) (w : World) : (callFunc 23 #[.float .f64 b]).run Tryd.prog w = .ok (.value (.int .u64 b)) w := by kernel_rfl
theorem run22 (b : Int) (w : World) : (callFunc 22 #[.int .u64 b]).run Tryd.prog w = .ok (.value (.float .f64 b.toNat)) w := by kernel_rfl
-- floats
theorem at_f64 {w : World} {A : Option Addr} {n : Nat} {xs : List Nat} (h : (Kd.scalar (Value.float .f64) (fun _ => rfl)).C w A n xs) (i : Int) (h0 : 0 ≤ i) (h1 : i < n) : ∃ ad, A = some ad ∧ w.cell? (ad.add i.toNat) = some (.float .f64 (rdOf 0 xs i)) :=
  ReadsOf.at_ (Kd.reads_of_C (enc := Value.float .f64) (d := 0) (h1 := fun _ => rfl) h) i h0 h1
theorem Kd.heap_f64 : Kd.Heap (Kd.scalar (Value.float .f64) (fun _ => rfl)) := ⟨fun _ h => h⟩
-- the values' own types
/-! #### struct type 24 -/
structure S24 where
  f0 : Int
  f1 : Int
  f2 : ByteArray
  f3 : Nat
def z24 : S24 := ⟨(0 : Int), (0 : Int), (⟨#[]⟩ : ByteArray), (0 : Nat)⟩
def k24 : Kd S24 := Kd.iso (Kd.pair (Kd.int .i64) (Kd.pair (Kd.int .i64) (Kd.pair Kd.string (Kd.scalar (Value.float .f64) (fun _ => rfl))))) (fun x : S24 => (x.f0, x.f1, x.f2, x.f3))
theorem k24_open {w : World} {x : S24} {cs : List Value} (h : k24.K w x cs) : cs = [.int .i64 x.f0, .int .i64 x.f1, .string x.f2, .float .f64 x.f3] := by
  obtain ⟨_, _, rfl, rfl, ⟨_, _, rfl, rfl, ⟨_, _, rfl, rfl, rfl⟩⟩⟩ := h
  exact rfl
theorem k24_openM {w : World} {base : Nat} {ok : Nat → Prop} {x : S24} {cs : List Value} (h : k24.M w base ok x cs) : cs = [.int .i64 x.f0, .int .i64 x.f1, .string x.f2, .float .f64 x.f3] := by
  obtain ⟨_, _, rfl, rfl, ⟨_, _, rfl, rfl, ⟨_, _, rfl, rfl, rfl⟩⟩⟩ := h
  exact rfl
theorem k24_mk (w : World) (x : S24)  : k24.K w x [.int .i64 x.f0, .int .i64 x.f1, .string x.f2, .float .f64 x.f3] := ⟨[.int .i64 x.f0], [.int .i64 x.f1, .string x.f2, .float .f64 x.f3], rfl, rfl, ⟨[.int .i64 x.f1], [.string x.f2, .float .f64 x.f3], rfl, rfl, ⟨[.string x.f2], [.float .f64 x.f3], rfl, rfl, rfl⟩⟩⟩
theorem k24_mkM (w : World) (base : Nat) (ok : Nat → Prop) (x : S24)  : k24.M w base ok x [.int .i64 x.f0, .int .i64 x.f1, .string x.f2, .float .f64 x.f3] := ⟨[.int .i64 x.f0], [.int .i64 x.f1, .string x.f2, .float .f64 x.f3], rfl, rfl, ⟨[.int .i64 x.f1], [.string x.f2, .float .f64 x.f3], rfl, rfl, ⟨[.string x.f2], [.float .f64 x.f3], rfl, rfl, rfl⟩⟩⟩
def rd_T24 (xs : List S24) (i : Int) : S24 := xs.getD i.toNat z24
theorem at_T24 {w : World} {A : Option Addr} {n : Nat} {xs : List S24} (h : Kd.C k24 w A n xs) (i : Int) (h0 : 0 ≤ i) (h1 : i < n) : ∃ ad , A = some ad ∧ w.cell? (ad.add (i.toNat * 4)) = some (.int .i64 (rd_T24 xs i).f0) ∧ w.cell? ⟨(ad.add (i.toNat * 4)).block, (ad.add (i.toNat * 4)).off + 1, none⟩ = some (.int .i64 (rd_T24 xs i).f1) ∧ w.cell? ⟨(ad.add (i.toNat * 4)).block, (ad.add (i.toNat * 4)).off + 2, none⟩ = some (.string (rd_T24 xs i).f2) ∧ w.cell? ⟨(ad.add (i.toNat * 4)).block, (ad.add (i.toNat * 4)).off + 3, none⟩ = some (.float .f64 (rd_T24 xs i).f3) := by
  obtain ⟨ad, c, e, _, hK, hc0⟩ := Kd.C_get h z24 i h0 h1
  have hc : ∀ j u, c[j]? = some u → w.cell? (ad.add (i.toNat * 4 + j)) = some u := hc0
  obtain rfl := k24_open hK
  exact ⟨ad, e, hc 0 _ rfl, by rw [← add_field _ _ 1 (by omega)]; exact hc 1 _ rfl, by rw [← add_field _ _ 2 (by omega)]; exact hc 2 _ rfl, by rw [← add_field _ _ 3 (by omega)]; exact hc 3 _ rfl⟩

end Go.Proofs.YtpjfhdbkkomogaaDoor.Px
