/- What the rows' condition on the listed variables gives; a start that meets it. -/
import Derived.Test.YtpjfhdbkkomogaaDoorRows
import Derived.Test.YtpjfhdbkkomogaaDoorLq
import Derived.Lib.LaidTab
import Derived.Lib.ItoaNum
import Derived.LaidMore
import Derived.LaidSub
import Derived.MakeChecks
import Derived.ProofKit
namespace Go.Proofs.YtpjfhdbkkomogaaDoor.Mb
open Go.RowKit

def laid5 : List (String × DataW Unit) := Rows.textQuotesRow.laid
theorem only (s : String) (z : List (String × DataW Unit)) (hz : (laid5.filter fun x => x.1 == s) = z) (hp : (z.all fun x => x.2.handleName?.isNone) = true) {W : World} (h : laidMetH Tryd.prog laid5 W) : laidMet Tryd.prog z W := by
  have := h.filter fun x => x.1 == s
  rw [hz, MakeChecks.laidMetH_plain _ _ _ hp] at this
  exact this
theorem var_at {w : World} {n : String} {g : Nat} {cs : Array Value} (hg : Tryd.prog.globalNamed n = some g) (h : w.var? Tryd.prog n = some cs) : ∃ e z, w.heap[g]? = some (.cells cs e z) := by
  unfold World.var? at h
  rw [hg, Option.bind_some] at h
  split at h
  · rename_i c e fz hw
    cases h
    exact ⟨e, fz, hw⟩
  · cases h
theorem pow10_of {W : World} (h : laidMetH Tryd.prog laid5 W) : Lib.TabIs Tryd.prog W "internal/strconv.uint64pow10" .u64 Lib.pow10Tab :=
  Lib.tabIs_of_head (g := 1) (by kernel_rfl) (by kernel_rfl) Tryd.underlying112 Tryd.underlying47 (by kernel_rfl) (by kernel_rfl)
    (only "internal/strconv.uint64pow10" [("internal/strconv.uint64pow10", Lib.tabData .u64 Lib.pow10Tab)] (by kernel_rfl) (by kernel_rfl) h)
def d64Tab : List Int := Ex.d64.map fun v => match v with
  | .int _ n => n
  | _ => 0
theorem d64_of {W : World} (h : laidMetH Tryd.prog laid5 W) : Lib.TabIs Tryd.prog W "math/bits.deBruijn64tab" .u8 d64Tab :=
  Lib.tabIs_of_head (g := 6) (by kernel_rfl) (by kernel_rfl) Tryd.underlying129 Tryd.underlying5 (by kernel_rfl) (by kernel_rfl)
    (only "math/bits.deBruijn64tab" [("math/bits.deBruijn64tab", Lib.tabData .u8 d64Tab)] (by kernel_rfl) (by kernel_rfl) h)
theorem p10_eq : (Lib.pow10Tab.map fun z => Value.int .u64 z).toArray = Ex.p10.toArray := by kernel_rfl
theorem d64_eq : (d64Tab.map fun z => Value.int .u8 z).toArray = Ex.d64.toArray := by kernel_rfl
theorem tabs_of {W : World} (h : laidMetH Tryd.prog laid5 W) : Tabs W := by
  have h6 := d64_of h
  have h1 := pow10_of h
  unfold Lib.TabIs at h6 h1
  rw [d64_eq] at h6
  rw [p10_eq] at h1
  exact ⟨var_at (by kernel_rfl) h6, var_at (by kernel_rfl) h1⟩
theorem door_met (os : Os) (args : Array Value) : laidMetH Tryd.prog laid5 ((World.doorLaid Tryd.prog 400 os).forCall (fun _ _ => 0) ⟨#[], args, []⟩).memory :=
  laidMetH_of_parts3 (fuel := 8) (laidMet_of_run' 8 (by kernel_rfl) (by kernel_rfl)) (by kernel_rfl) (by kernel_rfl)
theorem own : ownKnob Tryd.prog.godebug = none := by kernel_rfl
end Go.Proofs.YtpjfhdbkkomogaaDoor.Mb
