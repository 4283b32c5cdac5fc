/- Of the proof, a part (together they pass the memory). -/
import Derived.Test.YtbikkkjoolcadaaGreatDoorRows
import Derived.WalkKit
import Derived.ProofKit
import Derived.OpenShut
import Derived.ChangeSame
import Derived.ChangeVars
import Derived.JoinedOf
import Derived.RowKit
import Derived.RowKitTokens
import Derived.LaidLaws
import Derived.LaidHandle
import Derived.LaidMore
import Derived.LaidSub
import Derived.Lay
import Derived.MakeChecks
import Derived.Lib.LaidTab
import Derived.Lib.ItoaNum
import Derived.Stop.Joined
import Derived.SevenTiedAt
namespace Go.Proofs.YtbikkkjoolcadaaGreatDoor.scriptRefuses
open Go.ChangeShapes Go.WideShapes Go.ChangeAt Go.RowKit
set_option linter.unusedVariables false

abbrev plain : List (String × DataW Unit) := Rows.scriptRefusesRow.laid.filter fun x => x.2.handleName?.isNone
/-- A world that meets the condition: the settled one, the handle's cell laid, then the plain data. -/
noncomputable def w0 (os : Os) : World :=
  let w := World.holding Tryz.prog os ⟨#[], #[], []⟩
  { w with heap := w.heap.modify 1 fun
      | .cells _ t frozen => .cells #[.iface 410 (.agg #[.pointer (some ⟨10, 61, none⟩)])] t frozen
      | o => o }
noncomputable def laidWorld (os : Os) : World := (w0 os).layVars Tryz.prog plain
theorem laidWorld_os (os : Os) : (laidWorld os).os = os := World.layVars_os _ _ _
theorem plain_fits (os : Os) : (w0 os).layFits Tryz.prog plain [] = true := by kernel_rfl
theorem plain_ifaces (os : Os) : (w0 os).layIfaces Tryz.prog plain (laidWorld os) = true := by kernel_rfl
theorem plain_met (os : Os) (args : Array Value) : laidMet Tryz.prog plain ((laidWorld os).forCall (fun _ _ => 0) ⟨#[], args, []⟩).memory := by
  have e1 : (plain.filter fun x => (plain.map (·.1)).contains x.1) = plain := List.filter_eq_self.2 fun x hx => List.contains_iff_mem.2 (List.mem_map.2 ⟨x, hx, rfl⟩)
  have e2 : (plain.filter fun x => !(plain.map (·.1)).contains x.1) = [] := List.filter_eq_nil_iff.2 fun x hx => by rw [List.contains_iff_mem.2 (List.mem_map.2 ⟨x, hx, rfl⟩)]; simp
  have h : laidMet Tryz.prog plain (laidWorld os) := laidMet_layVars (w0 := w0 os) (plain.map (·.1)) [] (by rw [e1]; rfl) (by rw [e1]; exact plain_fits os) (by rw [e1]; exact plain_ifaces os) (by rw [e2]; exact LaidIn.none)
  exact h.of_heap (by simp [World.memory, World.forCall, Input.heap])
theorem laidWorld_met (os : Os) (args : Array Value) : laidMetH Tryz.prog Rows.scriptRefusesRow.laid ((laidWorld os).forCall (fun _ _ => 0) ⟨#[], args, []⟩).memory :=
  laidMetH_of_parts (plain_met os args) (by kernel_rfl)
theorem laidWorld_shaped (os : Os) : (laidWorld os).Shaped Tryz.prog := World.shaped_of_ZipB (by kernel_rfl) (by kernel_rfl)
end Go.Proofs.YtbikkkjoolcadaaGreatDoor.scriptRefuses
