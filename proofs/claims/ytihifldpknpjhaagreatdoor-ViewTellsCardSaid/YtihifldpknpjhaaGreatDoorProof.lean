/-
  For every slice of changes, of ints and of bytes, in every world in which the listed variable reads as the row says, the law ViewTells returns true and turns nothing that lay before; the card ties that to the program's text.
-/
import Derived.Test.YtihifldpknpjhaaGreatDoorTie
import Derived.Test.YtihifldpknpjhaaGreatDoorCards
import Derived.Test.YtihifldpknpjhaaGreatDoorPa
import Derived.Test.YtihifldpknpjhaaGreatDoorPb
import Derived.Test.YtihifldpknpjhaaGreatDoorPd
import Derived.WalkKit
import Derived.ProofKit
import Derived.OpenShut
import Derived.ChangeSame
import Derived.ChangeVars
import Derived.JoinedOf
import Derived.RowKit
import Derived.RowKitTokens
import Derived.LaidLaws
import Derived.LaidHandle
import Derived.Carry
import Derived.Stop.Joined
import Derived.SevenTiedAt
namespace Go.Proofs.YtihifldpknpjhaaGreatDoor.viewTells
open Go.ChangeShapes Go.WideShapes Go.ChangeAt Go.RowKit Go.ChangeMaps

theorem over : Rows.ViewTellsSaid :=
  OpenClaim.holds_of_wide 3 Tryz.f3 rfl rfl rfl rfl rfl rfl rfl ⟨rfl, rfl, rfl, rfl, rfl⟩ rfl rfl rfl rfl rfl (by kernel_rfl) Tryz.func3 facts
    (of_decide_eq_true (by kernel_rfl)) (by unfold Func.isWrapper; rw [if_neg (of_decide_eq_false (by kernel_rfl))]; exact ⟨rfl, rfl⟩)
    (fun os started H enc _ => lifted os started H enc)

/-- THE STATEMENT. -/
theorem proved : Rows.ViewTellsCardSaid :=
  Claim7.holds_tied_plain_at .later [] [.handle] true Rows.viewTellsCard.stood.harness true
    over (fun _ h => by cases h) (by kernel_rfl) (fun _ h => by cases h) viewTells_row_tie rfl ⟨rfl, rfl⟩ (by kernel_rfl) rfl
    (fun f fn hf hfn => by
      obtain rfl : f = 3 := Option.some.inj ((show Tryz.prog.funcNamed Rows.viewTellsRow.func = some 3 by kernel_rfl).symm.trans hf) |>.symm
      obtain rfl : fn = Tryz.f3 := (Option.some.inj (Tryz.func3.symm.trans hfn)).symm
      exact ⟨by kernel_rfl, fun j t ht => by
          rw [Tryz.params3] at ht
          rcases j with _ | _ | _ | j
          · have h3 : t = 22 := by simpa using ht.symm
            subst h3
            exact (show Tryz.prog.wantsStandIn 22 = false by kernel_rfl)
          · have h3 : t = 23 := by simpa using ht.symm
            subst h3
            exact (show Tryz.prog.wantsStandIn 23 = false by kernel_rfl)
          · have h3 : t = 24 := by simpa using ht.symm
            subst h3
            exact (show Tryz.prog.wantsStandIn 24 = false by kernel_rfl)
          · simp at ht⟩)
    goesIs
#print axioms proved
end Go.Proofs.YtihifldpknpjhaaGreatDoor.viewTells
