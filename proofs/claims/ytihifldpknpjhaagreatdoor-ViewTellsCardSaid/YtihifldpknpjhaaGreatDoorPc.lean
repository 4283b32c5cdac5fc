/- Closed facts of the program. -/
import Derived.Test.YtihifldpknpjhaaGreatDoorRows
import Derived.Test.YtihifldpknpjhaaGreatDoorCards
import Derived.WalkKit
import Derived.ProofKit
import Derived.JoinedOf
import Derived.Stop.Joined
import Derived.SevenTiedAt
namespace Go.Proofs.YtihifldpknpjhaaGreatDoor.viewTells
open Go.RowKit Go.ChangeShapes
theorem own : ownKnob Tryz.prog.godebug = none := by kernel_rfl
theorem laidOut : laidOutB Tryz.prog = true := by kernel_rfl
end Go.Proofs.YtihifldpknpjhaaGreatDoor.viewTells
