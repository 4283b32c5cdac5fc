/- A closed fact of the row: no goroutine. -/
import Derived.Test.YtihifldpknpjhaaGreatDoorRows
import Derived.Test.YtihifldpknpjhaaGreatDoorCards
import Derived.WalkKit
import Derived.ProofKit
import Derived.JoinedOf
import Derived.Stop.Joined
import Derived.SevenTiedAt
namespace Go.Proofs.YtihifldpknpjhaaGreatDoor.viewTells
open Go.RowKit
theorem goesIs : false = Rows.viewTellsRow.goesBy Tryz.prog := by kernel_rfl
end Go.Proofs.YtihifldpknpjhaaGreatDoor.viewTells
