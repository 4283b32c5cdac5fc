/- Closed facts of the row: what the call can come to. -/
import Derived.Test.YtihifldpknpjhaaGreatDoorRows
import Derived.Test.YtihifldpknpjhaaGreatDoorCards
import Derived.WalkKit
import Derived.ProofKit
import Derived.JoinedOf
import Derived.Stop.Joined
import Derived.SevenTiedAt
namespace Go.Proofs.YtihifldpknpjhaaGreatDoor.viewTells
open Go.RowKit
theorem facts : joinedFacts Tryz.prog 3 Tryz.f3 Rows.viewTellsSpec Rows.viewTellsRow = true := by kernel_rfl
end Go.Proofs.YtihifldpknpjhaaGreatDoor.viewTells
