
/- A slice of decimals: each cell holds a slice. -/
import Derived.Test.YtimcnhlcepemjaaGreatDoorMG
namespace Go.Proofs.YtimcnhlcepemjaaGreatDoor
open Go.RowKit

end Go.Proofs.YtimcnhlcepemjaaGreatDoor
