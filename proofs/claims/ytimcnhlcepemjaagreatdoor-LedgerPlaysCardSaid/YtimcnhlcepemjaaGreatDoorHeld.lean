
/- gleanlaw24.held: a ledger of some stakes. -/
import Derived.Test.YtimcnhlcepemjaaGreatDoorMJ
import Derived.Test.YtimcnhlcepemjaaGreatDoorDSl
namespace Go.Proofs.YtimcnhlcepemjaaGreatDoor
open Go.RowKit

end Go.Proofs.YtimcnhlcepemjaaGreatDoor
