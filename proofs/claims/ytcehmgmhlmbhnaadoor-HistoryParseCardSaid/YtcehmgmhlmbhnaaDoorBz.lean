/- Flags as a number. -/
import Derived.Test.YtcehmgmhlmbhnaaDoorPr0
import Derived.Test.YtcehmgmhlmbhnaaDoorK1
namespace Go.Proofs.YtcehmgmhlmbhnaaDoor.Pr
/-- The first n bits of m. -/
def bz (n m : Nat) : Array Bool := ((List.range n).map fun j => m.testBit j).toArray
end Go.Proofs.YtcehmgmhlmbhnaaDoor.Pr
