/- Plain: keys that are apart; the keys of names and boxes of the first keys. -/
import Derived.Test.YtconhhhggckcbaaDoorRng7
namespace Go.Proofs.YtconhhhggckcbaaDoor
open Go.RowKit

attribute [local irreducible] sealS keyedS nonceS openS
theorem shS_at {k no : List UInt8} {j : Nat} (h : j < 5) : (shS k no)[j]? = some (shOf k no j) := by
  rw [shS, List.getElem?_map, List.getElem?_range h]; rfl
end Go.Proofs.YtconhhhggckcbaaDoor
