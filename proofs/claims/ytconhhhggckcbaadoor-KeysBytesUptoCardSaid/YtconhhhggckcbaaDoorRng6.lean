/- The walk of the laws' apart. Printed by gen_key20.py. -/
import Derived.Test.YtconhhhggckcbaaDoorRng5
import Derived.Test.YtconhhhggckcbaaDoorRef04B
namespace Go.Proofs.YtconhhhggckcbaaDoor
open Go.RowKit

/-- keys so far apart. -/
def apS (l : List (List UInt8)) (i k : Nat) : Prop := ∀ (p q : Nat) (x y : List UInt8), l[p]? = some x → l[q]? = some y → q < p → (p < i ∨ (p = i ∧ q < k)) → x ≠ y ∧ keyedS x checkT ≠ keyedS y checkT
attribute [local irreducible] sealS keyedS nonceS openS
end Go.Proofs.YtconhhhggckcbaaDoor
