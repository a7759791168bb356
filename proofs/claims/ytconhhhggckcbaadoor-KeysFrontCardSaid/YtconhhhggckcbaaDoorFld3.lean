/- The walks of the reference's Mul, Inv, Eval and At (layer 5). Printed by gen_key3.py. -/
import Derived.Test.YtconhhhggckcbaaDoorFld1
import Derived.Test.YtconhhhggckcbaaDoorFldQ
namespace Go.Proofs.YtconhhhggckcbaaDoor
open Go.RowKit

end Go.Proofs.YtconhhhggckcbaaDoor
