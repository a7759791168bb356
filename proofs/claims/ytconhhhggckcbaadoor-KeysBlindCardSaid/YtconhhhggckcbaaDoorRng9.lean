/- The walks of the reference's Split (layer 6), Same and SameRing. Printed by gen_key24.py. -/
import Derived.Test.YtconhhhggckcbaaDoorShT
namespace Go.Proofs.YtconhhhggckcbaaDoor
open Go.RowKit

end Go.Proofs.YtconhhhggckcbaaDoor
