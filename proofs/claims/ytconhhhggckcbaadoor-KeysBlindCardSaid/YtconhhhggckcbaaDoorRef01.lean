/- The walks of the reference's length and Row. Printed by gen_ref01.py. -/
import Derived.Test.YtconhhhggckcbaaDoorNumB
import Derived.Test.YtconhhhggckcbaaDoorBaseB
namespace Go.Proofs.YtconhhhggckcbaaDoor
open Go.RowKit

end Go.Proofs.YtconhhhggckcbaaDoor
