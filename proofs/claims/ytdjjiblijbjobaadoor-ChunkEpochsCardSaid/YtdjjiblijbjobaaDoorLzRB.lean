/- Laws and walks that many claims share: Lz2, Lz3. -/
import Derived.Test.YtdjjiblijbjobaaDoorLzQB
import Derived.Test.YtdjjiblijbjobaaDoorLzPB
/- The walks of the reference's same, best, run, Pack and Unpack. Printed by gen_lz2.py. -/
namespace Go.Proofs.YtdjjiblijbjobaaDoor
open Go.RowKit

end Go.Proofs.YtdjjiblijbjobaaDoor
/- The walk of the reference's Unpack. Printed by gen_lz3.py. -/
namespace Go.Proofs.YtdjjiblijbjobaaDoor
open Go.RowKit

end Go.Proofs.YtdjjiblijbjobaaDoor
