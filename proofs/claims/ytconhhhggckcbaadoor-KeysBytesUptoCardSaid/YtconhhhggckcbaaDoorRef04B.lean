/- Laws and walks that many claims share: SealRnonce, Ref04. -/
import Derived.Test.YtconhhhggckcbaaDoorSealB
import Derived.Test.YtconhhhggckcbaaDoorBaseB
import Derived.Test.YtconhhhggckcbaaDoorRef01
import Derived.Test.YtconhhhggckcbaaDoorRsumB
import Derived.Test.YtconhhhggckcbaaDoorXorB
/- The walk of the reference's Nonce. -/
namespace Go.Proofs.YtconhhhggckcbaaDoor
open Go.RowKit

def nTo (s : List UInt8) (i : Nat) : List UInt8 := s.take i ++ List.replicate (12 - i) 0
attribute [local go_sem] str_byte
end Go.Proofs.YtconhhhggckcbaaDoor
/- The walks of the reference's boxes: of, tag, Seal, Open. Printed by gen_ref04.py. -/
namespace Go.Proofs.YtconhhhggckcbaaDoor
open Go.RowKit

attribute [local simp] xorS_len tagS_len keyedS_len nonceS_len
end Go.Proofs.YtconhhhggckcbaaDoor
