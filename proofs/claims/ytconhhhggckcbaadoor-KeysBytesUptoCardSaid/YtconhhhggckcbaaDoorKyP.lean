/- Plain: the keys that hang on the keys of epochs. -/
import Derived.Test.YtconhhhggckcbaaDoorBaseB
namespace Go.Proofs.YtconhhhggckcbaaDoor
open Go.RowKit

def namesT : List UInt8 := [110, 97, 109, 101, 115]
def boxesT : List UInt8 := [98, 111, 120, 101, 115]
/-- the key of names. -/
def idS (K : List (List UInt8)) : List UInt8 := if K = [] then List.replicate 32 0 else keyedS (K.getD 0 []) namesT
/-- the key of an epoch's boxes. -/
def bkeyS (K : List (List UInt8)) (n : Nat) : List UInt8 := keyedS (K.getD n []) boxesT
/-- the key of an epoch's boxes, or none. -/
def boxK (K : List (List UInt8)) (n : Int) : List UInt8 × Int := if n < 0 ∨ (K.length : Int) ≤ n then (List.replicate 32 0, 1) else (bkeyS K n.toNat, 0)
end Go.Proofs.YtconhhhggckcbaaDoor
