/- Plain: numbers as eight bytes, the lowest one first. -/
import Derived.ProofKit
namespace Go.Proofs.YtconhhhggckcbaaDoor

def putS (n : Nat) : List UInt8 := (List.range 8).map fun i => UInt8.ofNat (n / 256 ^ i)
def getTo (s : List UInt8) : Nat → Nat
  | 0 => 0
  | k + 1 => getTo s k + (s.getD k 0).toNat * 256 ^ k
def getS (s : List UInt8) : Nat := getTo s (min s.length 8)
end Go.Proofs.YtconhhhggckcbaaDoor
