/- A share as the 33 bytes of its block, filled byte by byte. -/
import Derived.Test.YtconhhhggckcbaaDoorRng7
import Derived.Test.YtconhhhggckcbaaDoorFldP
import Derived.Test.YtconhhhggckcbaaDoorFldQ
namespace Go.Proofs.YtconhhhggckcbaaDoor
open Go.RowKit
variable {D : List Deferred}

def genT (x : UInt8) (f : Nat → UInt8) (i : Nat) : List UInt8 := x :: (List.range 32).map fun q => if q < i then f q else 0
def genS (x : UInt8) (f : Nat → UInt8) : Sh := ⟨x, (List.range 32).map f⟩
section
variable {a : Act} {o : Oper} {w w0 : World} {n s : Nat} {L : List (Nat × Value)} {v : Value} {ops : Array Oper} {rest : List Oper} {Q : Exit → Act → World → Prop} {M : List (Nat × (Obj → Prop))} {x y z : Operand} {g i : Nat} {l : List UInt8}
end
end Go.Proofs.YtconhhhggckcbaaDoor
