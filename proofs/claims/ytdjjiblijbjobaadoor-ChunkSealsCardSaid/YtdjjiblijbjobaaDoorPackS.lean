/- Plain mathematics of packs (layer 40); no program in sight. -/
import Derived.Test.YtdjjiblijbjobaaDoorBaseB
import Derived.Test.YtdjjiblijbjobaaDoorOpsB
namespace Go.Proofs.YtdjjiblijbjobaaDoor
open Go.RowKit

/-- a box: its name, its data. -/
abbrev Bx := List UInt8 × List UInt8
def boxC (b : Bx) : List Value := [tx b.1, tx b.2]
def hibp : List UInt8 := [104, 105, 98, 112]
/-- why a name may not stand behind others. -/
def mayS (seen : List (List UInt8)) (nm : List UInt8) : Int := if nm.length < 1 ∨ 100 < nm.length then 7 else if seen.contains nm then 8 else 0
def namesF : List (List UInt8) → List Bx → Int
  | _, [] => 0
  | seen, b :: r => if mayS seen b.1 = 0 then namesF (seen ++ [b.1]) r else mayS seen b.1
def namesS (l : List Bx) : Int := namesF [] l
/-- the boxes as texts. -/
def textsB (l : List Bx) : List (List UInt8) := l.flatMap fun b => [b.1, b.2]
def bytesS (l : List Bx) : List UInt8 := rowS (hibp :: textsB l)
/-- the bytes of a pack, and the error. -/
def makeS (l : List Bx) : List UInt8 × Int :=
  if l = [] then ([], 1) else if namesS l ≠ 0 then ([], namesS l) else if 65536 < (bytesS l).length then ([], 6) else (bytesS l, 0)
/-- texts as boxes. -/
def boxesOf : List (List UInt8) → List Bx
  | n :: d :: r => (n, d) :: boxesOf r
  | _ => []
/-- how many bytes a text has in a row. -/
def rowedS (s : List UInt8) : Nat := (lenB s.length).length + s.length
/-- what is still to be counted of a length. -/
def more7 (m : Nat) : Nat := if m = 0 then 0 else (lenB m).length
end Go.Proofs.YtdjjiblijbjobaaDoor
