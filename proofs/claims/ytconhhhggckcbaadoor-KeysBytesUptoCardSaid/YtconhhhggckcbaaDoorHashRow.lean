/- Small facts that the rows of the hash laws share. -/
import Derived.Test.YtconhhhggckcbaaDoorCards
import Derived.Test.YtconhhhggckcbaaDoorTie
import Derived.Test.YtconhhhggckcbaaDoorMixB
import Derived.Test.YtconhhhggckcbaaDoorBaseB
import Derived.SliceStrings
import Derived.ProofKit
import Derived.Deep.DeepHandedRow
namespace Go.Proofs.YtconhhhggckcbaaDoor
open Go.ChangeShapes Go.WideShapes Go.ChangeAt Go.RowKit

theorem own_knob : ownKnob Tryd.prog.godebug = none := by kernel_rfl
theorem laid_out : laidOutB Tryd.prog = true := by kernel_rfl
theorem list_of (s : ByteArray) (h : s.size ≤ maxLen) : ∃ l : List UInt8, s = ⟨l.toArray⟩ ∧ l.length ≤ maxLen := by
  refine ⟨s.data.toList, ?_, ?_⟩
  · cases s; simp
  · have e : s.data.toList.length = s.size := by rw [Array.length_toList]; rfl
    omega
def laidIn (cs : Array Value) : Obj → Obj
  | .cells _ t frozen => .cells cs t frozen
  | o => o
/-- A WORLD FOR THE WITNESS: the settled one, the tables holding what their initialisers lay. -/
noncomputable def hashWorld (os : Os) : World :=
  { World.holding Tryd.prog os ⟨#[], #[], []⟩ with heap := ((World.holding Tryd.prog os ⟨#[], #[], []⟩).heap.modify 0 (laidIn (cells eightV))).modify 1 (laidIn sigCells) }
end Go.Proofs.YtconhhhggckcbaaDoor
