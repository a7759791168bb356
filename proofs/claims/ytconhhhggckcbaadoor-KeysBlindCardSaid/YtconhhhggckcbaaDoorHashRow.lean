/- Small facts that the rows of the hash laws share. -/
import Derived.Test.YtconhhhggckcbaaDoorCards
import Derived.Test.YtconhhhggckcbaaDoorTie
import Derived.Test.YtconhhhggckcbaaDoorMixB
import Derived.Test.YtconhhhggckcbaaDoorBaseB
import Derived.SliceStrings
import Derived.ProofKit
import Derived.Deep.DeepHandedRow
namespace Go.Proofs.YtconhhhggckcbaaDoor
open Go.ChangeShapes Go.WideShapes Go.ChangeAt Go.RowKit

theorem own_knob : ownKnob Tryd.prog.godebug = none := by kernel_rfl
theorem laid_out : laidOutB Tryd.prog = true := by kernel_rfl
theorem byte_of (z : Int) (h : (Lit.int .u8 z).wf = true) : ∃ b : UInt8, z = (b.toNat : Int) := by
  have hb := bounds_u8 h
  refine ⟨UInt8.ofNat z.toNat, ?_⟩
  rw [UInt8.toNat_ofNat']; omega
def laidIn (cs : Array Value) : Obj → Obj
  | .cells _ t frozen => .cells cs t frozen
  | o => o
/-- A WORLD FOR THE WITNESS: the settled one, the tables holding what their initialisers lay. -/
noncomputable def hashWorld (os : Os) : World :=
  { World.holding Tryd.prog os ⟨#[], #[], []⟩ with heap := ((World.holding Tryd.prog os ⟨#[], #[], []⟩).heap.modify 0 (laidIn (cells eightV))).modify 1 (laidIn sigCells) }
end Go.Proofs.YtconhhhggckcbaaDoor
