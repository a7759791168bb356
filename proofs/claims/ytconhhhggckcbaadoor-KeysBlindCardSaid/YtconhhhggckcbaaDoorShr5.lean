/- The walks of the reference's At and Join (layer 6). Printed by gen_key7.py. -/
import Derived.Test.YtconhhhggckcbaaDoorShr4
namespace Go.Proofs.YtconhhhggckcbaaDoor
open Go.RowKit

theorem apart3 {x0 x1 x2 : UInt8} (d01 : x0 ≠ x1) (d02 : x0 ≠ x2) (d12 : x1 ≠ x2) : ∀ i j, i < [x0, x1, x2].length → j < [x0, x1, x2].length → [x0, x1, x2].getD i 0 = [x0, x1, x2].getD j 0 → i = j
  | 0, 0, _, _, _ => rfl
  | 0, 1, _, _, h => absurd h d01
  | 0, 2, _, _, h => absurd h d02
  | 1, 0, _, _, h => absurd h.symm d01
  | 1, 1, _, _, _ => rfl
  | 1, 2, _, _, h => absurd h d12
  | 2, 0, _, _, h => absurd h.symm d02
  | 2, 1, _, _, h => absurd h.symm d12
  | 2, 2, _, _, _ => rfl
  | i + 3, _, hi, _, _ => absurd hi (by simp)
  | 0, j + 3, _, hj, _ => absurd hj (by simp)
  | 1, j + 3, _, hj, _ => absurd hj (by simp)
  | 2, j + 3, _, hj, _ => absurd hj (by simp)
end Go.Proofs.YtconhhhggckcbaaDoor
