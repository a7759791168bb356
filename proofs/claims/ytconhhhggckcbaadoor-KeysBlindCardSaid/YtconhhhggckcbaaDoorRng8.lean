/- Plain: keys that are apart; the keys of names and boxes of the first keys. -/
import Derived.Test.YtconhhhggckcbaaDoorRng7
namespace Go.Proofs.YtconhhhggckcbaaDoor
open Go.RowKit

attribute [local irreducible] sealS keyedS nonceS openS
theorem shS_at {k no : List UInt8} {j : Nat} (h : j < 5) : (shS k no)[j]? = some (shOf k no j) := by
  rw [shS, List.getElem?_map, List.getElem?_range h]; rfl
theorem run_shs3 {a : Act} {o : Oper} {w : World} {x y z : Operand} {s0 s1 s2 : Sh} (ho : o.op = .buildSlice 31 3 #[(0, x), (1, y), (2, z)]) (hx : a.eval x = .agg (shareC s0).toArray) (hy : a.eval y = .agg (shareC s1).toArray) (hz : a.eval z = .agg (shareC s2).toArray) : (execOp a.eval o).run Tryd.prog w = .ok (.value (.slice (some ⟨w.heap.size, 0, none⟩) 3 3)) (w.alloc (.cells (List.toArray ([s0, s1, s2].flatMap shareC)) 54)) := by
  have hr : (Instr.buildSlice 31 3 #[(0, .agg (shareC s0).toArray), (1, .agg (shareC s1).toArray), (2, .agg (shareC s2).toArray)]).run Tryd.prog w = .ok (.slice (some ⟨w.heap.size, 0, none⟩) 3 3) (w.alloc (.cells (List.toArray ([s0, s1, s2].flatMap shareC)) 54)) := by kernel_rfl
  unfold execOp
  simp only [ho, List.map_toArray, List.map_cons, List.map_nil, hx, hy, hz, Sem.run_bind, hr, Result.andThen_ok, Sem.run_pure]
end Go.Proofs.YtconhhhggckcbaaDoor
