/- share.Join of any shares. -/
import Derived.Test.YtconhhhggckcbaaDoorShr2
namespace Go.Proofs.YtconhhhggckcbaaDoor
open Go.RowKit

theorem joinT_none : ∀ {l : List Sh} (_ : l.length ≠ 3), joinT l = none
  | [], _ => rfl
  | [_], _ => rfl
  | [_, _], _ => rfl
  | [_, _, _], h => absurd rfl h
  | _ :: _ :: _ :: _ :: _, _ => rfl
theorem join_any (l : List Sh) (v : Value) (w : World) (hV : Sl w v 33 l.length (l.flatMap shareC)) : Calls Tryd.prog 28 #[v] w fun e w' => e = joinR (joinT l) ∧ Below w.heap.size w w' := by
  by_cases hl : l.length = 3
  · match l, hl, hV with
    | [s0, s1, s2], _, hV => exact join3_any s0 s1 s2 v w hV
  · rw [joinT_none hl]
    exact joinN_any l v w hV hl
end Go.Proofs.YtconhhhggckcbaaDoor
