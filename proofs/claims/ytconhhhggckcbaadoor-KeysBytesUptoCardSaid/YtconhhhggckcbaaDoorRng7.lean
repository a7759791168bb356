/- The walk of the laws' made. Printed by gen_key21.py. -/
import Derived.Test.YtconhhhggckcbaaDoorRng6
namespace Go.Proofs.YtconhhhggckcbaaDoor
open Go.RowKit

/-- each of the rows of shares is a key's. -/
def elemsO (w0 w : World) (l : List (List UInt8)) (no : List UInt8) (i : Nat) (US : List Value) : Prop := ∀ (q : Nat) (k : List UInt8), q < i → l[q]? = some k → ∃ u, US[q]? = some u ∧ w.ownsRow w0.heap.size 54 33 u 5 ((shS k no).flatMap shareC)
theorem elemsO.below {w0 w W : World} {l : List (List UInt8)} {no : List UInt8} {i : Nat} {US : List Value} (h : elemsO w0 w l no i US) (hb : Below w.heap.size w W) : elemsO w0 W l no i US := fun q k hq hk => by
  obtain ⟨u, h1, h2⟩ := h q k hq hk
  exact ⟨u, h1, ownsRow_keep0 h2 (below_grownP hb none) (by simp)⟩
theorem elemsO.keep {w0 w W : World} {l : List (List UInt8)} {no : List UInt8} {i : Nat} {US : List Value} {G : List Nat} (h : elemsO w0 w l no i US) (hk : KeepW G w W) (hG : ∀ g ∈ G, ∃ cur t, w.heap[g]? = some (.cells cur t (0, 0)) ∧ (!(Nat.beq t 54)) = true) : elemsO w0 W l no i US := fun q k hq hk2 => by
  obtain ⟨u, h1, h2⟩ := h q k hq hk2
  exact ⟨u, h1, owns_keepT h2 hk hG⟩
attribute [local irreducible] sealS keyedS nonceS openS
theorem OwnR.perm {w0 w : World} {M M2 : List (Nat × (Obj → Prop))} {e : TypeId} {size m : Nat} {v : Value} {xs : List Value} (h : OwnR w0 M w e size v m xs) (hp : M2.Perm M) : OwnR w0 M2 w e size v m xs := ⟨h.owns, fun x hx => h.far x (hp.subset hx)⟩
end Go.Proofs.YtconhhhggckcbaaDoor
