/- Bytes of a text, alike or not. -/
import Derived.Test.YtpobmaklgnioeaaDoorLz1
namespace Go.Proofs.YtpobmaklgnioeaaDoor
open Go.RowKit

theorem bt_get {l : List UInt8} {i : Nat} (h : i < l.length) : l[i]? = some (bt l i) := by simp [bt, h]
theorem bt_ne {l : List UInt8} {i j : Nat} (hi : i < l.length) (hj : j < l.length) (h : ¬ (bt l i).toNat = (bt l j).toNat) : l[i]? ≠ l[j]? := by
  rw [bt_get hi, bt_get hj]
  intro e
  injection e with e
  exact h (by rw [e])
theorem bt_eq {l : List UInt8} {i j : Nat} (hi : i < l.length) (hj : j < l.length) (h : (bt l i).toNat = (bt l j).toNat) : l[i]? = l[j]? := by
  rw [bt_get hi, bt_get hj, UInt8.toNat_inj.1 h]
end Go.Proofs.YtpobmaklgnioeaaDoor
