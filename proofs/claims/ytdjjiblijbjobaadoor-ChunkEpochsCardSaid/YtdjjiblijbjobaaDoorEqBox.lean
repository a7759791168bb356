/- Equality of boxes. -/
import Derived.Test.YtdjjiblijbjobaaDoorOpsB
namespace Go.Proofs.YtdjjiblijbjobaaDoor
open Go.RowKit

theorem szBox : (Tryd.prog.info? 36).map (·.size) = some 2 := by kernel_rfl
theorem eqBox (s r s2 r2 : List UInt8) (w : World) : (Op.equalIn 10000 36 (.agg #[.string ⟨s.toArray⟩, .string ⟨r.toArray⟩]) (.agg #[.string ⟨s2.toArray⟩, .string ⟨r2.toArray⟩])).run Tryd.prog w = .ok ((s, r) == (s2, r2)) w := by
  have e1 : (⟨s.toArray⟩ : ByteArray).toList = s := ba_toList s
  have e2 : (⟨r.toArray⟩ : ByteArray).toList = r := ba_toList r
  have e3 : (⟨s2.toArray⟩ : ByteArray).toList = s2 := ba_toList s2
  have e4 : (⟨r2.toArray⟩ : ByteArray).toList = r2 := ba_toList r2
  go_simp
  cases h1 : s == s2 <;> cases h2 : r == r2 <;> simp_all
section
variable {a : Act} {op : Oper} {w : World} {x y : Operand} {t2 : TypeId} {s r s2 r2 : List UInt8} {b : Bool}
theorem run_eqBox (h : ((s, r) == (s2, r2)) = b) (ho : op.op = .binOp .eql 36 x y t2) (hx : a.eval x = .agg #[.string ⟨s.toArray⟩, .string ⟨r.toArray⟩]) (hy : a.eval y = .agg #[.string ⟨s2.toArray⟩, .string ⟨r2.toArray⟩]) : (execOp a.eval op).run Tryd.prog w = .ok (.value (.bool b)) w :=
  run_bin ho hx hy (run_eqGuard_agg w _ _ _ _ _ _ (by kernel_rfl)) (by rw [run_eql_struct, eqBox, h]; rfl)
end
end Go.Proofs.YtdjjiblijbjobaaDoor
