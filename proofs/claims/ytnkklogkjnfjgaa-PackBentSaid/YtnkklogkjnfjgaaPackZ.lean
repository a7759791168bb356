/- Of by one contract; equality of boxes and places. -/
import Derived.Test.YtnkklogkjnfjgaaPack7
namespace Go.Proofs.Ytnkklogkjnfjgaa
open Go.RowKit

/-- the places of bytes (none where there is an error), and the error. -/
def zS (b : List UInt8) : List Pl := match ofS b with | some l => placesS l | none => []
def eS (b : List UInt8) : Int := match ofS b with | some _ => 0 | none => 3
theorem OfR_z {b : List UInt8} {base : Nat} {u : Value} {w : World} (h : OfR b base u w) : ∃ v, u = .tuple #[v, .int .i64 (eS b)] ∧ w.ownsRow base 39 3 v (zS b).length ((zS b).flatMap placeC) := by
  unfold OfR at h
  unfold zS eS
  cases ho : ofS b with
  | none => rw [ho] at h; exact h
  | some l => rw [ho] at h; exact h
theorem pof_z (b : List UInt8) (w : World) (hb : b.length < 2 ^ 41) : Calls Try.prog 9 #[.string ⟨b.toArray⟩] w fun x w' => ∃ u, x = .returned u ∧ (∃ v, u = .tuple #[v, .int .i64 (eS b)] ∧ w'.ownsRow w.heap.size 39 3 v (zS b).length ((zS b).flatMap placeC)) ∧ Below w.heap.size w w' :=
  (pof_any b w (by omega)).mono fun _ _ ⟨u, h1, h2, h3⟩ => ⟨u, h1, OfR_z h2, h3⟩
theorem rof_z (b : List UInt8) (w : World) (hb : b.length < 2 ^ 41) : Calls Try.prog 10 #[.string ⟨b.toArray⟩] w fun x w' => ∃ u, x = .returned u ∧ (∃ v, u = .tuple #[v, .int .i64 (eS b)] ∧ w'.ownsRow w.heap.size 39 3 v (zS b).length ((zS b).flatMap placeC)) ∧ Below w.heap.size w w' :=
  (rof40_any b w hb).mono fun _ _ ⟨u, h1, h2, h3⟩ => ⟨u, h1, OfR_z h2, h3⟩
theorem eqBox (s r s2 r2 : List UInt8) (w : World) : (Op.equalIn 10000 29 (.agg #[.string ⟨s.toArray⟩, .string ⟨r.toArray⟩]) (.agg #[.string ⟨s2.toArray⟩, .string ⟨r2.toArray⟩])).run Try.prog w = .ok ((s, r) == (s2, r2)) w := by
  have e1 : (⟨s.toArray⟩ : ByteArray).toList = s := ba_toList s
  have e2 : (⟨r.toArray⟩ : ByteArray).toList = r := ba_toList r
  have e3 : (⟨s2.toArray⟩ : ByteArray).toList = s2 := ba_toList s2
  have e4 : (⟨r2.toArray⟩ : ByteArray).toList = r2 := ba_toList r2
  go_simp
  cases h1 : s == s2 <;> cases h2 : r == r2 <;> simp_all
theorem eqPlace (s s2 : List UInt8) (i j i2 j2 : Int) (w : World) : (Op.equalIn 10000 39 (.agg #[.string ⟨s.toArray⟩, .int .i64 i, .int .i64 j]) (.agg #[.string ⟨s2.toArray⟩, .int .i64 i2, .int .i64 j2])).run Try.prog w = .ok ((s, i, j) == (s2, i2, j2)) w := by
  have e1 : (⟨s.toArray⟩ : ByteArray).toList = s := ba_toList s
  have e3 : (⟨s2.toArray⟩ : ByteArray).toList = s2 := ba_toList s2
  go_simp
  cases h1 : s == s2 <;> cases h2 : i == i2 <;> cases h3 : j == j2 <;> simp_all
section
variable {a : Act} {op : Oper} {w : World} {x y : Operand} {t2 : TypeId} {s r s2 r2 : List UInt8} {i j i2 j2 : Int} {b : Bool}
theorem run_eqBox (h : ((s, r) == (s2, r2)) = b) (ho : op.op = .binOp .eql 29 x y t2) (hx : a.eval x = .agg #[.string ⟨s.toArray⟩, .string ⟨r.toArray⟩]) (hy : a.eval y = .agg #[.string ⟨s2.toArray⟩, .string ⟨r2.toArray⟩]) : (execOp a.eval op).run Try.prog w = .ok (.value (.bool b)) w :=
  run_bin ho hx hy (run_eqGuard_agg w _ _ _ _ _ _ (by kernel_rfl)) (by rw [run_eql_struct, eqBox, h]; rfl)
theorem run_neBox (h : (!((s, r) == (s2, r2))) = b) (ho : op.op = .binOp .neq 29 x y t2) (hx : a.eval x = .agg #[.string ⟨s.toArray⟩, .string ⟨r.toArray⟩]) (hy : a.eval y = .agg #[.string ⟨s2.toArray⟩, .string ⟨r2.toArray⟩]) : (execOp a.eval op).run Try.prog w = .ok (.value (.bool b)) w :=
  run_bin ho hx hy (run_eqGuard_agg w _ _ _ _ _ _ (by kernel_rfl)) (by rw [run_neq_struct, eqBox]; simp only [Result.andThen_ok, h])
theorem run_nePlace (h : (!((s, i, j) == (s2, i2, j2))) = b) (ho : op.op = .binOp .neq 39 x y t2) (hx : a.eval x = .agg #[.string ⟨s.toArray⟩, .int .i64 i, .int .i64 j]) (hy : a.eval y = .agg #[.string ⟨s2.toArray⟩, .int .i64 i2, .int .i64 j2]) : (execOp a.eval op).run Try.prog w = .ok (.value (.bool b)) w :=
  run_bin ho hx hy (run_eqGuard_agg w _ _ _ _ _ _ (by kernel_rfl)) (by rw [run_neq_struct, eqPlace]; simp only [Result.andThen_ok, h])
end
end Go.Proofs.Ytnkklogkjnfjgaa
