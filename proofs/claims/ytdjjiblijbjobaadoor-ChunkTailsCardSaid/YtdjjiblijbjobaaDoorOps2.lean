/- More operations, told by their operands; results of three values; where ways meet again. No program in sight. -/
import Derived.Laws.BitsAllLaws
import Derived.Laws.Bits128
import Derived.Test.YtdjjiblijbjobaaDoorBaseB
namespace Go.Proofs.YtdjjiblijbjobaaDoor
open Go.RowKit
variable {D : List Deferred}

section
variable {P : Program} {a : Act} {o : Oper} {w w0 : World} {t t2 : TypeId} {x y z : Operand} {k k2 : IntKind} {p q r : Int} {n s : Nat} {L : List (Nat × Value)} {v : Value} {Q : Exit → Act → World → Prop}
theorem run_and (ho : o.op = .binOp .and t x y t2) (hx : a.eval x = .int k p) (hy : a.eval y = .int k q) (h : bits .and k p q = r) : (execOp a.eval o).run P w = .ok (.value (.int k r)) w :=
  run_bin ho hx hy (guard_int _) (by simp [binOp, h, go_sem])
theorem run_or (ho : o.op = .binOp .or t x y t2) (hx : a.eval x = .int k p) (hy : a.eval y = .int k q) (h : bits .or k p q = r) : (execOp a.eval o).run P w = .ok (.value (.int k r)) w :=
  run_bin ho hx hy (guard_int _) (by simp [binOp, h, go_sem])
theorem run_xor (ho : o.op = .binOp .xor t x y t2) (hx : a.eval x = .int k p) (hy : a.eval y = .int k q) (h : bits .xor k p q = r) : (execOp a.eval o).run P w = .ok (.value (.int k r)) w :=
  run_bin ho hx hy (guard_int _) (by simp [binOp, h, go_sem])
theorem run_shl (ho : o.op = .binOp .shl t x y t2) (hx : a.eval x = .int k p) (hy : a.eval y = .int k2 q) (h0 : 0 ≤ q) (h1 : q ≤ k.bits) (h : k.wrap (p * 2 ^ q.toNat) = r) : (execOp a.eval o).run P w = .ok (.value (.int k r)) w :=
  run_bin ho hx hy (guard_int _) (by rw [binOp_shl, shift_shl k k2 p q h0 h1, h]; rfl)
theorem run_shr (ho : o.op = .binOp .shr t x y t2) (hx : a.eval x = .int k p) (hy : a.eval y = .int k2 q) (h0 : 0 ≤ q) (h1 : q ≤ k.bits) (h : p / 2 ^ q.toNat = r) : (execOp a.eval o).run P w = .ok (.value (.int k r)) w :=
  run_bin ho hx hy (guard_int _) (by rw [binOp_shr, shift_shr k k2 p q h0 h1, h]; rfl)
theorem run_not {b : Bool} (ho : o.op = .unOp .not t x) (hx : a.eval x = .bool b) : (execOp a.eval o).run P w = .ok (.value (.bool (!b))) w := by
  unfold execOp
  simp only [ho, hx]
  simp [go_sem]
theorem run_sToE {l l2 : List UInt8} {m : Nat} (hr : l.take m = l2) (ho : o.op = .slice t x none (some y) none) (hx : a.eval x = .string ⟨l.toArray⟩) (hy : a.eval y = .int k p) (hu : P.underlying t = some .string) (hp : p = (m : Int)) (hn : m ≤ l.length) : (execOp a.eval o).run P w = .ok (.value (.string ⟨l2.toArray⟩)) w := by
  subst hr; exact run_sTo ho hx hy hu hp hn
theorem run_sFromE {l l2 : List UInt8} {m : Nat} (hr : l.drop m = l2) (ho : o.op = .slice t x (some y) none none) (hx : a.eval x = .string ⟨l.toArray⟩) (hy : a.eval y = .int k p) (hu : P.underlying t = some .string) (hp : p = (m : Int)) (hn : m ≤ l.length) : (execOp a.eval o).run P w = .ok (.value (.string ⟨l2.toArray⟩)) w := by
  subst hr; exact run_sFrom ho hx hy hu hp hn
theorem run_sMidE {l l2 : List UInt8} {m m2 : Nat} (hr : (l.drop m).take (m2 - m) = l2) (ho : o.op = .slice t x (some y) (some z) none) (hx : a.eval x = .string ⟨l.toArray⟩) (hy : a.eval y = .int k p) (hz : a.eval z = .int k2 q) (hu : P.underlying t = some .string) (hp : p = (m : Int)) (hq : q = (m2 : Int)) (hmn : m ≤ m2) (hn : m2 ≤ l.length) : (execOp a.eval o).run P w = .ok (.value (.string ⟨l2.toArray⟩)) w := by
  subst hr; exact run_sMid ho hx hy hz hu hp hq hmn hn
/-- 'T{}' of a slice's type. -/
theorem run_none {e : TypeId} {m : Nat} (ho : o.op = .buildSlice t 0 #[]) (hu : P.underlying t = some (.slice e)) (hz : (sizeOf e).run P w = .ok m w) : (execOp a.eval o).run P w = .ok (.value (.slice (some ⟨w.heap.size, 0, none⟩) 0 0)) (w.alloc (.cells #[] e)) := by
  unfold execOp
  simp only [ho]
  simp [Instr.buildSlice, run_underlying hu, hz, Instr.fill, go_sem]
theorem results_tmp3 {fn : Func} {t u v : Tmp} (h : fn.results = #[.tmp t, .tmp u, .tmp v]) (tmps : Array Value) (P : Program) (w : World) :
    (results fn tmps).run P w = .ok (.tuple #[tmps.getD t undef, tmps.getD u undef, tmps.getD v undef]) w := by
  simp [results, h]
theorem ret3 {fn : Func} {R : Ending → World → Prop} {s2 s3 : Nat} {v2 v3 : Value} (hF : Fr a n L) (hr : fn.results = #[.tmp s, .tmp s2, .tmp s3]) (hl : lk L s = some v) (hl2 : lk L s2 = some v2) (hl3 : lk L s3 = some v3) (h : R (.returned (.tuple #[v, v2, v3])) w) : bodyPost P fn R .ret a w :=
  bodyPost_ret (results_tmp3 hr a.tmps P w) hF.defers (by rw [Array.getD_eq_getD_getElem?, hF.at s hl, Array.getD_eq_getD_getElem?, hF.at s2 hl2, Array.getD_eq_getD_getElem?, hF.at s3 hl3]; exact h)
/-- the ways of x meet at J. -/
theorem seqCut {c d : Code} (J : Act → World → Prop) (hx : c.wp P (Exit.then J Q) a w) (hy : ∀ a w, J a w → d.wp P Q a w) : (Code.seq c d).wp P Q a w :=
  wp_seq (wp_mono hx fun e a2 w2 h => by
    cases e
    case normal => exact hy a2 w2 h
    all_goals exact h)
end
end Go.Proofs.YtdjjiblijbjobaaDoor
