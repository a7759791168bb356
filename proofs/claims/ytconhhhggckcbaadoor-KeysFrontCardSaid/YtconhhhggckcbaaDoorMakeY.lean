/- make([]byte, m). -/
import Derived.Test.YtconhhhggckcbaaDoorOpsB
namespace Go.Proofs.YtconhhhggckcbaaDoor
open Go.RowKit
variable {D : List Deferred}

theorem made_bytes (m j : Nat) (hj : j < m) : (madeCells #[Value.int .u8 0] m)[j]? = some (.int .u8 0) := by
  unfold madeCells
  simp [hj, Nat.mod_one]
theorem sqMakeY {a : Act} {op : Oper} {w w0 : World} {n s m : Nat} {L : List (Nat × Value)} {ops : Array Oper} {rest : List Oper} {Q : Exit → Act → World → Prop} {M : List (Nat × (Obj → Prop))} {x y : Operand} {k k2 : IntKind} {p p2 : Int} (hF : Fr a n L) (hM : Mem w0 M w) (hgd : op.guard = none) (ho : op.op = .makeSlice 52 x y) (hx : a.eval x = .int k p) (hy : a.eval y = .int k2 p2) (hp : p = (m : Int)) (hp2 : p2 = (m : Int)) (hm : m ≤ 35184372088832) (hd : op.dst = some s) (hs : s < n)
    (h : ∀ g a2 w2, w.heap.size ≤ g → Below w.heap.size w w2 → Fr a2 n ((s, .slice (some ⟨g, 0, none⟩) m m) :: L) → Mem w0 ((g, isY (List.replicate m 0)) :: M) w2 → wpList Tryd.prog ops Q rest a2 w2) : wpList Tryd.prog ops Q (op :: rest) a w := by
  subst hp hp2
  have hr := run_make_row' (P := Tryd.prog) 52 5 (.int .u8 0) 1 Tryd.underlying52 (by kernel_rfl) rfl k k2 m (by omega) (by omega) w
  have hb : Below w.heap.size w (w.alloc (.cells (madeCells #[Value.int .u8 0] m) 5)) := (Below.refl _ _).alloc (Nat.le_refl _) _
  refine sq hF (wantedS hgd) (v := .slice (some ⟨w.heap.size, 0, none⟩) m m) (w2 := w.alloc (.cells (madeCells #[Value.int .u8 0] m) 5)) ?_ hd hs fun a2 hF2 => h _ a2 _ (Nat.le_refl _) hb hF2 (hM.addS hb (Nat.le_refl _) ⟨_, heap_alloc_new w _, _, 0, 0, rfl, ?_, fun j hj => ?_, fun j _ => by omega⟩)
  · unfold execOp
    simp only [ho, hx, hy, Sem.run_bind, hr, Result.andThen_ok, Sem.run_pure]
  · rw [size_madeCells, List.length_replicate]; exact Nat.le_refl _
  · rw [List.length_replicate] at hj
    rw [made_bytes m j hj]
    simp [bt, hj]
end Go.Proofs.YtconhhhggckcbaaDoor
