/- Laws and walks that many claims share: SesS, SesW, MakeY. -/
import Derived.ProofKit
import Derived.Test.YtconhhhggckcbaaDoorOpsB
/- Plain: numbers as eight bytes, the lowest one first. -/
namespace Go.Proofs.YtconhhhggckcbaaDoor

def putS (n : Nat) : List UInt8 := (List.range 8).map fun i => UInt8.ofNat (n / 256 ^ i)
def getTo (s : List UInt8) : Nat → Nat
  | 0 => 0
  | k + 1 => getTo s k + (s.getD k 0).toNat * 256 ^ k
def getS (s : List UInt8) : Nat := getTo s (min s.length 8)
end Go.Proofs.YtconhhhggckcbaaDoor
/- Operations that the walks of package session need: bytes of an array in its block, fields of a boxed end. -/
namespace Go.Proofs.YtconhhhggckcbaaDoor
open Go.RowKit
variable {D : List Deferred}

section
variable {a : Act} {o : Oper} {w w0 : World} {n s : Nat} {L : List (Nat × Value)} {v : Value} {ops : Array Oper} {rest : List Oper} {Q : Exit → Act → World → Prop} {M : List (Nat × (Obj → Prop))} {x y z : Operand} {g m i : Nat}
theorem run_idxA {k : IntKind} {p : Int} {t e : TypeId} {cnt : Nat} (ho : o.op = .indexAddr t x y) (hx : a.eval x = .pointer (some ⟨g, 0, none⟩)) (hy : a.eval y = .int k p) (hp : p = (i : Int)) (hi : i < cnt) (hu : Tryd.prog.underlying t = some (.array cnt e)) (hz : (sizeOf e).run Tryd.prog w = .ok 1 w) : (execOp a.eval o).run Tryd.prog w = .ok (.value (.pointer (some ⟨g, i, none⟩))) w := by
  subst hp
  obtain ⟨h1, h2⟩ := arrLen_of hu
  have ht : Tryd.prog.underlying t = some (.array (Tryd.prog.arrayLen t) (Tryd.prog.elem t)) := by rw [h1, h2]; exact hu
  have hz' : (sizeOf (Tryd.prog.elem t)).run Tryd.prog w = .ok 1 w := by rw [h2]; exact hz
  have hr := run_indexAt_array (P := Tryd.prog) w t ⟨g, 0, none⟩ k (i : Int) ht
  unfold execOp
  simp only [ho, hx, hy]
  rw [Sem.run_bind, hr]
  simp [hz', h1, hi, Addr.add]
  intro h; exact h.symm
theorem sqSetA {j : Nat} {l : List UInt8} {b : UInt8} {t : TypeId} (hF : FrD D a n L) (hM : Mem w0 M w) (hgd : o.guard = none) (ho : o.op = .store 5 x y) (hd : o.dst = none) (hx : a.eval x = .pointer (some ⟨g, i, none⟩)) (hy : a.eval y = .int .u8 (b.toNat : Int))
    (e : M[j]? = some (g, isB t (cells8 l))) (hi : i < l.length) (h : ∀ a2 w2, FrD D a2 n L → Mem w0 (M.set j (g, isB t (cells8 (l.set i b)))) w2 → wpList Tryd.prog ops Q rest a2 w2) : wpList Tryd.prog ops Q (o :: rest) a w := by
  have hB := hM.at j e
  have hc : w.cell? ⟨g, i, none⟩ = some (cb l[i]) := by
    rw [hB.cell]
    simp [cells8, hi]
  have hf := hB.frozen i
  refine sqN hF (wantedS hgd) (w2 := w.setCell ⟨g, i, none⟩ (.int .u8 (b.toNat : Int))) ?_ hd fun a2 hF2 => h a2 _ hF2 (hM.upd j e (grown_setCell w g i _) ⟨_, ?_, rfl⟩)
  · unfold execOp
    simp only [ho, hx, hy]
    simp [go_sem, hc, hf]
  · unfold Blk at hB
    simp [World.setCell, Array.getElem?_modify, hB, cells8, List.map_set, cb]
theorem run_mkFn1 {f : FuncId} {c1 : Value} (ho : o.op = .makeFunc (.func f) #[] #[x]) (hx : a.eval x = c1) : (execOp a.eval o).run Tryd.prog w = .ok (.value (.func (.func f) #[] #[c1])) w := by
  unfold execOp
  simp only [ho, List.map_toArray, List.map_cons, List.map_nil, hx]
  rfl
end
end Go.Proofs.YtconhhhggckcbaaDoor
/- make([]byte, m). -/
namespace Go.Proofs.YtconhhhggckcbaaDoor
open Go.RowKit
variable {D : List Deferred}

theorem made_bytes (m j : Nat) (hj : j < m) : (madeCells #[Value.int .u8 0] m)[j]? = some (.int .u8 0) := by
  unfold madeCells
  simp [hj, Nat.mod_one]
theorem sqMakeY {a : Act} {op : Oper} {w w0 : World} {n s m : Nat} {L : List (Nat × Value)} {ops : Array Oper} {rest : List Oper} {Q : Exit → Act → World → Prop} {M : List (Nat × (Obj → Prop))} {x y : Operand} {k k2 : IntKind} {p p2 : Int} (hF : Fr a n L) (hM : Mem w0 M w) (hgd : op.guard = none) (ho : op.op = .makeSlice 52 x y) (hx : a.eval x = .int k p) (hy : a.eval y = .int k2 p2) (hp : p = (m : Int)) (hp2 : p2 = (m : Int)) (hm : m ≤ 35184372088832) (hd : op.dst = some s) (hs : s < n)
    (h : ∀ g a2 w2, w.heap.size ≤ g → Below w.heap.size w w2 → Fr a2 n ((s, .slice (some ⟨g, 0, none⟩) m m) :: L) → Mem w0 ((g, isY (List.replicate m 0)) :: M) w2 → wpList Tryd.prog ops Q rest a2 w2) : wpList Tryd.prog ops Q (op :: rest) a w := by
  subst hp hp2
  have hr := run_make_row' (P := Tryd.prog) 52 5 (.int .u8 0) 1 Tryd.underlying52 (by kernel_rfl) rfl k k2 m (by omega) (by omega) w
  have hb : Below w.heap.size w (w.alloc (.cells (madeCells #[Value.int .u8 0] m) 5)) := (Below.refl _ _).alloc (Nat.le_refl _) _
  refine sq hF (wantedS hgd) (v := .slice (some ⟨w.heap.size, 0, none⟩) m m) (w2 := w.alloc (.cells (madeCells #[Value.int .u8 0] m) 5)) ?_ hd hs fun a2 hF2 => h _ a2 _ (Nat.le_refl _) hb hF2 (hM.addS hb (Nat.le_refl _) ⟨_, heap_alloc_new w _, _, 0, 0, rfl, ?_, fun j hj => ?_, fun j _ => by omega⟩)
  · unfold execOp
    simp only [ho, hx, hy, Sem.run_bind, hr, Result.andThen_ok, Sem.run_pure]
  · rw [size_madeCells, List.length_replicate]; exact Nat.le_refl _
  · rw [List.length_replicate] at hj
    rw [made_bytes m j hj]
    simp [bt, hj]
end Go.Proofs.YtconhhhggckcbaaDoor
