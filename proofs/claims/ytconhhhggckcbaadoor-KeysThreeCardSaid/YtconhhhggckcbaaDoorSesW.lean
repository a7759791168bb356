/- Operations that the walks of package session need: bytes of an array in its block, fields of a boxed end. -/
import Derived.Test.YtconhhhggckcbaaDoorOpsB
import Derived.Test.YtconhhhggckcbaaDoorSesS
namespace Go.Proofs.YtconhhhggckcbaaDoor
open Go.RowKit
variable {D : List Deferred}

section
variable {a : Act} {o : Oper} {w w0 : World} {n s : Nat} {L : List (Nat × Value)} {v : Value} {ops : Array Oper} {rest : List Oper} {Q : Exit → Act → World → Prop} {M : List (Nat × (Obj → Prop))} {x y z : Operand} {g m i : Nat}
theorem run_idxA {k : IntKind} {p : Int} {t e : TypeId} {cnt : Nat} (ho : o.op = .indexAddr t x y) (hx : a.eval x = .pointer (some ⟨g, 0, none⟩)) (hy : a.eval y = .int k p) (hp : p = (i : Int)) (hi : i < cnt) (hu : Tryd.prog.underlying t = some (.array cnt e)) (hz : (sizeOf e).run Tryd.prog w = .ok 1 w) : (execOp a.eval o).run Tryd.prog w = .ok (.value (.pointer (some ⟨g, i, none⟩))) w := by
  subst hp
  obtain ⟨h1, h2⟩ := arrLen_of hu
  have ht : Tryd.prog.underlying t = some (.array (Tryd.prog.arrayLen t) (Tryd.prog.elem t)) := by rw [h1, h2]; exact hu
  have hz' : (sizeOf (Tryd.prog.elem t)).run Tryd.prog w = .ok 1 w := by rw [h2]; exact hz
  have hr := run_indexAt_array (P := Tryd.prog) w t ⟨g, 0, none⟩ k (i : Int) ht
  unfold execOp
  simp only [ho, hx, hy]
  rw [Sem.run_bind, hr]
  simp [hz', h1, hi, Addr.add]
  intro h; exact h.symm
theorem sqSetA {j : Nat} {l : List UInt8} {b : UInt8} {t : TypeId} (hF : FrD D a n L) (hM : Mem w0 M w) (hgd : o.guard = none) (ho : o.op = .store 5 x y) (hd : o.dst = none) (hx : a.eval x = .pointer (some ⟨g, i, none⟩)) (hy : a.eval y = .int .u8 (b.toNat : Int))
    (e : M[j]? = some (g, isB t (cells8 l))) (hi : i < l.length) (h : ∀ a2 w2, FrD D a2 n L → Mem w0 (M.set j (g, isB t (cells8 (l.set i b)))) w2 → wpList Tryd.prog ops Q rest a2 w2) : wpList Tryd.prog ops Q (o :: rest) a w := by
  have hB := hM.at j e
  have hc : w.cell? ⟨g, i, none⟩ = some (cb l[i]) := by
    rw [hB.cell]
    simp [cells8, hi]
  have hf := hB.frozen i
  refine sqN hF (wantedS hgd) (w2 := w.setCell ⟨g, i, none⟩ (.int .u8 (b.toNat : Int))) ?_ hd fun a2 hF2 => h a2 _ hF2 (hM.upd j e (grown_setCell w g i _) ⟨_, ?_, rfl⟩)
  · unfold execOp
    simp only [ho, hx, hy]
    simp [go_sem, hc, hf]
  · unfold Blk at hB
    simp [World.setCell, Array.getElem?_modify, hB, cells8, List.map_set, cb]
theorem run_mkFn1 {f : FuncId} {c1 : Value} (ho : o.op = .makeFunc (.func f) #[] #[x]) (hx : a.eval x = c1) : (execOp a.eval o).run Tryd.prog w = .ok (.value (.func (.func f) #[] #[c1])) w := by
  unfold execOp
  simp only [ho, List.map_toArray, List.map_cons, List.map_nil, hx]
  rfl
end
end Go.Proofs.YtconhhhggckcbaaDoor
