/- A digest's state in memory, and the two tables of package hash. -/
import Derived.Test.YtilbebjjmnncdaaDoorMix
import Derived.Test.YtilbebjjmnncdaaDoorStream
namespace Go.Proofs.YtilbebjjmnncdaaDoor
open Go.RowKit

def stCells (h : List Wd) (wt : List UInt8) (fill : Int) (taken : Nat) : Array Value := cells h ++ cells8 wt ++ #[.int .i64 fill, .int .u64 (taken : Int)]
def sigCells : Array Value := (sigma.flatMap (fun l => l.map cb)).toArray
/-- the two tables lie where the program's text lays them. -/
def Glob (w : World) : Prop := (∃ t fr, w.heap[0]? = some (.cells (cells eightV) t fr)) ∧ (∃ t fr, w.heap[1]? = some (.cells sigCells t fr))
theorem Glob.keep {w w' : World} (h : Glob w) (h0 : w'.heap[0]? = w.heap[0]?) (h1 : w'.heap[1]? = w.heap[1]?) : Glob w' := by
  obtain ⟨⟨t, fr, e0⟩, ⟨t', fr', e1⟩⟩ := h
  exact ⟨⟨t, fr, by rw [h0]; exact e0⟩, ⟨t', fr', by rw [h1]; exact e1⟩⟩
theorem Glob.two {w : World} (h : Glob w) : 2 ≤ w.heap.size := by
  obtain ⟨_, ⟨t', fr', e1⟩⟩ := h
  rcases Nat.lt_or_ge 1 w.heap.size with h1 | h1
  · omega
  · rw [Array.getElem?_eq_none h1] at e1; cases e1
theorem Glob.below {w w' : World} (h : Glob w) (hb : Below w.heap.size w w') : Glob w' := h.keep (hb.block 0 (by have := h.two; omega)) (hb.block 1 (by have := h.two; omega))
theorem Glob.grown {w w' : World} {g : Nat} (h : Glob w) (hb : w.grownBy w' (some g)) (hg : 2 ≤ g) : Glob w' :=
  h.keep (hb.block 0 (by have := h.two; omega) (by simp; omega)) (hb.block 1 (by have := h.two; omega) (by simp; omega))
theorem Glob.drew {w : World} (h : Glob w) : Glob w.drew := h
theorem Glob.alloc {w : World} (h : Glob w) (o : Obj) : Glob (w.alloc o) := h.keep (Below.heap_alloc w o 0 (by have := h.two; omega)) (Below.heap_alloc w o 1 (by have := h.two; omega))
theorem Glob.setCell {w : World} (h : Glob w) {p : Addr} (hp : 2 ≤ p.block) (u : Value) : Glob (w.setCell p u) := h.keep (Below.heap_setCell w p u 0 (by omega)) (Below.heap_setCell w p u 1 (by omega))

section
variable {w : World} {g : Nat} {t : TypeId} {h : List Wd} {wt : List UInt8} {fill : Int} {taken : Nat}
theorem st_size (hh : h.length = 8) (hw : wt.length = 64) : (stCells h wt fill taken).size = 74 := by simp [stCells, cells_size, cells8_size, hh, hw]
theorem st_h (hB : Blk w g t (stCells h wt fill taken)) (i : Nat) (hi : i < h.length) : w.cell? ⟨g, i, none⟩ = some (.int .u32 (nm (gt h i))) := by
  rw [hB.cell]; unfold stCells
  rw [Array.append_assoc, Array.getElem?_append_left (by rw [cells_size]; exact hi)]
  exact cells_get h i hi
theorem st_wait (hB : Blk w g t (stCells h wt fill taken)) (hh : h.length = 8) (i : Nat) (hi : i < wt.length) : w.cell? ⟨g, 8 + i, none⟩ = some (.int .u8 ((bt wt i).toNat : Int)) := by
  rw [hB.cell]; unfold stCells
  rw [Array.append_assoc, Array.getElem?_append_right (by rw [cells_size]; omega), cells_size, hh, Array.getElem?_append_left (by rw [cells8_size]; omega), show 8 + i - 8 = i by omega]
  exact cells8_get wt i hi
theorem st_fill (hB : Blk w g t (stCells h wt fill taken)) (hh : h.length = 8) (hw : wt.length = 64) : w.cell? ⟨g, 72, none⟩ = some (.int .i64 fill) := by
  rw [hB.cell]; unfold stCells
  rw [Array.getElem?_append_right (by simp [cells_size, cells8_size, hh, hw])]
  simp [cells_size, cells8_size, hh, hw]
theorem st_taken (hB : Blk w g t (stCells h wt fill taken)) (hh : h.length = 8) (hw : wt.length = 64) : w.cell? ⟨g, 73, none⟩ = some (.int .u64 (taken : Int)) := by
  rw [hB.cell]; unfold stCells
  rw [Array.getElem?_append_right (by simp [cells_size, cells8_size, hh, hw])]
  simp [cells_size, cells8_size, hh, hw]
theorem st_setH (i : Nat) (x : Wd) (hi : i < h.length) : (stCells h wt fill taken).setIfInBounds i (.int .u32 (nm x)) = stCells (h.set i x) wt fill taken := by
  unfold stCells
  rw [Array.append_assoc, Array.append_assoc, Array.setIfInBounds_append_left (by rw [cells_size]; exact hi), cells_set]
theorem st_setW (hh : h.length = 8) (i : Nat) (x : UInt8) (hi : i < wt.length) : (stCells h wt fill taken).setIfInBounds (8 + i) (.int .u8 (x.toNat : Int)) = stCells h (wt.set i x) fill taken := by
  unfold stCells
  rw [Array.append_assoc, Array.append_assoc, Array.setIfInBounds_append_right (by rw [cells_size]; omega), cells_size, hh, Array.setIfInBounds_append_left (by rw [cells8_size]; omega), show 8 + i - 8 = i by omega, cells8_set]
theorem st_setFill (hh : h.length = 8) (hw : wt.length = 64) (z : Int) : (stCells h wt fill taken).setIfInBounds 72 (.int .i64 z) = stCells h wt z taken := by
  unfold stCells
  rw [Array.setIfInBounds_append_right (by simp [cells_size, cells8_size, hh, hw])]
  simp [cells_size, cells8_size, hh, hw]
theorem st_setTaken (hh : h.length = 8) (hw : wt.length = 64) (z : Nat) : (stCells h wt fill taken).setIfInBounds 73 (.int .u64 (z : Int)) = stCells h wt fill z := by
  unfold stCells
  rw [Array.setIfInBounds_append_right (by simp [cells_size, cells8_size, hh, hw])]
  simp [cells_size, cells8_size, hh, hw]
end
set_option maxRecDepth 100000 in
theorem sig_row : ∀ r, r < 10 → sigCells.extract (r * 16) (r * 16 + 16) = cells8 (sigma.getD r [])
  | 0, _ => rfl | 1, _ => rfl | 2, _ => rfl | 3, _ => rfl | 4, _ => rfl | 5, _ => rfl | 6, _ => rfl | 7, _ => rfl | 8, _ => rfl | 9, _ => rfl
  | n + 10, h => by omega
theorem sig_len : ∀ r, r < 10 → (sigma.getD r []).length = 16 := by decide
theorem sig_lt : ∀ r, r < 10 → ∀ i, i < 16 → sg r i < 16 := by decide
/-- a whole array out of a variable, whatever its mark. -/
theorem wpList_loadR {P : Program} {w : World} {ops : Array Oper} {rest : List Oper} {o : Oper} {a : Act} {Q : Exit → Act → World → Prop} (hgd : o.guard = none) (ty : TypeId) (x : Operand) (ho : o.op = .load ty x)
    (g : Nat) (hx : a.eval x = .pointer (some ⟨g, 0, none⟩)) {cs : Array Value} (hg : ∃ t fr, w.heap[g]? = some (.cells cs t fr)) {d : TypeDesc} (hu : P.underlying ty = some d)
    (hd : (match d with | .struct _ | .array _ _ => true | _ => false) = true) (hi : (P.info? ty).map (·.size) = some cs.size)
    (h : wpList P ops Q rest (a.put o.dst (.agg cs)) w) : wpList P ops Q (o :: rest) a w := by
  obtain ⟨t, fr, hg⟩ := hg
  exact wpList_load_row hgd ty x ho g hx t cs fr d hg hu hd hi h
/-- 'a[i]' of an array of arrays that is a value. -/
theorem run_indexAgg2 {P : Program} {t e : TypeId} {n m : Nat} {d : TypeDesc} (hu : P.underlying t = some (.array n e)) (he : P.underlying e = some d) (hd : (match d with | .struct _ | .array _ _ => true | _ => false) = true)
    (hs : ∀ w, (sizeOf e).run P w = .ok m w) (cs : Array Value) (i : Nat) (hi : i < n) (k : IntKind) (W : World) :
    (Instr.index t (.agg cs) (.int k (i : Int))).run P W = .ok (.agg (cs.extract (i * m) (i * m + m))) W := by
  have h0 : (0 : Int) ≤ i ∧ (i : Int) < n := by omega
  have ha : (isAgg e).run P W = .ok true W := by
    unfold isAgg
    rw [Sem.run_bind, run_underlying he W]
    cases d <;> simp_all
  simp [Instr.index, asIntOf, run_underlying hu, h0, hs, part, ha]
  exact fun h => absurd h (by omega)
end Go.Proofs.YtilbebjjmnncdaaDoor
