/- Rows of digests: their cells, whole elements, equality. -/
import Derived.Test.YtioioibcldgknaaDoorSesV
namespace Go.Proofs.YtioioibcldgknaaDoor
open Go.RowKit

def dgC (d : List UInt8) : List Value := (List.range 32).map fun i => cb (bt d i)
theorem dgC_len (d : List UInt8) : (dgC d).length = 32 := by simp [dgC]
theorem dgC_len1 (d : List UInt8) : (dgC d).length = 1 * 32 := by simp [dgC]
theorem dgC_of {d : List UInt8} (h : d.length = 32) : dgC d = d.map cb := by
  apply List.ext_getElem?
  intro i
  unfold dgC
  rw [List.getElem?_map, List.getElem?_map]
  by_cases hi : i < 32
  · rw [List.getElem?_range hi, List.getElem?_eq_getElem (by omega)]
    simp [bt, h, hi]
  · rw [List.getElem?_eq_none (by simp; omega), List.getElem?_eq_none (by omega)]
    rfl
theorem dgC_one (d : List UInt8) : ∀ u ∈ dgC d, u.oneCell' = true := by
  intro u hu
  unfold dgC at hu
  obtain ⟨i, _, rfl⟩ := List.mem_map.1 hu
  rfl
theorem blkNewsD {w : World} {g : Nat} {t : TypeId} {d : List UInt8} (h : d.length = 32) (hB : Blk w g t (cells8 d)) : ∀ j u, (dgC d)[j]? = some u → w.cell? ((⟨g, 0, none⟩ : Addr).add j) = some u := by
  rw [dgC_of h]
  exact blkNews hB
theorem elDig : ElT Tryd.prog 67 54 32 32 := by
  refine ⟨Tryd.underlying67, ?_, by decide⟩
  obtain ⟨i, hi, hz⟩ : ∃ i, Tryd.prog.info? 54 = some i ∧ (i.zero.map (·.cells.size), i.size, i.bytes) = (some 32, 32, 32) := by
    have h : ((Tryd.prog.info? 54).map fun i => (i.zero.map (·.cells.size), i.size, i.bytes)) = some (some 32, 32, 32) := by kernel_rfl
    cases hi : Tryd.prog.info? 54 with
    | none => rw [hi] at h; cases h
    | some i => rw [hi] at h; exact ⟨i, rfl, Option.some.inj h⟩
  simp only [Prod.mk.injEq] at hz
  obtain ⟨h1, h2, h3⟩ := hz
  cases hzz : i.zero with
  | none => rw [hzz] at h1; cases h1
  | some z => rw [hzz] at h1; exact ⟨i, z, hi, hzz, h2, h3, Option.some.inj h1⟩
theorem run_digs1 {a : Act} {op : Oper} {w : World} {x : Operand} {d : List UInt8} (ho : op.op = .buildSlice 67 1 #[(0, x)]) (hx : a.eval x = .agg (cells8 d)) (h : d.length = 32) :
    (execOp a.eval op).run Tryd.prog w = .ok (.value (.slice (some ⟨w.heap.size, 0, none⟩) 1 1)) (w.alloc (.cells (cells8 d) 54)) := by
  have hr : (Instr.buildSlice 67 1 #[(0, .agg (cells8 d))]).run Tryd.prog w = .ok (.slice (some ⟨w.heap.size, 0, none⟩) 1 1) (w.alloc (.cells (cells8 d) 54)) := by
    obtain ⟨a0, a1, a2, a3, a4, a5, a6, a7, a8, a9, b0, b1, b2, b3, b4, b5, b6, b7, b8, b9, c0, c1, c2, c3, c4, c5, c6, c7, c8, c9, d0, d1, rfl⟩ := list32 h
    kernel_rfl
  unfold execOp
  simp only [ho, List.map_toArray, List.map_cons, List.map_nil, hx, Sem.run_bind, hr, Result.andThen_ok, Sem.run_pure]
theorem eqDg (C E : List UInt8) (hC : C.length = 32) (hE : E.length = 32) (w : World) : (Op.equalIn 10000 54 (.agg (cells8 C)) (.agg (cells8 E))).run Tryd.prog w = .ok (C == E) w :=
  run_equalIn_bytes (P := Tryd.prog) w 9998 54 5 32 Tryd.underlying54 Tryd.underlying5 so8 C E hC hE
theorem run_eqDg {a : Act} {o : Oper} {w : World} {x y : Operand} {t2 : TypeId} {C E : List UInt8} {b : Bool} (hC : C.length = 32) (hE : E.length = 32) (hb : (C == E) = b) (ho : o.op = .binOp .eql 54 x y t2) (hx : a.eval x = .agg (dgC C).toArray) (hy : a.eval y = .agg (dgC E).toArray) : (execOp a.eval o).run Tryd.prog w = .ok (.value (.bool b)) w := by
  rw [dgC_of hC] at hx
  rw [dgC_of hE] at hy
  exact run_bin ho hx hy (run_eqGuard_agg w _ _ _ _ _ _ (by kernel_rfl)) (by rw [run_eql_struct, show (List.map cb C).toArray = cells8 C from rfl, show (List.map cb E).toArray = cells8 E from rfl, eqDg C E hC hE, hb]; rfl)
/-- have unlike texts unlike sums? -/
def unB (l S : List (List UInt8)) (i k : Nat) : Bool := !((S.getD i [] == S.getD k []) && !(l.getD i [] == l.getD k []))
def unS (l S : List (List UInt8)) (i : Nat) : Bool := (List.range i).all (unB l S i)
def unlikeS (l S : List (List UInt8)) : Bool := (List.range l.length).all (unS l S)
theorem all_range_snoc {p : Nat → Bool} {i : Nat} (h : (List.range i).all p = true) (hi : p i = true) : (List.range (i + 1)).all p = true := by
  rw [List.range_succ, List.all_append, h]
  simp [hi]
theorem all_range_no {p : Nat → Bool} {i n : Nat} (hi : i < n) (h : p i = false) : (List.range n).all p = false := by
  rw [List.all_eq_false]
  exact ⟨i, List.mem_range.2 hi, by simp [h]⟩
theorem map_snoc2 {α β : Type} (f : α → β) (l : List α) (i : Nat) {x : α} (hx : l[i]? = some x) : (l.take (i + 1)).map f = (l.take i).map f ++ [f x] := by
  rw [List.take_add_one, hx]
  simp
theorem getD_of {l : List (List UInt8)} {i : Nat} {x : List UInt8} (h : l[i]? = some x) : l.getD i [] = x := by rw [List.getD_eq_getElem?_getD, h]; rfl
end Go.Proofs.YtioioibcldgknaaDoor
