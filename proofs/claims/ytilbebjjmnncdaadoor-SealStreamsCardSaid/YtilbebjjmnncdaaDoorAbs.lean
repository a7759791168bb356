/- A digest's state that has taken bytes in: what is said of it, plainly. -/
import Derived.Test.YtilbebjjmnncdaaDoorState
import Derived.Test.YtilbebjjmnncdaaDoorCopy
import Derived.Lib.TrimByte
namespace Go.Proofs.YtilbebjjmnncdaaDoor
open Go.RowKit

/-- the state (h, wt, f, 64 q) has the bytes p in it. -/
def Abs (h0 : List Wd) (p : List UInt8) (h : List Wd) (wt : List UInt8) (f q : Nat) : Prop :=
  h = hashTo h0 p q ∧ wt.length = 64 ∧ 64 * q + f = p.length ∧ f ≤ 64 ∧ wt.take f = p.drop (64 * q)
theorem Abs.block {h0 : List Wd} {p : List UInt8} {h : List Wd} {wt : List UInt8} {q : Nat} (ha : Abs h0 p h wt 64 q) : Abs h0 p (compress h wt (64 * q + 64) false) wt 0 (q + 1) := by
  obtain ⟨rfl, h2, h3, h4, h5⟩ := ha
  refine ⟨?_, h2, by omega, by omega, ?_⟩
  · rw [hashTo, ← h5, List.take_take, Nat.min_self, List.take_of_length_le (by omega)]
    rfl
  · rw [List.take_zero, List.drop_of_length_le (by omega)]
theorem Abs.more {h0 : List Wd} {p : List UInt8} {h : List Wd} {wt : List UInt8} {f q : Nat} (ha : Abs h0 p h wt f q) (x : List UInt8) (hx : f + x.length ≤ 64) : Abs h0 (p ++ x) h (wt.take f ++ x ++ wt.drop (f + x.length)) (f + x.length) q := by
  obtain ⟨rfl, h2, h3, h4, h5⟩ := ha
  refine ⟨(hashTo_append h0 p x q (by omega)).symm, ?_, by rw [List.length_append]; omega, hx, ?_⟩
  · rw [List.length_append, List.length_append, List.length_take, List.length_drop]; omega
  · have hl : (wt.take f ++ x).length = f + x.length := by rw [List.length_append, List.length_take]; omega
    rw [List.take_append_of_le_length (by omega), List.take_of_length_le (by omega), List.drop_append_of_le_length (by omega), h5]
theorem st_splice {h : List Wd} {wt : List UInt8} {fill : Int} {taken : Nat} (hh : h.length = 8) (hw : wt.length = 64) (f : Nat) (x : List UInt8) (hx : f + x.length ≤ 64) :
    ((stCells h wt fill taken).toList.take (8 + f) ++ x.map cb ++ (stCells h wt fill taken).toList.drop (8 + f + x.length)).toArray = stCells h (wt.take f ++ x ++ wt.drop (f + x.length)) fill taken := by
  apply Array.toList_inj.1
  have e : (stCells h wt fill taken).toList = h.map cw ++ (wt.map cb ++ [.int .i64 fill, .int .u64 (taken : Int)]) := by simp [stCells, cells, cells8]
  rw [e]
  have hl : (h.map cw).length = 8 := by simp [hh]
  have hl2 : (wt.map cb).length = 64 := by simp [hw]
  rw [show 8 + f + x.length = 8 + (f + x.length) by omega]
  have t1 : (h.map cw ++ (wt.map cb ++ [Value.int .i64 fill, Value.int .u64 (taken : Int)])).take (8 + f) = h.map cw ++ (wt.map cb).take f := by
    rw [List.take_append, hl, List.take_of_length_le (by omega), show 8 + f - 8 = f by omega, List.take_append_of_le_length (by omega)]
  have t2 : (h.map cw ++ (wt.map cb ++ [Value.int .i64 fill, Value.int .u64 (taken : Int)])).drop (8 + (f + x.length)) = (wt.map cb).drop (f + x.length) ++ [Value.int .i64 fill, Value.int .u64 (taken : Int)] := by
    rw [List.drop_append, hl, List.drop_of_length_le (by omega), show 8 + (f + x.length) - 8 = f + x.length by omega, List.drop_append_of_le_length (by omega), List.nil_append]
  rw [t1, t2]
  simp [stCells, cells, cells8, List.map_take, List.map_drop]
theorem st_zeros {h : List Wd} {wt : List UInt8} {fill : Int} {taken : Nat} (hh : h.length = 8) (hw : wt.length = 64) (f : Nat) (hf : f ≤ 64) :
    ((stCells h wt fill taken).toList.take (8 + f) ++ (List.replicate (64 - f) (0 : UInt8)).map cb ++ (stCells h wt fill taken).toList.drop (8 + f + (64 - f))).toArray = stCells h (wt.take f ++ List.replicate (64 - f) 0) fill taken := by
  have e := st_splice (fill := fill) (taken := taken) hh hw f (List.replicate (64 - f) 0) (by simp; omega)
  rw [List.length_replicate] at e
  rw [e, show f + (64 - f) = 64 by omega, List.drop_of_length_le (by omega), List.append_nil]
theorem Abs.last {h0 : List Wd} {p : List UInt8} {h : List Wd} {wt : List UInt8} {f q : Nat} (ha : Abs h0 p h wt f q) (hn : 1 ≤ f ∨ p = []) :
    compress h (wt.take f ++ List.replicate (64 - f) 0) (64 * q + f) true = blake h0 p := by
  obtain ⟨rfl, h2, h3, h4, h5⟩ := ha
  have hq : full p.length = q := by
    unfold full
    rcases hn with hn | rfl
    · omega
    · simp at h3 ⊢; omega
  unfold blake pad64
  rw [hq, h3, h5]
  congr 2
  rw [List.length_drop]
  congr 1
  congr 1
  omega
/-- a text's rest, in a plain region. -/
theorem wpList_rest {P : Program} {w : World} {ops : Array Oper} {rest : List Oper} {o : Oper} {a : Act} {Q : Exit → Act → World → Prop} (hgd : o.guard = none) (t : TypeId) (x h : Operand) (ho : o.op = .slice t x (some h) none none) (hu : P.underlying t = some .string)
    (l : List UInt8) (m : Nat) (z : Int) (hx : a.eval x = .string ⟨l.toArray⟩) (hh : a.eval h = .int .i64 z) (hz : z = m) (hm : m ≤ l.length) (hk : wpList P ops Q rest (a.put o.dst (.string ⟨(l.drop m).toArray⟩)) w) : wpList P ops Q (o :: rest) a w := by
  refine wpList_plain hgd fun K hK => ?_
  subst hz
  have h1 : (Instr.slice t (.string ⟨l.toArray⟩) (some (.int .i64 (m : Int))) none none).run P w = .ok (.string ⟨(l.drop m).toArray⟩) w := by
    rw [run_slice_string_l w t ⟨l.toArray⟩ hu .i64 (m : Int) (by omega) (by show (m : Int) ≤ ((l.toArray.size : Nat) : Int); simp; exact_mod_cast hm), Lib.extract_mk]
    have e : (⟨l.toArray⟩ : ByteArray).size = l.length := by show l.toArray.size = _; simp
    rw [e, List.take_of_length_le (by rw [List.length_drop]; omega)]
    simp
  unfold Oper.wp execOp
  simp only [ho, hx, hh, Option.map_none, Option.map_some, run_sliceAt_string w t _ _ _ _ hu, Sem.run_bind, h1, Result.andThen_ok, Sem.run_pure]
  exact hK _ _ hk
end Go.Proofs.YtilbebjjmnncdaaDoor
