/- Bytes that a call makes out of a text ('[]byte(s)'): read, cut, changed byte by byte. -/
import Derived.Lib.ConvBytes
import Derived.Laws.BitsAllLaws
import Derived.Test.YtdjjiblijbjobaaDoorBaseB
namespace Go.Proofs.YtdjjiblijbjobaaDoor
open Go.RowKit
variable {D : List Deferred}

/-- a block whose first cells are bytes that may be written. -/
def isY (l : List UInt8) : Obj → Prop := fun ob => ∃ cur lo hi, ob = .cells cur 5 (lo, hi) ∧ l.length ≤ cur.size ∧ (∀ i, i < l.length → cur[i]? = some (.int .u8 ((bt l i).toNat : Int))) ∧ ∀ i, i < l.length → ¬ (lo ≤ i ∧ i < hi)
theorem elY : Tryd.prog.elem 48 = 5 := by simp [Program.elem, Tryd.underlying48]
theorem unY : Tryd.prog.underlying 48 = some (.slice (Tryd.prog.elem 48)) := by rw [elY]; exact Tryd.underlying48
theorem szY (w : World) : (sizeOf (Tryd.prog.elem 48)).run Tryd.prog w = .ok 1 w := by rw [elY]; kernel_rfl
section
variable {P : Program} {a : Act} {o : Oper} {w w0 : World} {n s : Nat} {L : List (Nat × Value)} {v : Value} {ops : Array Oper} {rest : List Oper} {Q : Exit → Act → World → Prop} {M : List (Nat × (Obj → Prop))} {l : List UInt8} {g i : Nat} {x y z : Operand} {k k2 : IntKind} {p q : Int}
theorem isY_cell (h : ∃ ob, w.heap[g]? = some ob ∧ isY l ob) (hi : i < l.length) : w.cell? ⟨g, i, none⟩ = some (.int .u8 ((bt l i).toNat : Int)) := by
  obtain ⟨ob, h1, cur, lo, hi2, rfl, h3, h4, h5⟩ := h
  simp only [World.cell?, h1]
  simpa using h4 i hi
theorem isY_free (h : ∃ ob, w.heap[g]? = some ob ∧ isY l ob) (hi : i < l.length) : w.frozen? ⟨g, i, none⟩ = false := by
  obtain ⟨ob, h1, cur, lo, hi2, rfl, h3, h4, h5⟩ := h
  have := h5 i hi
  simp only [World.frozen?, h1]
  simp only [Bool.and_eq_false_iff, decide_eq_false_iff_not]
  omega
theorem grown_setCell (w : World) (g i : Nat) (v : Value) : w.grownBy (w.setCell ⟨g, i, none⟩ v) (some g) := by
  refine ⟨rfl, rfl, rfl, by simp [World.setCell], fun k _ hne => ?_⟩
  have : g ≠ k := fun e => hne (by rw [e])
  simp [World.setCell, Array.getElem?_modify, this]
theorem isY_set (h : ∃ ob, w.heap[g]? = some ob ∧ isY l ob) (hi : i < l.length) (b : UInt8) : ∃ ob, (w.setCell ⟨g, i, none⟩ (.int .u8 (b.toNat : Int))).heap[g]? = some ob ∧ isY (l.set i b) ob := by
  obtain ⟨ob, h1, cur, lo, hi2, rfl, h3, h4, h5⟩ := h
  refine ⟨.cells (cur.setIfInBounds i (.int .u8 (b.toNat : Int))) 5 (lo, hi2), ?_, _, lo, hi2, rfl, by simpa using h3, fun j hj => ?_, fun j hj => h5 j (by simpa using hj)⟩
  · simp [World.setCell, Array.getElem?_modify, h1]
  · rw [List.length_set] at hj
    rw [Array.getElem?_setIfInBounds]
    by_cases e : i = j
    · subst e
      rw [if_pos rfl, if_pos (by omega)]
      simp [bt, hi]
    · rw [if_neg e, h4 j hj]
      simp [bt, e]
theorem run_cvW {t t2 : TypeId} {u c : Value} {w2 : World} (ho : o.op = .convert t t2 x) (hx : a.eval x = u) (hr : (convert t t2 u).run P w = .ok c w2) : (execOp a.eval o).run P w = .ok (.value c) w2 := by
  unfold execOp
  simp only [ho, hx, Sem.run_bind, hr, Result.andThen_ok, Sem.run_pure]
/-- '[]byte(s)'. -/
theorem sqBytesOf {src : TypeId} (hF : FrD D a n L) (hM : Mem w0 M w) (hw : Region.wanted o (yielded ops a.tmps) = true) (ho : o.op = .convert src 48 x) (hx : a.eval x = .string ⟨l.toArray⟩) (hu : Tryd.prog.underlying src = some .string) (hd : o.dst = some s) (hs : s < n)
    (h : ∀ g c a2 w2, w.heap.size ≤ g → Below w.heap.size w w2 → l.length ≤ c → FrD D a2 n ((s, .slice (some ⟨g, 0, none⟩) l.length c) :: L) → Mem w0 ((g, isY l) :: M) w2 → wpList Tryd.prog ops Q rest a2 w2) : wpList Tryd.prog ops Q (o :: rest) a w := by
  have hc := Lib.run_convert_string_bytes (P := Tryd.prog) w src 48 5 ⟨l.toArray⟩ hu Tryd.underlying48 Tryd.underlying5
  rw [str_size] at hc
  have hb : Below w.heap.size w (Lib.bytesWorld w 5 ⟨l.toArray⟩) := ⟨rfl, rfl, rfl, by rw [Lib.bytesWorld_size]; omega, fun b hb => Lib.bytesWorld_at_old w _ _ b hb⟩
  have hcap : l.length ≤ grownCap w l.length 0 5 := grownCap_ge ..
  refine sq hF hw (run_cvW ho hx (c := .slice (some ⟨w.heap.size, 0, none⟩) l.length (grownCap w l.length 0 5)) (w2 := Lib.bytesWorld w 5 ⟨l.toArray⟩) hc) hd hs fun a2 hF2 => h w.heap.size _ a2 _ (Nat.le_refl _) hb hcap hF2 (hM.addS hb (Nat.le_refl _) ⟨_, Lib.bytesWorld_at_new w _ _, _, _, _, rfl, ?_, fun j hj => ?_, fun j hj => ?_⟩)
  · simp [Lib.bytesCells]
  · have := Lib.bytesWorld_cell w 5 ⟨l.toArray⟩ j (by rw [str_size]; exact hj)
    simp only [World.cell?, Lib.bytesWorld_at_new] at this
    simpa [bt] using this
  · simp [Lib.bytesCells]; omega
theorem run_idxY {c m : Nat} (ho : o.op = .indexAddr 48 x y) (hx : a.eval x = .slice (some ⟨g, 0, none⟩) m c) (hy : a.eval y = .int k p) (hp : p = (i : Int)) (hi : i < m) : (execOp a.eval o).run Tryd.prog w = .ok (.value (.pointer (some ⟨g, i, none⟩))) w := by
  subst hp
  have hr := run_indexAt_slice (P := Tryd.prog) w 48 ⟨g, 0, none⟩ m c k (i : Int) unY
  have hz := szY w
  unfold execOp
  simp only [ho, hx, hy]
  rw [Sem.run_bind, hr, hz, if_pos (by omega)]
  simp [Addr.add]
  intro h; exact h.symm
theorem run_toY {c m : Nat} {j : Nat} (ho : o.op = .slice 48 x none (some y) none) (hx : a.eval x = .slice (some ⟨g, 0, none⟩) m c) (hy : a.eval y = .int k p) (hp : p = (j : Int)) (hj : j ≤ c) : (execOp a.eval o).run Tryd.prog w = .ok (.value (.slice (some ⟨g, 0, none⟩) j c)) w := by
  subst hp
  have hr := run_slice_h (P := Tryd.prog) w 48 (some ⟨g, 0, none⟩) m c unY k (j : Int) (by omega) (by omega)
  have hz := szY w
  have hs : (Instr.sliceAt 48 (.slice (some ⟨g, 0, none⟩) m c) none (some (.int k (j : Int))) none).run Tryd.prog w = .ok (.slice (some ⟨g, 0, none⟩) j c) w := by
    rw [run_sliceAt_slice w 48 _ _ _ _ unY, hr, hz]
    simp [sliced, Addr.add]
  unfold execOp
  simp only [ho, hx, hy, Option.map, Sem.run_bind, hs, Result.andThen_ok, Sem.run_pure]
/-- 'string(b[:j])'. -/
theorem run_strY {c j : Nat} (h : ∃ ob, w.heap[g]? = some ob ∧ isY l ob) (hj : j ≤ l.length) : (convert 48 9 (.slice (some ⟨g, 0, none⟩) j c)).run Tryd.prog w = .ok (.string ⟨(l.take j).toArray⟩) w := by
  have hl : (l.take j).length = j := by rw [List.length_take]; omega
  refine run_strOf hl fun q hq => ?_
  rw [hl] at hq
  rw [Nat.zero_add, isY_cell h (by omega)]
  simp [bt, hq]
theorem run_strYall {c j : Nat} (h : ∃ ob, w.heap[g]? = some ob ∧ isY l ob) (hj : j = l.length) : (convert 48 9 (.slice (some ⟨g, 0, none⟩) j c)).run Tryd.prog w = .ok (.string ⟨l.toArray⟩) w := by
  have h2 := run_strY (c := c) h (Nat.le_of_eq hj)
  rwa [hj, List.take_length, ← hj] at h2
theorem run_xor8 {b c : UInt8} {t t2 : TypeId} (ho : o.op = .binOp .xor t x y t2) (hx : a.eval x = .int .u8 (b.toNat : Int)) (hy : a.eval y = .int .u8 (c.toNat : Int)) : (execOp a.eval o).run P w = .ok (.value (.int .u8 ((b ^^^ c).toNat : Int))) w := by
  refine run_bin ho hx hy (guard_int _) ?_
  have e := u8_xor_nat b.toNat c.toNat b.toNat_lt c.toNat_lt
  rw [UInt8.toNat_xor]
  simp [binOp, go_sem, e]
/-- 'b[i] = c'. -/
theorem sqSetY {j : Nat} {b : UInt8} (hF : FrD D a n L) (hM : Mem w0 M w) (hgd : o.guard = none) (ho : o.op = .store 5 x y) (hd : o.dst = none) (hx : a.eval x = .pointer (some ⟨g, i, none⟩)) (hy : a.eval y = .int .u8 (b.toNat : Int))
    (e : M[j]? = some (g, isY l)) (hi : i < l.length) (h : ∀ a2 w2, FrD D a2 n L → Mem w0 (M.set j (g, isY (l.set i b))) w2 → wpList Tryd.prog ops Q rest a2 w2) : wpList Tryd.prog ops Q (o :: rest) a w := by
  have hob := hM.ob j e
  have hc := isY_cell hob hi
  have hf := isY_free hob hi
  refine sqN hF (wantedS hgd) (w2 := w.setCell ⟨g, i, none⟩ (.int .u8 (b.toNat : Int))) ?_ hd fun a2 hF2 => h a2 _ hF2 (hM.upd j e (grown_setCell w g i _) (isY_set hob hi b))
  unfold execOp
  simp only [ho, hx, hy]
  simp [go_sem, hc, hf]
end
end Go.Proofs.YtdjjiblijbjobaaDoor
