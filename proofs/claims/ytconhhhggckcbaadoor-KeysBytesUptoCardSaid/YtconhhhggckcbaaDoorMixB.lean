/- Laws and walks that many claims share: Mix, State, Abs, Begin, Glob. -/
import Derived.Test.YtconhhhggckcbaaDoorBaseB
import Derived.Lib.TrimByte
import Derived.Deep.DeepCutAuto
import Derived.Lib.LaidTab
import Derived.OpenShut
import Derived.Stop.LaidErr
/- The walk of BLAKE2s' mix through a pointer to sixteen words: they are, behind the call, the words of 'mixS'; nothing else that was there has changed. Printed by gen_mix.py. -/
namespace Go.Proofs.YtconhhhggckcbaaDoor
open Go.RowKit
attribute [local go_sem] nm_add nm_xor

set_option maxRecDepth 100000 in
set_option maxHeartbeats 2000000 in
theorem mix_any (g a b c d : Nat) (x y : Wd) (v : List Wd) (w : World) (ha : a < 16) (hb : b < 16) (hc : c < 16) (hd : d < 16) (hl : v.length = 16)
    (hB : Blk w g 148 (cells v)) :
    Calls Tryd.prog 114 #[.pointer (some ⟨g, 0, none⟩), .int .i64 a, .int .i64 b, .int .i64 c, .int .i64 d, .int .u32 (nm x), .int .u32 (nm y)] w fun e w' =>
      e = .returned (.tuple #[]) ∧ Blk w' g 148 (cells (mixS v a b c d x y)) ∧ w.grownBy w' (some g) := by
  obtain ⟨w0, hw0⟩ : ∃ w0 : World, w0 = w := ⟨_, rfl⟩
  have hG : w0.grownBy w (some g) := by rw [hw0]; exact grown_refl _ _
  obtain ⟨v0, hv0⟩ : ∃ v0 : List Wd, v0 = v := ⟨_, rfl⟩
  have HV := Lib.hid hv0
  have HW := Lib.hid hw0
  clear hv0 hw0
  have ha' : (a : Int) < 16 := by omega
  have hb' : (b : Int) < 16 := by omega
  have hc' : (c : Int) < 16 := by omega
  have hd' : (d : Int) < 16 := by omega
  go_enter Tryd.func114, Tryd.ntmps114
  go_wp2

  have ci := (hB.cell a).trans (cells_get v a (by omega))
  have cj := (hB.cell b).trans (cells_get v b (by omega))
  have fi := hB.frozen a
  refine wp_region_still_tail 14 (by kernel_rfl) (by kernel_rfl) ?_
  simp only [List.take_succ_cons, List.take_zero, List.drop_succ_cons, List.drop_zero]
  change wpStill _ _ w.drew _ _ _
  repeat still_step
  refine wpStill_nil ?_
  change wpList _ _ _ _ _ w.drew
  go_wp2
  have hB1 : Blk (w.setCell ⟨g, a, none⟩ (.int .u32 (nm (gt v a + (gt v b + x))))).drew g 148 (cells (v.set a (gt v a + (gt v b + x)))) := by rw [← cells_set]; exact hB.set_ a _
  have hG1 : w0.grownBy (w.setCell ⟨g, a, none⟩ (.int .u32 (nm (gt v a + (gt v b + x))))).drew (some g) := grown_drew (grown_set hG _ _)
  have hl1 : (v.set a (gt v a + (gt v b + x))).length = 16 := by rw [List.length_set]; exact hl
  obtain ⟨v1, hv1⟩ : ∃ v1 : List Wd, v1 = v.set a (gt v a + (gt v b + x)) := ⟨_, rfl⟩
  rw [← hv1] at hB1 hl1
  have HV1 := Lib.hid hv1
  generalize (w.setCell ⟨g, a, none⟩ (.int .u32 (nm (gt v a + (gt v b + x))))).drew = w1 at *
  clear ci cj fi hv1 hB hG
  have ci := (hB1.cell d).trans (cells_get v1 d (by omega))
  have cj := (hB1.cell a).trans (cells_get v1 a (by omega))
  have fi := hB1.frozen d
  refine wp_region_still_tail 15 (by kernel_rfl) (by kernel_rfl) ?_
  simp only [List.take_succ_cons, List.take_zero, List.drop_succ_cons, List.drop_zero]
  change wpStill _ _ w1.drew _ _ _
  repeat still_step
  still_call (rotz_any _ (-16) 16 (by omega) (by omega) (by decide) _)
  repeat still_step
  refine wpStill_nil ?_
  change wpList _ _ _ _ _ w1.drew
  go_wp2
  have hB2 : Blk (w1.setCell ⟨g, d, none⟩ (.int .u32 (nm (rl (gt v1 d ^^^ gt v1 a) 16)))).drew g 148 (cells (v1.set d (rl (gt v1 d ^^^ gt v1 a) 16))) := by rw [← cells_set]; exact hB1.set_ d _
  have hG2 : w0.grownBy (w1.setCell ⟨g, d, none⟩ (.int .u32 (nm (rl (gt v1 d ^^^ gt v1 a) 16)))).drew (some g) := grown_drew (grown_set hG1 _ _)
  have hl2 : (v1.set d (rl (gt v1 d ^^^ gt v1 a) 16)).length = 16 := by rw [List.length_set]; exact hl1
  obtain ⟨v2, hv2⟩ : ∃ v2 : List Wd, v2 = v1.set d (rl (gt v1 d ^^^ gt v1 a) 16) := ⟨_, rfl⟩
  rw [← hv2] at hB2 hl2
  have HV2 := Lib.hid hv2
  generalize (w1.setCell ⟨g, d, none⟩ (.int .u32 (nm (rl (gt v1 d ^^^ gt v1 a) 16)))).drew = w2 at *
  clear ci cj fi hv2 hB1 hG1
  have ci := (hB2.cell c).trans (cells_get v2 c (by omega))
  have cj := (hB2.cell d).trans (cells_get v2 d (by omega))
  have fi := hB2.frozen c
  refine wp_region_still_tail 12 (by kernel_rfl) (by kernel_rfl) ?_
  simp only [List.take_succ_cons, List.take_zero, List.drop_succ_cons, List.drop_zero]
  change wpStill _ _ w2.drew _ _ _
  repeat still_step
  refine wpStill_nil ?_
  change wpList _ _ _ _ _ w2.drew
  go_wp2
  have hB3 : Blk (w2.setCell ⟨g, c, none⟩ (.int .u32 (nm (gt v2 c + gt v2 d)))).drew g 148 (cells (v2.set c (gt v2 c + gt v2 d))) := by rw [← cells_set]; exact hB2.set_ c _
  have hG3 : w0.grownBy (w2.setCell ⟨g, c, none⟩ (.int .u32 (nm (gt v2 c + gt v2 d)))).drew (some g) := grown_drew (grown_set hG2 _ _)
  have hl3 : (v2.set c (gt v2 c + gt v2 d)).length = 16 := by rw [List.length_set]; exact hl2
  obtain ⟨v3, hv3⟩ : ∃ v3 : List Wd, v3 = v2.set c (gt v2 c + gt v2 d) := ⟨_, rfl⟩
  rw [← hv3] at hB3 hl3
  have HV3 := Lib.hid hv3
  generalize (w2.setCell ⟨g, c, none⟩ (.int .u32 (nm (gt v2 c + gt v2 d)))).drew = w3 at *
  clear ci cj fi hv3 hB2 hG2
  have ci := (hB3.cell b).trans (cells_get v3 b (by omega))
  have cj := (hB3.cell c).trans (cells_get v3 c (by omega))
  have fi := hB3.frozen b
  refine wp_region_still_tail 15 (by kernel_rfl) (by kernel_rfl) ?_
  simp only [List.take_succ_cons, List.take_zero, List.drop_succ_cons, List.drop_zero]
  change wpStill _ _ w3.drew _ _ _
  repeat still_step
  still_call (rotz_any _ (-12) 20 (by omega) (by omega) (by decide) _)
  repeat still_step
  refine wpStill_nil ?_
  change wpList _ _ _ _ _ w3.drew
  go_wp2
  have hB4 : Blk (w3.setCell ⟨g, b, none⟩ (.int .u32 (nm (rl (gt v3 b ^^^ gt v3 c) 20)))).drew g 148 (cells (v3.set b (rl (gt v3 b ^^^ gt v3 c) 20))) := by rw [← cells_set]; exact hB3.set_ b _
  have hG4 : w0.grownBy (w3.setCell ⟨g, b, none⟩ (.int .u32 (nm (rl (gt v3 b ^^^ gt v3 c) 20)))).drew (some g) := grown_drew (grown_set hG3 _ _)
  have hl4 : (v3.set b (rl (gt v3 b ^^^ gt v3 c) 20)).length = 16 := by rw [List.length_set]; exact hl3
  obtain ⟨v4, hv4⟩ : ∃ v4 : List Wd, v4 = v3.set b (rl (gt v3 b ^^^ gt v3 c) 20) := ⟨_, rfl⟩
  rw [← hv4] at hB4 hl4
  have HV4 := Lib.hid hv4
  generalize (w3.setCell ⟨g, b, none⟩ (.int .u32 (nm (rl (gt v3 b ^^^ gt v3 c) 20)))).drew = w4 at *
  clear ci cj fi hv4 hB3 hG3
  have ci := (hB4.cell a).trans (cells_get v4 a (by omega))
  have cj := (hB4.cell b).trans (cells_get v4 b (by omega))
  have fi := hB4.frozen a
  refine wp_region_still_tail 14 (by kernel_rfl) (by kernel_rfl) ?_
  simp only [List.take_succ_cons, List.take_zero, List.drop_succ_cons, List.drop_zero]
  change wpStill _ _ w4.drew _ _ _
  repeat still_step
  refine wpStill_nil ?_
  change wpList _ _ _ _ _ w4.drew
  go_wp2
  have hB5 : Blk (w4.setCell ⟨g, a, none⟩ (.int .u32 (nm (gt v4 a + (gt v4 b + y))))).drew g 148 (cells (v4.set a (gt v4 a + (gt v4 b + y)))) := by rw [← cells_set]; exact hB4.set_ a _
  have hG5 : w0.grownBy (w4.setCell ⟨g, a, none⟩ (.int .u32 (nm (gt v4 a + (gt v4 b + y))))).drew (some g) := grown_drew (grown_set hG4 _ _)
  have hl5 : (v4.set a (gt v4 a + (gt v4 b + y))).length = 16 := by rw [List.length_set]; exact hl4
  obtain ⟨v5, hv5⟩ : ∃ v5 : List Wd, v5 = v4.set a (gt v4 a + (gt v4 b + y)) := ⟨_, rfl⟩
  rw [← hv5] at hB5 hl5
  have HV5 := Lib.hid hv5
  generalize (w4.setCell ⟨g, a, none⟩ (.int .u32 (nm (gt v4 a + (gt v4 b + y))))).drew = w5 at *
  clear ci cj fi hv5 hB4 hG4
  have ci := (hB5.cell d).trans (cells_get v5 d (by omega))
  have cj := (hB5.cell a).trans (cells_get v5 a (by omega))
  have fi := hB5.frozen d
  refine wp_region_still_tail 15 (by kernel_rfl) (by kernel_rfl) ?_
  simp only [List.take_succ_cons, List.take_zero, List.drop_succ_cons, List.drop_zero]
  change wpStill _ _ w5.drew _ _ _
  repeat still_step
  still_call (rotz_any _ (-8) 24 (by omega) (by omega) (by decide) _)
  repeat still_step
  refine wpStill_nil ?_
  change wpList _ _ _ _ _ w5.drew
  go_wp2
  have hB6 : Blk (w5.setCell ⟨g, d, none⟩ (.int .u32 (nm (rl (gt v5 d ^^^ gt v5 a) 24)))).drew g 148 (cells (v5.set d (rl (gt v5 d ^^^ gt v5 a) 24))) := by rw [← cells_set]; exact hB5.set_ d _
  have hG6 : w0.grownBy (w5.setCell ⟨g, d, none⟩ (.int .u32 (nm (rl (gt v5 d ^^^ gt v5 a) 24)))).drew (some g) := grown_drew (grown_set hG5 _ _)
  have hl6 : (v5.set d (rl (gt v5 d ^^^ gt v5 a) 24)).length = 16 := by rw [List.length_set]; exact hl5
  obtain ⟨v6, hv6⟩ : ∃ v6 : List Wd, v6 = v5.set d (rl (gt v5 d ^^^ gt v5 a) 24) := ⟨_, rfl⟩
  rw [← hv6] at hB6 hl6
  have HV6 := Lib.hid hv6
  generalize (w5.setCell ⟨g, d, none⟩ (.int .u32 (nm (rl (gt v5 d ^^^ gt v5 a) 24)))).drew = w6 at *
  clear ci cj fi hv6 hB5 hG5
  have ci := (hB6.cell c).trans (cells_get v6 c (by omega))
  have cj := (hB6.cell d).trans (cells_get v6 d (by omega))
  have fi := hB6.frozen c
  refine wp_region_still_tail 12 (by kernel_rfl) (by kernel_rfl) ?_
  simp only [List.take_succ_cons, List.take_zero, List.drop_succ_cons, List.drop_zero]
  change wpStill _ _ w6.drew _ _ _
  repeat still_step
  refine wpStill_nil ?_
  change wpList _ _ _ _ _ w6.drew
  go_wp2
  have hB7 : Blk (w6.setCell ⟨g, c, none⟩ (.int .u32 (nm (gt v6 c + gt v6 d)))).drew g 148 (cells (v6.set c (gt v6 c + gt v6 d))) := by rw [← cells_set]; exact hB6.set_ c _
  have hG7 : w0.grownBy (w6.setCell ⟨g, c, none⟩ (.int .u32 (nm (gt v6 c + gt v6 d)))).drew (some g) := grown_drew (grown_set hG6 _ _)
  have hl7 : (v6.set c (gt v6 c + gt v6 d)).length = 16 := by rw [List.length_set]; exact hl6
  obtain ⟨v7, hv7⟩ : ∃ v7 : List Wd, v7 = v6.set c (gt v6 c + gt v6 d) := ⟨_, rfl⟩
  rw [← hv7] at hB7 hl7
  have HV7 := Lib.hid hv7
  generalize (w6.setCell ⟨g, c, none⟩ (.int .u32 (nm (gt v6 c + gt v6 d)))).drew = w7 at *
  clear ci cj fi hv7 hB6 hG6
  have ci := (hB7.cell b).trans (cells_get v7 b (by omega))
  have cj := (hB7.cell c).trans (cells_get v7 c (by omega))
  have fi := hB7.frozen b
  refine wp_region_still_tail 15 (by kernel_rfl) (by kernel_rfl) ?_
  simp only [List.take_succ_cons, List.take_zero, List.drop_succ_cons, List.drop_zero]
  change wpStill _ _ w7.drew _ _ _
  repeat still_step
  still_call (rotz_any _ (-7) 25 (by omega) (by omega) (by decide) _)
  repeat still_step
  refine wpStill_nil ?_
  change wpList _ _ _ _ _ w7.drew
  go_wp2
  have hB8 : Blk (w7.setCell ⟨g, b, none⟩ (.int .u32 (nm (rl (gt v7 b ^^^ gt v7 c) 25)))).drew g 148 (cells (v7.set b (rl (gt v7 b ^^^ gt v7 c) 25))) := by rw [← cells_set]; exact hB7.set_ b _
  have hG8 : w0.grownBy (w7.setCell ⟨g, b, none⟩ (.int .u32 (nm (rl (gt v7 b ^^^ gt v7 c) 25)))).drew (some g) := grown_drew (grown_set hG7 _ _)
  have hl8 : (v7.set b (rl (gt v7 b ^^^ gt v7 c) 25)).length = 16 := by rw [List.length_set]; exact hl7
  obtain ⟨v8, hv8⟩ : ∃ v8 : List Wd, v8 = v7.set b (rl (gt v7 b ^^^ gt v7 c) 25) := ⟨_, rfl⟩
  rw [← hv8] at hB8 hl8
  have HV8 := Lib.hid hv8
  generalize (w7.setCell ⟨g, b, none⟩ (.int .u32 (nm (rl (gt v7 b ^^^ gt v7 c) 25)))).drew = w8 at *
  clear ci cj fi hv8 hB7 hG7
  go_end0
  have e : mixS v0 a b c d x y = v8 := by
    rw [HV8.out, HV7.out, HV6.out, HV5.out, HV4.out, HV3.out, HV2.out, HV1.out, HV.out]; rfl
  have e0 : w0 = w := HW.out
  subst e0
  have e1 : v0 = v := HV.out
  subst e1
  rw [e]
  exact ⟨rfl, hB8, hG8⟩
end Go.Proofs.YtconhhhggckcbaaDoor
/- A digest's state in memory, and the two tables of package hash. -/
namespace Go.Proofs.YtconhhhggckcbaaDoor
open Go.RowKit

def stCells (h : List Wd) (wt : List UInt8) (fill : Int) (taken : Nat) : Array Value := cells h ++ cells8 wt ++ #[.int .i64 fill, .int .u64 (taken : Int)]
def sigCells : Array Value := (sigma.flatMap (fun l => l.map cb)).toArray
/-- the two tables lie where the program's text lays them. -/
def Glob (w : World) : Prop := (∃ t fr, w.heap[0]? = some (.cells (cells eightV) t fr)) ∧ (∃ t fr, w.heap[1]? = some (.cells sigCells t fr))
theorem Glob.keep {w w' : World} (h : Glob w) (h0 : w'.heap[0]? = w.heap[0]?) (h1 : w'.heap[1]? = w.heap[1]?) : Glob w' := by
  obtain ⟨⟨t, fr, e0⟩, ⟨t', fr', e1⟩⟩ := h
  exact ⟨⟨t, fr, by rw [h0]; exact e0⟩, ⟨t', fr', by rw [h1]; exact e1⟩⟩
theorem Glob.two {w : World} (h : Glob w) : 2 ≤ w.heap.size := by
  obtain ⟨_, ⟨t', fr', e1⟩⟩ := h
  rcases Nat.lt_or_ge 1 w.heap.size with h1 | h1
  · omega
  · rw [Array.getElem?_eq_none h1] at e1; cases e1
theorem Glob.below {w w' : World} (h : Glob w) (hb : Below w.heap.size w w') : Glob w' := h.keep (hb.block 0 (by have := h.two; omega)) (hb.block 1 (by have := h.two; omega))
theorem Glob.grown {w w' : World} {g : Nat} (h : Glob w) (hb : w.grownBy w' (some g)) (hg : 2 ≤ g) : Glob w' :=
  h.keep (hb.block 0 (by have := h.two; omega) (by simp; omega)) (hb.block 1 (by have := h.two; omega) (by simp; omega))
theorem Glob.drew {w : World} (h : Glob w) : Glob w.drew := h
theorem Glob.alloc {w : World} (h : Glob w) (o : Obj) : Glob (w.alloc o) := h.keep (Below.heap_alloc w o 0 (by have := h.two; omega)) (Below.heap_alloc w o 1 (by have := h.two; omega))
theorem Glob.setCell {w : World} (h : Glob w) {p : Addr} (hp : 2 ≤ p.block) (u : Value) : Glob (w.setCell p u) := h.keep (Below.heap_setCell w p u 0 (by omega)) (Below.heap_setCell w p u 1 (by omega))

section
variable {w : World} {g : Nat} {t : TypeId} {h : List Wd} {wt : List UInt8} {fill : Int} {taken : Nat}
theorem st_size (hh : h.length = 8) (hw : wt.length = 64) : (stCells h wt fill taken).size = 74 := by simp [stCells, cells_size, cells8_size, hh, hw]
theorem st_h (hB : Blk w g t (stCells h wt fill taken)) (i : Nat) (hi : i < h.length) : w.cell? ⟨g, i, none⟩ = some (.int .u32 (nm (gt h i))) := by
  rw [hB.cell]; unfold stCells
  rw [Array.append_assoc, Array.getElem?_append_left (by rw [cells_size]; exact hi)]
  exact cells_get h i hi
theorem st_wait (hB : Blk w g t (stCells h wt fill taken)) (hh : h.length = 8) (i : Nat) (hi : i < wt.length) : w.cell? ⟨g, 8 + i, none⟩ = some (.int .u8 ((bt wt i).toNat : Int)) := by
  rw [hB.cell]; unfold stCells
  rw [Array.append_assoc, Array.getElem?_append_right (by rw [cells_size]; omega), cells_size, hh, Array.getElem?_append_left (by rw [cells8_size]; omega), show 8 + i - 8 = i by omega]
  exact cells8_get wt i hi
theorem st_fill (hB : Blk w g t (stCells h wt fill taken)) (hh : h.length = 8) (hw : wt.length = 64) : w.cell? ⟨g, 72, none⟩ = some (.int .i64 fill) := by
  rw [hB.cell]; unfold stCells
  rw [Array.getElem?_append_right (by simp [cells_size, cells8_size, hh, hw])]
  simp [cells_size, cells8_size, hh, hw]
theorem st_taken (hB : Blk w g t (stCells h wt fill taken)) (hh : h.length = 8) (hw : wt.length = 64) : w.cell? ⟨g, 73, none⟩ = some (.int .u64 (taken : Int)) := by
  rw [hB.cell]; unfold stCells
  rw [Array.getElem?_append_right (by simp [cells_size, cells8_size, hh, hw])]
  simp [cells_size, cells8_size, hh, hw]
theorem st_setH (i : Nat) (x : Wd) (hi : i < h.length) : (stCells h wt fill taken).setIfInBounds i (.int .u32 (nm x)) = stCells (h.set i x) wt fill taken := by
  unfold stCells
  rw [Array.append_assoc, Array.append_assoc, Array.setIfInBounds_append_left (by rw [cells_size]; exact hi), cells_set]
theorem st_setFill (hh : h.length = 8) (hw : wt.length = 64) (z : Int) : (stCells h wt fill taken).setIfInBounds 72 (.int .i64 z) = stCells h wt z taken := by
  unfold stCells
  rw [Array.setIfInBounds_append_right (by simp [cells_size, cells8_size, hh, hw])]
  simp [cells_size, cells8_size, hh, hw]
theorem st_setTaken (hh : h.length = 8) (hw : wt.length = 64) (z : Nat) : (stCells h wt fill taken).setIfInBounds 73 (.int .u64 (z : Int)) = stCells h wt fill z := by
  unfold stCells
  rw [Array.setIfInBounds_append_right (by simp [cells_size, cells8_size, hh, hw])]
  simp [cells_size, cells8_size, hh, hw]
end
set_option maxRecDepth 100000 in
theorem sig_row : ∀ r, r < 10 → sigCells.extract (r * 16) (r * 16 + 16) = cells8 (sigma.getD r [])
  | 0, _ => rfl | 1, _ => rfl | 2, _ => rfl | 3, _ => rfl | 4, _ => rfl | 5, _ => rfl | 6, _ => rfl | 7, _ => rfl | 8, _ => rfl | 9, _ => rfl
  | n + 10, h => by omega
theorem sig_len : ∀ r, r < 10 → (sigma.getD r []).length = 16 := by decide
theorem sig_lt : ∀ r, r < 10 → ∀ i, i < 16 → sg r i < 16 := by decide
/-- a whole array out of a variable, whatever its mark. -/
theorem wpList_loadR {P : Program} {w : World} {ops : Array Oper} {rest : List Oper} {o : Oper} {a : Act} {Q : Exit → Act → World → Prop} (hgd : o.guard = none) (ty : TypeId) (x : Operand) (ho : o.op = .load ty x)
    (g : Nat) (hx : a.eval x = .pointer (some ⟨g, 0, none⟩)) {cs : Array Value} (hg : ∃ t fr, w.heap[g]? = some (.cells cs t fr)) {d : TypeDesc} (hu : P.underlying ty = some d)
    (hd : (match d with | .struct _ | .array _ _ => true | _ => false) = true) (hi : (P.info? ty).map (·.size) = some cs.size)
    (h : wpList P ops Q rest (a.put o.dst (.agg cs)) w) : wpList P ops Q (o :: rest) a w := by
  obtain ⟨t, fr, hg⟩ := hg
  exact wpList_load_row hgd ty x ho g hx t cs fr d hg hu hd hi h
/-- 'a[i]' of an array of arrays that is a value. -/
theorem run_indexAgg2 {P : Program} {t e : TypeId} {n m : Nat} {d : TypeDesc} (hu : P.underlying t = some (.array n e)) (he : P.underlying e = some d) (hd : (match d with | .struct _ | .array _ _ => true | _ => false) = true)
    (hs : ∀ w, (sizeOf e).run P w = .ok m w) (cs : Array Value) (i : Nat) (hi : i < n) (k : IntKind) (W : World) :
    (Instr.index t (.agg cs) (.int k (i : Int))).run P W = .ok (.agg (cs.extract (i * m) (i * m + m))) W := by
  have h0 : (0 : Int) ≤ i ∧ (i : Int) < n := by omega
  have ha : (isAgg e).run P W = .ok true W := by
    unfold isAgg
    rw [Sem.run_bind, run_underlying he W]
    cases d <;> simp_all
  simp [Instr.index, asIntOf, run_underlying hu, h0, hs, part, ha]
  exact fun h => absurd h (by omega)
end Go.Proofs.YtconhhhggckcbaaDoor
/- A digest's state that has taken bytes in: what is said of it, plainly. -/
namespace Go.Proofs.YtconhhhggckcbaaDoor
open Go.RowKit

/-- the state (h, wt, f, 64 q) has the bytes p in it. -/
def Abs (h0 : List Wd) (p : List UInt8) (h : List Wd) (wt : List UInt8) (f q : Nat) : Prop :=
  h = hashTo h0 p q ∧ wt.length = 64 ∧ 64 * q + f = p.length ∧ f ≤ 64 ∧ wt.take f = p.drop (64 * q)
theorem Abs.block {h0 : List Wd} {p : List UInt8} {h : List Wd} {wt : List UInt8} {q : Nat} (ha : Abs h0 p h wt 64 q) : Abs h0 p (compress h wt (64 * q + 64) false) wt 0 (q + 1) := by
  obtain ⟨rfl, h2, h3, h4, h5⟩ := ha
  refine ⟨?_, h2, by omega, by omega, ?_⟩
  · rw [hashTo, ← h5, List.take_take, Nat.min_self, List.take_of_length_le (by omega)]
    rfl
  · rw [List.take_zero, List.drop_of_length_le (by omega)]
theorem Abs.more {h0 : List Wd} {p : List UInt8} {h : List Wd} {wt : List UInt8} {f q : Nat} (ha : Abs h0 p h wt f q) (x : List UInt8) (hx : f + x.length ≤ 64) : Abs h0 (p ++ x) h (wt.take f ++ x ++ wt.drop (f + x.length)) (f + x.length) q := by
  obtain ⟨rfl, h2, h3, h4, h5⟩ := ha
  refine ⟨(hashTo_append h0 p x q (by omega)).symm, ?_, by rw [List.length_append]; omega, hx, ?_⟩
  · rw [List.length_append, List.length_append, List.length_take, List.length_drop]; omega
  · have hl : (wt.take f ++ x).length = f + x.length := by rw [List.length_append, List.length_take]; omega
    rw [List.take_append_of_le_length (by omega), List.take_of_length_le (by omega), List.drop_append_of_le_length (by omega), h5]
theorem st_splice {h : List Wd} {wt : List UInt8} {fill : Int} {taken : Nat} (hh : h.length = 8) (hw : wt.length = 64) (f : Nat) (x : List UInt8) (hx : f + x.length ≤ 64) :
    ((stCells h wt fill taken).toList.take (8 + f) ++ x.map cb ++ (stCells h wt fill taken).toList.drop (8 + f + x.length)).toArray = stCells h (wt.take f ++ x ++ wt.drop (f + x.length)) fill taken := by
  apply Array.toList_inj.1
  have e : (stCells h wt fill taken).toList = h.map cw ++ (wt.map cb ++ [.int .i64 fill, .int .u64 (taken : Int)]) := by simp [stCells, cells, cells8]
  rw [e]
  have hl : (h.map cw).length = 8 := by simp [hh]
  have hl2 : (wt.map cb).length = 64 := by simp [hw]
  rw [show 8 + f + x.length = 8 + (f + x.length) by omega]
  have t1 : (h.map cw ++ (wt.map cb ++ [Value.int .i64 fill, Value.int .u64 (taken : Int)])).take (8 + f) = h.map cw ++ (wt.map cb).take f := by
    rw [List.take_append, hl, List.take_of_length_le (by omega), show 8 + f - 8 = f by omega, List.take_append_of_le_length (by omega)]
  have t2 : (h.map cw ++ (wt.map cb ++ [Value.int .i64 fill, Value.int .u64 (taken : Int)])).drop (8 + (f + x.length)) = (wt.map cb).drop (f + x.length) ++ [Value.int .i64 fill, Value.int .u64 (taken : Int)] := by
    rw [List.drop_append, hl, List.drop_of_length_le (by omega), show 8 + (f + x.length) - 8 = f + x.length by omega, List.drop_append_of_le_length (by omega), List.nil_append]
  rw [t1, t2]
  simp [stCells, cells, cells8, List.map_take, List.map_drop]
theorem st_zeros {h : List Wd} {wt : List UInt8} {fill : Int} {taken : Nat} (hh : h.length = 8) (hw : wt.length = 64) (f : Nat) (hf : f ≤ 64) :
    ((stCells h wt fill taken).toList.take (8 + f) ++ (List.replicate (64 - f) (0 : UInt8)).map cb ++ (stCells h wt fill taken).toList.drop (8 + f + (64 - f))).toArray = stCells h (wt.take f ++ List.replicate (64 - f) 0) fill taken := by
  have e := st_splice (fill := fill) (taken := taken) hh hw f (List.replicate (64 - f) 0) (by simp; omega)
  rw [List.length_replicate] at e
  rw [e, show f + (64 - f) = 64 by omega, List.drop_of_length_le (by omega), List.append_nil]
theorem Abs.last {h0 : List Wd} {p : List UInt8} {h : List Wd} {wt : List UInt8} {f q : Nat} (ha : Abs h0 p h wt f q) (hn : 1 ≤ f ∨ p = []) :
    compress h (wt.take f ++ List.replicate (64 - f) 0) (64 * q + f) true = blake h0 p := by
  obtain ⟨rfl, h2, h3, h4, h5⟩ := ha
  have hq : full p.length = q := by
    unfold full
    rcases hn with hn | rfl
    · omega
    · simp at h3 ⊢; omega
  unfold blake pad64
  rw [hq, h3, h5]
  congr 2
  rw [List.length_drop]
  congr 1
  congr 1
  omega
/-- a text's rest, in a plain region. -/
theorem wpList_rest {P : Program} {w : World} {ops : Array Oper} {rest : List Oper} {o : Oper} {a : Act} {Q : Exit → Act → World → Prop} (hgd : o.guard = none) (t : TypeId) (x h : Operand) (ho : o.op = .slice t x (some h) none none) (hu : P.underlying t = some .string)
    (l : List UInt8) (m : Nat) (z : Int) (hx : a.eval x = .string ⟨l.toArray⟩) (hh : a.eval h = .int .i64 z) (hz : z = m) (hm : m ≤ l.length) (hk : wpList P ops Q rest (a.put o.dst (.string ⟨(l.drop m).toArray⟩)) w) : wpList P ops Q (o :: rest) a w := by
  refine wpList_plain hgd fun K hK => ?_
  subst hz
  have h1 : (Instr.slice t (.string ⟨l.toArray⟩) (some (.int .i64 (m : Int))) none none).run P w = .ok (.string ⟨(l.drop m).toArray⟩) w := by
    rw [run_slice_string_l w t ⟨l.toArray⟩ hu .i64 (m : Int) (by omega) (by show (m : Int) ≤ ((l.toArray.size : Nat) : Int); simp; exact_mod_cast hm), Lib.extract_mk]
    have e : (⟨l.toArray⟩ : ByteArray).size = l.length := by show l.toArray.size = _; simp
    rw [e, List.take_of_length_le (by rw [List.length_drop]; omega)]
    simp
  unfold Oper.wp execOp
  simp only [ho, hx, hh, Option.map_none, Option.map_some, run_sliceAt_string w t _ _ _ _ hu, Sem.run_bind, h1, Result.andThen_ok, Sem.run_pure]
  exact hK _ _ hk
end Go.Proofs.YtconhhhggckcbaaDoor
/- The walk of hash.begin. -/
namespace Go.Proofs.YtconhhhggckcbaaDoor
open Go.RowKit

theorem sz8b : (Tryd.prog.info? 115).map (·.size) = some 8 := by kernel_rfl
theorem zeroSt (w : World) : (zeroValue 123).run Tryd.prog w = .ok (.agg (stCells (List.replicate 8 0) (List.replicate 64 0) 0 0)) w := by kernel_rfl
theorem buildSt (w : World) : (Instr.build 123 #[(0, .agg (cells eightV))]).run Tryd.prog w = .ok (.agg (stCells eightV (List.replicate 64 0) 0 0)) w := by kernel_rfl
theorem wpList_build1 {P : Program} {w : World} {ops : Array Oper} {rest : List Oper} {o : Oper} {a : Act} {Q : Exit → Act → World → Prop} (hgd : o.guard = none) (t : TypeId) (i : Nat) (x : Operand) (ho : o.op = .build t #[(i, x)]) {v r : Value} (hx : a.eval x = v)
    (hr : ∀ w, (Instr.build t #[(i, v)]).run P w = .ok r w) (h : wpList P ops Q rest (a.put o.dst r) w) : wpList P ops Q (o :: rest) a w := by
  refine wpList_plain hgd fun K hK => ?_
  unfold Oper.wp execOp
  simp [ho, hx, hr, Result.andThen]
  exact hK _ _ h
theorem sz74 : (Tryd.prog.info? 123).map (·.size) = some 74 := by kernel_rfl
theorem st_one {h : List Wd} {wt : List UInt8} {fill : Int} {taken : Nat} : (stCells h wt fill taken).all (·.oneCell') = true := by
  unfold stCells
  rw [Array.all_append, Array.all_append, cells_one, cells8_one]
  simp [Value.oneCell']
def h0Of (keyed : Bool) : List Wd := if keyed then h0K else h0U
set_option maxRecDepth 100000 in
set_option maxHeartbeats 1000000 in
theorem begin_any (keyed : Bool) (w : World) (hG : Glob w) :
    Calls Tryd.prog 89 #[.bool keyed] w fun e w' =>
      e = .returned (.agg (stCells (h0Of keyed) (List.replicate 64 0) 0 0)) ∧ Below w.heap.size w w' := by
  have hz := zeroSt
  obtain ⟨cs, hcs⟩ : ∃ cs, stCells (List.replicate 8 0) (List.replicate 64 0) 0 0 = cs := ⟨_, rfl⟩
  rw [hcs] at hz
  have HCSZ : Hid (cs.size = 74) := Lib.hid (by rw [← hcs]; exact st_size rfl rfl)
  have HCS := Lib.hid hcs
  clear hcs
  go_enter Tryd.func89, Tryd.ntmps89
  have HGA := Lib.hid (hG.alloc (.cells cs 123)).1
  have HE8 : Hid ((Tryd.prog.info? 115).map (·.size) = some (cells eightV).size) := Lib.hid sz8b
  have hbu := buildSt
  obtain ⟨S, hS⟩ : ∃ S, stCells eightV (List.replicate 64 0) 0 0 = S := ⟨_, rfl⟩
  rw [hS] at hbu
  have HSS : Hid (S.size = 74) := Lib.hid (by rw [← hS]; exact st_size rfl rfl)
  have HS := Lib.hid hS
  have HONE : Hid (S.all (·.oneCell') = true) := Lib.hid (by rw [← hS]; exact st_one)
  have HBU := Lib.hid hbu
  clear hbu hS
  obtain ⟨E, hE⟩ : ∃ E, eightV = E := ⟨_, rfl⟩
  rw [hE] at HGA HE8 HBU HS
  have HE := Lib.hid hE
  clear hE
  have HU := Lib.hid (show gt eightV 0 = 1779033703#32 from rfl)
  go_upto_region 2 with (first | (refine wpList_loadR rfl 115 (.global 0) rfl 0 rfl HGA.out Tryd.underlying115 rfl HE8.out ?_) | (refine wpList_build1 (v := .agg (cells E)) (r := .agg S) rfl 123 0 (.tmp 4) rfl rfl HBU.out ?_) | (refine wpList_storeNew rfl 123 (.tmp 3) (.tmp 5) rfl (w.alloc (.cells cs 123)) (w.heap.size + 1) (World.size_alloc _ _) rfl S rfl rfl sz74 HSS.out HCSZ.out HONE.out ?_))
  have hB1 : Blk ((w.alloc (.cells cs 123)).alloc (.cells S 123)) (w.heap.size + 1) 123 S := Blk.newAt _ _ _ (by simp)
  have hR1 : Blk ((w.alloc (.cells cs 123)).alloc (.cells S 123)) w.heap.size 123 cs := (Blk.new _ _ _).alloc _
  have hb1 : Below w.heap.size w ((w.alloc (.cells cs 123)).alloc (.cells S 123)) := (((Below.refl _ _).alloc (Nat.le_refl _) _).alloc (by simp) _)
  generalize (w.alloc (.cells cs 123)).alloc (.cells S 123) = W at *
  clear HGA hG HBU hz HONE HSS
  rw [← HS.out] at hB1
  have hl8 : E.length = 8 := (by rw [← HE.out]; rfl)
  have c0 := st_h hB1 0 (by omega)
  have f0 := hB1.frozen 0
  have HL8 := Lib.hid hl8
  clear hl8
  simp only [Act.put]
  go_upto_region 3 with (fail)
  rw [show (16842784 : Int) = nm 16842784#32 from rfl, nm_xor]
  have hB2 := hB1.set_ 0 (.int .u32 (nm (gt E 0 ^^^ 16842784#32)))
  rw [st_setH 0 _ (by have := HL8.out; omega)] at hB2
  have hR2 := hR1.far (p := ⟨w.heap.size + 1, 0, none⟩) (by dsimp only; omega) (.int .u32 (nm (gt E 0 ^^^ 16842784#32)))
  have hb2 := hb1.setCell (p := ⟨w.heap.size + 1, 0, none⟩) (by dsimp only; omega) (.int .u32 (nm (gt E 0 ^^^ 16842784#32)))
  clear c0 f0 hB1 hR1 hb1
  generalize W.setCell ⟨w.heap.size + 1, 0, none⟩ (.int .u32 (nm (gt E 0 ^^^ 16842784#32))) = W1 at *
  have HU2 : Hid (E.set 0 (gt E 0 ^^^ 16842784#32) = h0U) := Lib.hid (by rw [← HE.out]; rfl)
  have HX0 : Hid (gt (E.set 0 (gt E 0 ^^^ 16842784#32)) 0 = gt E 0 ^^^ 16842784#32) := Lib.hid (by rw [gt_set _ _ _ _ (by have := HL8.out; omega), if_pos rfl])
  have HLX : Hid ((E.set 0 (gt E 0 ^^^ 16842784#32)).length = 8) := Lib.hid (by rw [List.length_set]; exact HL8.out)
  have HK2 : Hid ((E.set 0 (gt E 0 ^^^ 16842784#32)).set 0 (gt (E.set 0 (gt E 0 ^^^ 16842784#32)) 0 ^^^ 8192#32) = h0K) := Lib.hid (by rw [HX0.out, ← HE.out]; rfl)
  generalize E.set 0 (gt E 0 ^^^ 16842784#32) = X at *
  clear HX0 HS
  cases keyed
  · have HSS : Hid ((stCells X (List.replicate 64 0) 0 0).size = 74) := Lib.hid (st_size HLX.out (by simp))
    have HH : Hid (stCells X (List.replicate 64 0) 0 0 = stCells (h0Of false) (List.replicate 64 0) 0 0) := Lib.hid (by rw [HU2.out]; rfl)
    have HON : Hid ((stCells X (List.replicate 64 0) 0 0).all (·.oneCell') = true) := Lib.hid st_one
    generalize stCells X (List.replicate 64 0) 0 0 = S2 at *
    go_wp2_with (first | (refine wpList_loadB (cs := S2) rfl 123 (.tmp 3) rfl (w.heap.size + 1) rfl hB2 Tryd.underlying123 rfl sz74 HSS.out ?_) | (refine wpList_storeB rfl 123 (.tmp 2) (.tmp 19) rfl w.heap.size S2 rfl rfl hR2 sz74 HSS.out HCSZ.out HON.out ?_))
    refine bodyPost_ret (results_B rfl _ (g := w.heap.size) rfl (hR2.row _) Tryd.underlying123 rfl sz74 HSS.out) rfl ⟨by rw [HH.out], below_row hb2 (Nat.le_refl _) _⟩
  · have c0 := st_h hB2 0 (by have := HLX.out; omega)
    have f0 := hB2.frozen 0
    go_upto_region 5 with (fail)
    rw [show (8192 : Int) = nm 8192#32 from rfl, nm_xor]
    have hB3 := hB2.set_ 0 (.int .u32 (nm (gt X 0 ^^^ 8192#32)))
    rw [st_setH 0 _ (by have := HLX.out; omega), HK2.out] at hB3
    have hR3 := hR2.far (p := ⟨w.heap.size + 1, 0, none⟩) (by dsimp only; omega) (.int .u32 (nm (gt X 0 ^^^ 8192#32)))
    have hb3 := hb2.setCell (p := ⟨w.heap.size + 1, 0, none⟩) (by dsimp only; omega) (.int .u32 (nm (gt X 0 ^^^ 8192#32)))
    clear c0 f0 hB2 hR2 hb2
    generalize W1.setCell ⟨w.heap.size + 1, 0, none⟩ (.int .u32 (nm (gt X 0 ^^^ 8192#32))) = W2 at *
    have HSS : Hid ((stCells h0K (List.replicate 64 0) 0 0).size = 74) := Lib.hid (st_size rfl (by simp))
    have HH : Hid (stCells h0K (List.replicate 64 0) 0 0 = stCells (h0Of true) (List.replicate 64 0) 0 0) := Lib.hid rfl
    have HON : Hid ((stCells h0K (List.replicate 64 0) 0 0).all (·.oneCell') = true) := Lib.hid st_one
    generalize stCells h0K (List.replicate 64 0) 0 0 = S2 at *
    go_wp2_with (first | (refine wpList_loadB (cs := S2) rfl 123 (.tmp 3) rfl (w.heap.size + 1) rfl hB3 Tryd.underlying123 rfl sz74 HSS.out ?_) | (refine wpList_storeB rfl 123 (.tmp 2) (.tmp 19) rfl w.heap.size S2 rfl rfl hR3 sz74 HSS.out HCSZ.out HON.out ?_))
    refine bodyPost_ret (results_B rfl _ (g := w.heap.size) rfl (hR3.row _) Tryd.underlying123 rfl sz74 HSS.out) rfl ⟨by rw [HH.out], below_row hb3 (Nat.le_refl _) _⟩
end Go.Proofs.YtconhhhggckcbaaDoor
/- The two tables of package hash lie in memory as the row's list says. -/
namespace Go.Proofs.YtconhhhggckcbaaDoor
open Go.RowKit

theorem var_heap {P : Program} {W : World} {name : String} {g : Nat} {cs : Array Value} (hg : P.globalNamed name = some g) (h : W.var? P name = some cs) : ∃ t fr, W.heap[g]? = some (.cells cs t fr) := by
  unfold World.var? at h
  rw [hg] at h
  simp only [Option.bind_some] at h
  split at h
  · rename_i c t fr e
    injection h with h
    subst h
    exact ⟨_, _, e⟩
  · cases h
theorem gEight : Tryd.prog.globalNamed "hibernacle/hash.eight" = some 0 := by kernel_rfl
theorem gEightT : (Tryd.prog.globals[0]?).map (·.type) = some 115 := by kernel_rfl
theorem gRows : Tryd.prog.globalNamed "hibernacle/hash.rows" = some 1 := by kernel_rfl
theorem gRowsT : (Tryd.prog.globals[1]?).map (·.type) = some 160 := by kernel_rfl
theorem co32 : Tryd.prog.cellsOf 112 = 1 := by kernel_rfl
theorem co8w : Tryd.prog.cellsOf 115 = 8 := by kernel_rfl
theorem co8 : Tryd.prog.cellsOf 5 = 1 := by kernel_rfl
theorem co16b : Tryd.prog.cellsOf 159 = 16 := by kernel_rfl
theorem co160 : Tryd.prog.cellsOf 160 = 160 := by kernel_rfl

theorem eight_cells {W : World} {rest : List (String × DataW Unit)} (h : laidMet Tryd.prog (("hibernacle/hash.eight", Rows.laid_hibernacle_hash_eight) :: rest) W) : ∃ t fr, W.heap[0]? = some (.cells (cells eightV) t fr) := by
  have hT : Lib.TabIs Tryd.prog W "hibernacle/hash.eight" .u32 [1779033703, 3144134277, 1013904242, 2773480762, 1359893119, 2600822924, 528734635, 1541459225] :=
    Lib.tabIs_of_head (rest := rest) gEight gEightT Tryd.underlying115 Tryd.underlying112 co32 co8w h
  exact var_heap gEight hT
set_option maxRecDepth 100000 in
theorem rows_cells {W : World} {rest : List (String × DataW Unit)} (h : laidMet Tryd.prog (("hibernacle/hash.rows", Rows.laid_hibernacle_hash_rows) :: rest) W) : ∃ t fr, W.heap[1]? = some (.cells sigCells t fr) := by
  obtain ⟨ps, ⟨g', t', cs, fuel, p, q, hg', ht', hvar, hd, _, _⟩, _⟩ := h
  obtain rfl := Option.some.inj (gRows.symm.trans hg')
  obtain rfl := Option.some.inj (gRowsT.symm.trans ht')
  obtain ⟨xs, m, rfl, hx, hlen, hxl, hall⟩ := DataW.trod_array Tryd.underlying160 hd
  have hx1 : xs.map (·.1) = sigma.map (fun l => Lib.tabData .u8 (l.map fun b : UInt8 => (b.toNat : Int))) := by
    have e1 := congrArg Prod.fst hx
    have e2 : (Rows.laid_hibernacle_hash_rows : DataW Unit) = .agg (sigma.map (fun l => Lib.tabData .u8 (l.map fun b : UInt8 => (b.toNat : Int)))) := rfl
    have e3 : (DataW.agg (sigma.map (fun l => Lib.tabData .u8 (l.map fun b : UInt8 => (b.toNat : Int)))) : DataW Unit) = .agg (xs.map (·.1)) := e2.symm.trans e1
    injection e3 with e4
    exact e4.symm
  have hrow : ∀ r, r < 10 → (cs.toList.drop (r * 16)).take 16 = (sigma.getD r []).map cb := by
    intro r hr
    have h1 := hall r hr
    rw [co16b] at h1
    obtain ⟨x, hxr⟩ : ∃ x, xs[r]? = some x := ⟨xs[r]'(by omega), List.getElem?_eq_getElem (by omega)⟩
    rw [hxr] at h1
    have h2 : x.1 = Lib.tabData .u8 ((sigma.getD r []).map fun b : UInt8 => (b.toNat : Int)) := by
      have h3 : (xs.map (·.1))[r]? = some x.1 := by simp [hxr]
      rw [hx1] at h3
      have hs : r < sigma.length := hr
      simp only [List.getElem?_map, List.getElem?_eq_getElem hs, Option.map_some, Option.some.injEq] at h3
      rw [← h3]
      simp [hs]
    obtain ⟨x1, x2⟩ := x
    simp only at h2
    subst h2
    have h4 := Lib.cells_of_tab Tryd.underlying159 Tryd.underlying5 co8 co16b h1
    rw [h4, List.map_map]
    rfl
  have hcs : cs = sigCells := by
    apply Array.toList_inj.1
    have hl : cs.toList.length = 160 := by rw [hlen, co160]
    have hcat : ∀ r, r ≤ 10 → cs.toList.take (r * 16) = ((sigma.take r).map (fun l => l.map cb)).flatten := by
      intro r
      induction r with
      | zero => intro _; simp
      | succ r ih =>
        intro hr
        have hs : r < sigma.length := by show r < 10; omega
        rw [show (r + 1) * 16 = r * 16 + 16 by omega, List.take_add, ih (by omega), hrow r (by omega), List.take_succ_eq_append_getElem hs, List.map_append, List.flatten_append]
        have e : sigma.getD r [] = sigma[r] := by simp [hs]
        rw [e]
        simp only [List.map_cons, List.map_nil, List.flatten_cons, List.flatten_nil, List.append_nil]
    have h10 := hcat 10 (Nat.le_refl _)
    rw [List.take_of_length_le (by omega)] at h10
    rw [h10]
    rfl
  rw [← hcs]
  exact var_heap gRows hvar
theorem glob_of_laid {W : World} {rest : List (String × DataW Unit)} (h : laidMet Tryd.prog (("hibernacle/hash.eight", Rows.laid_hibernacle_hash_eight) :: ("hibernacle/hash.rows", Rows.laid_hibernacle_hash_rows) :: rest) W) : Glob W :=
  ⟨eight_cells h, rows_cells h.tail⟩
end Go.Proofs.YtconhhhggckcbaaDoor
