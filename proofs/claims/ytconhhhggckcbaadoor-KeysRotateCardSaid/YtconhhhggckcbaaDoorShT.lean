/- A share as the 33 bytes of its block, filled byte by byte. -/
import Derived.Test.YtconhhhggckcbaaDoorRng8
import Derived.Test.YtconhhhggckcbaaDoorFld3
namespace Go.Proofs.YtconhhhggckcbaaDoor
open Go.RowKit
variable {D : List Deferred}

def genT (x : UInt8) (f : Nat → UInt8) (i : Nat) : List UInt8 := x :: (List.range 32).map fun q => if q < i then f q else 0
theorem genT_len (x : UInt8) (f : Nat → UInt8) (i : Nat) : (genT x f i).length = 33 := by simp [genT]
theorem genT_zero (x : UInt8) (f : Nat → UInt8) : x :: List.replicate 32 0 = genT x f 0 := by kernel_rfl
theorem genT_step (x : UInt8) (f : Nat → UInt8) {i : Nat} {b : UInt8} (hb : f i = b) : (genT x f i).set (1 + i) b = genT x f (i + 1) := by
  unfold genT
  rw [Nat.add_comm 1 i, List.set_cons_succ]
  congr 1
  apply List.ext_getElem?
  intro q
  rw [List.getElem?_set, List.length_map, List.length_range]
  by_cases hq : q < 32
  · rw [List.getElem?_map, List.getElem?_map, List.getElem?_range hq, Option.map_some, Option.map_some]
    by_cases h : i = q
    · subst h
      rw [if_pos rfl, if_pos hq, if_pos (by omega), hb]
    · rw [if_neg h]
      by_cases h1 : q < i
      · rw [if_pos h1, if_pos (by omega)]
      · rw [if_neg h1, if_neg (by omega)]
  · rw [List.getElem?_eq_none (by simp; omega), List.getElem?_eq_none (by simp; omega)]
    by_cases h : i = q
    · rw [if_pos h, if_neg (by omega)]
    · rw [if_neg h]
def genS (x : UInt8) (f : Nat → UInt8) : Sh := ⟨x, (List.range 32).map f⟩
theorem genT_all (x : UInt8) (f : Nat → UInt8) : (genT x f 32).map cb = shareC (genS x f) := by
  unfold genT shareC
  rw [List.map_cons, List.map_map]
  congr 1
theorem shOf_gen (k no : List UInt8) (j : Nat) : shOf k no j = genS (UInt8.ofNat (j + 1)) fun q => evalS (polS k no q) (UInt8.ofNat (j + 1)) := rfl
theorem shS_snoc (k no : List UInt8) {j : Nat} (hj : j < 5) : ((shS k no).take j).flatMap shareC ++ (genT (UInt8.ofNat (j + 1)) (fun q => evalS (polS k no q) (UInt8.ofNat (j + 1))) 32).map cb = ((shS k no).take (j + 1)).flatMap shareC := by
  rw [List.take_add_one, shS_at hj, List.flatMap_append, genT_all, ← shOf_gen]
  exact congrArg _ (List.flatMap_singleton ..).symm
theorem built_sh (x : UInt8) : Tryd.prog.built 54 [(0, .int .u8 (x.toNat : Int))] = some (cells8 (x :: List.replicate 32 0)) := by kernel_rfl
theorem szSh3 : (Tryd.prog.info? 54).map (·.size) = some 33 := by kernel_rfl
section
variable {a : Act} {o : Oper} {w w0 : World} {n s : Nat} {L : List (Nat × Value)} {v : Value} {ops : Array Oper} {rest : List Oper} {Q : Exit → Act → World → Prop} {M : List (Nat × (Obj → Prop))} {x y z : Operand} {g i : Nat} {l : List UInt8}
theorem list33 (h : l.length = 33) : ∃ x d, l = x :: d ∧ d.length = 32 := by
  match l, h with
  | x :: d, h => exact ⟨x, d, rfl, by simpa using h⟩
theorem run_sh1 (h : l.length = 33) (ho : o.op = .buildSlice 31 1 #[(0, x)]) (hx : a.eval x = .agg (cells8 l)) : (execOp a.eval o).run Tryd.prog w = .ok (.value (.slice (some ⟨w.heap.size, 0, none⟩) 1 1)) (w.alloc (.cells (cells8 l) 54)) := by
  have hr : (Instr.buildSlice 31 1 #[(0, .agg (cells8 l))]).run Tryd.prog w = .ok (.slice (some ⟨w.heap.size, 0, none⟩) 1 1) (w.alloc (.cells (cells8 l) 54)) := by
    obtain ⟨x0, d, rfl, h2⟩ := list33 h
    obtain ⟨a0, a1, a2, a3, a4, a5, a6, a7, a8, a9, b0, b1, b2, b3, b4, b5, b6, b7, b8, b9, c0, c1, c2, c3, c4, c5, c6, c7, c8, c9, d0, d1, rfl⟩ := list32 h2
    kernel_rfl
  unfold execOp
  simp only [ho, List.map_toArray, List.map_cons, List.map_nil, hx, Sem.run_bind, hr, Result.andThen_ok, Sem.run_pure]
theorem sqSetA2 {j : Nat} {l : List UInt8} {b : UInt8} {t : TypeId} (hF : FrD D a n L) (hM : Mem w0 M w) (hgd : o.guard = none) (ho : o.op = .store 5 x y) (hd : o.dst = none) (hx : a.eval x = .pointer (some ⟨g, i, none⟩)) (hy : a.eval y = .int .u8 (b.toNat : Int))
    (e : M[j]? = some (g, isB t (cells8 l))) (hi : i < l.length) (h : ∀ a2 w2, w.grownBy w2 (some g) → FrD D a2 n L → Mem w0 (M.set j (g, isB t (cells8 (l.set i b)))) w2 → wpList Tryd.prog ops Q rest a2 w2) : wpList Tryd.prog ops Q (o :: rest) a w := by
  have hB := hM.at j e
  have hc : w.cell? ⟨g, i, none⟩ = some (cb l[i]) := by
    rw [hB.cell]
    simp [cells8, hi]
  have hf := hB.frozen i
  refine sqN hF (wantedS hgd) (w2 := w.setCell ⟨g, i, none⟩ (.int .u8 (b.toNat : Int))) ?_ hd fun a2 hF2 => h a2 _ (grown_setCell w g i _) hF2 (hM.upd j e (grown_setCell w g i _) ⟨_, ?_, rfl⟩)
  · unfold execOp
    simp only [ho, hx, hy]
    simp [go_sem, hc, hf]
  · unfold Blk at hB
    simp [World.setCell, Array.getElem?_modify, hB, cells8, List.map_set, cb]
/-- equality of shares. -/
theorem eqShB (s : Sh) (w : World) : (Op.equalIn 10000 54 (.agg (shareC s).toArray) (.agg (shareC s).toArray)).run Tryd.prog w = .ok true w := by
  have hx : ((shareC s).toArray).extract 1 33 = cells8 ((List.range 32).map fun i => s.d.getD i 0) := by
    simp only [shareC, cells8, List.extract_toArray, List.extract_eq_take_drop, List.drop_succ_cons, List.drop_zero]
    rw [List.take_of_length_le (by simp), List.map_map]
    rfl
  have h := eq2_gen (P := Tryd.prog) (w := w) 9999 (t := 54) (A := (shareC s).toArray) (B := (shareC s).toArray) (o2 := 1) (m := cb s.x) (m2 := cb s.x) (b0 := true) (b1 := true) (by kernel_rfl) (by kernel_rfl) (by kernel_rfl) (part_one rfl (by kernel_rfl)) (part_agg (m := 32) hx (by kernel_rfl) (by kernel_rfl)) (part_one rfl (by kernel_rfl)) (part_agg (m := 32) hx (by kernel_rfl) (by kernel_rfl))
    (eq_int 9998 _ Tryd.underlying5) (eq_by 9997 _ Tryd.underlying23 Tryd.underlying5 so8 (by simp))
  exact h
end
end Go.Proofs.YtconhhhggckcbaaDoor
