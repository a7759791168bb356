/- A share as the 33 bytes of its block, filled byte by byte. -/
import Derived.Test.YtconhhhggckcbaaDoorRng8
import Derived.Test.YtconhhhggckcbaaDoorFld3
namespace Go.Proofs.YtconhhhggckcbaaDoor
open Go.RowKit
variable {D : List Deferred}

def genT (x : UInt8) (f : Nat → UInt8) (i : Nat) : List UInt8 := x :: (List.range 32).map fun q => if q < i then f q else 0
theorem genT_len (x : UInt8) (f : Nat → UInt8) (i : Nat) : (genT x f i).length = 33 := by simp [genT]
theorem genT_zero (x : UInt8) (f : Nat → UInt8) : x :: List.replicate 32 0 = genT x f 0 := by kernel_rfl
theorem genT_step (x : UInt8) (f : Nat → UInt8) {i : Nat} {b : UInt8} (hb : f i = b) : (genT x f i).set (1 + i) b = genT x f (i + 1) := by
  unfold genT
  rw [Nat.add_comm 1 i, List.set_cons_succ]
  congr 1
  apply List.ext_getElem?
  intro q
  rw [List.getElem?_set, List.length_map, List.length_range]
  by_cases hq : q < 32
  · rw [List.getElem?_map, List.getElem?_map, List.getElem?_range hq, Option.map_some, Option.map_some]
    by_cases h : i = q
    · subst h
      rw [if_pos rfl, if_pos hq, if_pos (by omega), hb]
    · rw [if_neg h]
      by_cases h1 : q < i
      · rw [if_pos h1, if_pos (by omega)]
      · rw [if_neg h1, if_neg (by omega)]
  · rw [List.getElem?_eq_none (by simp; omega), List.getElem?_eq_none (by simp; omega)]
    by_cases h : i = q
    · rw [if_pos h, if_neg (by omega)]
    · rw [if_neg h]
def genS (x : UInt8) (f : Nat → UInt8) : Sh := ⟨x, (List.range 32).map f⟩
theorem genS_d (x : UInt8) (f : Nat → UInt8) {q : Nat} (h : q < 32) : (genS x f).d.getD q 0 = f q := by
  unfold genS
  rw [List.getD_eq_getElem?_getD, List.getElem?_map, List.getElem?_range h]; rfl
theorem genT_all (x : UInt8) (f : Nat → UInt8) : (genT x f 32).map cb = shareC (genS x f) := by
  unfold genT shareC
  rw [List.map_cons, List.map_map]
  congr 1
theorem genT_cells (x : UInt8) (f : Nat → UInt8) : cells8 (genT x f 32) = (shareC (genS x f)).toArray := by rw [← genT_all]; rfl
theorem sb_cells (s : Sh) : cells8 (sb s) = (shareC s).toArray := by rw [← sb_cb]; rfl
theorem sb_len (s : Sh) : (sb s).length = 33 := by simp [sb]
theorem sb_bt (s : Sh) {q : Nat} (h : q < 32) : bt (sb s) (1 + q) = s.d.getD q 0 := by
  unfold bt sb
  rw [Nat.add_comm 1 q, List.getD_eq_getElem?_getD, List.getElem?_cons_succ, List.getElem?_map, List.getElem?_range h]; rfl
theorem built_sh (x : UInt8) : Tryd.prog.built 54 [(0, .int .u8 (x.toNat : Int))] = some (cells8 (x :: List.replicate 32 0)) := by kernel_rfl
theorem szSh3 : (Tryd.prog.info? 54).map (·.size) = some 33 := by kernel_rfl
section
variable {a : Act} {o : Oper} {w w0 : World} {n s : Nat} {L : List (Nat × Value)} {v : Value} {ops : Array Oper} {rest : List Oper} {Q : Exit → Act → World → Prop} {M : List (Nat × (Obj → Prop))} {x y z : Operand} {g i : Nat} {l : List UInt8}
theorem givz_newRowL {P : Program} {W : World} {B m n : Nat} (t : TypeId) (xs : List Value) (hB : B ≤ W.heap.size) (hs : xs.length = n * m) (hn : n ≤ maxLen) (h : (execOp a.eval o).run P W = .ok (.value (.slice (some ⟨W.heap.size, 0, none⟩) n n)) (W.alloc (.cells xs.toArray t))) : GivesT P (Below W.heap.size W) (fun v W' => (Kp.row t m n xs).sat B v W') ((execOp a.eval o).run P W) := by
  have h2 := givz_newRow (m := m) t xs.toArray n hB (by simpa using hs) hn h
  simpa using h2
end
end Go.Proofs.YtconhhhggckcbaaDoor
