/- Rows of bytes that a call makes and appends to: where they lie, and the text that they are. -/
import Derived.Test.YtilbebjjmnncdaaDoorRot
import Derived.Test.YtilbebjjmnncdaaDoorStream
import Derived.Lib.BufferRead
namespace Go.Proofs.YtilbebjjmnncdaaDoor
open Go.RowKit

theorem own_ne {w : World} {g base : Nat} {e t : TypeId} {size n : Nat} {v : Value} {xs : List Value} {cs : Array Value} (h : w.ownsRow base e size v n xs) (hg : Blk w g t cs) (hne : e ≠ t) : v.ownBlock ≠ some g := by
  rcases h.2 with ⟨rfl, _⟩ | ⟨g', cap, cur, rfl, _, hh, _⟩
  · simp [Value.ownBlock]
  · intro he
    have e1 : g' = g := by simpa [Value.ownBlock] using he
    subst e1
    unfold Blk at hg
    rw [hg] at hh
    injection hh with hh
    injection hh with _ ht
    exact hne ht.symm
theorem own_lt {w : World} {g base : Nat} {e : TypeId} {size n : Nat} {v : Value} {xs : List Value} (h : w.ownsRow base e size v n xs) (hg : g < base) : v.ownBlock ≠ some g := by
  rcases h.2 with ⟨rfl, _⟩ | ⟨g', cap, cur, rfl, hb, _⟩
  · simp [Value.ownBlock]
  · intro he
    have e1 : g' = g := by simpa [Value.ownBlock] using he
    omega
theorem info8 : (Tryd.prog.info? 5).map (fun i => (i.zero, i.size, i.bytes)) = some (some (.int .u8 0), 1, 1) := by kernel_rfl
theorem below_grownRow {B : Nat} {w0 w w' : World} {row : Option Nat} (hb : Below B w0 w) (hg : w.grownBy w' row) (hrow : ∀ k, row = some k → B ≤ k) (hB : B ≤ w.heap.size) : Below B w0 w' :=
  ⟨hg.os.trans hb.os, hg.tape.trans hb.tape, hg.output.trans hb.output, Nat.le_trans hb.size hg.size, fun k hk => (hg.block k (by omega) (fun e => by have := hrow k e.symm; omega)).trans (hb.block k hk)⟩
theorem own_base {w : World} {base g : Nat} {e : TypeId} {size n : Nat} {v : Value} {xs : List Value} (h : w.ownsRow base e size v n xs) (hg : v.ownBlock = some g) : base ≤ g := by
  rcases Nat.lt_or_ge g base with hl | hl
  · exact absurd hg (own_lt h hl)
  · exact hl
/-- 'string(b)' of bytes in memory. -/
theorem run_strOf {w : World} {g off cap n : Nat} {l : List UInt8} (hn : l.length = n) (hc : ∀ j, j < l.length → w.cell? ⟨g, off + j, none⟩ = some (.int .u8 ((bt l j).toNat : Int))) :
    (convert 33 9 (.slice (some ⟨g, off, none⟩) n cap)).run Tryd.prog w = .ok (.string ⟨l.toArray⟩) w := by
  subst hn
  refine run_convert_bytes_back w _ _ 5 ⟨g, off, none⟩ cap l Tryd.underlying33 Tryd.underlying5 Tryd.underlying9 (fun j hj => ?_)
  rw [addr_add, hc j hj]; simp [bt, hj]
theorem run_strBlk {w : World} {g cap n : Nat} {t : TypeId} {l : List UInt8} (hn : l.length = n) (hB : Blk w g t (cells8 l)) :
    (convert 33 9 (.slice (some ⟨g, 0, none⟩) n cap)).run Tryd.prog w = .ok (.string ⟨l.toArray⟩) w :=
  run_strOf hn (fun j hj => by rw [Nat.zero_add, hB.cell]; exact cells8_get l j hj)
/-- and of a row that the call owns. -/
theorem run_strOwn {w : World} {base : Nat} {v : Value} {l : List UInt8} (h : w.ownsRow base 5 1 v l.length (l.map cb)) : (convert 33 9 v).run Tryd.prog w = .ok (.string ⟨l.toArray⟩) w := by
  rcases h.2 with ⟨rfl, h0⟩ | ⟨g, cap, cur, rfl, hg, hh, hc1, hc2, hc3, hc4⟩
  · have hxs : l = [] := List.eq_nil_of_length_eq_zero h0
    subst hxs
    exact Lib.run_convert_nil_bytes (P := Tryd.prog) w 33 9 5 0 Tryd.underlying33 Tryd.underlying5 Tryd.underlying9
  · refine run_strOf rfl (fun i hi => ?_)
    rw [Nat.zero_add, cell_of_row w g i cur 5 (0, 0) hh]
    have e : cur[i]? = (cur.toList.take (l.length * 1))[i]? := by rw [List.getElem?_take_of_lt (by omega)]; simp
    rw [e, hc4]
    simp [cb, bt, hi]
/-- what a block that was just made has. -/
theorem cells_new (w : World) (l : List Value) (t : TypeId) : ∀ j u, l[j]? = some u → (w.alloc (.cells l.toArray t)).cell? ((⟨w.heap.size, 0, none⟩ : Addr).add j) = some u := by
  intro j u hj
  rw [addr_add, Nat.zero_add, (Blk.new w t l.toArray).cell]
  simpa using hj
/-- an empty row of the call's own. -/
theorem own_new (w : World) (cap : Nat) (e : TypeId) (cs : Array Value) {g base : Nat} (hg : w.heap.size = g) (hb : base ≤ g) (hc : cs.size = cap) (hm : cap ≤ maxLen) : (w.alloc (.cells cs e)).ownsRow base e 1 (.slice (some ⟨g, 0, none⟩) 0 cap) 0 [] := by
  subst hg
  exact ⟨rfl, .inr ⟨_, cap, cs, rfl, hb, heap_alloc_new w _, by omega, hm, by omega, by simp⟩⟩
end Go.Proofs.YtilbebjjmnncdaaDoor
