/- Laws and walks that many claims share: RefLeaf, RefHalf, RefBlock. -/
import Derived.Test.YtconhhhggckcbaaDoorBaseB
import Derived.LoopTactic
import Derived.IntWalk
import Derived.Test.YtconhhhggckcbaaDoorBlockB
import Derived.Laws.IdiomStrings
/- The walks of the reference's small functions for words: a sum that goes round, a turning, the exclusive or bit by bit, a word of four bytes of a text. -/
namespace Go.Proofs.YtconhhhggckcbaaDoor
open Go.RowKit

/-- a text's bytes as the walk reads them. -/
theorem str_at (l : List UInt8) (i : Nat) (h : i < (⟨l.toArray⟩ : ByteArray).size) : (⟨l.toArray⟩ : ByteArray)[i]'h = bt l i := by
  have hl : i < l.length := h
  show l.toArray[i] = bt l i
  simp [bt, hl]

attribute [local go_sem] str_at
end Go.Proofs.YtconhhhggckcbaaDoor
/- The walks of the reference's half step and step on sixteen words. -/
namespace Go.Proofs.YtconhhhggckcbaaDoor
open Go.RowKit

end Go.Proofs.YtconhhhggckcbaaDoor
/- The walk of the reference's Block: it returns the bytes of 'chacha'. -/
namespace Go.Proofs.YtconhhhggckcbaaDoor
open Go.RowKit

/-- the world at a round's head. -/
def GRel (k nonce : List UInt8) (v : List Wd) (w wr : World) : Prop :=
  Blk wr w.heap.size 23 (cells8 k) ∧ Blk wr (w.heap.size + 1) 104 (cells8 nonce) ∧ (∃ zs, Blk wr (w.heap.size + 1 + 1) 46 zs ∧ zs.size = 64) ∧
  Blk wr (w.heap.size + 1 + 1 + 1) 152 (cells64 v) ∧ Below w.heap.size w wr
theorem GRel.put {k nonce : List UInt8} {v : List Wd} {w wr : World} (h : GRel k nonce v w wr) (i : Nat) (x : Wd) :
    GRel k nonce (v.set i x) w (wr.setCell ⟨w.heap.size + 1 + 1 + 1, i, none⟩ (.int .u64 (nm x))) := by
  obtain ⟨h1, h2, ⟨zs, h3, hz⟩, h4, h5⟩ := h
  refine ⟨h1.far (by dsimp only; omega) _, h2.far (by dsimp only; omega) _, ⟨zs, h3.far (by dsimp only; omega) _, hz⟩, ?_, h5.setCell (by dsimp only; omega) _⟩
  rw [← cells64_set]; exact h4.set_ i _
theorem GRel.drew {k nonce : List UInt8} {v : List Wd} {w wr : World} (h : GRel k nonce v w wr) : GRel k nonce v w wr.drew := by
  obtain ⟨h1, h2, ⟨zs, h3, hz⟩, h4, h5⟩ := h
  exact ⟨h1, h2, ⟨zs, h3, hz⟩, h4, h5.drew⟩

/-- four columns, four diagonals. -/
def colA (v : List Wd) : Nat → List Wd
  | 0 => v
  | c + 1 => qr (colA v c) c (4 + c) (8 + c) (12 + c)
def diaB (v : List Wd) : Nat → List Wd
  | 0 => v
  | c + 1 => qr (diaB v c) c (4 + (c + 1) % 4) (8 + (c + 2) % 4) (12 + (c + 3) % 4)
/-- the world while bytes are laid. -/
def MRel (p r : Nat) (f v : List Wd) (o : List UInt8) (w wr : World) : Prop :=
  (∃ zs, Blk wr (w.heap.size + 1 + 1) 46 zs ∧ zs.size = 64) ∧ Blk wr (w.heap.size + 1 + 1 + 1) 152 (cells64 f) ∧ Blk wr p 152 (cells64 v) ∧ Blk wr r 46 (cells8 o) ∧ Below w.heap.size w wr
theorem MRel.put {p r : Nat} {f v : List Wd} {o : List UInt8} {w wr : World} (h : MRel p r f v o w wr) (hr : w.heap.size + 1 + 1 + 1 < p) (hp : p < r) (i : Nat) (x : UInt8) :
    MRel p r f v (o.set i x) w (wr.setCell ⟨r, i, none⟩ (.int .u8 (x.toNat : Int))) := by
  obtain ⟨⟨zs, h1, hz⟩, h2, h3, h4, h5⟩ := h
  refine ⟨⟨zs, h1.far (by dsimp only; omega) _, hz⟩, h2.far (by dsimp only; omega) _, h3.far (by dsimp only; omega) _, ?_, h5.setCell (by dsimp only; omega) _⟩
  rw [← cells8_set]; exact h4.set_ i _
theorem MRel.drew {p r : Nat} {f v : List Wd} {o : List UInt8} {w wr : World} (h : MRel p r f v o w wr) : MRel p r f v o w wr.drew := by
  obtain ⟨⟨zs, h1, hz⟩, h2, h3, h4, h5⟩ := h
  exact ⟨⟨zs, h1, hz⟩, h2, h3, h4, h5.drew⟩
/-- the world between the steps. -/
def KRel (p : Nat) (f v : List Wd) (w wr : World) : Prop :=
  (∃ zs, Blk wr (w.heap.size + 1 + 1) 46 zs ∧ zs.size = 64) ∧ Blk wr (w.heap.size + 1 + 1 + 1) 152 (cells64 f) ∧ Blk wr p 152 (cells64 v) ∧ Below w.heap.size w wr
theorem KRel.step {p : Nat} {f v v' : List Wd} {w wr w1 : World} (h : KRel p f v w wr) (hp : w.heap.size + 1 + 1 + 1 < p) (hb : Below wr.heap.size wr w1) :
    KRel p f v' w (w1.setRow p (cells64 v')) ∧ Blk w1 p 152 (cells64 v) := by
  obtain ⟨⟨zs, h1, hz⟩, h2, h3, h5⟩ := h
  have h3' := h3.below hb h3.lt
  exact ⟨⟨⟨zs, (h1.below hb h1.lt).rowFar (by omega) _, hz⟩, (h2.below hb h2.lt).rowFar (by omega) _, h3'.row _, below_row (h5.trans (hb.mono h5.size)) (by omega) _⟩, h3'⟩

end Go.Proofs.YtconhhhggckcbaaDoor
