/- Laws and walks that many claims share: Rtake, Rsum, Rkeyed. -/
import Derived.Test.YtconhhhggckcbaaDoorBaseB
import Derived.Deep.DeepCutAuto
import Derived.Test.YtconhhhggckcbaaDoorEndB
/- The walks of the reference's take (layer 2) and of its small functions: the eight words, the rows, a sign's place; a block is taken in. -/
namespace Go.Proofs.YtconhhhggckcbaaDoor
open Go.RowKit

def ja (i : Nat) : Nat := if i < 4 then i else i - 4
def jb (i : Nat) : Nat := if i < 4 then i + 4 else 4 + (i - 4 + 1) % 4
def jc (i : Nat) : Nat := if i < 4 then i + 8 else 8 + (i - 4 + 2) % 4
def jd (i : Nat) : Nat := if i < 4 then i + 12 else 12 + (i - 4 + 3) % 4
/-- the first i mixes of a round. -/
def roundTo (m v : List Wd) (r : Nat) : Nat → List Wd
  | 0 => v
  | i + 1 => mixS (roundTo m v r i) (ja i) (jb i) (jc i) (jd i) (mw m r (2 * i)) (mw m r (2 * i + 1))
def rowTx : List (List UInt8) := [
  [48, 49, 50, 51, 52, 53, 54, 55, 56, 57, 97, 98, 99, 100, 101, 102], [101, 97, 52, 56, 57, 102, 100, 54, 49, 99, 48, 50, 98, 55, 53, 51], [98, 56, 99, 48, 53, 50, 102, 100, 97, 101, 51, 54, 55, 49, 57, 52],
  [55, 57, 51, 49, 100, 99, 98, 101, 50, 54, 53, 97, 52, 48, 102, 56], [57, 48, 53, 55, 50, 52, 97, 102, 101, 49, 98, 99, 54, 56, 51, 100], [50, 99, 54, 97, 48, 98, 56, 51, 52, 100, 55, 53, 102, 101, 49, 57],
  [99, 53, 49, 102, 101, 100, 52, 97, 48, 55, 54, 51, 57, 50, 56, 98], [100, 98, 55, 101, 99, 49, 51, 57, 53, 48, 102, 52, 56, 54, 50, 97], [54, 102, 101, 57, 98, 51, 48, 56, 99, 50, 100, 55, 49, 52, 97, 53],
  [97, 50, 56, 52, 55, 54, 49, 53, 102, 98, 57, 101, 51, 99, 100, 48]]
/-- the number of a sign. -/
def plc (b : UInt8) : Nat := if 97 ≤ b.toNat then b.toNat - 97 + 10 else b.toNat - 48
/-- the world while a block is taken in: what came in, the result's place, the sixteen words, the block's words. -/
def RV (n0 n1 n2 n3 : Nat) (h m v : List Wd) (w wr : World) : Prop :=
  Blk wr n0 115 (cells h) ∧ Blk wr n1 115 (cells (List.replicate 8 0)) ∧ Blk wr n2 148 (cells v) ∧ Blk wr n3 148 (cells m) ∧ Below n0 w wr ∧ n0 < n1 ∧ n1 < n2 ∧ n2 < n3
section
variable {n0 n1 n2 n3 : Nat} {h m v : List Wd} {w wr w1 : World}
theorem RV.drew (hR : RV n0 n1 n2 n3 h m v w wr) : RV n0 n1 n2 n3 h m v w wr.drew := by
  obtain ⟨h1, h2, h3, h4, h5, h6⟩ := hR
  exact ⟨h1, h2, h3, h4, h5.drew, h6⟩
theorem RV.below (hR : RV n0 n1 n2 n3 h m v w wr) (hb : Below wr.heap.size wr w1) : RV n0 n1 n2 n3 h m v w w1 := by
  obtain ⟨h1, h2, h3, h4, h5, h6⟩ := hR
  exact ⟨h1.below hb h1.lt, h2.below hb h2.lt, h3.below hb h3.lt, h4.below hb h4.lt, h5.trans (hb.mono (Nat.le_of_lt h1.lt)), h6⟩
end
/-- the sixteen words, the first i of them laid. -/
def fillV (h : List Wd) : Nat → List Wd
  | 0 => List.replicate 16 0
  | i + 1 => (fillV h i).set i (if i < 8 then gt h i else gt eightV (i - 8))
attribute [local go_sem] nm_xor str_byte
end Go.Proofs.YtconhhhggckcbaaDoor
/- The walks of the reference's digest, Sum, Keyed and One (layer 2). -/
namespace Go.Proofs.YtconhhhggckcbaaDoor
open Go.RowKit

attribute [local go_sem] str_app str_byte

/-- the world while digests are made. -/
def DRel (n0 n1 : Nat) (h : List Wd) (w wr : World) : Prop := Blk wr n0 115 (cells h) ∧ Blk wr n1 73 (cells8 (List.replicate 32 0)) ∧ Below n0 w wr ∧ n0 < n1
theorem DRel.below {n0 n1 : Nat} {h : List Wd} {w wr w1 : World} (hR : DRel n0 n1 h w wr) (hb : Below wr.heap.size wr w1) : DRel n0 n1 h w w1 := by
  obtain ⟨h1, h2, h3, h4⟩ := hR
  exact ⟨h1.below hb h1.lt, h2.below hb h2.lt, h3.trans (hb.mono (Nat.le_of_lt h1.lt)), h4⟩
theorem DRel.row {n0 n1 : Nat} {h : List Wd} {w wr : World} (hR : DRel n0 n1 h w wr) (h' : List Wd) : DRel n0 n1 h' w (wr.setRow n0 (cells h')) := by
  obtain ⟨h1, h2, h3, h4⟩ := hR
  exact ⟨h1.row _, h2.rowFar (by omega) _, below_row h3 (Nat.le_refl _) _, h4⟩

end Go.Proofs.YtconhhhggckcbaaDoor
/- The walk of the reference's Keyed (layer 2). -/
namespace Go.Proofs.YtconhhhggckcbaaDoor
open Go.RowKit

/-- a key's first i bytes, ahead of noughts. -/
def keyTo (k : List UInt8) : Nat → List UInt8
  | 0 => List.replicate 64 0
  | i + 1 => (keyTo k i).set i (bt k i)
attribute [local go_sem] str_app
end Go.Proofs.YtconhhhggckcbaaDoor
