/- Plain mathematics of BLAKE2s: a mix, a round, taking a block in, the digest of bytes; no program in sight. -/
import Derived.Test.YtilbebjjmnncdaaDoorPlain
namespace Go.Proofs.YtilbebjjmnncdaaDoor
open Go.RowKit

/-- half a mix that adds x, too. -/
def hx (v : List Wd) (a b d : Nat) (x : Wd) (k : Nat) : List Wd :=
  (v.set a (gt v a + (gt v b + x))).set d (rl (gt (v.set a (gt v a + (gt v b + x))) d ^^^ gt (v.set a (gt v a + (gt v b + x))) a) k)
/-- a mix of four of sixteen words. -/
def mixS (v : List Wd) (a b c d : Nat) (x y : Wd) : List Wd := hf (hx (hf (hx v a b d x 16) c d b 20) a b d y 24) c d b 25
theorem hx_len (v : List Wd) (a b d : Nat) (x : Wd) (k : Nat) : (hx v a b d x k).length = v.length := by simp [hx]
theorem mixS_len (v : List Wd) (a b c d : Nat) (x y : Wd) : (mixS v a b c d x y).length = v.length := by simp [mixS, hf_len, hx_len]

def eightV : List Wd := [1779033703#32, 3144134277#32, 1013904242#32, 2773480762#32, 1359893119#32, 2600822924#32, 528734635#32, 1541459225#32]
def sigma : List (List UInt8) := [
  [0, 1, 2, 3, 4, 5, 6, 7, 8, 9, 10, 11, 12, 13, 14, 15], [14, 10, 4, 8, 9, 15, 13, 6, 1, 12, 0, 2, 11, 7, 5, 3], [11, 8, 12, 0, 5, 2, 15, 13, 10, 14, 3, 6, 7, 1, 9, 4], [7, 9, 3, 1, 13, 12, 11, 14, 2, 6, 5, 10, 4, 0, 15, 8],
  [9, 0, 5, 7, 2, 4, 10, 15, 14, 1, 11, 12, 6, 8, 3, 13], [2, 12, 6, 10, 0, 11, 8, 3, 4, 13, 7, 5, 15, 14, 1, 9], [12, 5, 1, 15, 14, 13, 4, 10, 0, 7, 6, 3, 9, 2, 8, 11], [13, 11, 7, 14, 12, 1, 3, 9, 5, 0, 15, 4, 8, 6, 2, 10],
  [6, 15, 14, 9, 11, 3, 0, 8, 12, 2, 13, 7, 1, 4, 10, 5], [10, 2, 8, 4, 7, 6, 1, 5, 15, 11, 9, 14, 3, 12, 13, 0]]
/-- a sign of a row. -/
def sg (r i : Nat) : Nat := (bt (sigma.getD r []) i).toNat
/-- the word that a row names. -/
def mw (m : List Wd) (r i : Nat) : Wd := gt m (sg r i)
/-- a round. -/
def roundS (m v : List Wd) (r : Nat) : List Wd :=
  let v1 := mixS v 0 4 8 12 (mw m r 0) (mw m r 1)
  let v2 := mixS v1 1 5 9 13 (mw m r 2) (mw m r 3)
  let v3 := mixS v2 2 6 10 14 (mw m r 4) (mw m r 5)
  let v4 := mixS v3 3 7 11 15 (mw m r 6) (mw m r 7)
  let v5 := mixS v4 0 5 10 15 (mw m r 8) (mw m r 9)
  let v6 := mixS v5 1 6 11 12 (mw m r 10) (mw m r 11)
  let v7 := mixS v6 2 7 8 13 (mw m r 12) (mw m r 13)
  mixS v7 3 4 9 14 (mw m r 14) (mw m r 15)
def roundsS (m v : List Wd) : Nat → List Wd
  | 0 => v
  | r + 1 => roundS m (roundsS m v r) r
theorem roundS_len (m v : List Wd) (r : Nat) : (roundS m v r).length = v.length := by simp [roundS, mixS_len]
theorem roundsS_len (m v : List Wd) (r : Nat) : (roundsS m v r).length = v.length := by
  induction r with
  | zero => rfl
  | succ r ih => simp [roundsS, roundS_len, ih]

/-- a block's words, the first i of them. -/
def wordsTo (b : List UInt8) : Nat → List Wd
  | 0 => List.replicate 16 0
  | i + 1 => (wordsTo b i).set i (wdAt b (4 * i))
theorem wordsTo_len (b : List UInt8) (i : Nat) : (wordsTo b i).length = 16 := by
  induction i with
  | zero => rfl
  | succ i ih => simp [wordsTo, ih]
/-- what a block's sixteen words begin with. -/
def startV (h : List Wd) (t : Nat) (last : Bool) : List Wd :=
  let v := h ++ eightV
  let v := v.set 12 (gt v 12 ^^^ BitVec.ofNat 32 t)
  let v := v.set 13 (gt v 13 ^^^ BitVec.ofNat 32 (t / 4294967296))
  if last then v.set 14 (~~~ (gt v 14)) else v
theorem startV_len (h : List Wd) (t : Nat) (last : Bool) (hl : h.length = 8) : (startV h t last).length = 16 := by
  unfold startV; cases last <;> simp [hl, eightV]
/-- the first i words of what becomes of the eight. -/
def foldTo (h v : List Wd) : Nat → List Wd
  | 0 => h
  | i + 1 => (foldTo h v i).set i (gt h i ^^^ (gt v i ^^^ gt v (i + 8)))
theorem foldTo_len (h v : List Wd) (i : Nat) : (foldTo h v i).length = h.length := by
  induction i with
  | zero => rfl
  | succ i ih => simp [foldTo, ih]
theorem foldTo_at (h v : List Wd) (i j : Nat) (hij : i ≤ j) (hi : i ≤ h.length) : gt (foldTo h v i) j = gt h j := by
  induction i with
  | zero => rfl
  | succ i ih => rw [foldTo, gt_set _ _ _ _ (by rw [foldTo_len]; omega), if_neg (by omega), ih (by omega) (by omega)]
/-- a block is taken in. -/
def compress (h : List Wd) (b : List UInt8) (t : Nat) (last : Bool) : List Wd := foldTo h (roundsS (wordsTo b 16) (startV h t last) 10) 8
theorem compress_len (h : List Wd) (b : List UInt8) (t : Nat) (last : Bool) : (compress h b t last).length = h.length := by unfold compress; rw [foldTo_len]

/-- bytes, filled up with noughts to a block. -/
def pad64 (b : List UInt8) : List UInt8 := b ++ List.replicate (64 - b.length) 0
/-- the eight words behind q blocks. -/
def hashTo (h0 : List Wd) (p : List UInt8) : Nat → List Wd
  | 0 => h0
  | q + 1 => compress (hashTo h0 p q) ((p.drop (64 * q)).take 64) (64 * (q + 1)) false
theorem hashTo_len (h0 : List Wd) (p : List UInt8) (q : Nat) : (hashTo h0 p q).length = h0.length := by
  induction q with
  | zero => rfl
  | succ q ih => rw [hashTo, compress_len, ih]
/-- how many blocks are taken in before the last one. -/
def full (n : Nat) : Nat := (n - 1) / 64
/-- the eight words of bytes. -/
def blake (h0 : List Wd) (p : List UInt8) : List Wd := compress (hashTo h0 p (full p.length)) (pad64 (p.drop (64 * full p.length))) p.length true
/-- eight words as bytes, the first m. -/
def outD (h : List Wd) : Nat → List UInt8
  | 0 => List.replicate 32 0
  | m + 1 => (outD h m).set m (byteOf (gt h (m / 4)) (m % 4))
theorem outD_len (h : List Wd) (m : Nat) : (outD h m).length = 32 := by
  induction m with
  | zero => rfl
  | succ m ih => simp [outD, ih]
def h0U : List Wd := eightV.set 0 (gt eightV 0 ^^^ 16842784#32)
def h0K : List Wd := eightV.set 0 ((gt eightV 0 ^^^ 16842784#32) ^^^ 8192#32)
/-- the digest of bytes, and that under a key. -/
def sumS (s : List UInt8) : List UInt8 := outD (blake h0U s) 32
def keyedS (k s : List UInt8) : List UInt8 := outD (blake h0K (k ++ List.replicate 32 0 ++ s)) 32
theorem sumS_len (s : List UInt8) : (sumS s).length = 32 := outD_len _ _
theorem keyedS_len (k s : List UInt8) : (keyedS k s).length = 32 := outD_len _ _
theorem hashTo_append (h0 : List Wd) (p s : List UInt8) (q : Nat) (hq : 64 * q ≤ p.length) : hashTo h0 (p ++ s) q = hashTo h0 p q := by
  induction q with
  | zero => rfl
  | succ q ih =>
    rw [hashTo, hashTo, ih (by omega)]
    congr 1
    rw [List.drop_append_of_le_length (by omega), List.take_append_of_le_length (by rw [List.length_drop]; omega)]
/-- a known digest: the document's example. -/
theorem sum_abc : sumS [97, 98, 99] = [80, 140, 94, 140, 50, 124, 20, 226, 225, 167, 43, 163, 78, 235, 69, 47, 55, 69, 139, 32, 158, 214, 58, 41, 77, 153, 155, 76, 134, 103, 89, 130] := by decide +kernel
theorem sum_nil : sumS [] = [105, 33, 122, 48, 121, 144, 128, 148, 225, 17, 33, 208, 66, 53, 74, 124, 31, 85, 182, 72, 44, 161, 165, 30, 27, 37, 13, 253, 30, 208, 238, 249] := by decide +kernel
end Go.Proofs.YtilbebjjmnncdaaDoor
