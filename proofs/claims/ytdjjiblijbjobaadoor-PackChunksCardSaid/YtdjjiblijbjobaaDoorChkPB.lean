/- Laws and walks that many claims share: SesS, KyP, ChkP, ChkQ. -/
import Derived.ProofKit
import Derived.Test.YtdjjiblijbjobaaDoorBaseB
import Derived.Test.YtdjjiblijbjobaaDoorOpenSeal
import Derived.Test.YtdjjiblijbjobaaDoorLzPB
import Derived.Test.YtdjjiblijbjobaaDoorHexB
/- Plain: numbers as eight bytes, the lowest one first. -/
namespace Go.Proofs.YtdjjiblijbjobaaDoor

def putS (n : Nat) : List UInt8 := (List.range 8).map fun i => UInt8.ofNat (n / 256 ^ i)
def getTo (s : List UInt8) : Nat → Nat
  | 0 => 0
  | k + 1 => getTo s k + (s.getD k 0).toNat * 256 ^ k
def getS (s : List UInt8) : Nat := getTo s (min s.length 8)
theorem putS_len (n : Nat) : (putS n).length = 8 := by simp [putS]
theorem putS_get (n i : Nat) (h : i < 8) : (putS n).getD i 0 = UInt8.ofNat (n / 256 ^ i) := by
  unfold putS
  rw [List.getD_eq_getElem?_getD, List.getElem?_map, List.getElem?_range h]
  rfl
theorem getTo_lt (s : List UInt8) : ∀ k, getTo s k < 256 ^ k
  | 0 => by simp [getTo]
  | k + 1 => by
    have ih := getTo_lt s k
    have hb := (s.getD k 0).toNat_lt
    rw [getTo, Nat.pow_succ]
    have : (s.getD k 0).toNat * 256 ^ k ≤ 255 * 256 ^ k := Nat.mul_le_mul_right _ (by omega)
    omega
theorem getTo_put (n : Nat) : ∀ k, k ≤ 8 → getTo (putS n) k = n % 256 ^ k
  | 0, _ => by simp [getTo, Nat.mod_one]
  | k + 1, h => by
    rw [getTo, getTo_put n k (by omega), putS_get n k (by omega), UInt8.toNat_ofNat', show (2 : Nat) ^ 8 = 256 from rfl]
    have e : n % 256 ^ (k + 1) = n % 256 ^ k + 256 ^ k * (n / 256 ^ k % 256) := by rw [Nat.pow_succ, Nat.mod_mul]
    rw [e, Nat.mul_comm]
end Go.Proofs.YtdjjiblijbjobaaDoor
/- Plain: the keys that hang on the keys of epochs. -/
namespace Go.Proofs.YtdjjiblijbjobaaDoor
open Go.RowKit

def namesT : List UInt8 := [110, 97, 109, 101, 115]
def boxesT : List UInt8 := [98, 111, 120, 101, 115]
/-- the key of names. -/
def idS (K : List (List UInt8)) : List UInt8 := if K = [] then List.replicate 32 0 else keyedS (K.getD 0 []) namesT
theorem idS_len (K : List (List UInt8)) : (idS K).length = 32 := by
  unfold idS
  split
  · exact List.length_replicate
  · exact keyedS_len _ _
/-- the key of an epoch's boxes. -/
def bkeyS (K : List (List UInt8)) (n : Nat) : List UInt8 := keyedS (K.getD n []) boxesT
theorem bkeyS_len (K : List (List UInt8)) (n : Nat) : (bkeyS K n).length = 32 := keyedS_len _ _
/-- the key of an epoch's boxes, or none. -/
def boxK (K : List (List UInt8)) (n : Int) : List UInt8 × Int := if n < 0 ∨ (K.length : Int) ≤ n then (List.replicate 32 0, 1) else (bkeyS K n.toNat, 0)
theorem boxK_len (K : List (List UInt8)) (n : Int) : (boxK K n).1.length = 32 := by
  unfold boxK
  by_cases h : n < 0 ∨ (K.length : Int) ≤ n
  · rw [if_pos h]; dsimp only; rw [List.length_replicate]
  · rw [if_neg h]; dsimp only; rw [bkeyS_len]
end Go.Proofs.YtdjjiblijbjobaaDoor
/- Plain: keys by epochs, and sealed chunks: their names, boxes, what they have. -/
namespace Go.Proofs.YtdjjiblijbjobaaDoor
open Go.RowKit

def digC (K : List (List UInt8)) (d : List UInt8) : List UInt8 := keyedS (idS K) d
theorem digC_len (K : List (List UInt8)) (d : List UInt8) : (digC K d).length = 32 := keyedS_len _ _
def nameC (K : List (List UInt8)) (d : List UInt8) : List UInt8 := hexS (digC K d)
theorem nameC_len (K : List (List UInt8)) (d : List UInt8) : (nameC K d).length = 64 := by unfold nameC; rw [hexS_len, digC_len]
/-- the lowest two bytes of a number; the number of two bytes. -/
def put2 (n : Nat) : List UInt8 := (putS n).take 2
theorem put2_len (n : Nat) : (put2 n).length = 2 := by unfold put2; rw [List.length_take, putS_len]; rfl
def get2 (x : List UInt8) : Nat := getS (x.take 2)
theorem getTo_front (s r : List UInt8) : ∀ k, k ≤ s.length → getTo (s ++ r) k = getTo s k
  | 0, _ => rfl
  | k + 1, h => by
    rw [getTo, getTo, getTo_front s r k (by omega), List.getD_eq_getElem?_getD, List.getD_eq_getElem?_getD, List.getElem?_append_left (by omega)]
theorem get2_put (n : Nat) (r : List UInt8) (h : n < 65536) : get2 (put2 n ++ r) = n := by
  have hl := put2_len n
  have e : (put2 n ++ r).take 2 = put2 n := by rw [List.take_append_of_le_length (by omega), List.take_of_length_le (by omega)]
  have h2 : getTo (putS n) 2 = n % 256 ^ 2 := getTo_put n 2 (by omega)
  have h3 : getTo (put2 n ++ (putS n).drop 2) 2 = getTo (put2 n) 2 := getTo_front _ _ 2 (by omega)
  unfold put2 at h3 hl
  rw [List.take_append_drop] at h3
  unfold get2 getS
  rw [e, show put2 n = (putS n).take 2 from rfl, hl, show min 2 8 = 2 from rfl, ← h3, h2]
  exact Nat.mod_eq_of_lt (by omega)
theorem get2_lt (x : List UInt8) : get2 x < 65536 := by
  have h := getTo_lt (x.take 2) (min (x.take 2).length 8)
  have h2 : (x.take 2).length ≤ 2 := by rw [List.length_take]; omega
  have h3 : (256 : Nat) ^ min (x.take 2).length 8 ≤ 256 ^ 2 := Nat.pow_le_pow_right (by decide) (by omega)
  unfold get2 getS
  omega
/-- a chunk's box without its epoch. -/
def sealB (K : List (List UInt8)) (d : List UInt8) : List UInt8 := sealS (bkeyS K (K.length - 1)) (nonceS (digC K d)) (nameC K d) (packS d)
theorem sealB_len (K : List (List UInt8)) (d : List UInt8) : (sealB K d).length = (packS d).length + 44 := sealS_len _ _ _ _ (nonceS_len _)
def dataC (K : List (List UInt8)) (d : List UInt8) : List UInt8 := put2 (K.length - 1) ++ sealB K d
theorem dataC_len (K : List (List UInt8)) (d : List UInt8) : (dataC K d).length = (packS d).length + 46 := by unfold dataC; rw [List.length_append, put2_len, sealB_len]; omega
theorem dataC_get (K : List (List UInt8)) (d : List UInt8) (h : K.length ≤ 65536) : get2 (dataC K d) = K.length - 1 := get2_put _ _ (by omega)
theorem dataC_drop (K : List (List UInt8)) (d : List UInt8) : (dataC K d).drop 2 = sealB K d := by
  unfold dataC
  rw [List.drop_append_of_le_length (by rw [put2_len]; exact Nat.le_refl _), List.drop_of_length_le (by rw [put2_len]; exact Nat.le_refl _), List.nil_append]
/-- a sealed chunk: its name, its data, the error. -/
def sealC (K : List (List UInt8)) (d : List UInt8) : List UInt8 × List UInt8 × Int :=
  if 65536 < d.length then ([], [], 6) else if K = [] then ([], [], 1) else (nameC K d, dataC K d, 0)
/-- of which epoch a box is. -/
def epochC (x : List UInt8) : Nat × Int := if x.length < 2 then (0, 4) else (get2 x, 0)
/-- what a sealed chunk has. -/
def openC (K : List (List UInt8)) (nm x : List UInt8) : List UInt8 × Int :=
  if x.length < 2 then ([], 4) else if K.length ≤ get2 x then ([], 1) else
  if (openS (bkeyS K (get2 x)) nm (x.drop 2)).2 ≠ 0 then ([], (openS (bkeyS K (get2 x)) nm (x.drop 2)).2) else
  if (unpS (openS (bkeyS K (get2 x)) nm (x.drop 2)).1 65536).2 ≠ 0 then ([], (unpS (openS (bkeyS K (get2 x)) nm (x.drop 2)).1 65536).2) else
  if nameC K (unpS (openS (bkeyS K (get2 x)) nm (x.drop 2)).1 65536).1 ≠ nm then ([], 5) else
  ((unpS (openS (bkeyS K (get2 x)) nm (x.drop 2)).1 65536).1, 0)
theorem unp_packS (d : List UInt8) (h : d.length ≤ 65536) : unpS (packS d) 65536 = (d, 0) := by
  unfold unpS
  rw [if_neg (by omega)]
  exact unp_pack d _ (by omega)
/-- the keys that others stand behind open what they sealed. -/
theorem openC_more (K M : List (List UInt8)) (d : List UInt8) (hK : K ≠ []) (hl : K.length ≤ 65536) (hd : d.length ≤ 65536) : openC (K ++ M) (nameC K d) (dataC K d) = (d, 0) := by
  have hpos : 0 < K.length := List.length_pos_iff.2 hK
  have hb : bkeyS (K ++ M) (K.length - 1) = bkeyS K (K.length - 1) := by
    unfold bkeyS
    rw [List.getD_eq_getElem?_getD, List.getD_eq_getElem?_getD, List.getElem?_append_left (by omega)]
  have hi : idS (K ++ M) = idS K := by
    unfold idS
    rw [if_neg hK, if_neg (by simp [hK]), List.getD_eq_getElem?_getD, List.getD_eq_getElem?_getD, List.getElem?_append_left (by omega)]
  have hn : ∀ x, nameC (K ++ M) x = nameC K x := by
    intro x
    unfold nameC digC
    rw [hi]
  have ho : openS (bkeyS K (K.length - 1)) (nameC K d) (sealB K d) = (packS d, 0) := openS_seal _ _ _ _ (nonceS_len _)
  unfold openC
  rw [dataC_get K d hl, dataC_drop, hb, ho]
  simp only
  rw [unp_packS d hd]
  simp only
  rw [hn, if_neg (by rw [dataC_len]; omega), if_neg (by rw [List.length_append]; omega), if_neg (by simp), if_neg (by simp), if_neg (by simp)]
theorem openC_seal (K : List (List UInt8)) (d : List UInt8) (hK : K ≠ []) (hl : K.length ≤ 65536) (hd : d.length ≤ 65536) : openC K (nameC K d) (dataC K d) = (d, 0) := by
  have h := openC_more K [] d hK hl hd
  rwa [List.append_nil] at h
end Go.Proofs.YtdjjiblijbjobaaDoor
/- Plain: how long is what is opened, and what is unpacked. -/
namespace Go.Proofs.YtdjjiblijbjobaaDoor
open Go.RowKit

theorem openS_le (k h x : List UInt8) : (openS k h x).1.length ≤ x.length := by
  unfold openS
  split
  · simp
  · split
    · dsimp only
      rw [xorS_len, List.length_drop, List.length_take]
      omega
    · simp
theorem tokS_le (out b : List UInt8) (most : Int) (h : (tokS out b most).1 = 0) : ((tokS out b most).2.1.length : Int) ≤ most := by
  unfold tokS at h ⊢
  by_cases h1 : (b.getD 0 0).toNat < 128
  · rw [if_pos h1] at h ⊢
    by_cases h2 : b.length < (b.getD 0 0).toNat + 2
    · rw [if_pos h2] at h; cases h
    · rw [if_neg h2] at h ⊢
      by_cases h3 : most < out.length + (b.getD 0 0).toNat + 1
      · rw [if_pos h3] at h; cases h
      · rw [if_neg h3]
        dsimp only
        rw [List.length_append, List.length_take]
        omega
  · rw [if_neg h1] at h ⊢
    by_cases h2 : b.length < 3
    · rw [if_pos h2] at h; cases h
    · rw [if_neg h2] at h ⊢
      by_cases h3 : (b.getD 1 0).toNat + 256 * (b.getD 2 0).toNat = 0 ∨ out.length < (b.getD 1 0).toNat + 256 * (b.getD 2 0).toNat
      · rw [if_pos h3] at h; cases h
      · rw [if_neg h3] at h ⊢
        by_cases h4 : most < out.length + ((b.getD 0 0).toNat - 124 : Nat)
        · rw [if_pos h4] at h; cases h
        · rw [if_neg h4]
          dsimp only
          rw [copyS_len]
          omega
theorem unpF_le : ∀ (f : Nat) (out b : List UInt8) (most : Int), (out.length : Int) ≤ most → ((unpF f out b most).1.length : Int) ≤ most
  | 0, _, _, _, h => h
  | f + 1, out, b, most, h => by
    rw [unpF]
    by_cases h1 : b = []
    · rw [if_pos h1]; exact h
    · rw [if_neg h1]
      by_cases h2 : (tokS out b most).1 = 0
      · rw [if_neg (by simp [h2])]
        exact unpF_le f _ _ most (tokS_le _ _ _ h2)
      · rw [if_pos h2]
        dsimp only
        rw [List.length_nil]
        omega
theorem unpS_le (b : List UInt8) (most : Int) (h : 0 ≤ most) : ((unpS b most).1.length : Int) ≤ most := by
  unfold unpS
  rw [if_neg (by omega)]
  have e : max most 0 = most := by omega
  rw [e]
  exact unpF_le _ _ _ _ (by rw [List.length_nil]; omega)
theorem epochC_two (x : List UInt8) : (epochC x).2 = 0 → 2 ≤ x.length := by
  unfold epochC
  by_cases h : x.length < 2
  · rw [if_pos h]; intro h2; cases h2
  · intro _; omega
theorem epochC_lt (x : List UInt8) : (epochC x).1 < 65536 := by
  unfold epochC
  by_cases h : x.length < 2
  · rw [if_pos h]; dsimp only; omega
  · rw [if_neg h]; exact get2_lt x
/-- what a sealed chunk has, by the steps. -/
theorem openC_eq (K : List (List UInt8)) (nm x : List UInt8) : openC K nm x =
    if (epochC x).2 ≠ 0 then ([], (epochC x).2) else if (boxK K ((epochC x).1 : Int)).2 ≠ 0 then ([], (boxK K ((epochC x).1 : Int)).2) else
    if (openS (boxK K ((epochC x).1 : Int)).1 nm (x.drop 2)).2 ≠ 0 then ([], (openS (boxK K ((epochC x).1 : Int)).1 nm (x.drop 2)).2) else
    if (unpS (openS (boxK K ((epochC x).1 : Int)).1 nm (x.drop 2)).1 65536).2 ≠ 0 then ([], (unpS (openS (boxK K ((epochC x).1 : Int)).1 nm (x.drop 2)).1 65536).2) else
    if nameC K (unpS (openS (boxK K ((epochC x).1 : Int)).1 nm (x.drop 2)).1 65536).1 ≠ nm then ([], 5) else
    ((unpS (openS (boxK K ((epochC x).1 : Int)).1 nm (x.drop 2)).1 65536).1, 0) := by
  unfold openC epochC
  by_cases h : x.length < 2
  · rw [if_pos h, if_pos h, if_pos (by decide)]
  · rw [if_neg h, if_neg h]
    dsimp only
    rw [if_neg (show ¬ ((0 : Int) ≠ 0) by decide)]
    by_cases h2 : K.length ≤ get2 x
    · have hb : boxK K (get2 x : Int) = (List.replicate 32 0, 1) := by unfold boxK; rw [if_pos (Or.inr (by omega))]
      rw [if_pos h2, hb]
      dsimp only
      rw [if_pos (show (1 : Int) ≠ 0 by decide)]
    · have hb : boxK K (get2 x : Int) = (bkeyS K (get2 x), 0) := by unfold boxK; rw [if_neg (by omega), Int.toNat_natCast]
      rw [if_neg h2, hb]
      dsimp only
      rw [if_neg (show ¬ ((0 : Int) ≠ 0) by decide)]
end Go.Proofs.YtdjjiblijbjobaaDoor
