/- Plain mathematics of rows of texts (layer 1) and of boxes (layer 4); no program in sight. -/
import Derived.Test.YtilbebjjmnncdaaDoorBlake
import Derived.Test.YtilbebjjmnncdaaDoorStreamLaws
namespace Go.Proofs.YtilbebjjmnncdaaDoor
open Go.RowKit

/-- a number as a length in bytes. -/
def lenB (n : Nat) : List UInt8 := if _h : n < 128 then [UInt8.ofNat n] else UInt8.ofNat (n % 128 + 128) :: lenB (n / 128)
  termination_by n
  decreasing_by omega
theorem lenB_lt (n : Nat) (h : n < 128) : lenB n = [UInt8.ofNat n] := by rw [lenB, dif_pos h]
theorem lenB_ge (n : Nat) (h : ¬ n < 128) : lenB n = UInt8.ofNat (n % 128 + 128) :: lenB (n / 128) := by rw [lenB, dif_neg h]
theorem lenB_len (n : Nat) : (lenB n).length ≤ n + 1 := by
  induction n using Nat.strongRecOn with
  | _ n ih =>
    by_cases h : n < 128
    · rw [lenB_lt n h]; simp
    · rw [lenB_ge n h, List.length_cons]
      have := ih (n / 128) (by omega)
      omega
/-- a row of texts as bytes. -/
def rowS (l : List (List UInt8)) : List UInt8 := l.flatMap fun s => lenB s.length ++ s
theorem rowS_len (l : List (List UInt8)) : (rowS l).length ≤ 2 * l.flatten.length + l.length := by
  unfold rowS
  induction l with
  | nil => simp
  | cons s l ih =>
    rw [List.flatMap_cons, List.length_append, List.length_append, List.flatten_cons, List.length_append, List.length_cons]
    have := lenB_len s.length
    omega
theorem rowS_snoc (l : List (List UInt8)) (i : Nat) (h : i < l.length) : rowS (l.take (i + 1)) = rowS (l.take i) ++ (lenB (l.getD i []).length ++ l.getD i []) := by
  unfold rowS
  rw [List.take_succ_eq_append_getElem h, List.flatMap_append]
  simp [h]
def cipherT : List UInt8 := [99, 105, 112, 104, 101, 114]
def tagT : List UInt8 := [116, 97, 103]
/-- a tag. -/
def tagS (k head ahead : List UInt8) : List UInt8 := keyedS (keyedS k tagT) (rowS [head, ahead])
theorem tagS_len (k head ahead : List UInt8) : (tagS k head ahead).length = 32 := keyedS_len _ _
/-- what stands ahead of a box's tag. -/
def aheadS (k nonce data : List UInt8) : List UInt8 := nonce ++ xorS (keyedS k cipherT) nonce 1 data
theorem aheadS_len (k nonce data : List UInt8) (hn : nonce.length = 12) : (aheadS k nonce data).length = data.length + 12 := by unfold aheadS; rw [List.length_append, xorS_len, hn]; omega
/-- a box. -/
def sealS (k nonce head data : List UInt8) : List UInt8 := aheadS k nonce data ++ tagS k head (aheadS k nonce data)
theorem sealS_len (k nonce head data : List UInt8) (hn : nonce.length = 12) : (sealS k nonce head data).length = data.length + 44 := by unfold sealS; rw [List.length_append, aheadS_len k nonce data hn, tagS_len]
/-- the first twelve bytes. -/
def nonceS (s : List UInt8) : List UInt8 := s.take 12 ++ List.replicate (12 - s.length) 0
theorem nonceS_len (s : List UInt8) : (nonceS s).length = 12 := by unfold nonceS; rw [List.length_append, List.length_take, List.length_replicate]; omega
end Go.Proofs.YtilbebjjmnncdaaDoor
