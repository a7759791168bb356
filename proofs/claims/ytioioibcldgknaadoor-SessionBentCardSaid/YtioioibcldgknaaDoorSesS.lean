/- Plain: numbers as eight bytes, the lowest one first. -/
import Derived.ProofKit
namespace Go.Proofs.YtioioibcldgknaaDoor

def putS (n : Nat) : List UInt8 := (List.range 8).map fun i => UInt8.ofNat (n / 256 ^ i)
def getTo (s : List UInt8) : Nat → Nat
  | 0 => 0
  | k + 1 => getTo s k + (s.getD k 0).toNat * 256 ^ k
def getS (s : List UInt8) : Nat := getTo s (min s.length 8)
theorem putS_len (n : Nat) : (putS n).length = 8 := by simp [putS]
theorem putS_get (n i : Nat) (h : i < 8) : (putS n).getD i 0 = UInt8.ofNat (n / 256 ^ i) := by
  unfold putS
  rw [List.getD_eq_getElem?_getD, List.getElem?_map, List.getElem?_range h]
  rfl
theorem getTo_lt (s : List UInt8) : ∀ k, getTo s k < 256 ^ k
  | 0 => by simp [getTo]
  | k + 1 => by
    have ih := getTo_lt s k
    have hb := (s.getD k 0).toNat_lt
    rw [getTo, Nat.pow_succ]
    have : (s.getD k 0).toNat * 256 ^ k ≤ 255 * 256 ^ k := Nat.mul_le_mul_right _ (by omega)
    omega
theorem getTo_put (n : Nat) : ∀ k, k ≤ 8 → getTo (putS n) k = n % 256 ^ k
  | 0, _ => by simp [getTo, Nat.mod_one]
  | k + 1, h => by
    rw [getTo, getTo_put n k (by omega), putS_get n k (by omega), UInt8.toNat_ofNat', show (2 : Nat) ^ 8 = 256 from rfl]
    have e : n % 256 ^ (k + 1) = n % 256 ^ k + 256 ^ k * (n / 256 ^ k % 256) := by rw [Nat.pow_succ, Nat.mod_mul]
    rw [e, Nat.mul_comm]
theorem get_put (n : Nat) (h : n < 2 ^ 64) : getS (putS n) = n := by
  unfold getS
  rw [putS_len, show min 8 8 = 8 from rfl, getTo_put n 8 (by omega), Nat.mod_eq_of_lt (by have : (256 : Nat) ^ 8 = 2 ^ 64 := by decide
                                                                                          omega)]
theorem getS_lt (s : List UInt8) : getS s < 2 ^ 64 := by
  have h := getTo_lt s (min s.length 8)
  have h2 : (256 : Nat) ^ min s.length 8 ≤ 256 ^ 8 := Nat.pow_le_pow_right (by decide) (by omega)
  have h3 : (256 : Nat) ^ 8 = 2 ^ 64 := by decide
  unfold getS
  omega
end Go.Proofs.YtioioibcldgknaaDoor
