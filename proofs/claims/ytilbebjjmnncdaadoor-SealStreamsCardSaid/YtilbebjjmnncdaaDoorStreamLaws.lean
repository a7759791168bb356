/- Plain laws of the stream: turned twice; in parts; two texts; zeros. -/
import Derived.Test.YtilbebjjmnncdaaDoorStream
namespace Go.Proofs.YtilbebjjmnncdaaDoor
open Go.RowKit

theorem xorS_back (k nonce : List UInt8) (n : Wd) (data : List UInt8) : xorS k nonce n (xorS k nonce n data) = data := by
  apply ext_bt
  · rw [xorS_len, xorS_len]
  · intro i hi
    rw [xorS_len, xorS_len] at hi
    rw [xorS_at _ _ _ _ _ (by rw [xorS_len]; exact hi), xorS_at _ _ _ _ _ hi, UInt8.xor_assoc, UInt8.xor_self, UInt8.xor_zero]
theorem bt_append (a b : List UInt8) (i : Nat) : bt (a ++ b) i = if i < a.length then bt a i else bt b (i - a.length) := by
  unfold bt
  simp only [List.getD_eq_getElem?_getD, List.getElem?_append]
  split <;> rfl
theorem bt_drop (a : List UInt8) (m i : Nat) : bt (a.drop m) i = bt a (m + i) := by
  unfold bt
  simp only [List.getD_eq_getElem?_getD, List.getElem?_drop]
theorem bt_take' (a : List UInt8) (m i : Nat) (h : i < m) : bt (a.take m) i = bt a i := by
  unfold bt
  simp only [List.getD_eq_getElem?_getD, List.getElem?_take_of_lt h]
theorem sx_add (k nonce : List UInt8) (n : Wd) (b i : Nat) : sx k nonce (n + BitVec.ofNat 32 b) i = sx k nonce n (64 * b + i) := by
  unfold sx
  have e1 : (64 * b + i) / 64 = b + i / 64 := by omega
  have e2 : (64 * b + i) % 64 = i % 64 := by omega
  rw [e1, e2]
  have e3 : n + BitVec.ofNat 32 b + BitVec.ofNat 32 (i / 64) = n + BitVec.ofNat 32 (b + i / 64) := by
    rw [BitVec.add_assoc]; congr 1
    apply BitVec.eq_of_toNat_eq
    rw [BitVec.toNat_add, BitVec.toNat_ofNat, BitVec.toNat_ofNat, BitVec.toNat_ofNat]; omega
  rw [e3]
theorem xorS_parts (k nonce : List UInt8) (n : Wd) (data : List UInt8) (b : Nat) (hb : 64 * b ≤ data.length) :
    xorS k nonce n data = xorS k nonce n (data.take (64 * b)) ++ xorS k nonce (n + BitVec.ofNat 32 b) (data.drop (64 * b)) := by
  apply ext_bt
  · rw [List.length_append, xorS_len, xorS_len, xorS_len, List.length_take, List.length_drop]; omega
  · intro i hi
    rw [xorS_len] at hi
    rw [xorS_at _ _ _ _ _ hi, bt_append, xorS_len, List.length_take, Nat.min_eq_left hb]
    by_cases h : i < 64 * b
    · rw [if_pos h, xorS_at _ _ _ _ _ (by rw [List.length_take]; omega), bt_take' _ _ _ h]
    · rw [if_neg h, xorS_at _ _ _ _ _ (by rw [List.length_drop]; omega), bt_drop, sx_add, show 64 * b + (i - 64 * b) = i by omega]
theorem xorS_alike (k nonce : List UInt8) (n : Wd) (a b : List UInt8) (i : Nat) (ha : i < a.length) (hb : i < b.length) :
    bt (xorS k nonce n a) i ^^^ bt (xorS k nonce n b) i = bt a i ^^^ bt b i := by
  rw [xorS_at _ _ _ _ _ ha, xorS_at _ _ _ _ _ hb]
  generalize sx k nonce n i = s
  rw [UInt8.xor_comm (bt b i) s, UInt8.xor_assoc, ← UInt8.xor_assoc s s, UInt8.xor_self, UInt8.zero_xor]
theorem xorS_zeros (k nonce : List UInt8) (n : Wd) (m i : Nat) (hi : i < m) :
    ((xorS k nonce n (List.replicate (64 * m) 0)).drop (64 * i)).take 64 = chacha k nonce (n + BitVec.ofNat 32 i) := by
  apply ext_bt
  · rw [List.length_take, List.length_drop, xorS_len, List.length_replicate, chacha_len]; omega
  · intro j hj
    rw [List.length_take, List.length_drop, xorS_len, List.length_replicate] at hj
    have hj' : j < 64 := by omega
    have hz : bt (List.replicate (64 * m) (0 : UInt8)) (64 * i + j) = 0 := by
      unfold bt; rw [List.getD_eq_getElem?_getD, List.getElem?_replicate]; split <;> rfl
    rw [bt_take' _ _ _ hj', bt_drop, xorS_at _ _ _ _ _ (by rw [List.length_replicate]; omega), hz, UInt8.zero_xor, ← sx_add]
    unfold sx
    rw [show j / 64 = 0 by omega, show j % 64 = j by omega]
    congr 2
    simp
end Go.Proofs.YtilbebjjmnncdaaDoor
