/- Plain: two boxes under one key and one nonce differ, behind the nonce, as their texts do. -/
import Derived.Test.YtilbebjjmnncdaaDoorSealS
namespace Go.Proofs.YtilbebjjmnncdaaDoor
open Go.RowKit

theorem bt_app_l (a b : List UInt8) (i : Nat) (h : i < a.length) : bt (a ++ b) i = bt a i := by
  simp [bt, List.getElem?_append_left h]
theorem bt_app_r (a b : List UInt8) (i : Nat) : bt (a ++ b) (a.length + i) = bt b i := by
  simp [bt, List.getElem?_append_right (Nat.le_add_right a.length i)]
theorem sealS_byte (k nonce h d : List UInt8) (hn : nonce.length = 12) (i : Nat) (hi : i < d.length) : bt (sealS k nonce h d) (12 + i) = bt d i ^^^ sx (keyedS k cipherT) nonce 1 i := by
  unfold sealS
  rw [bt_app_l _ _ _ (by rw [aheadS_len k nonce d hn]; omega)]
  unfold aheadS
  rw [← hn, bt_app_r, xorS_at _ _ _ _ _ hi]
theorem sealS_pair (k nonce h h' d e : List UInt8) (hn : nonce.length = 12) (i : Nat) (hi : i < d.length) (hj : i < e.length) : bt (sealS k nonce h d) (12 + i) ^^^ bt (sealS k nonce h' e) (12 + i) = bt d i ^^^ bt e i := by
  rw [sealS_byte k nonce h d hn i hi, sealS_byte k nonce h' e hn i hj]
  generalize sx (keyedS k cipherT) nonce 1 i = z
  rw [UInt8.xor_assoc, UInt8.xor_comm (bt e i), ← UInt8.xor_assoc z, UInt8.xor_self, UInt8.zero_xor]
end Go.Proofs.YtilbebjjmnncdaaDoor
