/- A box opens to what was boxed (plain). -/
import Derived.Test.YtconhhhggckcbaaDoorSealB
namespace Go.Proofs.YtconhhhggckcbaaDoor
open Go.RowKit

theorem nonceS_app (n x : List UInt8) (hn : n.length = 12) : nonceS (n ++ x) = n := by
  unfold nonceS
  rw [List.take_append_of_le_length (by omega), List.take_of_length_le (by omega), List.length_append, show 12 - (n.length + x.length) = 0 by omega]
  simp
theorem openS_seal (k nonce h d : List UInt8) (hn : nonce.length = 12) : openS k h (sealS k nonce h d) = (d, 0) := by
  have hL := sealS_len k nonce h d hn
  have hA := aheadS_len k nonce d hn
  unfold openS
  rw [if_neg (by omega), hL, show d.length + 44 - 32 = (aheadS k nonce d).length by omega]
  unfold sealS
  rw [List.take_left, List.drop_left, if_pos rfl]
  unfold aheadS
  rw [nonceS_app _ _ hn, show List.drop 12 (nonce ++ xorS (keyedS k cipherT) nonce 1 d) = xorS (keyedS k cipherT) nonce 1 d by rw [← hn, List.drop_left], xorS_back]
end Go.Proofs.YtconhhhggckcbaaDoor
