/- Plain: chunks by keys that others stand behind. -/
import Derived.Test.YtdjjiblijbjobaaDoorChkPB
namespace Go.Proofs.YtdjjiblijbjobaaDoor
open Go.RowKit

theorem nameC_more (K M : List (List UInt8)) (d : List UInt8) (hK : K ≠ []) : nameC (K ++ M) d = nameC K d := by
  have hpos : 0 < K.length := List.length_pos_iff.2 hK
  have hi : idS (K ++ M) = idS K := by
    unfold idS
    rw [if_neg hK, if_neg (by simp [hK]), List.getD_eq_getElem?_getD, List.getD_eq_getElem?_getD, List.getElem?_append_left (by omega)]
  unfold nameC digC
  rw [hi]
theorem dataC_more (K M : List (List UInt8)) (d : List UInt8) (hK : K ≠ []) (hl : K.length + M.length ≤ 65536) (hM : M ≠ []) : dataC K d ≠ dataC (K ++ M) d := by
  intro h
  have hpos : 0 < K.length := List.length_pos_iff.2 hK
  have hpos2 : 0 < M.length := List.length_pos_iff.2 hM
  have h1 := dataC_get K d (by omega)
  have h2 := dataC_get (K ++ M) d (by rw [List.length_append]; omega)
  rw [← h, h1, List.length_append] at h2
  omega
end Go.Proofs.YtdjjiblijbjobaaDoor
