/- Texts as the walk spells them: bytes, sums, cuts; no program in sight. -/
import Derived.Test.YtilbebjjmnncdaaDoorPlain
import Derived.Lib.TrimByte
namespace Go.Proofs.YtilbebjjmnncdaaDoor
open Go.RowKit

/-- a text's bytes as the walk reads them. -/
theorem str_byte (l : List UInt8) (i : Nat) (h : i < (⟨l.toArray⟩ : ByteArray).size) : (⟨l.toArray⟩ : ByteArray)[i]'h = bt l i := by
  have hl : i < l.length := h
  show l.toArray[i] = bt l i
  simp [bt, hl]
theorem str_app (a b : List UInt8) : ((⟨a.toArray⟩ : ByteArray) ++ (⟨b.toArray⟩ : ByteArray)) = ⟨(a ++ b).toArray⟩ := by
  apply ByteArray.ext
  simp
theorem str_size (a : List UInt8) : (⟨a.toArray⟩ : ByteArray).size = a.length := by show a.toArray.size = _; simp
theorem str_drop (s : List UInt8) (a : Nat) : (⟨s.toArray⟩ : ByteArray).extract a s.length = ⟨(s.drop a).toArray⟩ := by
  rw [Lib.extract_mk, List.take_of_length_le (by rw [List.length_drop]; omega)]
theorem str_mid (s : List UInt8) (a b : Nat) : (⟨s.toArray⟩ : ByteArray).extract a b = ⟨((s.drop a).take (b - a)).toArray⟩ := by
  rw [Lib.extract_mk]
end Go.Proofs.YtilbebjjmnncdaaDoor
