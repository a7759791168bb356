/- Small facts that the rows of the Cipher laws share. -/
import Derived.Test.YthimejahpgihkaaCase
namespace Go.Proofs.Ythimejahpgihkaa
open Go.ChangeShapes Go.WideShapes Go.ChangeAt Go.RowKit

theorem own_knob : ownKnob Try.prog.godebug = none := by kernel_rfl
theorem laid_out : laidOutB Try.prog = true := by kernel_rfl
theorem list_of (s : ByteArray) (h : s.size ≤ maxLen) : ∃ l : List UInt8, s = ⟨l.toArray⟩ ∧ l.length ≤ maxLen := by
  refine ⟨s.data.toList, ?_, ?_⟩
  · cases s; simp
  · have e : s.data.toList.length = s.size := by rw [Array.length_toList]; rfl
    omega
theorem byte_of (z : Int) (h : (Lit.int .u8 z).wf = true) : ∃ b : UInt8, z = (b.toNat : Int) := by
  have hb := bounds_u8 h
  refine ⟨UInt8.ofNat z.toNat, ?_⟩
  rw [UInt8.toNat_ofNat']; omega
end Go.Proofs.Ythimejahpgihkaa
