/- Small facts that the plain rows (no table, no card) share. -/
import Derived.Test.YtpobmaklgnioeaaRows
import Derived.Test.YtpobmaklgnioeaaBaseB
import Derived.ProofKit
namespace Go.Proofs.Ytpobmaklgnioeaa
open Go.ChangeShapes Go.WideShapes Go.ChangeAt Go.RowKit

theorem own_knob : ownKnob Try.prog.godebug = none := by kernel_rfl
theorem laid_out : laidOutB Try.prog = true := by kernel_rfl
theorem list_of (s : ByteArray) (h : s.size ≤ maxLen) : ∃ l : List UInt8, s = ⟨l.toArray⟩ ∧ l.length ≤ maxLen := by
  refine ⟨s.data.toList, ?_, ?_⟩
  · cases s; simp
  · have e : s.data.toList.length = s.size := by rw [Array.length_toList]; rfl
    omega
theorem byte_of (z : Int) (h : (Lit.int .u8 z).wf = true) : ∃ b : UInt8, z = (b.toNat : Int) := by
  have hb := bounds_u8 h
  refine ⟨UInt8.ofNat z.toNat, ?_⟩
  rw [UInt8.toNat_ofNat']; omega
theorem half_of (z : Int) (h : (Lit.int .u16 z).wf = true) : ∃ b : Nat, z = (b : Int) ∧ b < 65536 := by
  have hb := bounds_u16 h
  exact ⟨z.toNat, by omega, by omega⟩
end Go.Proofs.Ytpobmaklgnioeaa
