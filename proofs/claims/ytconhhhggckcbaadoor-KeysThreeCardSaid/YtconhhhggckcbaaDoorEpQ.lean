/- Laws and walks that many claims share: EpS, EpW. -/
import Derived.Test.YtconhhhggckcbaaDoorKyBB
/- An epoch of a ring, cell by cell. -/
namespace Go.Proofs.YtconhhhggckcbaaDoor
open Go.RowKit

structure Ep where
  c : List UInt8
  wr : List UInt8
def epL (e : Ep) : List Value := e.c.map cb ++ [.string ⟨e.wr.toArray⟩]
def epC (e : Ep) : Array Value := (epL e).toArray
theorem epC_size {e : Ep} (h : e.c.length = 32) : (epC e).size = 33 := by simp [epC, epL, h]
theorem epC_one (e : Ep) : ((epC e).all fun u => u.oneCell') = true := by
  have h := cells8_one e.c
  simp only [cells8, List.all_toArray] at h
  simp only [epC, epL, List.all_toArray, List.all_append, List.all_cons, List.all_nil, Bool.and_eq_true, Bool.and_true]
  exact ⟨h, rfl⟩
theorem szEp : (Tryd.prog.info? 76).map (·.size) = some 33 := by kernel_rfl
theorem built_ep (c wr : List UInt8) (h : c.length = 32) : Tryd.prog.built 76 [(0, .agg (cells8 c)), (1, .string ⟨wr.toArray⟩)] = some (epC ⟨c, wr⟩) := by
  obtain ⟨a0, a1, a2, a3, a4, a5, a6, a7, a8, a9, b0, b1, b2, b3, b4, b5, b6, b7, b8, b9, c0, c1, c2, c3, c4, c5, c6, c7, c8, c9, d0, d1, rfl⟩ := list32 h
  kernel_rfl
theorem built_ep1 (c : List UInt8) (h : c.length = 32) : Tryd.prog.built 76 [(0, .agg (cells8 c))] = some (epC ⟨c, []⟩) := by
  obtain ⟨a0, a1, a2, a3, a4, a5, a6, a7, a8, a9, b0, b1, b2, b3, b4, b5, b6, b7, b8, b9, c0, c1, c2, c3, c4, c5, c6, c7, c8, c9, d0, d1, rfl⟩ := list32 h
  kernel_rfl
end Go.Proofs.YtconhhhggckcbaaDoor
/- The Wrap of an epoch's block is stored into. -/
namespace Go.Proofs.YtconhhhggckcbaaDoor
open Go.RowKit
variable {D : List Deferred}
section
variable {a : Act} {o : Oper} {w w0 : World} {n s : Nat} {L : List (Nat × Value)} {v : Value} {ops : Array Oper} {rest : List Oper} {Q : Exit → Act → World → Prop} {M : List (Nat × (Obj → Prop))} {x y z : Operand} {g i : Nat}
theorem epC_wrap {c wr : List UInt8} (h : c.length = 32) : (epC ⟨c, wr⟩)[32]? = some (.string ⟨wr.toArray⟩) := by
  simp [epC, epL, h]
end
end Go.Proofs.YtconhhhggckcbaaDoor
