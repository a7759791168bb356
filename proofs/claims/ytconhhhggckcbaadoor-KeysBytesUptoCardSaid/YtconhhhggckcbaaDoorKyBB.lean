/- Laws and walks that many claims share: EqV, Dig0, KyB. -/
import Derived.Stop.BytesEq
import Derived.Test.YtconhhhggckcbaaDoorOpsB
import Derived.Test.YtconhhhggckcbaaDoorRef04B
import Derived.Test.YtconhhhggckcbaaDoorKyP
/- Equality of keys and of structs; hash.Keyed of one text; a guard on an operation that was skipped. -/
namespace Go.Proofs.YtconhhhggckcbaaDoor
open Go.RowKit
variable {D : List Deferred}

theorem list32 {k : List UInt8} (h : k.length = 32) : ∃ a0 a1 a2 a3 a4 a5 a6 a7 a8 a9 b0 b1 b2 b3 b4 b5 b6 b7 b8 b9 c0 c1 c2 c3 c4 c5 c6 c7 c8 c9 d0 d1, k = [a0, a1, a2, a3, a4, a5, a6, a7, a8, a9, b0, b1, b2, b3, b4, b5, b6, b7, b8, b9, c0, c1, c2, c3, c4, c5, c6, c7, c8, c9, d0, d1] := by
  match k, h with
  | [a0, a1, a2, a3, a4, a5, a6, a7, a8, a9, b0, b1, b2, b3, b4, b5, b6, b7, b8, b9, c0, c1, c2, c3, c4, c5, c6, c7, c8, c9, d0, d1], _ => exact ⟨a0, a1, a2, a3, a4, a5, a6, a7, a8, a9, b0, b1, b2, b3, b4, b5, b6, b7, b8, b9, c0, c1, c2, c3, c4, c5, c6, c7, c8, c9, d0, d1, rfl⟩
theorem part_one {P : Program} {w : World} {t : TypeId} {A : Array Value} {i : Nat} {v : Value} (h : A[i]? = some v) (ha : (isAgg t).run P w = .ok false w) : (part t A i).run P w = .ok v w := by simp [part, h, ha]
theorem part_agg {P : Program} {w : World} {t : TypeId} {A B : Array Value} {i m : Nat} (h : A.extract i (i + m) = B) (ha : (isAgg t).run P w = .ok true w) (hz : (sizeOf t).run P w = .ok m w) : (part t A i).run P w = .ok (.agg B) w := by simp [part, h, ha, hz]
section
variable {a : Act} {o : Oper} {w w0 : World} {n s : Nat} {L : List (Nat × Value)} {v : Value} {x y z : Operand} {g : Nat} {t2 : TypeId}
end
theorem keyed1 (k x : List UInt8) (v : Value) (w : World) (hk : k.length = 32) (hG : Glob w) (hs : Strs w v [x]) (hx : x.length < 2 ^ 45) :
    Calls Tryd.prog 57 #[.agg (cells8 k), v] w fun e w' => e = .returned (.agg (cells8 (keyedS k x))) ∧ Below w.heap.size w w' := by
  have h := keyed_any k [x] v w hk hG hs (by simp; omega) (by simp)
  rwa [show [x].flatten = x by simp] at h
end Go.Proofs.YtconhhhggckcbaaDoor
/- Rows of digests: their cells, whole elements, equality. -/
namespace Go.Proofs.YtconhhhggckcbaaDoor
open Go.RowKit

def dgC (d : List UInt8) : List Value := (List.range 32).map fun i => cb (bt d i)
theorem dgC_len (d : List UInt8) : (dgC d).length = 32 := by simp [dgC]
theorem dgC_of {d : List UInt8} (h : d.length = 32) : dgC d = d.map cb := by
  apply List.ext_getElem?
  intro i
  unfold dgC
  rw [List.getElem?_map, List.getElem?_map]
  by_cases hi : i < 32
  · rw [List.getElem?_range hi, List.getElem?_eq_getElem (by omega)]
    simp [bt, h, hi]
  · rw [List.getElem?_eq_none (by simp; omega), List.getElem?_eq_none (by omega)]
    rfl
theorem dgC_one (d : List UInt8) : ∀ u ∈ dgC d, u.oneCell' = true := by
  intro u hu
  unfold dgC at hu
  obtain ⟨i, _, rfl⟩ := List.mem_map.1 hu
  rfl
theorem eqDg (C E : List UInt8) (hC : C.length = 32) (hE : E.length = 32) (w : World) : (Op.equalIn 10000 73 (.agg (cells8 C)) (.agg (cells8 E))).run Tryd.prog w = .ok (C == E) w :=
  run_equalIn_bytes (P := Tryd.prog) w 9998 73 5 32 Tryd.underlying73 Tryd.underlying5 so8 C E hC hE
/-- have unlike texts unlike sums? -/
def unB (l S : List (List UInt8)) (i k : Nat) : Bool := !((S.getD i [] == S.getD k []) && !(l.getD i [] == l.getD k []))
def unS (l S : List (List UInt8)) (i : Nat) : Bool := (List.range i).all (unB l S i)
def unlikeS (l S : List (List UInt8)) : Bool := (List.range l.length).all (unS l S)
end Go.Proofs.YtconhhhggckcbaaDoor
/- The walks of keys.Id, keys.Box and of the reference's. Printed by gen_chk3.py. -/
namespace Go.Proofs.YtconhhhggckcbaaDoor
open Go.RowKit

theorem szKy : (Tryd.prog.info? 30).map (·.size) = some 1 := by kernel_rfl
theorem elKey : ElT Tryd.prog 28 23 32 32 := by
  refine ⟨Tryd.underlying28, ?_, by decide⟩
  obtain ⟨i, hi, hz⟩ : ∃ i, Tryd.prog.info? 23 = some i ∧ (i.zero.map (·.cells.size), i.size, i.bytes) = (some 32, 32, 32) := by
    have h : ((Tryd.prog.info? 23).map fun i => (i.zero.map (·.cells.size), i.size, i.bytes)) = some (some 32, 32, 32) := by kernel_rfl
    cases hi : Tryd.prog.info? 23 with
    | none => rw [hi] at h; cases h
    | some i => rw [hi] at h; exact ⟨i, rfl, Option.some.inj h⟩
  simp only [Prod.mk.injEq] at hz
  obtain ⟨h1, h2, h3⟩ := hz
  cases hzz : i.zero with
  | none => rw [hzz] at h1; cases h1
  | some z => rw [hzz] at h1; exact ⟨i, z, hi, hzz, h2, h3, Option.some.inj h1⟩
theorem ldKey {d : List UInt8} (h : d.length = 32) {r : Result Next} {w : World} (hr : r = .ok (.value (.agg (dgC d).toArray)) w) : r = .ok (.value (.agg (cells8 d))) w := by
  rw [hr, dgC_of h]; rfl
end Go.Proofs.YtconhhhggckcbaaDoor
