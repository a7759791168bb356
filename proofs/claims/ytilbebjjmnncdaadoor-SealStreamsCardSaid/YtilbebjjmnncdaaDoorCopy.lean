/- Laws: 'copy' of a text into bytes in memory; 'clear' of bytes. -/
import Derived.Test.YtilbebjjmnncdaaDoorPlain
import Derived.Laws.CopyOwn
namespace Go.Proofs.YtilbebjjmnncdaaDoor
open Go.RowKit

theorem run_copy_str {P : Program} (w : World) (dT sT ty elem : TypeId) (g o dLen dCap : Nat) (l : List UInt8) (cur : Array Value) (t : TypeId) (n : Nat)
    (hu : P.underlying dT = some (.slice elem)) (hs : (P.info? elem).map (·.size) = some 1) (hg : w.heap[g]? = some (.cells cur t (0, 0))) (hn : n = Nat.min l.length dLen) (hfit : o + n ≤ cur.size) :
    (Builtin.copy_ #[dT, sT] ty #[.slice (some ⟨g, o, none⟩) dLen dCap, .string ⟨l.toArray⟩]).run P w =
      .ok (.int .i64 (n : Int)) (w.setRow g (cur.toList.take o ++ (l.take n).map cb ++ cur.toList.drop (o + n)).toArray) := by
  have hln : ((l.take n).map cb).length = n := by rw [List.length_map, List.length_take, hn]; show min (min l.length dLen) l.length = min l.length dLen; omega
  have hst := run_storeCells_at P g o t ((l.take n).map cb) 0 cur w hg (by rw [hln]; simpa using hfit) (fun v hv => by
    simp only [List.mem_map] at hv
    obtain ⟨b, _, rfl⟩ := hv
    rfl)
  rw [hln] at hst
  simp only [Nat.add_zero] at hst
  have hmin : Nat.min l.length dLen = n := hn.symm
  have hsz : (⟨l.toArray⟩ : ByteArray).size = l.length := by show l.toArray.size = _; simp
  have htk : List.take n (List.map (fun b : UInt8 => Value.int IntKind.u8 (b.toNat : Int)) l) = (l.take n).map cb := by
    rw [← List.map_take]; rfl
  cases hq : P.info? elem with
  | none => simp [hq] at hs
  | some i =>
    simp [Builtin.copy_, run_underlying hu, Builtin.lenOf, Builtin.firstCells, sizeOf, typeInfo, hq, hsz, hmin]
    rw [htk, hst]
    simp [Result.andThen, goInt]

theorem wpList_copy_str {P : Program} {w : World} {ops : Array Oper} {rest : List Oper} {o : Oper} {a : Act} {Q : Exit → Act → World → Prop} (hgd : o.guard = none) (d s : Operand) (dT sT : TypeId)
    (ho : o.op = .call { callee := .builtin .copy, args := #[d, s], argTypes := #[dT, sT] }) (elem : TypeId) (hu : P.underlying dT = some (.slice elem)) (hsz : (P.info? elem).map (·.size) = some 1)
    (g off dLen dCap : Nat) (l : List UInt8) (hd : a.eval d = .slice (some ⟨g, off, none⟩) dLen dCap) (hs : a.eval s = .string ⟨l.toArray⟩)
    (cur : Array Value) (t : TypeId) (hg : Blk w g t cur) (n : Nat) (hn : n = Nat.min l.length dLen) (hfit : off + n ≤ cur.size)
    (h : wpList P ops Q rest (a.put o.dst (.int .i64 (n : Int))) (w.setRow g (cur.toList.take off ++ (l.take n).map cb ++ cur.toList.drop (off + n)).toArray)) : wpList P ops Q (o :: rest) a w := by
  refine wpList_plain hgd fun K hK => ?_
  have hrun := run_copy_str (P := P) w dT sT o.type elem g off dLen dCap l cur t n hu hsz hg hn hfit
  generalize (cur.toList.take off ++ (l.take n).map cb ++ cur.toList.drop (off + n)).toArray = R at hrun h
  unfold Oper.wp
  simp [execOp, ho, resolve, invoke, builtin, hd, hs, hrun, Result.andThen]
  exact hK _ _ h

theorem run_clear {P : Program} (w : World) (t1 ty elem : TypeId) (g o n c : Nat) (cur : Array Value) (t : TypeId)
    (hu : P.underlying t1 = some (.slice elem)) (hz : ∀ w, (zeroValue elem).run P w = .ok (.int .u8 0) w) (hg : w.heap[g]? = some (.cells cur t (0, 0))) (hfit : o + n ≤ cur.size) :
    (Builtin.clear_ #[t1] ty #[.slice (some ⟨g, o, none⟩) n c]).run P w =
      .ok (.tuple #[]) (w.setRow g (cur.toList.take o ++ (List.replicate n (0 : UInt8)).map cb ++ cur.toList.drop (o + n)).toArray) := by
  have hln : ((List.replicate n (0 : UInt8)).map cb).length = n := by simp
  have hst := run_storeCells_at P g o t ((List.replicate n (0 : UInt8)).map cb) 0 cur w hg (by rw [hln]; simpa using hfit) (fun v hv => by
    simp only [List.mem_map] at hv
    obtain ⟨b, _, rfl⟩ := hv
    rfl)
  rw [hln] at hst
  simp only [Nat.add_zero] at hst
  have hzc : (Builtin.zeroCells #[.int .u8 0] n).toList = (List.replicate n (0 : UInt8)).map cb := by
    apply List.ext_getElem?
    intro i
    simp [Builtin.zeroCells, cb]
    by_cases hi : i < n
    · simp [hi, Nat.mod_one]
    · simp [hi]
  by_cases hn : n = 0
  · subst hn
    simp [Builtin.clear_, run_underlying hu]
    rw [setRow_self w g cur t (0, 0) hg]
  · obtain ⟨k, rfl⟩ : ∃ k, n = k + 1 := ⟨n - 1, by omega⟩
    simp only [Builtin.clear_]
    simp [run_underlying hu, hz, Value.cells]
    rw [hzc, hst]
    simp [Result.andThen]
end Go.Proofs.YtilbebjjmnncdaaDoor
