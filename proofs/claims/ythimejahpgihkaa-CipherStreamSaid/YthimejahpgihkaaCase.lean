/- A key, a nonce and a number as one struct (Case): its cells, how it is read out of memory, how it comes in. -/
import Derived.Test.YthimejahpgihkaaLaw1
import Derived.Test.YthimejahpgihkaaXor
import Derived.Test.YthimejahpgihkaaRefXor
import Derived.Test.YthimejahpgihkaaClose
import Derived.Deep.MidRow
namespace Go.Proofs.Ythimejahpgihkaa
open Go.ChangeShapes Go.WideShapes Go.ChangeAt Go.RowKit

def caseCells (k nonce : List UInt8) (n : Wd) : Array Value := cells8 k ++ cells8 nonce ++ #[.int .u32 (nm n)]

section
variable {P : Program} {w : World} {g : Nat} {t : TypeId} {k nonce : List UInt8} {n : Wd}
theorem case_key (h : Blk w g t (caseCells k nonce n)) : w.rangeAt g 0 (k.map cb) := fun j v hv => by
  rw [Nat.zero_add, h.cell]
  have hj : j < k.length := by simpa using (List.getElem?_eq_some_iff.1 hv).1
  simp only [caseCells, cells8, Array.append_assoc]
  rw [Array.getElem?_append_left (by simpa using hj)]
  simpa using hv
theorem case_nonce (h : Blk w g t (caseCells k nonce n)) (hk : k.length = 32) : w.rangeAt g 32 (nonce.map cb) := fun j v hv => by
  rw [h.cell]
  have hj : j < nonce.length := by simpa using (List.getElem?_eq_some_iff.1 hv).1
  simp only [caseCells, cells8, Array.append_assoc]
  rw [Array.getElem?_append_right (by simp; omega), Array.getElem?_append_left (by simp; omega)]
  simpa [hk] using hv
theorem case_num (h : Blk w g t (caseCells k nonce n)) (hk : k.length = 32) (hn : nonce.length = 12) : w.cell? ⟨g, 44, none⟩ = some (.int .u32 (nm n)) := by
  rw [h.cell]
  simp only [caseCells, cells8]
  rw [Array.getElem?_append_right (by simp; omega)]
  simp [hk, hn]
/-- an array of bytes in the middle of a block. -/
theorem wpList_loadM {ops : Array Oper} {rest : List Oper} {o : Oper} {a : Act} {Q : Exit → Act → World → Prop} (hgd : o.guard = none) (ty : TypeId) (x : Operand) (ho : o.op = .load ty x)
    (b off : Nat) (hx : a.eval x = .pointer (some ⟨b, off, none⟩)) (l : List UInt8) (hc : w.rangeAt b off (l.map cb)) {d : TypeDesc} (hu : P.underlying ty = some d) (hd : d.isRow = true) {m : Nat}
    (hi : (P.info? ty).map (·.size) = some m) (hm : l.length = m) (h : wpList P ops Q rest (a.put o.dst (.agg (cells8 l))) w) : wpList P ops Q (o :: rest) a w :=
  wpList_load_mid hgd ty x ho b off hx (l.map cb) d hc hu hd (by rw [List.length_map, hm]; exact hi) h
theorem gives_loadM {S : World → Prop} {o : Oper} {a : Act} (ty : TypeId) (x : Operand) (ho : o.op = .load ty x) (b off : Nat) (hx : a.eval x = .pointer (some ⟨b, off, none⟩)) (l : List UInt8)
    (hc : ∀ w, S w → w.rangeAt b off (l.map cb)) {d : TypeDesc} (hu : P.underlying ty = some d) (hd : d.isRow = true) {m : Nat} (hi : (P.info? ty).map (·.size) = some m) (hm : l.length = m) :
    ∀ w, S w → GivesRes P S (.agg (cells8 l)) ((execOp a.eval o).run P w) := by
  intro w hS
  unfold execOp
  simp only [ho, hx, Instr.loadAt, Instr.sureAddr, Sem.run_bind, Sem.run_pure, Result.andThen_ok, run_loadVar_mid w b off ty (l.map cb) d (hc w hS) hu hd (by rw [List.length_map, hm]; exact hi)]
  exact ⟨rfl, hS⟩
end

section
variable {H : Type} {enc : TypeId × Value → H} {P : Program} {W : World}
/-- bytes that are read as an array. -/
theorem bytes_of_trod {b0 : Nat} {sp : Nat → Bool} {hd : Bool} {fuel : Nat} {t e : TypeId} {n : Nat} {cs : List Value} {x : DataW H × List MemPlace} (hu : P.underlying t = some (.array n e)) (he : P.underlying e = some (.int .u8)) (hce : P.cellsOf e = 1)
    (hct : P.cellsOf t = n) (h : DataW.trod enc P W b0 sp hd fuel t cs = some x) : ∃ l : List UInt8, l.length = n ∧ cs = l.map cb := by
  obtain ⟨xs, m, rfl, _, hlen, hxl, hall⟩ := DataW.trod_array hu h
  have hcs : cs.length = n := by rw [hlen, hct]
  have hget : ∀ i, i < n → ∃ b : UInt8, cs[i]? = some (cb b) := by
    intro i hi
    have h1 := hall i hi
    rw [hce] at h1
    obtain ⟨x, hx⟩ : ∃ x, xs[i]? = some x := ⟨xs[i]'(by omega), List.getElem?_eq_getElem (by omega)⟩
    rw [hx] at h1
    obtain ⟨z, hz, _, hwf⟩ := DataW.trod_int he h1
    simp only [Nat.mul_one] at hz
    have hb := bounds_u8 hwf
    refine ⟨UInt8.ofNat z.toNat, ?_⟩
    have hi' : i < cs.length := by omega
    have h1c : (cs.drop i).take 1 = [cs[i]] := by rw [List.drop_eq_getElem_cons hi']; rfl
    rw [h1c] at hz
    have hz' : cs[i] = .int .u8 z := by injection hz
    rw [List.getElem?_eq_getElem hi', hz']
    unfold cb
    congr 2
    rw [UInt8.toNat_ofNat']
    omega
  refine ⟨(List.range n).map (fun i => byteV (cs[i]?.getD undef)), by simp, ?_⟩
  apply List.ext_getElem?
  intro i
  by_cases hi : i < n
  · obtain ⟨b, hb⟩ := hget i hi
    rw [hb]
    simp [hi, hb, byteV_cb]
  · rw [List.getElem?_eq_none (by omega), List.getElem?_eq_none (by simp; omega)]

/-- a Case that came in. -/
theorem open_case {base b0 : Nat} {sp : Nat → Bool} {hd : Bool} {v : Value} {d : DataW H} {ps : List MemPlace} (hval : Value.okWide Try.prog W .any base 31 v)
    (h : DataW.Trod enc Try.prog W b0 sp hd 31 v d ps) : ∃ (k nonce : List UInt8) (n : Wd), k.length = 32 ∧ nonce.length = 12 ∧ v = .agg (caseCells k nonce n) := by
  unfold Value.okWide at hval
  rw [Try.underlying31] at hval
  obtain ⟨cs, rfl, hsz, _⟩ := hval
  obtain ⟨fuel, hf⟩ := h
  obtain ⟨xs, m, rfl, _, hlen, hxl, hall⟩ := DataW.trod_struct Try.underlying31 hf
  have hce : Try.prog.cellsOf 5 = 1 := by kernel_rfl
  have hck : Try.prog.cellsOf 23 = 32 := by kernel_rfl
  have hcn : Try.prog.cellsOf 24 = 12 := by kernel_rfl
  have hc4 : Try.prog.cellsOf 25 = 1 := by kernel_rfl
  have hct : Try.prog.cellsOf 31 = 45 := by kernel_rfl
  have h0 : DataW.trod enc Try.prog W b0 sp hd m 23 (List.take (Try.prog.cellsOf 23) (List.drop 0 cs.toList)) = xs[0]? := hall 0 _ rfl
  have h1 : DataW.trod enc Try.prog W b0 sp hd m 24 (List.take (Try.prog.cellsOf 24) (List.drop 32 cs.toList)) = xs[1]? := hall 1 _ rfl
  have h2 : DataW.trod enc Try.prog W b0 sp hd m 25 (List.take (Try.prog.cellsOf 25) (List.drop 44 cs.toList)) = xs[2]? := hall 2 _ rfl
  have hlen' : cs.toList.length = Try.prog.cellsOf 31 := hlen
  rw [hck] at h0
  rw [hcn] at h1
  rw [hc4] at h2
  have hx : ∀ i, i < 3 → ∃ x, xs[i]? = some x := fun i hi => by
    have e3 : xs.length = 3 := hxl
    exact ⟨xs[i]'(by omega), List.getElem?_eq_getElem (by omega)⟩
  obtain ⟨x0, e0⟩ := hx 0 (by omega)
  obtain ⟨x1, e1⟩ := hx 1 (by omega)
  obtain ⟨x2, e2⟩ := hx 2 (by omega)
  rw [e0] at h0
  rw [e1] at h1
  rw [e2] at h2
  obtain ⟨k, hk, hkc⟩ := bytes_of_trod Try.underlying23 Try.underlying5 hce hck h0
  obtain ⟨nonce, hn, hnc⟩ := bytes_of_trod Try.underlying24 Try.underlying5 hce hcn h1
  obtain ⟨z, hzc, _, hwf⟩ := DataW.trod_int Try.underlying25 h2
  have hb := bounds_u32 hwf
  refine ⟨k, nonce, BitVec.ofNat 32 z.toNat, hk, hn, ?_⟩
  have hnz : nm (BitVec.ofNat 32 z.toNat) = z := by unfold nm; rw [BitVec.toNat_ofNat]; omega
  congr 1
  unfold caseCells
  rw [hnz]
  apply Array.toList_inj.1
  simp only [Array.toList_append, cells8]
  rw [← hkc, ← hnc]
  have hl : cs.toList.length = 45 := by rw [hlen', hct]
  rw [show [Value.int .u32 z] = List.take 1 (List.drop 44 cs.toList) from hzc.symm]
  rw [List.drop_zero]
  have e1 : cs.toList = cs.toList.take 32 ++ (cs.toList.drop 32) := (List.take_append_drop 32 _).symm
  have e2 : cs.toList.drop 32 = (cs.toList.drop 32).take 12 ++ cs.toList.drop 44 := by
    have := (List.take_append_drop 12 (cs.toList.drop 32)).symm
    rw [List.drop_drop] at this
    exact this
  have e3 : (cs.toList.drop 44).take 1 = cs.toList.drop 44 := List.take_of_length_le (by rw [List.length_drop, hl]; omega)
  rw [e3, List.append_assoc, ← e2, ← e1]
end
end Go.Proofs.Ythimejahpgihkaa
