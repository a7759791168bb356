/- Laws and walks that many claims share: FldW, ShW, ShS, ShX, ShJ, ShE. -/
import Derived.Test.YtconhhhggckcbaaDoorSesQ
import Derived.Test.YtconhhhggckcbaaDoorFldQ
/- Arrays of 256 bools in their block. -/
namespace Go.Proofs.YtconhhhggckcbaaDoor
open Go.RowKit
variable {D : List Deferred}

def boolsF (f : Nat → Bool) : Array Value := ((List.range 256).map fun i => Value.bool (f i)).toArray
theorem boolsF_at {f : Nat → Bool} {n : Nat} {b : Bool} (h : n < 256) (hb : f n = b) : (boolsF f)[n]? = some (.bool b) := by
  subst hb
  simp [boolsF, h]
section
variable {a : Act} {o : Oper} {w w0 : World} {n s : Nat} {L : List (Nat × Value)} {v : Value} {ops : Array Oper} {rest : List Oper} {Q : Exit → Act → World → Prop} {M : List (Nat × (Obj → Prop))} {x y z : Operand} {g i : Nat}
theorem sqSetBool {j : Nat} {f : Nat → Bool} {b : Bool} {t : TypeId} (hF : FrD D a n L) (hM : Mem w0 M w) (hgd : o.guard = none) (ho : o.op = .store 4 x y) (hd : o.dst = none) (hx : a.eval x = .pointer (some ⟨g, i, none⟩)) (hy : a.eval y = .bool b)
    (e : M[j]? = some (g, isB t (boolsF f))) (hi : i < 256) (h : ∀ a2 w2, w.grownBy w2 (some g) → FrD D a2 n L → Mem w0 (M.set j (g, isB t (boolsF (fun q => if q = i then b else f q)))) w2 → wpList Tryd.prog ops Q rest a2 w2) : wpList Tryd.prog ops Q (o :: rest) a w := by
  have hB := hM.at j e
  have hc : w.cell? ⟨g, i, none⟩ = some (.bool (f i)) := by
    rw [hB.cell]
    exact boolsF_at hi rfl
  have hf := hB.frozen i
  have hg := grown_setCell w g i (.bool b)
  refine sqN hF (wantedS hgd) (w2 := w.setCell ⟨g, i, none⟩ (.bool b)) ?_ hd fun a2 hF2 => h a2 _ hg hF2 (hM.upd j e hg ⟨_, ?_, rfl⟩)
  · unfold execOp
    simp only [ho, hx, hy]
    simp [go_sem, hc, hf]
  · unfold Blk at hB
    have hset : (boolsF f).setIfInBounds i (.bool b) = boolsF (fun q => if q = i then b else f q) := by
      apply Array.ext_getElem?
      intro q
      simp only [boolsF, Array.getElem?_setIfInBounds, List.getElem?_toArray, List.size_toArray, List.getElem?_map, List.length_map, List.length_range]
      by_cases hq : i = q
      · subst hq; simp [hi]
      · rw [if_neg hq]
        by_cases hq2 : q < 256
        · have hqi : ¬ q = i := fun h => hq h.symm
          simp [hq2, hqi]
        · simp [hq2]
    simp [World.setCell, Array.getElem?_modify, hB, ← hset]
end
end Go.Proofs.YtconhhhggckcbaaDoor
/- Rows of five shares in their block: made, read and stored into byte by byte. -/
namespace Go.Proofs.YtconhhhggckcbaaDoor
open Go.RowKit
variable {D : List Deferred}

/-- five shares, cell by cell: share j's X lies at 33 j, its byte i at 33 j + 1 + i. -/
def shC (f : Nat → UInt8) : Array Value := ((List.range 165).map fun i => Value.int .u8 ((f i).toNat : Int)).toArray
theorem shC_size (f : Nat → UInt8) : (shC f).size = 165 := by simp [shC]
theorem shC_at {f : Nat → UInt8} {n : Nat} (h : n < 165) : (shC f)[n]? = some (.int .u8 ((f n).toNat : Int)) := by simp [shC, h]
theorem unSh : Tryd.prog.underlying 31 = some (.slice 54) := Tryd.underlying31
theorem elSh : Tryd.prog.elem 31 = 54 := by simp [Program.elem, Tryd.underlying31]
theorem unSh2 : Tryd.prog.underlying 31 = some (.slice (Tryd.prog.elem 31)) := by rw [elSh]; exact unSh
theorem szSh (w : World) : (sizeOf (Tryd.prog.elem 31)).run Tryd.prog w = .ok 33 w := by rw [elSh]; kernel_rfl
set_option maxRecDepth 100000 in
theorem madeSh : ∃ i z, Tryd.prog.info? 54 = some i ∧ i.zero = some z ∧ i.size = 33 ∧ i.bytes = 33 ∧ madeCells z.cells (5 * 33) = shC (fun _ => 0) := ⟨_, _, rfl, rfl, rfl, rfl, by kernel_rfl⟩
section
variable {a : Act} {o : Oper} {w w0 : World} {n s : Nat} {L : List (Nat × Value)} {v : Value} {ops : Array Oper} {rest : List Oper} {Q : Exit → Act → World → Prop} {M : List (Nat × (Obj → Prop))} {x y z : Operand} {g i : Nat}
theorem sqMakeSh {k k2 : IntKind} (hF : FrD D a n L) (hM : Mem w0 M w) (hgd : o.guard = none) (ho : o.op = .makeSlice 31 x y) (hx : a.eval x = .int k 5) (hy : a.eval y = .int k2 5) (hd : o.dst = some s) (hs : s < n)
    (h : ∀ g a2 w2, w.heap.size ≤ g → Below w.heap.size w w2 → FrD D a2 n ((s, .slice (some ⟨g, 0, none⟩) 5 5) :: L) → Mem w0 ((g, isB 54 (shC fun _ => 0)) :: M) w2 → wpList Tryd.prog ops Q rest a2 w2) : wpList Tryd.prog ops Q (o :: rest) a w := by
  obtain ⟨i, z, hi, hz, hsz, hby, hcs⟩ := madeSh
  have hr := run_make (P := Tryd.prog) w 31 54 i z unSh hi hz k k2 5 5 (by decide) (by decide) (by rw [hby]; decide) (by decide)
  rw [show (5 : Int).toNat * i.size = 5 * 33 by rw [hsz]; rfl, hcs] at hr
  have hb : Below w.heap.size w (w.alloc (.cells (shC fun _ => 0) 54)) := (Below.refl _ _).alloc (Nat.le_refl _) _
  refine sq hF (wantedS hgd) (v := .slice (some ⟨w.heap.size, 0, none⟩) 5 5) (w2 := w.alloc (.cells (shC fun _ => 0) 54)) ?_ hd hs fun a2 hF2 => h _ a2 _ (Nat.le_refl _) hb hF2 (hM.addS hb (Nat.le_refl _) ⟨_, heap_alloc_new w _, rfl⟩)
  unfold execOp
  simp only [ho, hx, hy, Sem.run_bind, hr, Result.andThen_ok, Sem.run_pure]
  rfl
theorem run_idxSh {c m : Nat} {k : IntKind} {p : Int} (ho : o.op = .indexAddr 31 x y) (hx : a.eval x = .slice (some ⟨g, 0, none⟩) m c) (hy : a.eval y = .int k p) (hp : p = (i : Int)) (hi : i < m) : (execOp a.eval o).run Tryd.prog w = .ok (.value (.pointer (some ⟨g, i * 33, none⟩))) w := by
  subst hp
  have hr := run_indexAt_slice (P := Tryd.prog) w 31 ⟨g, 0, none⟩ m c k (i : Int) unSh2
  have hz := szSh w
  unfold execOp
  simp only [ho, hx, hy]
  rw [Sem.run_bind, hr, hz, if_pos (by omega)]
  simp [Addr.add]
  intro h; exact h.symm
theorem run_fldO {t : TypeId} {fs : Array Field} {j m r : Nat} {fd : Field} (ho : o.op = .fieldAddr t x j) (hx : a.eval x = .pointer (some ⟨g, r, none⟩)) (hu : Tryd.prog.underlying t = some (.struct fs)) (hi : fs[j]? = some fd) (hb : fd.offset = s) (hz : (sizeOf fd.type).run Tryd.prog w = .ok m w) (hm : m ≠ 0) : (execOp a.eval o).run Tryd.prog w = .ok (.value (.pointer (some ⟨g, r + s, none⟩))) w := by
  have h := run_fldG (a := a) ho hx hu hi hb hz hm
  rwa [addr_add] at h
theorem run_idxO {k : IntKind} {p : Int} {t e : TypeId} {cnt r : Nat} (ho : o.op = .indexAddr t x y) (hx : a.eval x = .pointer (some ⟨g, r, none⟩)) (hy : a.eval y = .int k p) (hp : p = (i : Int)) (hi : i < cnt) (hu : Tryd.prog.underlying t = some (.array cnt e)) (hz : (sizeOf e).run Tryd.prog w = .ok 1 w) : (execOp a.eval o).run Tryd.prog w = .ok (.value (.pointer (some ⟨g, r + i, none⟩))) w := by
  subst hp
  obtain ⟨h1, h2⟩ := arrLen_of hu
  have ht : Tryd.prog.underlying t = some (.array (Tryd.prog.arrayLen t) (Tryd.prog.elem t)) := by rw [h1, h2]; exact hu
  have hz' : (sizeOf (Tryd.prog.elem t)).run Tryd.prog w = .ok 1 w := by rw [h2]; exact hz
  have hr := run_indexAt_array (P := Tryd.prog) w t ⟨g, r, none⟩ k (i : Int) ht
  unfold execOp
  simp only [ho, hx, hy]
  rw [Sem.run_bind, hr]
  simp [hz', h1, hi, Addr.add]
  try (intro h; exact h.symm)
theorem sqSetSh {j : Nat} {f : Nat → UInt8} {b : UInt8} (hF : FrD D a n L) (hM : Mem w0 M w) (hgd : o.guard = none) (ho : o.op = .store 5 x y) (hd : o.dst = none) (hx : a.eval x = .pointer (some ⟨g, i, none⟩)) (hy : a.eval y = .int .u8 (b.toNat : Int))
    (e : M[j]? = some (g, isB 54 (shC f))) (hi : i < 165) (h : ∀ a2 w2, w.grownBy w2 (some g) → FrD D a2 n L → Mem w0 (M.set j (g, isB 54 (shC (fun q => if q = i then b else f q)))) w2 → wpList Tryd.prog ops Q rest a2 w2) : wpList Tryd.prog ops Q (o :: rest) a w := by
  have hB := hM.at j e
  have hc : w.cell? ⟨g, i, none⟩ = some (.int .u8 ((f i).toNat : Int)) := by
    rw [hB.cell]
    exact shC_at hi
  have hf := hB.frozen i
  have hg := grown_setCell w g i (.int .u8 (b.toNat : Int))
  refine sqN hF (wantedS hgd) (w2 := w.setCell ⟨g, i, none⟩ (.int .u8 (b.toNat : Int))) ?_ hd fun a2 hF2 => h a2 _ hg hF2 (hM.upd j e hg ⟨_, ?_, rfl⟩)
  · unfold execOp
    simp only [ho, hx, hy]
    simp [go_sem, hc, hf]
  · unfold Blk at hB
    have hset : (shC f).setIfInBounds i (.int .u8 (b.toNat : Int)) = shC (fun q => if q = i then b else f q) := by
      apply Array.ext_getElem?
      intro q
      simp only [shC, Array.getElem?_setIfInBounds, List.getElem?_toArray, List.size_toArray, List.getElem?_map, List.length_map, List.length_range]
      by_cases hq : i = q
      · subst hq; simp [hi]
      · rw [if_neg hq]
        by_cases hq2 : q < 165
        · have hqi : ¬ q = i := fun h => hq h.symm
          simp [hq2, hqi]
        · simp [hq2]
    simp [World.setCell, Array.getElem?_modify, hB, ← hset]
end
end Go.Proofs.YtconhhhggckcbaaDoor
/- Plain: shares, and the five that a key is split into. -/
namespace Go.Proofs.YtconhhhggckcbaaDoor

structure Sh where
  x : UInt8
  d : List UInt8
/-- a share, cell by cell. -/
def shareC (s : Sh) : List Value := cb s.x :: (List.range 32).map fun i => cb (s.d.getD i 0)
theorem shareC_len (s : Sh) : (shareC s).length = 33 := by simp [shareC]
def polS (k no : List UInt8) (i : Nat) : List UInt8 := [k.getD i 0, no.getD i 0, no.getD (32 + i) 0]
/-- share j of a key. -/
def shOf (k no : List UInt8) (j : Nat) : Sh := ⟨UInt8.ofNat (j + 1), (List.range 32).map fun i => evalS (polS k no i) (UInt8.ofNat (j + 1))⟩
def shS (k no : List UInt8) : List Sh := (List.range 5).map (shOf k no)
theorem shS_len (k no : List UInt8) : (shS k no).length = 5 := by simp [shS]
def shV (k no : List UInt8) (q : Nat) : UInt8 := if q % 33 = 0 then UInt8.ofNat (q / 33 + 1) else evalS (polS k no (q % 33 - 1)) (UInt8.ofNat (q / 33 + 1))
def shA (i q : Nat) : UInt8 := if q % 33 = 0 ∧ q / 33 < i then UInt8.ofNat (q / 33 + 1) else 0
def shB (k no : List UInt8) (i j q : Nat) : UInt8 := if q % 33 < i + 1 ∨ (q % 33 = i + 1 ∧ q / 33 < j) then shV k no q else 0
theorem shC_congr {f g : Nat → UInt8} (h : ∀ q, q < 165 → f q = g q) : shC f = shC g := by
  unfold shC
  congr 1
  refine List.map_congr_left fun q hq => ?_
  rw [h q (List.mem_range.1 hq)]
theorem shA_zero : (fun _ => 0) = shA 0 := by
  funext q; unfold shA; rw [if_neg (by omega)]
theorem shA_step (i : Nat) : (fun q => if q = i * 33 + 0 then UInt8.ofNat (i + 1) else shA i q) = shA (i + 1) := by
  funext q
  unfold shA
  by_cases h : q = i * 33 + 0
  · have h1 : q / 33 = i := by omega
    rw [if_pos h, if_pos (by omega), h1]
  · rw [if_neg h]
    by_cases h2 : q % 33 = 0 ∧ q / 33 < i
    · rw [if_pos h2, if_pos (by omega)]
    · rw [if_neg h2, if_neg (by omega)]
theorem shA_B (k no : List UInt8) : shC (shA 5) = shC (shB k no 0 0) := by
  refine shC_congr fun q hq => ?_
  unfold shA shB shV
  by_cases h : q % 33 = 0
  · rw [if_pos (by omega), if_pos (by omega), if_pos h]
  · rw [if_neg (by omega), if_neg (by omega)]
theorem shB_step {k no : List UInt8} {i j : Nat} {b : UInt8} (hi : i < 32) (hb : evalS (polS k no i) (UInt8.ofNat (j + 1)) = b) : (fun q => if q = j * 33 + 1 + i then b else shB k no i j q) = shB k no i (j + 1) := by
  funext q
  unfold shB
  by_cases h : q = j * 33 + 1 + i
  · have h1 : q / 33 = j := by omega
    have h2 : q % 33 = i + 1 := by omega
    rw [if_pos h, if_pos (by omega), shV, if_neg (by omega), h1, h2, Nat.add_sub_cancel, hb]
  · rw [if_neg h]
    by_cases h2 : q % 33 < i + 1 ∨ (q % 33 = i + 1 ∧ q / 33 < j)
    · rw [if_pos h2, if_pos (by omega)]
    · rw [if_neg h2, if_neg (by omega)]
theorem shB_next (k no : List UInt8) (i : Nat) : shC (shB k no i 5) = shC (shB k no (i + 1) 0) := by
  refine shC_congr fun q hq => ?_
  unfold shB
  by_cases h2 : q % 33 < i + 1 ∨ (q % 33 = i + 1 ∧ q / 33 < 5)
  · rw [if_pos h2, if_pos (by omega)]
  · rw [if_neg h2, if_neg (by omega)]
theorem shB_x (k no : List UInt8) (i j l : Nat) : shB k no i j (l * 33 + 0) = UInt8.ofNat (l + 1) := by
  have h1 : (l * 33 + 0) / 33 = l := by omega
  rw [shB, if_pos (by omega), shV, if_pos (by omega), h1]
theorem range5 (g : Nat → Value) : (List.range 165).map g = (List.range 5).flatMap fun j => (List.range 33).map fun i => g (j * 33 + i) := by kernel_rfl
theorem shB_all (k no : List UInt8) : (shC (shB k no 32 0)).toList = (shS k no).flatMap shareC := by
  rw [shC_congr (f := shB k no 32 0) (g := shV k no) (fun q hq => by rw [shB, if_pos (by omega)])]
  unfold shC
  rw [List.toList_toArray, range5, shS, List.flatMap_map]
  refine congrArg List.flatten (List.map_congr_left fun j hj => ?_)
  have h0 : (List.range 33).map (fun i => Value.int .u8 ((shV k no (j * 33 + i)).toNat : Int)) = cb (shV k no (j * 33 + 0)) :: (List.range 32).map fun i => cb (shV k no (j * 33 + (i + 1))) := by kernel_rfl
  rw [h0, shareC]
  have hx : shV k no (j * 33 + 0) = UInt8.ofNat (j + 1) := by
    have h1 : (j * 33 + 0) / 33 = j := by omega
    rw [shV, if_pos (by omega), h1]
  rw [hx]
  congr 1
  refine List.map_congr_left fun i hi => ?_
  have hi2 := List.mem_range.1 hi
  have h1 : (j * 33 + (i + 1)) / 33 = j := by omega
  have h2 : (j * 33 + (i + 1)) % 33 = i + 1 := by omega
  rw [shV, if_neg (by omega), h1, h2, Nat.add_sub_cancel]
  show _ = cb (((List.range 32).map fun i => evalS (polS k no i) (UInt8.ofNat (j + 1))).getD i 0)
  rw [List.getD_eq_getElem?_getD, List.getElem?_map, List.getElem?_range hi2]
  rfl
end Go.Proofs.YtconhhhggckcbaaDoor
/- An element of an array of bytes by value; a block of bytes as a slice; five shares as an own row. -/
namespace Go.Proofs.YtconhhhggckcbaaDoor
open Go.RowKit
variable {D : List Deferred}
section
variable {a : Act} {o : Oper} {w w0 : World} {x y : Operand} {g i : Nat}
theorem run_iA8 {k : IntKind} {p : Int} {t e : TypeId} {cnt : Nat} {l : List UInt8} (ho : o.op = .index t x y) (hx : a.eval x = .agg (cells8 l)) (hy : a.eval y = .int k p) (hp : p = (i : Int)) (hi : i < cnt) (hl : l.length = cnt) (hu : Tryd.prog.underlying t = some (.array cnt e)) (hz : (sizeOf e).run Tryd.prog w = .ok 1 w) (hag : (isAgg e).run Tryd.prog w = .ok false w) : (execOp a.eval o).run Tryd.prog w = .ok (.value (.int .u8 ((bt l i).toNat : Int))) w := by
  subst hp
  have hc := cells8_get l i (by omega)
  unfold execOp
  simp only [ho, hx, hy]
  simp [Instr.index, part, run_underlying hu, asIntOf, hi, hz, hag, hc, go_sem]
theorem slOfB {l : List UInt8} {t : TypeId} {n c : Nat} (hl : l.length = n) (hB : Blk w g t (cells8 l)) : Sl w (.slice (some ⟨g, 0, none⟩) n c) 1 n (l.map cb) :=
  ⟨by simp [hl], .inr ⟨g, 0, c, rfl, hB.lt, fun j u hj => by rw [Nat.zero_add, hB.cell]; simpa [cells8] using hj⟩⟩
theorem ownSh {M : List (Nat × (Obj → Prop))} {f : Nat → UInt8} (hM : Mem w0 ((g, isB 54 (shC f)) :: M) w) : OwnR w0 M w 54 33 (.slice (some ⟨g, 0, none⟩) 5 5) 5 (shC f).toList := by
  have hs : (shC f).toList.length = 5 * 33 := by rw [Array.length_toList, shC_size]
  refine ⟨⟨hs, .inr ⟨g, 5, shC f, rfl, hM.ge 0 rfl, hM.at 0 rfl, Nat.le_refl _, by decide, by rw [shC_size], List.take_of_length_le (Nat.le_of_eq hs)⟩⟩, fun x hx => ?_⟩
  have := (List.pairwise_cons.1 hM.nd).1 x hx
  simpa [Value.ownBlock] using this
end
end Go.Proofs.YtconhhhggckcbaaDoor
/- Three shares as an array, byte by byte; the key that they are joined to. -/
namespace Go.Proofs.YtconhhhggckcbaaDoor
open Go.RowKit

def sb (s : Sh) : List UInt8 := s.x :: (List.range 32).map fun i => s.d.getD i 0
theorem sb_cb (s : Sh) : (sb s).map cb = shareC s := by simp [sb, shareC, Function.comp_def]
def b3 (s0 s1 s2 : Sh) : List UInt8 := [s0, s1, s2].flatMap sb
theorem b3_flat (s0 s1 s2 : Sh) : (b3 s0 s1 s2).map cb = [s0, s1, s2].flatMap shareC := by
  simp [b3, List.flatMap_cons, sb_cb]
theorem b3_len (s0 s1 s2 : Sh) : (b3 s0 s1 s2).length = 99 := by simp [b3, sb]
theorem b3_x {s0 s1 s2 s : Sh} {j : Nat} (h : [s0, s1, s2][j]? = some s) : (cells8 (b3 s0 s1 s2))[j * 33 + 0]? = some (.int .u8 (s.x.toNat : Int)) := by
  rw [cells8, b3_flat, List.getElem?_toArray]
  exact flat_at shareC_len h 0 rfl
theorem b3_d {s0 s1 s2 s : Sh} {j i : Nat} (h : [s0, s1, s2][j]? = some s) (hi : i < 32) : (cells8 (b3 s0 s1 s2))[j * 33 + 1 + i]? = some (.int .u8 ((s.d.getD i 0).toNat : Int)) := by
  rw [cells8, b3_flat, List.getElem?_toArray, Nat.add_assoc]
  refine flat_at shareC_len h (1 + i) ?_
  rw [shareC, Nat.add_comm 1 i, List.getElem?_cons_succ, List.getElem?_map, List.getElem?_range hi]
  rfl
theorem sz94 : (Tryd.prog.info? 94).map (·.size) = some 99 := by kernel_rfl
theorem sz47 : (Tryd.prog.info? 47).map (·.size) = some 3 := by kernel_rfl
/-- the bytes that three shares are joined to. -/
def keyT (s0 s1 s2 : Sh) (i : Nat) : List UInt8 := (List.range 32).map fun q => if q < i then atT [s0.x, s1.x, s2.x] [s0.d.getD q 0, s1.d.getD q 0, s2.d.getD q 0] 0 3 else 0
theorem keyT_len (s0 s1 s2 : Sh) (i : Nat) : (keyT s0 s1 s2 i).length = 32 := by simp [keyT]
theorem keyT_zero (s0 s1 s2 : Sh) : List.replicate 32 0 = keyT s0 s1 s2 0 := by
  simp [keyT]
  rfl
theorem keyT_step {s0 s1 s2 : Sh} {i : Nat} {b : UInt8} (hb : atT [s0.x, s1.x, s2.x] [s0.d.getD i 0, s1.d.getD i 0, s2.d.getD i 0] 0 3 = b) : (keyT s0 s1 s2 i).set i b = keyT s0 s1 s2 (i + 1) := by
  apply List.ext_getElem?
  intro q
  by_cases hq : q < 32
  · by_cases h : i = q
    · subst h
      simp [keyT, hq, ← hb]
    · have h1 : (q < i + 1) = (q < i) := by apply propext; omega
      simp [keyT, h, hq, h1]
  · simp [keyT, hq]
def joinT : List Sh → Option (List UInt8)
  | [s0, s1, s2] => if s0.x = 0 ∨ s1.x = 0 ∨ s2.x = 0 then none else if [s0.x, s1.x, s2.x].Nodup then some (keyT s0 s1 s2 32) else none
  | _ => none
section
variable {a : Act} {o : Oper} {w w0 : World} {x y : Operand} {g i : Nat} {v : Value}
theorem run_arrP {ty e : TypeId} {m cnt k : Nat} {cs : List Value} (ho : o.op = .sliceToArrayPointer ty x) (hx : a.eval x = v) (hs : Sl w v k cnt cs) (hu : Tryd.prog.underlying ty = some (.array m e)) (hm : m ≤ cnt) (hc : 0 < cnt) : (execOp a.eval o).run Tryd.prog w = .ok (.value (slPtr v 0)) w := by
  obtain ⟨b, off, c, rfl, hq⟩ := slPtr_of hs hc
  rw [run_arrAt ho hx hu hm, (hq 0).1, Nat.add_zero]
theorem run_idxO33 {k : IntKind} {p : Int} {t e : TypeId} {cnt r : Nat} (ho : o.op = .indexAddr t x y) (hx : a.eval x = .pointer (some ⟨g, r, none⟩)) (hy : a.eval y = .int k p) (hp : p = (i : Int)) (hi : i < cnt) (hu : Tryd.prog.underlying t = some (.array cnt e)) (hz : (sizeOf e).run Tryd.prog w = .ok 33 w) : (execOp a.eval o).run Tryd.prog w = .ok (.value (.pointer (some ⟨g, r + i * 33, none⟩))) w := by
  subst hp
  obtain ⟨h1, h2⟩ := arrLen_of hu
  have ht : Tryd.prog.underlying t = some (.array (Tryd.prog.arrayLen t) (Tryd.prog.elem t)) := by rw [h1, h2]; exact hu
  have hz' : (sizeOf (Tryd.prog.elem t)).run Tryd.prog w = .ok 33 w := by rw [h2]; exact hz
  have hr := run_indexAt_array (P := Tryd.prog) w t ⟨g, r, none⟩ k (i : Int) ht
  unfold execOp
  simp only [ho, hx, hy]
  rw [Sem.run_bind, hr]
  simp [hz', h1, hi, Addr.add]
  try (intro h; exact h.symm)
theorem run_idx33 {k : IntKind} {p : Int} {t e : TypeId} {cnt : Nat} (ho : o.op = .indexAddr t x y) (hx : a.eval x = .pointer (some ⟨g, 0, none⟩)) (hy : a.eval y = .int k p) (hp : p = (i : Int)) (hi : i < cnt) (hu : Tryd.prog.underlying t = some (.array cnt e)) (hz : (sizeOf e).run Tryd.prog w = .ok 33 w) : (execOp a.eval o).run Tryd.prog w = .ok (.value (.pointer (some ⟨g, i * 33, none⟩))) w := by
  have h := run_idxO33 ho hx hy hp hi hu hz
  rwa [Nat.zero_add] at h
end
end Go.Proofs.YtconhhhggckcbaaDoor
/- Shares as elements of a slice, field by field. -/
namespace Go.Proofs.YtconhhhggckcbaaDoor
open Go.RowKit

theorem eltSh : ElT Tryd.prog 31 54 33 33 := by
  refine ⟨Tryd.underlying31, ?_, by decide⟩
  obtain ⟨i, hi, hz⟩ : ∃ i, Tryd.prog.info? 54 = some i ∧ (i.zero.map (·.cells.size), i.size, i.bytes) = (some 33, 33, 33) := by
    have h : ((Tryd.prog.info? 54).map fun i => (i.zero.map (·.cells.size), i.size, i.bytes)) = some (some 33, 33, 33) := by kernel_rfl
    cases hi : Tryd.prog.info? 54 with
    | none => rw [hi] at h; cases h
    | some i => rw [hi] at h; exact ⟨i, rfl, by injection h⟩
  simp only [Prod.mk.injEq] at hz
  obtain ⟨h1, h2, h3⟩ := hz
  obtain ⟨z, hz1, hz2⟩ := Option.map_eq_some_iff.1 h1
  exact ⟨i, z, hi, hz1, h2, h3, hz2⟩
section
variable {a : Act} {o : Oper} {w w0 : World} {x y : Operand} {g i : Nat} {v : Value}
end
end Go.Proofs.YtconhhhggckcbaaDoor
