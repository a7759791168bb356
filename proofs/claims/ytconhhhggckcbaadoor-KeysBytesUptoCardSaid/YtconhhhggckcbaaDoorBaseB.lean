/- Laws and walks that many claims share: Plain, Hold, Held, Stream, StreamLaws, Copy, Close, Text, Loose, Give, Blake, SealS, RowS, SealBytes, Rot, Rotn, Word, Own, Ops, Strs0, Ask, Frame, AskR, LooseTail, Walk, Walk2, StrsN. -/
import Derived.WalkKit
import Derived.Laws.OwnMore
import Derived.Deep.Draws
import Derived.Laws.Rows
import Derived.Laws.Tables
import Derived.Deep.WholeRow
import Derived.StillTail
import Derived.StillTactics
import Derived.Deep.RegionHeld3
import Derived.OrdersHeld
import Derived.Laws.IdiomStrings
import Derived.Laws.CopyOwn
import Derived.ProofKit
import Derived.OpenShut
import Derived.OpenVars
import Derived.Lib.TrimByte
import Derived.StillTailTactics
import Derived.Stop.BytesEq
import Derived.Deep.MidRow
import Derived.Test.YtconhhhggckcbaaDoorRows
import Derived.WalkSpells
import Derived.WalkLawsBesides
import Derived.Lib.Hide
import Derived.Lib.BufferRead
/- Plain mathematics of ChaCha20: words of 32 bits, a half step, a quarter round, a block, a stream; no program in sight. -/
namespace Go.Proofs.YtconhhhggckcbaaDoor
open Go.RowKit

abbrev Wd := BitVec 32
/-- a word as the walk's integer (kept closed). -/
def nm (x : Wd) : Int := (x.toNat : Int)
theorem nm_nonneg (x : Wd) : 0 ≤ nm x := by unfold nm; omega
theorem nm_lt (x : Wd) : nm x < 4294967296 := by have := x.isLt; unfold nm; omega
def cw (x : Wd) : Value := .int .u32 (nm x)
def cq (x : Wd) : Value := .int .u64 (nm x)

theorem wrap_u32 (n : Int) : IntKind.u32.wrap n = n % 4294967296 := by
  simp [IntKind.wrap, IntKind.bits, IntKind.signed]
theorem wrap_u64 (n : Int) : IntKind.u64.wrap n = n % 18446744073709551616 := by
  simp [IntKind.wrap, IntKind.bits, IntKind.signed]
theorem wrap_u8 (n : Int) : IntKind.u8.wrap n = n % 256 := by
  simp [IntKind.wrap, IntKind.bits, IntKind.signed]

theorem nm_add (x y : Wd) : IntKind.u32.wrap (nm x + nm y) = nm (x + y) := by
  rw [wrap_u32]; unfold nm; rw [BitVec.toNat_add]; omega
theorem nm_add' (x y : Wd) : (nm x + nm y) % 4294967296 = nm (x + y) := by
  rw [← nm_add, wrap_u32]
theorem nm_self (x : Wd) : IntKind.u32.wrap (nm x) = nm x := by
  rw [wrap_u32]; have := nm_nonneg x; have := nm_lt x; omega
theorem ofInt_nm (x : Wd) : BitVec.ofInt 32 (nm x) = x := by
  unfold nm; apply BitVec.eq_of_toNat_eq; rw [BitVec.toNat_ofInt]; have := x.isLt; omega
theorem nm_xor (x y : Wd) : bits .xor .u32 (nm x) (nm y) = nm (x ^^^ y) := by
  have h : bits .xor .u32 (nm x) (nm y) = IntKind.u32.wrap (((BitVec.ofInt 32 (nm x)) ^^^ (BitVec.ofInt 32 (nm y))).toNat) := rfl
  rw [h, ofInt_nm, ofInt_nm]; exact nm_self _
theorem nm_or (x y : Wd) : bits .or .u32 (nm x) (nm y) = nm (x ||| y) := by
  have h : bits .or .u32 (nm x) (nm y) = IntKind.u32.wrap (((BitVec.ofInt 32 (nm x)) ||| (BitVec.ofInt 32 (nm y))).toNat) := rfl
  rw [h, ofInt_nm, ofInt_nm]; exact nm_self _

/-- a word turned left. -/
def rl (x : Wd) (k : Nat) : Wd := x.rotateLeft k

theorem or_add (a b i : Nat) (h : b < 2 ^ i) : (a * 2 ^ i) ||| b = a * 2 ^ i + b := by
  rw [Nat.mul_comm]; exact (Nat.two_pow_add_eq_or_of_lt h a).symm

/-- what the library's rotation computes. -/
theorem nm_rl (x : Wd) (k : Nat) (hk : k < 32) : bits .or .u32 (nm x * 2 ^ k % 4294967296) (nm x / 2 ^ (32 - k)) = nm (rl x k) := by
  have h1 : nm x * 2 ^ k % 4294967296 = nm (x <<< k) := by
    unfold nm; rw [BitVec.toNat_shiftLeft, Nat.shiftLeft_eq]
    rw [Int.natCast_emod, Int.natCast_mul, Int.natCast_pow]; rfl
  have h2 : nm x / 2 ^ (32 - k) = nm (x >>> (32 - k)) := by
    unfold nm; rw [BitVec.toNat_ushiftRight, Nat.shiftRight_eq_div_pow, Int.natCast_ediv, Int.natCast_pow]; rfl
  rw [h1, h2, nm_or]; congr 1
  unfold rl; rw [BitVec.rotateLeft_def, Nat.mod_eq_of_lt hk]

theorem bits_or_nat (a b : Nat) (ha : a < 4294967296) (hb : b < 4294967296) : bits .or .u32 (a : Int) (b : Int) = ((a ||| b : Nat) : Int) := by
  have h1 : (a : Int) = nm (BitVec.ofNat 32 a) := by unfold nm; rw [BitVec.toNat_ofNat]; omega
  have h2 : (b : Int) = nm (BitVec.ofNat 32 b) := by unfold nm; rw [BitVec.toNat_ofNat]; omega
  rw [h1, h2, nm_or]; unfold nm
  rw [BitVec.toNat_or, BitVec.toNat_ofNat, BitVec.toNat_ofNat, Nat.mod_eq_of_lt (by omega), Nat.mod_eq_of_lt (by omega)]
/-- four bytes as a word, the lowest first. -/
def wd (b0 b1 b2 b3 : UInt8) : Wd := BitVec.ofNat 32 (b0.toNat + 256 * b1.toNat + 65536 * b2.toNat + 16777216 * b3.toNat)
theorem nm_wd (b0 b1 b2 b3 : UInt8) : nm (wd b0 b1 b2 b3) = (b0.toNat : Int) + 256 * b1.toNat + 65536 * b2.toNat + 16777216 * b3.toNat := by
  have := b0.toNat_lt; have := b1.toNat_lt; have := b2.toNat_lt; have := b3.toNat_lt
  unfold nm wd; rw [BitVec.toNat_ofNat]; omega
theorem or_add' (a b i : Nat) (h : b < 2 ^ i) : b ||| (a * 2 ^ i) = b + a * 2 ^ i := by
  rw [Nat.or_comm, or_add a b i h, Nat.add_comm]
theorem word_eq (b0 b1 b2 b3 : UInt8) : bits .or .u32 (bits .or .u32 (bits .or .u32 (IntKind.u32.wrap b0.toNat) (IntKind.u32.wrap (IntKind.u32.wrap b1.toNat * 256))) (IntKind.u32.wrap (IntKind.u32.wrap b2.toNat * 65536)))
    (IntKind.u32.wrap (IntKind.u32.wrap b3.toNat * 16777216)) = nm (wd b0 b1 b2 b3) := by
  have h0 := b0.toNat_lt; have h1 := b1.toNat_lt; have h2 := b2.toNat_lt; have h3 := b3.toNat_lt
  rw [nm_wd]
  have e0 : IntKind.u32.wrap b0.toNat = ((b0.toNat : Nat) : Int) := by rw [wrap_u32]; omega
  have e1 : IntKind.u32.wrap (IntKind.u32.wrap b1.toNat * 256) = ((b1.toNat * 2 ^ 8 : Nat) : Int) := by rw [wrap_u32, wrap_u32]; omega
  have e2 : IntKind.u32.wrap (IntKind.u32.wrap b2.toNat * 65536) = ((b2.toNat * 2 ^ 16 : Nat) : Int) := by rw [wrap_u32, wrap_u32]; omega
  have e3 : IntKind.u32.wrap (IntKind.u32.wrap b3.toNat * 16777216) = ((b3.toNat * 2 ^ 24 : Nat) : Int) := by rw [wrap_u32, wrap_u32]; omega
  rw [e0, e1, e2, e3, bits_or_nat _ _ (by omega) (by omega), or_add' _ _ _ (by omega), bits_or_nat _ _ (by omega) (by omega), or_add' _ _ _ (by omega), bits_or_nat _ _ (by omega) (by omega), or_add' _ _ _ (by omega)]
  omega

theorem ret_int {k : IntKind} {a b : Int} (h : a = b) : Ending.returned (.int k a) = .returned (.int k b) := by rw [h]

/-- the i-th word of a list. -/
def gt (v : List Wd) (i : Nat) : Wd := v.getD i 0
/-- a half step on four of sixteen words. -/
def hf (v : List Wd) (a b d k : Nat) : List Wd :=
  (v.set a (gt v a + gt v b)).set d (rl (gt (v.set a (gt v a + gt v b)) d ^^^ gt (v.set a (gt v a + gt v b)) a) k)
/-- a quarter round. -/
def qr (v : List Wd) (a b c d : Nat) : List Wd := hf (hf (hf (hf v a b d 16) c d b 12) a b d 8) c d b 7
theorem hf_len (v : List Wd) (a b d k : Nat) : (hf v a b d k).length = v.length := by simp [hf]
theorem qr_len (v : List Wd) (a b c d : Nat) : (qr v a b c d).length = v.length := by simp [qr, hf_len]

/-- the cells of sixteen words. -/
def cells (v : List Wd) : Array Value := (v.map cw).toArray
def cells64 (v : List Wd) : Array Value := (v.map cq).toArray
theorem cells_size (v : List Wd) : (cells v).size = v.length := by simp [cells]
theorem cells_get (v : List Wd) (i : Nat) (h : i < v.length) : (cells v)[i]? = some (.int .u32 (nm (gt v i))) := by
  simp [cells, gt, cw, h]
theorem cells_set (v : List Wd) (i : Nat) (x : Wd) : (cells v).setIfInBounds i (.int .u32 (nm x)) = cells (v.set i x) := by
  simp [cells, cw, List.map_set]
theorem cells64_set (v : List Wd) (i : Nat) (x : Wd) : (cells64 v).setIfInBounds i (.int .u64 (nm x)) = cells64 (v.set i x) := by
  simp [cells64, cq, List.map_set]
theorem gt_set (v : List Wd) (i j : Nat) (x : Wd) (h : i < v.length) : gt (v.set i x) j = if i = j then x else gt v j := by
  unfold gt; simp only [List.getD_eq_getElem?_getD, List.getElem?_set]; split <;> simp_all

/-- the cells of bytes. -/
def cb (b : UInt8) : Value := .int .u8 (b.toNat : Int)
def cells8 (l : List UInt8) : Array Value := (l.map cb).toArray
def bt (l : List UInt8) (i : Nat) : UInt8 := l.getD i 0
theorem cells8_size (l : List UInt8) : (cells8 l).size = l.length := by simp [cells8]
theorem cells8_get (l : List UInt8) (i : Nat) (h : i < l.length) : (cells8 l)[i]? = some (.int .u8 ((bt l i).toNat : Int)) := by
  simp [cells8, bt, cb, h]
theorem cells8_set (l : List UInt8) (i : Nat) (x : UInt8) : (cells8 l).setIfInBounds i (.int .u8 (x.toNat : Int)) = cells8 (l.set i x) := by
  simp [cells8, cb, List.map_set]
/-- the word at a place of bytes. -/
def wdAt (l : List UInt8) (j : Nat) : Wd := wd (bt l j) (bt l (j + 1)) (bt l (j + 2)) (bt l (j + 3))
def base16 : List Wd := [1634760805#32, 857760878#32, 2036477234#32, 1797285236#32, 0, 0, 0, 0, 0, 0, 0, 0, 0, 0, 0, 0]
/-- the words of bytes, from a place on, so many. -/
def putWs (l : List UInt8) (at_ : Nat) (v : List Wd) : Nat → List Wd
  | 0 => v
  | i + 1 => (putWs l at_ v i).set (at_ + i) (wdAt l (4 * i))
theorem putWs_len (l : List UInt8) (p : Nat) (v : List Wd) (i : Nat) : (putWs l p v i).length = v.length := by
  induction i with
  | zero => rfl
  | succ i ih => simp [putWs, ih]
/-- the sixteen words that a block begins with. -/
def fst16 (k nonce : List UInt8) (n : Wd) : List Wd := putWs nonce 13 ((putWs k 4 base16 8).set 12 n) 3
theorem fst16_len (k nonce : List UInt8) (n : Wd) : (fst16 k nonce n).length = 16 := by simp [fst16, putWs_len, base16]

/-- block g is just the cells cs of type t, none frozen. -/
def Blk (w : World) (g : Nat) (t : TypeId) (cs : Array Value) : Prop := w.heap[g]? = some (.cells cs t (0, 0))

section
variable {w w' : World} {g : Nat} {t : TypeId} {cs : Array Value}
theorem Blk.lt (h : Blk w g t cs) : g < w.heap.size := by
  rcases Nat.lt_or_ge g w.heap.size with hlt | hge
  · exact hlt
  · unfold Blk at h; rw [Array.getElem?_eq_none hge] at h; cases h
theorem Blk.cell (h : Blk w g t cs) (i : Nat) : w.cell? ⟨g, i, none⟩ = cs[i]? := cell_of_row w g i cs t (0, 0) h
theorem Blk.frozen (h : Blk w g t cs) (i : Nat) : w.frozen? ⟨g, i, none⟩ = false := by
  unfold Blk at h
  simp [World.frozen?, h]
theorem Blk.new (w : World) (t : TypeId) (cs : Array Value) : Blk (w.alloc (.cells cs t)) w.heap.size t cs := heap_alloc_new w _
theorem Blk.drew (h : Blk w g t cs) : Blk w.drew g t cs := h
theorem Blk.alloc (h : Blk w g t cs) (o : Obj) : Blk (w.alloc o) g t cs := (Below.heap_alloc w o g h.lt).trans h
theorem Blk.set_ (h : Blk w g t cs) (i : Nat) (u : Value) : Blk (w.setCell ⟨g, i, none⟩ u) g t (cs.setIfInBounds i u) := by
  unfold Blk at h ⊢
  simp [World.setCell, Array.getElem?_modify, h]
theorem Blk.far (h : Blk w g t cs) {p : Addr} (hp : g ≠ p.block) (u : Value) : Blk (w.setCell p u) g t cs := (Below.heap_setCell w p u g hp).trans h
theorem Blk.below {B : Nat} (h : Blk w g t cs) (hb : Below B w w') (hg : g < B) : Blk w' g t cs := (hb.block g hg).trans h
theorem Blk.grown {row : Option Nat} (h : Blk w g t cs) (hb : w.grownBy w' row) (hg : some g ≠ row) : Blk w' g t cs := (hb.block g h.lt hg).trans h
end

theorem grown_refl (w : World) (r : Option Nat) : w.grownBy w r := ⟨rfl, rfl, rfl, Nat.le_refl _, fun _ _ _ => rfl⟩
theorem grown_trans {a b c : World} {r : Option Nat} (h : a.grownBy b r) (k : b.grownBy c r) : a.grownBy c r :=
  ⟨k.os.trans h.os, k.tape.trans h.tape, k.output.trans h.output, Nat.le_trans h.size k.size, fun i hi hr => (k.block i (Nat.lt_of_lt_of_le hi h.size) hr).trans (h.block i hi hr)⟩
theorem grown_drew {a b : World} {r : Option Nat} (h : a.grownBy b r) : a.grownBy b.drew r := ⟨h.os, h.tape, h.output, h.size, h.block⟩
theorem grown_set {a b : World} {g : Nat} (h : a.grownBy b (some g)) (i : Nat) (v : Value) : a.grownBy (b.setCell ⟨g, i, none⟩ v) (some g) :=
  ⟨h.os, h.tape, h.output, by rw [World.size_setCell]; exact h.size, fun k hk hr => (Below.heap_setCell b ⟨g, i, none⟩ v k (fun e => hr (by rw [e]))).trans (h.block k hk hr)⟩

section
variable {P : Program} {w w' : World} {g : Nat} {t : TypeId} {cs cs' : Array Value}
theorem Blk.newAt (w : World) (t : TypeId) (cs : Array Value) {g : Nat} (hg : w.heap.size = g) : Blk (w.alloc (.cells cs t)) g t cs := by subst hg; exact Blk.new w t cs
theorem Blk.row (h : Blk w g t cs) (cs' : Array Value) : Blk (w.setRow g cs') g t cs' := setRow_heap w g cs cs' t (0, 0) h
theorem Blk.rowFar (h : Blk w g t cs) {g' : Nat} (hg : g ≠ g') (cs' : Array Value) : Blk (w.setRow g' cs') g t cs := (setRow_other w g' g cs' hg).trans h
theorem below_row {B : Nat} {w0 : World} (hb : Below B w0 w) (hBg : B ≤ g) (cs : Array Value) : Below B w0 (w.setRow g cs) :=
  ⟨hb.os, hb.tape, hb.output, by rw [setRow_size]; exact hb.size, fun k hk => (setRow_other w g k cs (by omega)).trans (hb.block k hk)⟩
theorem below_grown {B : Nat} {w0 : World} (hb : Below B w0 w) (hg : w.grownBy w' (some g)) (hBg : B ≤ g) (hB : B ≤ w.heap.size) : Below B w0 w' :=
  ⟨hg.os.trans hb.os, hg.tape.trans hb.tape, hg.output.trans hb.output, Nat.le_trans hb.size hg.size, fun k hk => (hg.block k (by omega) (fun e => by injection e; omega)).trans (hb.block k hk)⟩
theorem wpList_loadB {ops : Array Oper} {rest : List Oper} {o : Oper} {a : Act} {Q : Exit → Act → World → Prop} (hgd : o.guard = none) (ty : TypeId) (x : Operand) (ho : o.op = .load ty x)
    (g : Nat) (hx : a.eval x = .pointer (some ⟨g, 0, none⟩)) {t : TypeId} {cs : Array Value} (hg : Blk w g t cs) {d : TypeDesc} (hu : P.underlying ty = some d)
    (hd : (match d with | .struct _ | .array _ _ => true | _ => false) = true) {m : Nat} (hi : (P.info? ty).map (·.size) = some m) (hm : cs.size = m)
    (h : wpList P ops Q rest (a.put o.dst (.agg cs)) w) : wpList P ops Q (o :: rest) a w :=
  wpList_load_row hgd ty x ho g hx t cs (0, 0) d hg hu hd (by rw [hm]; exact hi) h
theorem wpList_storeB {ops : Array Oper} {rest : List Oper} {o : Oper} {a : Act} {Q : Exit → Act → World → Prop} (hgd : o.guard = none) (ty : TypeId) (x y : Operand) (ho : o.op = .store ty x y)
    (g : Nat) (cells : Array Value) (hx : a.eval x = .pointer (some ⟨g, 0, none⟩)) (hy : a.eval y = .agg cells)
    {t : TypeId} {old : Array Value} (hg : Blk w g t old) {m : Nat} (hi : (P.info? ty).map (·.size) = some m) (hm : cells.size = m) (hold : old.size = m) (h1 : cells.all (·.oneCell') = true)
    (h : wpList P ops Q rest (a.put o.dst undef) (w.setRow g cells)) : wpList P ops Q (o :: rest) a w :=
  wpList_store_row hgd ty x y ho g cells hx hy t old hg (by rw [hm]; exact hi) (by omega) h1 h
theorem wpList_storeNew {ops : Array Oper} {rest : List Oper} {o : Oper} {a : Act} {Q : Exit → Act → World → Prop} (hgd : o.guard = none) (ty : TypeId) (x y : Operand) (ho : o.op = .store ty x y)
    (w0 : World) (g : Nat) (hg : w0.heap.size = g) {c : Array Value} {t : TypeId} (hW : w = w0.alloc (.cells c t)) (cells : Array Value) (hx : a.eval x = .pointer (some ⟨g, 0, none⟩)) (hy : a.eval y = .agg cells)
    {m : Nat} (hi : (P.info? ty).map (·.size) = some m) (hm : cells.size = m) (hold : c.size = m) (h1 : cells.all (·.oneCell') = true)
    (h : wpList P ops Q rest (a.put o.dst undef) (w0.alloc (.cells cells t))) : wpList P ops Q (o :: rest) a w := by
  subst hg hW
  exact wpList_storeB hgd ty x y ho w0.heap.size cells hx hy (Blk.new w0 t c) hi hm hold h1 (by rw [World.setRow_alloc_new]; exact h)
theorem wpList_loadNew {ops : Array Oper} {rest : List Oper} {o : Oper} {a : Act} {Q : Exit → Act → World → Prop} (hgd : o.guard = none) (ty : TypeId) (x : Operand) (ho : o.op = .load ty x)
    (w0 : World) (g : Nat) (hg : w0.heap.size = g) {cs : Array Value} {t : TypeId} (hW : w = w0.alloc (.cells cs t)) (hx : a.eval x = .pointer (some ⟨g, 0, none⟩)) {d : TypeDesc} (hu : P.underlying ty = some d)
    (hd : (match d with | .struct _ | .array _ _ => true | _ => false) = true) {m : Nat} (hi : (P.info? ty).map (·.size) = some m) (hm : cs.size = m)
    (h : wpList P ops Q rest (a.put o.dst (.agg cs)) (w0.alloc (.cells cs t))) : wpList P ops Q (o :: rest) a w := by
  subst hg hW
  exact wpList_loadB hgd ty x ho w0.heap.size hx (Blk.new w0 t cs) hu hd hi hm h
theorem results_B {fn : Func} {p : Tmp} {ty : TypeId} (h : fn.results = #[.cell p ty]) (tmps : Array Value) {g : Nat}
    (hp : tmps.getD p undef = .pointer (some ⟨g, 0, none⟩)) {t : TypeId} {cs : Array Value} (hg : Blk w g t cs) {d : TypeDesc}
    (hu : P.underlying ty = some d) (hd : (match d with | .struct _ | .array _ _ => true | _ => false) = true) {m : Nat} (hi : (P.info? ty).map (·.size) = some m) (hm : cs.size = m) :
    (results fn tmps).run P w = .ok (.agg cs) w := results_cell_row h tmps w g t cs (0, 0) d hp hg hu hd (by rw [hm]; exact hi)
end
theorem cells_one (v : List Wd) : (cells v).all (·.oneCell') = true := by
  rw [Array.all_eq_true_iff_forall_mem]; intro x hx; simp [cells, cw] at hx; obtain ⟨y, _, rfl⟩ := hx; rfl
theorem cells8_one (v : List UInt8) : (cells8 v).all (·.oneCell') = true := by
  rw [Array.all_eq_true_iff_forall_mem]; intro x hx; simp [cells8, cb] at hx; obtain ⟨y, _, rfl⟩ := hx; rfl

section
variable {P : Program} {t e : TypeId} {n : Nat}
theorem arrLen_of (hu : P.underlying t = some (.array n e)) : P.arrayLen t = n ∧ P.elem t = e := by simp [Program.arrayLen, Program.elem, hu]
theorem addr_add (g off i : Nat) : (⟨g, off, none⟩ : Addr).add i = ⟨g, off + i, none⟩ := by
  unfold Addr.add; split
  · subst_vars; rfl
  · rfl
/-- 'a[l:]' of an array in memory. -/
theorem run_sliceArr_l (hu : P.underlying t = some (.array n e)) (hs : ∀ w, (sizeOf e).run P w = .ok 1 w) (g off : Nat) (l : Int) (h0 : 0 ≤ l) (hl : l < n) (W : World) :
    (Instr.sliceAt t (.pointer (some ⟨g, off, none⟩)) (some (.int .i64 l)) none none).run P W = .ok (.slice (some ⟨g, off + l.toNat, none⟩) (n - l.toNat) (n - l.toNat)) W := by
  obtain ⟨h1, h2⟩ := arrLen_of hu
  have ht : P.underlying t = some (.array (P.arrayLen t) (P.elem t)) := by rw [h1, h2]; exact hu
  rw [run_sliceAt_array_l W t ⟨g, off, none⟩ ht .i64 l h0 (by rw [h1]; omega), h1, h2, hs W]
  simp only [Result.andThen, slicedAt]
  rw [if_neg (by omega), Nat.mul_one, addr_add]
/-- 'a[:h]'. -/
theorem run_sliceArr_h (hu : P.underlying t = some (.array n e)) (hs : ∀ w, (sizeOf e).run P w = .ok 1 w) (g off : Nat) (h : Int) (h0 : 0 ≤ h) (hh : h ≤ n) (hn : 0 < n) (W : World) :
    (Instr.sliceAt t (.pointer (some ⟨g, off, none⟩)) none (some (.int .i64 h)) none).run P W = .ok (.slice (some ⟨g, off, none⟩) h.toNat n) W := by
  obtain ⟨h1, h2⟩ := arrLen_of hu
  have ht : P.underlying t = some (.array (P.arrayLen t) (P.elem t)) := by rw [h1, h2]; exact hu
  rw [run_sliceAt_array_h W t ⟨g, off, none⟩ ht .i64 h h0 (by rw [h1]; omega), h1, h2, hs W]
  simp only [Result.andThen, slicedAt]
  rw [if_neg (by omega), Nat.zero_mul, addr_add, Nat.sub_zero, Nat.sub_zero, Nat.add_zero]
/-- 'a[:]'. -/
theorem run_sliceArr_all (hu : P.underlying t = some (.array n e)) (hs : ∀ w, (sizeOf e).run P w = .ok 1 w) (g off : Nat) (hn : 0 < n) (W : World) :
    (Instr.sliceAt t (.pointer (some ⟨g, off, none⟩)) none none none).run P W = .ok (.slice (some ⟨g, off, none⟩) n n) W := by
  obtain ⟨h1, h2⟩ := arrLen_of hu
  have ht : P.underlying t = some (.array (P.arrayLen t) (P.elem t)) := by rw [h1, h2]; exact hu
  rw [run_sliceAt_array_all W t ⟨g, off, none⟩ ht, h1, h2, hs W]
  simp only [Result.andThen, slicedAt]
  rw [if_neg (by omega), Nat.zero_mul, addr_add, Nat.sub_zero, Nat.add_zero]
end

/-- 'a[i]' of an array that is a value, each element one cell. -/
theorem run_indexAgg {P : Program} {t e : TypeId} {n : Nat} {d : TypeDesc} (hu : P.underlying t = some (.array n e)) (he : P.underlying e = some d) (hd : (match d with | .struct _ | .array _ _ => false | _ => true) = true)
    (hs : ∀ w, (sizeOf e).run P w = .ok 1 w) (cs : Array Value) (i : Nat) (hi : i < n) (v : Value) (hv : cs[i]? = some v) (k : IntKind) (W : World) :
    (Instr.index t (.agg cs) (.int k (i : Int))).run P W = .ok v W := by
  have h0 : (0 : Int) ≤ i ∧ (i : Int) < n := by omega
  have ha : (isAgg e).run P W = .ok false W := by
    unfold isAgg
    rw [Sem.run_bind, run_underlying he W]
    cases d <;> simp_all
  simp [Instr.index, asIntOf, run_underlying hu, h0, hs, part, ha, hv]
  exact fun h => absurd h (by omega)

/-- a double round. -/
def dbl (v : List Wd) : List Wd :=
  qr (qr (qr (qr (qr (qr (qr (qr v 0 4 8 12) 1 5 9 13) 2 6 10 14) 3 7 11 15) 0 5 10 15) 1 6 11 12) 2 7 8 13) 3 4 9 14
def rnds (v : List Wd) : Nat → List Wd
  | 0 => v
  | i + 1 => dbl (rnds v i)
theorem dbl_len (v : List Wd) : (dbl v).length = v.length := by simp [dbl, qr_len]
theorem rnds_len (v : List Wd) (i : Nat) : (rnds v i).length = v.length := by
  induction i with
  | zero => rfl
  | succ i ih => simp [rnds, dbl_len, ih]
/-- a byte of a word. -/
def byteOf (x : Wd) (j : Nat) : UInt8 := UInt8.ofNat (x.toNat / 2 ^ (8 * j))
theorem byteOf_eq (x : Wd) (j : Nat) : IntKind.u8.wrap (nm x / 2 ^ (8 * j)) = ((byteOf x j).toNat : Int) := by
  rw [wrap_u8]; unfold nm byteOf
  rw [UInt8.toNat_ofNat', Int.natCast_emod, Int.natCast_ediv, Int.natCast_pow]; rfl
theorem byteOf_eq' (x : Wd) (j : Nat) : nm x / 2 ^ (8 * j) % 256 = ((byteOf x j).toNat : Int) := by rw [← byteOf_eq, wrap_u8]
/-- the bytes of the sums of words, up to the m-th. -/
def outs (v was : List Wd) : Nat → List UInt8
  | 0 => List.replicate 64 0
  | m + 1 => (outs v was m).set m (byteOf (gt v (m / 4) + gt was (m / 4)) (m % 4))
theorem outs_len (v was : List Wd) (m : Nat) : (outs v was m).length = 64 := by
  induction m with
  | zero => simp [outs]
  | succ m ih => simp [outs, ih]
/-- a block of the stream. -/
def chacha (k nonce : List UInt8) (n : Wd) : List UInt8 := outs (rnds (fst16 k nonce n) 10) (fst16 k nonce n) 64
theorem chacha_len (k nonce : List UInt8) (n : Wd) : (chacha k nonce n).length = 64 := outs_len _ _ _

end Go.Proofs.YtconhhhggckcbaaDoor
/- A law for regions that draw their order: where each operation, in the text's order, gives one value in every world that meets S, and leaves a world that meets S (a load of old memory, a call that only makes memory), then so does the region in whatever order; and with a tail of operations that wait for all the others. -/
namespace Go.Proofs.YtconhhhggckcbaaDoor
open Go

section
variable {P : Program} {ops : Array Oper} {md : Region.Mode} {S : World → Prop}

/-- how an operation may come out: v, and a world that meets S. -/
def GivesRes (P : Program) (S : World → Prop) (v : Value) : Result Next → Prop
  | .ok (.value u) w' => u = v ∧ S w'
  | .ok .skip w' => v = undef ∧ S w'
  | .ok (.enter f args) w' => Calls P f args w' fun e w'' => e = .returned v ∧ S w''
  | _ => False

def Gives (P : Program) (ops : Array Oper) (S : World → Prop) (o : Oper) (v : Value) (a : Act) : Prop :=
  (Region.wanted o (yielded ops a.tmps) = true ∧ ∀ w, S w → GivesRes P S v ((execOp a.eval o).run P w)) ∨ (Region.wanted o (yielded ops a.tmps) = false ∧ v = undef)

theorem Gives.same {o : Oper} {v : Value} {a a' : Act} (h : Gives P ops S o v a) (he : execOp a'.eval o = execOp a.eval o)
    (hw : Region.wanted o (yielded ops a'.tmps) = Region.wanted o (yielded ops a.tmps)) : Gives P ops S o v a' := by
  unfold Gives at *; rw [he, hw]; exact h

/-- in the text's order. -/
def wpVal (P : Program) (ops : Array Oper) (S : World → Prop) (Q : Act → Prop) : List Oper → Act → Prop
  | [], a => Q a
  | o :: rest, a => ∃ v, Gives P ops S o v a ∧ wpVal P ops S Q rest (a.put o.dst v)

/-- in whatever order: the first n operations come up, L holds then. -/
def anyVal (P : Program) (md : Region.Mode) (ops : Array Oper) (S : World → Prop) (n : Nat) (L : Array Bool → Act → Prop) : Nat → Array Bool → Act → Prop
  | 0, listed, a => L listed a
  | f + 1, listed, a => Region.ready md ops listed ≠ [] ∧ ∀ i ∈ Region.ready md ops listed, i < n ∧
      ∃ oi v, ops[i]? = some oi ∧ Gives P ops S oi v a ∧ anyVal P md ops S n L f (listed.setIfInBounds i true) (a.put oi.dst v)

theorem Gives.wpOp {i : Nat} {o : Oper} {v : Value} {a : Act} {w : World} {K : Act → World → Prop} {Q : Exit → Act → World → Prop} (hi : ops[i]? = some o) (h : Gives P ops S o v a)
    (hS : S w) (hK : ∀ w', S w' → K (a.put o.dst v) w') : Go.wpOp P ops Q i K a w := by
  unfold Go.wpOp
  simp only [hi]
  rcases h with ⟨hw, hv⟩ | ⟨hw, rfl⟩
  · rw [if_pos hw]
    left
    have h1 := hv w hS
    unfold Oper.wp
    generalize (execOp a.eval o).run P w = r at h1
    cases r with
    | ok x w' =>
      cases x <;> simp only [GivesRes] at h1
      case value u => obtain ⟨rfl, h2⟩ := h1; exact hK _ h2
      case skip => obtain ⟨rfl, h2⟩ := h1; exact hK _ h2
      case enter f args =>
        show Calls P f args w' _
        refine h1.mono ?_
        rintro e w'' ⟨rfl, h2⟩
        exact hK _ h2
    | halt x w' => simp only [GivesRes] at h1
  · rw [if_neg (by rw [hw]; decide)]; exact hK _ hS

theorem headInv0 (n : Nat) : HeadInv md ops n (Array.replicate ops.size false) :=
  ⟨by simp, fun j oj _ hl => (by rw [getD_replicate_false] at hl; cases hl), fun t _ ht => getD_in (by simpa using ht) (getD_replicate_false _ _)⟩

/-! The same where the first p operations give their values in whatever world (plain moves), and a tail need not wait for these. -/
def sinkFrom (md : Region.Mode) (ops : Array Oper) (p n : Nat) : Bool :=
  (List.range n).all fun i => decide (i < p) || (List.range (n + 1)).any fun j => decide (i < j) && Region.waitsFor md ops j i
/-- all before p are listed. -/
def PreInv (md : Region.Mode) (ops : Array Oper) (p n : Nat) (listed : Array Bool) : Prop := HeadInv md ops n listed ∧ ∀ i, i < p → listed.getD i false = true

theorem PreInv.set {p n j : Nat} {listed : Array Bool} (h : PreInv md ops p n listed) (hj : j ∈ Region.ready md ops listed) (hn : j < n) : PreInv md ops p n (listed.setIfInBounds j true) :=
  ⟨h.1.set hj hn, fun i hi => getD_set_true (h.2 i hi)⟩

/-- one first operation that gives its value in whatever world, then a head and a tail. -/
def preTailB (ops : Array Oper) (n : Nat) : Bool :=
  Region.noSelect ops && decide (n < ops.size) && decide (1 ≤ n) && sinkFrom .any ops 1 n && Region.chainB .any ops n && (Region.ready .any ops (Array.replicate ops.size false)).contains 0 && Region.free .any ops (Array.replicate ops.size false) 0 &&
    Region.lexHead .any ops (ops.size - n) (n - 1) 1 ((Array.replicate ops.size false).setIfInBounds 0 true)

end
end Go.Proofs.YtconhhhggckcbaaDoor
/- A second law for regions that draw their order: first come operations that only read (what they give holds in every world that meets S), behind them a chain of operations, each waiting for the one ahead of it, each keeping S. -/
namespace Go.Proofs.YtconhhhggckcbaaDoor
open Go

section
variable {P : Program} {ops : Array Oper} {md : Region.Mode} {S : World → Prop} {Q : Exit → Act → World → Prop}

/-- the chain, S shown behind each operation. -/
def wpListS (P : Program) (ops : Array Oper) (Q : Exit → Act → World → Prop) (S : World → Prop) : List Oper → Act → World → Prop
  | [], a, w => Q .normal a w
  | o :: rest, a, w => if Region.wanted o (yielded ops a.tmps) then o.wp P a w (fun a' w' => S w' ∧ wpListS P ops Q S rest a' w') Q else S w ∧ wpListS P ops Q S rest (a.put o.dst undef) w

/-- the readers, in the text's order. -/
def wpTake (P : Program) (ops : Array Oper) (S : World → Prop) (K : Act → Prop) : List Oper → Act → Prop
  | [], a => K a
  | o :: rest, a => ∃ v, YieldsIf P ops S o v a ∧ wpTake P ops S K rest (a.put o.dst v)

def takeSeqB (ops : Array Oper) (n : Nat) : Bool :=
  Region.noSelect ops && decide (n ≤ ops.size) && Region.lexHead .any ops (ops.size - n) n 0 (Array.replicate ops.size false)

end
end Go.Proofs.YtconhhhggckcbaaDoor
/- Plain mathematics of the stream (bytes, turned), and byte buffers in memory; no program in sight. -/
namespace Go.Proofs.YtconhhhggckcbaaDoor
open Go.RowKit

/-- the stream's byte at a place. -/
def sx (k nonce : List UInt8) (n : Wd) (i : Nat) : UInt8 := bt (chacha k nonce (n + BitVec.ofNat 32 (i / 64))) (i % 64)
/-- the first m bytes of data, turned; the others as they are. -/
def xorTo (k nonce : List UInt8) (n : Wd) (data : List UInt8) : Nat → List UInt8
  | 0 => data
  | m + 1 => (xorTo k nonce n data m).set m (bt data m ^^^ sx k nonce n m)
/-- bytes, turned. -/
def xorS (k nonce : List UInt8) (n : Wd) (data : List UInt8) : List UInt8 := xorTo k nonce n data data.length
theorem xorTo_len (k nonce : List UInt8) (n : Wd) (data : List UInt8) (m : Nat) : (xorTo k nonce n data m).length = data.length := by
  induction m with
  | zero => rfl
  | succ m ih => simp [xorTo, ih]
theorem xorS_len (k nonce : List UInt8) (n : Wd) (data : List UInt8) : (xorS k nonce n data).length = data.length := xorTo_len _ _ _ _ _
theorem bt_set (l : List UInt8) (i j : Nat) (x : UInt8) (h : i < l.length) : bt (l.set i x) j = if i = j then x else bt l j := by
  unfold bt; simp only [List.getD_eq_getElem?_getD, List.getElem?_set]; split <;> simp_all
theorem xorTo_at (k nonce : List UInt8) (n : Wd) (data : List UInt8) (m : Nat) (hm : m ≤ data.length) (j : Nat) :
    bt (xorTo k nonce n data m) j = if j < m then bt data j ^^^ sx k nonce n j else bt data j := by
  induction m with
  | zero => simp [xorTo]
  | succ m ih =>
    rw [xorTo, bt_set _ _ _ _ (by rw [xorTo_len]; omega), ih (by omega)]
    by_cases h : m = j
    · subst h; simp
    · rw [if_neg h]
      by_cases h2 : j < m
      · rw [if_pos h2, if_pos (by omega)]
      · rw [if_neg h2, if_neg (by omega)]
theorem xorS_at (k nonce : List UInt8) (n : Wd) (data : List UInt8) (j : Nat) (hj : j < data.length) : bt (xorS k nonce n data) j = bt data j ^^^ sx k nonce n j := by
  unfold xorS; rw [xorTo_at _ _ _ _ _ (Nat.le_refl _), if_pos hj]
theorem ext_bt {l m : List UInt8} (h : l.length = m.length) (hb : ∀ i, i < l.length → bt l i = bt m i) : l = m := by
  apply List.ext_getElem h
  intro i h1 h2
  have := hb i h1
  simp [bt, h1, h2] at this
  exact this
theorem nm_succ (n : Wd) (j : Nat) : (nm (n + BitVec.ofNat 32 j) + 1) % 4294967296 = nm (n + BitVec.ofNat 32 (j + 1)) := by
  unfold nm; rw [BitVec.toNat_add, BitVec.toNat_add, BitVec.toNat_ofNat, BitVec.toNat_ofNat]; omega
theorem xor8 (a b : UInt8) : bits .xor .u8 (a.toNat : Int) (b.toNat : Int) = ((a ^^^ b).toNat : Int) := by
  have h : bits .xor .u8 (a.toNat : Int) (b.toNat : Int) = IntKind.u8.wrap (((BitVec.ofInt 8 (a.toNat : Int)) ^^^ (BitVec.ofInt 8 (b.toNat : Int))).toNat) := rfl
  have e : ∀ x : UInt8, BitVec.ofInt 8 (x.toNat : Int) = x.toBitVec := by
    intro x; apply BitVec.eq_of_toNat_eq; rw [BitVec.toNat_ofInt]; have := x.toNat_lt; show _ = x.toNat; omega
  rw [h, e, e, wrap_u8]
  have e2 : (a ^^^ b).toNat = (a.toBitVec ^^^ b.toBitVec).toNat := rfl
  have := (a.toBitVec ^^^ b.toBitVec).isLt
  omega

/-- block g holds the bytes l at its beginning; none of these cells is frozen. -/
def Buf (w : World) (g : Nat) (l : List UInt8) : Prop :=
  ∃ cs t fr, w.heap[g]? = some (.cells cs t fr) ∧ l.length ≤ cs.size ∧ (∀ j, j < l.length → cs[j]? = some (.int .u8 ((bt l j).toNat : Int))) ∧ (l.length ≤ fr.1 ∨ fr.2 ≤ fr.1)
section
variable {w w' : World} {g : Nat} {l : List UInt8}
theorem Buf.cell (h : Buf w g l) (j : Nat) (hj : j < l.length) : w.cell? ⟨g, j, none⟩ = some (.int .u8 ((bt l j).toNat : Int)) := by
  obtain ⟨cs, t, fr, h1, _, h2, _⟩ := h
  rw [cell_of_row w g j cs t fr h1]; exact h2 j hj
theorem Buf.frozen (h : Buf w g l) (j : Nat) (hj : j < l.length) : w.frozen? ⟨g, j, none⟩ = false := by
  obtain ⟨cs, t, fr, h1, _, _, h3⟩ := h
  obtain ⟨lo, hi⟩ := fr
  simp only [World.frozen?, h1]
  rcases h3 with h3 | h3 <;> simp at h3 ⊢ <;> omega
theorem Buf.lt (h : Buf w g l) : g < w.heap.size := by
  obtain ⟨cs, t, fr, h1, _⟩ := h
  rcases Nat.lt_or_ge g w.heap.size with hlt | hge
  · exact hlt
  · rw [Array.getElem?_eq_none hge] at h1; cases h1
theorem Buf.keep (h : Buf w g l) (hk : w'.heap[g]? = w.heap[g]?) : Buf w' g l := by
  obtain ⟨cs, t, fr, h1, h2⟩ := h
  exact ⟨cs, t, fr, by rw [hk]; exact h1, h2⟩
theorem Buf.drew (h : Buf w g l) : Buf w.drew g l := h
theorem Buf.alloc (h : Buf w g l) (o : Obj) : Buf (w.alloc o) g l := h.keep (Below.heap_alloc w o g h.lt)
theorem Buf.far (h : Buf w g l) {p : Addr} (hp : g ≠ p.block) (u : Value) : Buf (w.setCell p u) g l := h.keep (Below.heap_setCell w p u g hp)
theorem Buf.below {B : Nat} (h : Buf w g l) (hb : Below B w w') (hg : g < B) : Buf w' g l := h.keep (hb.block g hg)
theorem Buf.set_ (h : Buf w g l) (i : Nat) (x : UInt8) (hi : i < l.length) : Buf (w.setCell ⟨g, i, none⟩ (.int .u8 (x.toNat : Int))) g (l.set i x) := by
  obtain ⟨cs, t, fr, h1, h2, h3, h4⟩ := h
  refine ⟨cs.setIfInBounds i (.int .u8 (x.toNat : Int)), t, fr, ?_, by simp; exact h2, fun j hj => ?_, by simpa using h4⟩
  · simp [World.setCell, Array.getElem?_modify, h1]
  · rw [List.length_set] at hj
    rw [bt_set _ _ _ _ hi, Array.getElem?_setIfInBounds]
    by_cases e : i = j
    · subst e; rw [if_pos rfl, if_pos rfl, if_pos (by omega)]
    · rw [if_neg e, if_neg e]; exact h3 j hj
/-- what '[]byte(s)' lays. -/
theorem Buf.ofBytes (w : World) (l : List UInt8) (e : TypeId) (c g : Nat) (hg : w.heap.size = g) :
    Buf (w.alloc (.cells (bytesRow ⟨l.toArray⟩ c) e ((bytesRow ⟨l.toArray⟩ c).size, (bytesRow ⟨l.toArray⟩ c).size + 1))) g l := by
  subst hg
  have hs : l.length ≤ (bytesRow ⟨l.toArray⟩ c).size := by simp [bytesRow]
  refine ⟨_, _, _, heap_alloc_new w _, hs, fun j hj => ?_, .inl hs⟩
  simp [bytesRow, Array.getElem?_append, hj, bt]
end
end Go.Proofs.YtconhhhggckcbaaDoor
/- Plain laws of the stream: turned twice; in parts; two texts; zeros. -/
namespace Go.Proofs.YtconhhhggckcbaaDoor
open Go.RowKit

theorem xorS_back (k nonce : List UInt8) (n : Wd) (data : List UInt8) : xorS k nonce n (xorS k nonce n data) = data := by
  apply ext_bt
  · rw [xorS_len, xorS_len]
  · intro i hi
    rw [xorS_len, xorS_len] at hi
    rw [xorS_at _ _ _ _ _ (by rw [xorS_len]; exact hi), xorS_at _ _ _ _ _ hi, UInt8.xor_assoc, UInt8.xor_self, UInt8.xor_zero]
end Go.Proofs.YtconhhhggckcbaaDoor
/- Laws: 'copy' of a text into bytes in memory; 'clear' of bytes. -/
namespace Go.Proofs.YtconhhhggckcbaaDoor
open Go.RowKit

theorem run_copy_str {P : Program} (w : World) (dT sT ty elem : TypeId) (g o dLen dCap : Nat) (l : List UInt8) (cur : Array Value) (t : TypeId) (n : Nat)
    (hu : P.underlying dT = some (.slice elem)) (hs : (P.info? elem).map (·.size) = some 1) (hg : w.heap[g]? = some (.cells cur t (0, 0))) (hn : n = Nat.min l.length dLen) (hfit : o + n ≤ cur.size) :
    (Builtin.copy_ #[dT, sT] ty #[.slice (some ⟨g, o, none⟩) dLen dCap, .string ⟨l.toArray⟩]).run P w =
      .ok (.int .i64 (n : Int)) (w.setRow g (cur.toList.take o ++ (l.take n).map cb ++ cur.toList.drop (o + n)).toArray) := by
  have hln : ((l.take n).map cb).length = n := by rw [List.length_map, List.length_take, hn]; show min (min l.length dLen) l.length = min l.length dLen; omega
  have hst := run_storeCells_at P g o t ((l.take n).map cb) 0 cur w hg (by rw [hln]; simpa using hfit) (fun v hv => by
    simp only [List.mem_map] at hv
    obtain ⟨b, _, rfl⟩ := hv
    rfl)
  rw [hln] at hst
  simp only [Nat.add_zero] at hst
  have hmin : Nat.min l.length dLen = n := hn.symm
  have hsz : (⟨l.toArray⟩ : ByteArray).size = l.length := by show l.toArray.size = _; simp
  have htk : List.take n (List.map (fun b : UInt8 => Value.int IntKind.u8 (b.toNat : Int)) l) = (l.take n).map cb := by
    rw [← List.map_take]; rfl
  cases hq : P.info? elem with
  | none => simp [hq] at hs
  | some i =>
    simp [Builtin.copy_, run_underlying hu, Builtin.lenOf, Builtin.firstCells, sizeOf, typeInfo, hq, hsz, hmin]
    rw [htk, hst]
    simp [Result.andThen, goInt]

theorem wpList_copy_str {P : Program} {w : World} {ops : Array Oper} {rest : List Oper} {o : Oper} {a : Act} {Q : Exit → Act → World → Prop} (hgd : o.guard = none) (d s : Operand) (dT sT : TypeId)
    (ho : o.op = .call { callee := .builtin .copy, args := #[d, s], argTypes := #[dT, sT] }) (elem : TypeId) (hu : P.underlying dT = some (.slice elem)) (hsz : (P.info? elem).map (·.size) = some 1)
    (g off dLen dCap : Nat) (l : List UInt8) (hd : a.eval d = .slice (some ⟨g, off, none⟩) dLen dCap) (hs : a.eval s = .string ⟨l.toArray⟩)
    (cur : Array Value) (t : TypeId) (hg : Blk w g t cur) (n : Nat) (hn : n = Nat.min l.length dLen) (hfit : off + n ≤ cur.size)
    (h : wpList P ops Q rest (a.put o.dst (.int .i64 (n : Int))) (w.setRow g (cur.toList.take off ++ (l.take n).map cb ++ cur.toList.drop (off + n)).toArray)) : wpList P ops Q (o :: rest) a w := by
  refine wpList_plain hgd fun K hK => ?_
  have hrun := run_copy_str (P := P) w dT sT o.type elem g off dLen dCap l cur t n hu hsz hg hn hfit
  generalize (cur.toList.take off ++ (l.take n).map cb ++ cur.toList.drop (off + n)).toArray = R at hrun h
  unfold Oper.wp
  simp [execOp, ho, resolve, invoke, builtin, hd, hs, hrun, Result.andThen]
  exact hK _ _ h

theorem run_clear {P : Program} (w : World) (t1 ty elem : TypeId) (g o n c : Nat) (cur : Array Value) (t : TypeId)
    (hu : P.underlying t1 = some (.slice elem)) (hz : ∀ w, (zeroValue elem).run P w = .ok (.int .u8 0) w) (hg : w.heap[g]? = some (.cells cur t (0, 0))) (hfit : o + n ≤ cur.size) :
    (Builtin.clear_ #[t1] ty #[.slice (some ⟨g, o, none⟩) n c]).run P w =
      .ok (.tuple #[]) (w.setRow g (cur.toList.take o ++ (List.replicate n (0 : UInt8)).map cb ++ cur.toList.drop (o + n)).toArray) := by
  have hln : ((List.replicate n (0 : UInt8)).map cb).length = n := by simp
  have hst := run_storeCells_at P g o t ((List.replicate n (0 : UInt8)).map cb) 0 cur w hg (by rw [hln]; simpa using hfit) (fun v hv => by
    simp only [List.mem_map] at hv
    obtain ⟨b, _, rfl⟩ := hv
    rfl)
  rw [hln] at hst
  simp only [Nat.add_zero] at hst
  have hzc : (Builtin.zeroCells #[.int .u8 0] n).toList = (List.replicate n (0 : UInt8)).map cb := by
    apply List.ext_getElem?
    intro i
    simp [Builtin.zeroCells, cb]
    by_cases hi : i < n
    · simp [hi, Nat.mod_one]
    · simp [hi]
  by_cases hn : n = 0
  · subst hn
    simp [Builtin.clear_, run_underlying hu]
    rw [setRow_self w g cur t (0, 0) hg]
  · obtain ⟨k, rfl⟩ : ∃ k, n = k + 1 := ⟨n - 1, by omega⟩
    simp only [Builtin.clear_]
    simp [run_underlying hu, hz, Value.cells]
    rw [hzc, hst]
    simp [Result.andThen]
end Go.Proofs.YtconhhhggckcbaaDoor
/- From a law's walk to its row: a law that answers true and leaves all old memory as it was meets its specification; arrays of bytes, opened. -/
namespace Go.Proofs.YtconhhhggckcbaaDoor
open Go.ChangeShapes Go.WideShapes Go.ChangeAt Go.RowKit

section
variable {H : Type} {enc : TypeId × Value → H} {P : Program} {W W' : World}
theorem trodAll_below (hl : laidOutB P = true) (hb : Below W.heap.size W W') : ∀ {ts : List TypeId} {vs : List Value} {ds : List (DataW H)} {ps : List MemPlace},
    (ts.all fun t => P.readableRec t && decide (t < P.types.size)) = true → DataW.TrodAll enc P W 0 (fun _ => true) true ts vs ds ps → (∀ x ∈ ps, x.block < W.heap.size) →
    DataW.TrodAll enc P W' 0 (fun b => decide (b < W.heap.size)) true ts vs ds ps
  | [], [], [], _, _, h, _ => h
  | [], _ :: _, _, _, _, h, _ => h.elim
  | [], [], _ :: _, _, _, h, _ => h.elim
  | _ :: _, [], _, _, _, h, _ => h.elim
  | _ :: _, _ :: _, [], _, _, h, _ => h.elim
  | t :: ts, v :: vs, d :: ds, ps, hr, h, hlt => by
    obtain ⟨p, q, h1, h2, rfl⟩ := h
    simp only [List.all_cons, Bool.and_eq_true, decide_eq_true_eq] at hr
    exact ⟨p, q, Below.trod hl hr.1.1 hr.1.2 h1 hb (fun x hx => hlt x (by simp [hx])), trodAll_below hl hb (by simpa [Bool.and_eq_true] using hr.2) h2 (fun x hx => hlt x (by simp [hx])), rfl⟩

theorem law_post {f : Func} {s : ChangeSpec} {args : Array Value} {ds gs : List (DataW H)} {before : List MemPlace} (hl : laidOutB P = true) (hr : (f.params.toList.all fun t => P.readableRec t && decide (t < P.types.size)) = true)
    (hv : varsRowed P s.vars = true) (hW : DataW.Whole enc P f.params.toList s.vars false W args.toList ds gs before) (hb : Below W.heap.size W W') {T : TypeId} (hres : f.resultTypes = #[T]) (hT : P.underlying T = some .bool)
    (h1 : (s.fn H (ds ++ gs)).results = [.lit (.bool true)]) (h2 : (s.fn H (ds ++ gs)).args = ds) (h3 : (s.fn H (ds ++ gs)).vars = gs) :
    s.post enc P f false true false false W args (.bool true) W' := by
  have hW0 := hW
  obtain ⟨p, q, hA, hV, rfl, hfz, hnd⟩ := hW
  have hlt := hW0.lt
  refine ⟨ds, gs, _, [], p, q, hW0, ?_, ?_, ?_, Below.frame hb _, fun h => by cases h⟩
  · rw [h1, hres]
    exact trodAll_mk1 (shut_bool hT true)
  · rw [h2]; exact trodAll_below hl hb hr hA (fun x hx => hlt x (by simp [hx]))
  · rw [h3]; exact Below.trodVars hl hb hv hV

/-- a cell's byte. -/
def byteV : Value → UInt8
  | .int _ z => UInt8.ofNat z.toNat
  | _ => 0
theorem byteV_cb (b : UInt8) : byteV (cb b) = b := by simp [byteV, cb]
end
end Go.Proofs.YtconhhhggckcbaaDoor
/- Texts as the walk spells them: bytes, sums, cuts; no program in sight. -/
namespace Go.Proofs.YtconhhhggckcbaaDoor
open Go.RowKit

/-- a text's bytes as the walk reads them. -/
theorem str_byte (l : List UInt8) (i : Nat) (h : i < (⟨l.toArray⟩ : ByteArray).size) : (⟨l.toArray⟩ : ByteArray)[i]'h = bt l i := by
  have hl : i < l.length := h
  show l.toArray[i] = bt l i
  simp [bt, hl]
theorem str_app (a b : List UInt8) : ((⟨a.toArray⟩ : ByteArray) ++ (⟨b.toArray⟩ : ByteArray)) = ⟨(a ++ b).toArray⟩ := by
  apply ByteArray.ext
  simp
theorem str_size (a : List UInt8) : (⟨a.toArray⟩ : ByteArray).size = a.length := by show a.toArray.size = _; simp
theorem str_drop (s : List UInt8) (a : Nat) : (⟨s.toArray⟩ : ByteArray).extract a s.length = ⟨(s.drop a).toArray⟩ := by
  rw [Lib.extract_mk, List.take_of_length_le (by rw [List.length_drop]; omega)]
theorem str_mid (s : List UInt8) (a b : Nat) : (⟨s.toArray⟩ : ByteArray).extract a b = ⟨((s.drop a).take (b - a)).toArray⟩ := by
  rw [Lib.extract_mk]
end Go.Proofs.YtconhhhggckcbaaDoor
/- A law for regions that draw their order, in which values may hang on the order (a new block's address): each operation i leaves a value of which T i holds in the world behind it; T j stays true whatever the others do. Then, in whatever order, all T hold at the end. No program in sight. -/
namespace Go.Proofs.YtconhhhggckcbaaDoor
open Go

section
variable {P : Program} {l : List Oper}

/-- how an operation may come out: the world meets R, the value T. -/
def GivesT (P : Program) (R : World → Prop) (T : Value → World → Prop) : Result Next → Prop
  | .ok (.value v) w' => R w' ∧ T v w'
  | .ok .skip w' => R w' ∧ T undef w'
  | .ok (.enter f args) w' => Calls P f args w' fun e w'' => ∃ v, e = .returned v ∧ R w'' ∧ T v w''
  | _ => False

/-- no operation writes the slot. -/
def noDst (l : List Oper) (s : Nat) : Bool := l.all fun o => o.dst != some s
/-- each slot is written once, and lies in the frame; each operation waits for elder ones alone. -/
def looseB (l : List Oper) (n : Nat) : Bool :=
  ((List.range l.length).all fun i => match l[i]? with
    | some o => (match o.dst with | some s => decide (s < n) && (List.range l.length).all (fun j => j == i || (match l[j]? with | some oj => oj.dst != some s | none => true)) | none => true) &&
        o.after.all (fun e => !Region.binds .any e || decide (e.on < i))
    | none => true)

theorem looseB_dst {n i j s : Nat} {o oj : Oper} (h : looseB l n = true) (hi : l[i]? = some o) (hs : o.dst = some s) (hj : l[j]? = some oj) (hsj : oj.dst = some s) : j = i := by
  have hil := (List.getElem?_eq_some_iff.1 hi).1
  have hjl := (List.getElem?_eq_some_iff.1 hj).1
  have h1 := List.all_eq_true.1 h i (List.mem_range.2 hil)
  simp only [hi, hs, Bool.and_eq_true] at h1
  have h2 := List.all_eq_true.1 h1.1.2 j (List.mem_range.2 hjl)
  simp only [hj, Bool.or_eq_true, beq_iff_eq] at h2
  rcases h2 with h2 | h2
  · exact h2
  · rw [hsj] at h2; simp at h2
theorem looseB_lt {n i s : Nat} {o : Oper} (h : looseB l n = true) (hi : l[i]? = some o) (hs : o.dst = some s) : s < n := by
  have hil := (List.getElem?_eq_some_iff.1 hi).1
  have h1 := List.all_eq_true.1 h i (List.mem_range.2 hil)
  simp only [hi, hs, Bool.and_eq_true, decide_eq_true_eq] at h1
  exact h1.1.1
theorem looseB_after {n i : Nat} {o : Oper} (h : looseB l n = true) (hi : l[i]? = some o) : ∀ e ∈ o.after, Region.binds .any e = true → e.on < i := by
  have hil := (List.getElem?_eq_some_iff.1 hi).1
  have h1 := List.all_eq_true.1 h i (List.mem_range.2 hil)
  simp only [hi, Bool.and_eq_true] at h1
  intro e he hb
  have h2 := Array.all_eq_true_iff_forall_mem.1 h1.2 e he
  simpa [hb] using h2

/-- how many are not listed yet. -/
def openN (n : Nat) (listed : Array Bool) : Nat := ((List.range n).filter fun i => listed.getD i true == false).length
theorem openN_set (n : Nat) (listed : Array Bool) (i : Nat) (hi : i < n) (hs : listed.size = n) (hu : listed.getD i true = false) : openN n listed = openN n (listed.setIfInBounds i true) + 1 := by
  unfold openN
  have key : ∀ m, (((List.range m).filter fun k => listed.getD k true == false).length = ((List.range m).filter fun k => (listed.setIfInBounds i true).getD k true == false).length + if i < m then 1 else 0) := by
    intro m
    induction m with
    | zero => simp
    | succ m ih =>
      rw [List.range_succ, List.filter_append, List.filter_append, List.length_append, List.length_append, ih]
      by_cases hm : m = i
      · subst hm
        have e1 : (listed.setIfInBounds m true).getD m true = true := by simp [hs, hi]
        rw [List.filter_cons, List.filter_cons, hu, e1]
        simp
      · have e1 : (listed.setIfInBounds i true).getD m true = listed.getD m true := by
          simp only [Array.getD_eq_getD_getElem?, Array.getElem?_setIfInBounds]
          rw [if_neg (fun h => hm h.symm)]
        have e2 : ([m].filter fun k => (listed.setIfInBounds i true).getD k true == false) = ([m].filter fun k => listed.getD k true == false) := by
          rw [List.filter_cons, List.filter_cons, e1]; rfl
        rw [e2]
        by_cases h1 : i < m
        · rw [if_pos h1, if_pos (by omega)]; omega
        · rw [if_neg h1, if_neg (by omega)]; omega
  rw [key n, if_pos hi]

theorem ready_of_open {n : Nat} {listed : Array Bool} (h : looseB l n = true) (hs : listed.size = l.length) (ho : openN l.length listed ≠ 0) : Region.ready .any l.toArray listed ≠ [] := by
  -- the first that is not listed waits for nothing
  have hex : ∃ i, i < l.length ∧ listed.getD i true = false := by
    unfold openN at ho
    have : ((List.range l.length).filter fun i => listed.getD i true == false) ≠ [] := fun e => ho (by rw [e]; rfl)
    obtain ⟨i, hi⟩ := List.exists_mem_of_ne_nil _ this
    rw [List.mem_filter, List.mem_range] at hi
    exact ⟨i, hi.1, by simpa using hi.2⟩
  have hmin : ∀ k, ∀ i, i ≤ k → i < l.length → listed.getD i true = false → ∃ m, m < l.length ∧ listed.getD m true = false ∧ ∀ j, j < m → listed.getD j true = true := by
    intro k
    induction k with
    | zero => intro i hi hl hu; exact ⟨i, hl, hu, fun j hj => by omega⟩
    | succ k ih =>
      intro i hi hl hu
      by_cases hall : ∀ j, j < i → listed.getD j true = true
      · exact ⟨i, hl, hu, hall⟩
      · have : ∃ j, j < i ∧ listed.getD j true = false := by
          refine Classical.byContradiction fun hc => hall fun j hj => ?_
          cases hj' : listed.getD j true with
          | true => rfl
          | false => exact absurd ⟨j, hj, hj'⟩ hc
        obtain ⟨j, hj, hj'⟩ := this
        exact ih j (by omega) (by omega) hj'
  obtain ⟨i, hi, hu⟩ := hex
  obtain ⟨m, hm, hmu, hall⟩ := hmin i i (Nat.le_refl _) hi hu
  have hmem : m ∈ Region.ready .any l.toArray listed := by
    rw [mem_ready]
    have hop : l.toArray[m]? = some l[m] := by simp [hm]
    refine ⟨hmu, l[m], hop, fun e he hb => ?_⟩
    have hlt := looseB_after h (List.getElem?_eq_getElem hm) e he hb
    have := hall e.on hlt
    have hsz : e.on < listed.size := by omega
    simp only [Array.getD_eq_getD_getElem?, Array.getElem?_eq_getElem hsz, Option.getD_some] at this ⊢
    exact this
  intro e
  rw [e] at hmem
  cases hmem

/-- what is known of a frame. -/
structure Known (l : List Oper) (a0 : Act) (T : Nat → Value → World → Prop) (L : Nat → Bool) (a : Act) (W : World) : Prop where
  size : a.tmps.size = a0.tmps.size
  defers : a.defers = a0.defers
  old : ∀ s, (∀ i o, l[i]? = some o → L i = true → o.dst ≠ some s) → a.tmps[s]? = a0.tmps[s]?
  new : ∀ i o s, l[i]? = some o → L i = true → o.dst = some s → ∃ v, a.tmps[s]? = some v ∧ T i v W
  mem : ∀ i o, l[i]? = some o → L i = true → o.dst = none → T i undef W

theorem Known.put {a0 a : Act} {T : Nat → Value → World → Prop} {listed : Array Bool} {W W' : World} {i n : Nat} {o : Oper} {v : Value} (hB : looseB l n = true) (hn : a0.tmps.size = n) (hi : l[i]? = some o) (hsz : listed.size = l.length)
    (h : Known l a0 T (fun j => listed.getD j false) a W) (hun : listed.getD i true = false) (hT : ∀ j u, j ≠ i → T j u W → T j u W') (hv : T i v W') (hvn : o.dst = none → T i undef W') :
    Known l a0 T (fun j => (listed.setIfInBounds i true).getD j false) (a.put o.dst v) W' := by
  have hil := (List.getElem?_eq_some_iff.1 hi).1
  have hL : ∀ j, (listed.setIfInBounds i true).getD j false = true ↔ j = i ∨ listed.getD j false = true := by
    intro j
    by_cases hj : i = j
    · subst hj; simp [hsz, hil]
    · simp only [Array.getD_eq_getD_getElem?, Array.getElem?_setIfInBounds]
      rw [if_neg hj]
      constructor
      · exact .inr
      · rintro (h | h)
        · exact absurd h.symm hj
        · exact h
  have hnot : listed.getD i false = false := by
    have : i < listed.size := by omega
    simp only [Array.getD_eq_getD_getElem?, Array.getElem?_eq_getElem this, Option.getD_some] at hun ⊢
    exact hun
  constructor
  · cases hd : o.dst with
    | none => simpa [Act.put] using h.size
    | some d => simpa [Act.put] using h.size
  · cases hd : o.dst with
    | none => simpa [Act.put] using h.defers
    | some d => simpa [Act.put] using h.defers
  · intro s hs
    have h1 := h.old s (fun j oj hj hl => hs j oj hj ((hL j).2 (.inr hl)))
    have h2 := hs i o hi ((hL i).2 (.inl rfl))
    cases hd : o.dst with
    | none => simpa [Act.put] using h1
    | some d =>
      have hne : d ≠ s := fun e => h2 (by rw [hd, e])
      simp only [Act.put, Array.getElem?_setIfInBounds]
      rw [if_neg hne]; exact h1
  · intro j oj s hj hl hs
    rcases (hL j).1 hl with rfl | hl'
    · have e1 : oj = o := Option.some.inj (hj.symm.trans hi)
      subst e1
      refine ⟨v, ?_, hv⟩
      have hlt := looseB_lt hB hj hs
      simp only [hs, Act.put, Array.getElem?_setIfInBounds]
      rw [if_pos trivial, if_pos (by rw [h.size]; omega)]
    · have hne : j ≠ i := fun e => by subst e; rw [hnot] at hl'; cases hl'
      obtain ⟨u, hu, hTu⟩ := h.new j oj s hj hl' hs
      refine ⟨u, ?_, hT j u hne hTu⟩
      cases hd : o.dst with
      | none => simpa [Act.put] using hu
      | some d =>
        have hds : d ≠ s := fun e => hne (looseB_dst hB hi (by rw [hd, e]) hj hs)
        simp only [Act.put, Array.getElem?_setIfInBounds]
        rw [if_neg hds]; exact hu
  · intro j oj hj hl hs
    rcases (hL j).1 hl with rfl | hl'
    · have e1 : oj = o := Option.some.inj (hj.symm.trans hi)
      subst e1
      exact hvn hs
    · have hne : j ≠ i := fun e => by subst e; rw [hnot] at hl'; cases hl'
      exact hT j undef hne (h.mem j oj hj hl' hs)

/-- what an operation is asked for. -/
def Asks (P : Program) (l : List Oper) (a0 : Act) (S : World → Prop) (T : Nat → Value → World → Prop) (R : Nat → World → World → Prop) (i : Nat) (o : Oper) : Prop :=
  ∀ (a : Act) (W : World), S W → (∀ s v, noDst l s = true → a0.tmps[s]? = some v → a.tmps[s]? = some v) → (∀ j, Region.waitsFor .any l.toArray i j = true → ∀ oj s, l[j]? = some oj → oj.dst = some s → ∃ v, a.tmps[s]? = some v ∧ T j v W) →
    (∀ j, Region.waitsFor .any l.toArray i j = true → ∀ oj, l[j]? = some oj → oj.dst = none → T j undef W) →
    (Region.wanted o (yielded l.toArray a.tmps) = true ∧ GivesT P (R i W) (T i) ((execOp a.eval o).run P W)) ∨ (Region.wanted o (yielded l.toArray a.tmps) = false ∧ T i undef W)

theorem wp_region_loose {id : Nat} {Q : Exit → Act → World → Prop} {a0 : Act} {w : World} (n : Nat) (hm : P.follows .mixedOrders = true) (hB : looseB l n = true) (hn : a0.tmps.size = n)
    (S : World → Prop) (T : Nat → Value → World → Prop) (R : Nat → World → World → Prop) (hS : S w.drew) (hRS : ∀ i W W', S W → R i W W' → S W') (hRT : ∀ i j v W W', j ≠ i → S W → R i W W' → T j v W → T j v W')
    (hdn : ∀ i o, l[i]? = some o → o.dst = none → ∀ v W, T i v W → T i undef W) (hop : ∀ i o, l[i]? = some o → Asks P l a0 S T R i o)
    (hend : ∀ a W, S W → Known l a0 T (fun _ => true) a W → Q .normal a W) : (Code.region id l.toArray true).wp P Q a0 w := by
  refine wp_region_any hm ?_
  have main : ∀ (f : Nat) (listed : Array Bool) (a : Act) (W : World), listed.size = l.length → openN l.length listed = f → S W → Known l a0 T (fun j => listed.getD j false) a W →
      (∀ j, j < l.length → listed.getD j false = true → True) → wpAny P .any l.toArray Q f listed a W := by
    intro f
    induction f with
    | zero =>
      intro listed a W hsz hf hSW hK _
      have hno : Region.ready .any l.toArray listed = [] := by
        refine Classical.byContradiction fun hc => ?_
        obtain ⟨j, hj⟩ := List.exists_mem_of_ne_nil _ hc
        obtain ⟨hu, o, ho, _⟩ := mem_ready.1 hj
        have hjl : j < l.length := by simpa using (Array.getElem?_eq_some_iff.1 ho).1
        have := openN_set l.length listed j hjl hsz hu
        omega
      refine ⟨hno, hend a W hSW ?_⟩
      have hall : ∀ j, j < l.length → listed.getD j false = true := by
        intro j hj
        have hjs : j < listed.size := by omega
        cases hu : listed.getD j true with
        | true =>
          simp only [Array.getD_eq_getD_getElem?, Array.getElem?_eq_getElem hjs, Option.getD_some] at hu ⊢
          exact hu
        | false =>
          have := openN_set l.length listed j hj hsz hu
          omega
      exact ⟨hK.size, hK.defers, fun s hs => hK.old s (fun i o hi _ => hs i o hi rfl), fun i o s hi _ hs => hK.new i o s hi (hall i (List.getElem?_eq_some_iff.1 hi).1) hs, fun i o hi _ hs => hK.mem i o hi (hall i (List.getElem?_eq_some_iff.1 hi).1) hs⟩
    | succ f ih =>
      intro listed a W hsz hf hSW hK _
      refine ⟨fun h => absurd h (ready_of_open hB hsz (by omega)), fun i hi => ?_⟩
      obtain ⟨hu, o, ho, hwait⟩ := mem_ready.1 hi
      have hio : l[i]? = some o := by simpa using ho
      have hil := (List.getElem?_eq_some_iff.1 hio).1
      have hstep : ∀ v W', R i W W' ∨ W' = W → T i v W' → wpAny P .any l.toArray Q f (listed.setIfInBounds i true) (a.put o.dst v) W' := by
        intro v W' hR hTv
        have hS' : S W' := by
          rcases hR with hR | rfl
          · exact hRS i W W' hSW hR
          · exact hSW
        refine ih _ _ _ (by simpa using hsz) (by have := openN_set l.length listed i hil hsz hu; omega) hS' ?_ (fun _ _ _ => trivial)
        refine hK.put hB hn hio hsz hu (fun j u hne hTj => ?_) hTv (fun hd => hdn i o hio hd v W' hTv)
        rcases hR with hR | rfl
        · exact hRT i j u W W' hne hSW hR hTj
        · exact hTj
      have hlist : ∀ j, Region.waitsFor .any l.toArray i j = true → listed.getD j false = true := by
        intro j hj
        obtain ⟨o', ho', e, he, hb, hon⟩ := Region.waitsFor_spec hj
        have e1 : o' = o := Option.some.inj (ho'.symm.trans ho)
        subst e1
        rw [← hon]; exact hwait e he hb
      have hask := hop i o hio a W hSW (fun s v hs hv => by
          rw [hK.old s (fun j oj hj _ hd => by
            have := List.all_eq_true.1 hs oj (List.mem_of_getElem? hj)
            rw [hd] at this; simp at this)]
          exact hv)
        (fun j hj oj s hoj hs => hK.new j oj s hoj (hlist j hj) hs) (fun j hj oj hoj hs => hK.mem j oj hoj (hlist j hj) hs)
      unfold wpOp
      simp only [ho]
      rcases hask with ⟨hw, hg⟩ | ⟨hw, hT⟩
      · rw [if_pos hw]
        left
        unfold Oper.wp
        generalize (execOp a.eval o).run P W = r at hg
        cases r with
        | ok x w' =>
          cases x <;> simp only [GivesT] at hg
          case value u => exact hstep _ _ (.inl hg.1) hg.2
          case skip => exact hstep _ _ (.inl hg.1) hg.2
          case enter f' args =>
            show Calls P f' args w' _
            refine hg.mono ?_
            rintro e w'' ⟨v, rfl, h1, h2⟩
            exact hstep _ _ (.inl h1) h2
        | halt x w' => simp only [GivesT] at hg
      · rw [if_neg (by rw [hw]; decide)]
        exact hstep _ _ (.inr rfl) hT
  have h0 : openN l.length (Array.replicate l.toArray.size false) = l.toArray.size := by
    unfold openN
    have : ((List.range l.length).filter fun i => (Array.replicate l.toArray.size false).getD i true == false) = List.range l.length := by
      apply List.filter_eq_self.2
      intro i hi
      rw [List.mem_range] at hi
      simp [hi]
    rw [this]; simp
  refine main _ _ _ _ (by simp) h0 hS ⟨rfl, rfl, fun s _ => rfl, fun i o s hi hl => ?_, fun i o hi hl => ?_⟩ (fun _ _ _ => trivial)
  · rw [getD_replicate_false] at hl; cases hl
  · rw [getD_replicate_false] at hl; cases hl
end
end Go.Proofs.YtconhhhggckcbaaDoor
/- Steps of regions that draw their order: whole arrays read, arrays held against each other; no program in sight. -/
namespace Go.Proofs.YtconhhhggckcbaaDoor
open Go.RowKit

section
variable {P : Program} {S : World → Prop}
end
end Go.Proofs.YtconhhhggckcbaaDoor
/- Plain mathematics of BLAKE2s: a mix, a round, taking a block in, the digest of bytes; no program in sight. -/
namespace Go.Proofs.YtconhhhggckcbaaDoor
open Go.RowKit

/-- half a mix that adds x, too. -/
def hx (v : List Wd) (a b d : Nat) (x : Wd) (k : Nat) : List Wd :=
  (v.set a (gt v a + (gt v b + x))).set d (rl (gt (v.set a (gt v a + (gt v b + x))) d ^^^ gt (v.set a (gt v a + (gt v b + x))) a) k)
/-- a mix of four of sixteen words. -/
def mixS (v : List Wd) (a b c d : Nat) (x y : Wd) : List Wd := hf (hx (hf (hx v a b d x 16) c d b 20) a b d y 24) c d b 25
theorem hx_len (v : List Wd) (a b d : Nat) (x : Wd) (k : Nat) : (hx v a b d x k).length = v.length := by simp [hx]
theorem mixS_len (v : List Wd) (a b c d : Nat) (x y : Wd) : (mixS v a b c d x y).length = v.length := by simp [mixS, hf_len, hx_len]

def eightV : List Wd := [1779033703#32, 3144134277#32, 1013904242#32, 2773480762#32, 1359893119#32, 2600822924#32, 528734635#32, 1541459225#32]
def sigma : List (List UInt8) := [
  [0, 1, 2, 3, 4, 5, 6, 7, 8, 9, 10, 11, 12, 13, 14, 15], [14, 10, 4, 8, 9, 15, 13, 6, 1, 12, 0, 2, 11, 7, 5, 3], [11, 8, 12, 0, 5, 2, 15, 13, 10, 14, 3, 6, 7, 1, 9, 4], [7, 9, 3, 1, 13, 12, 11, 14, 2, 6, 5, 10, 4, 0, 15, 8],
  [9, 0, 5, 7, 2, 4, 10, 15, 14, 1, 11, 12, 6, 8, 3, 13], [2, 12, 6, 10, 0, 11, 8, 3, 4, 13, 7, 5, 15, 14, 1, 9], [12, 5, 1, 15, 14, 13, 4, 10, 0, 7, 6, 3, 9, 2, 8, 11], [13, 11, 7, 14, 12, 1, 3, 9, 5, 0, 15, 4, 8, 6, 2, 10],
  [6, 15, 14, 9, 11, 3, 0, 8, 12, 2, 13, 7, 1, 4, 10, 5], [10, 2, 8, 4, 7, 6, 1, 5, 15, 11, 9, 14, 3, 12, 13, 0]]
/-- a sign of a row. -/
def sg (r i : Nat) : Nat := (bt (sigma.getD r []) i).toNat
/-- the word that a row names. -/
def mw (m : List Wd) (r i : Nat) : Wd := gt m (sg r i)
/-- a round. -/
def roundS (m v : List Wd) (r : Nat) : List Wd :=
  let v1 := mixS v 0 4 8 12 (mw m r 0) (mw m r 1)
  let v2 := mixS v1 1 5 9 13 (mw m r 2) (mw m r 3)
  let v3 := mixS v2 2 6 10 14 (mw m r 4) (mw m r 5)
  let v4 := mixS v3 3 7 11 15 (mw m r 6) (mw m r 7)
  let v5 := mixS v4 0 5 10 15 (mw m r 8) (mw m r 9)
  let v6 := mixS v5 1 6 11 12 (mw m r 10) (mw m r 11)
  let v7 := mixS v6 2 7 8 13 (mw m r 12) (mw m r 13)
  mixS v7 3 4 9 14 (mw m r 14) (mw m r 15)
def roundsS (m v : List Wd) : Nat → List Wd
  | 0 => v
  | r + 1 => roundS m (roundsS m v r) r
theorem roundS_len (m v : List Wd) (r : Nat) : (roundS m v r).length = v.length := by simp [roundS, mixS_len]
theorem roundsS_len (m v : List Wd) (r : Nat) : (roundsS m v r).length = v.length := by
  induction r with
  | zero => rfl
  | succ r ih => simp [roundsS, roundS_len, ih]

/-- a block's words, the first i of them. -/
def wordsTo (b : List UInt8) : Nat → List Wd
  | 0 => List.replicate 16 0
  | i + 1 => (wordsTo b i).set i (wdAt b (4 * i))
theorem wordsTo_len (b : List UInt8) (i : Nat) : (wordsTo b i).length = 16 := by
  induction i with
  | zero => rfl
  | succ i ih => simp [wordsTo, ih]
/-- what a block's sixteen words begin with. -/
def startV (h : List Wd) (t : Nat) (last : Bool) : List Wd :=
  let v := h ++ eightV
  let v := v.set 12 (gt v 12 ^^^ BitVec.ofNat 32 t)
  let v := v.set 13 (gt v 13 ^^^ BitVec.ofNat 32 (t / 4294967296))
  if last then v.set 14 (~~~ (gt v 14)) else v
theorem startV_len (h : List Wd) (t : Nat) (last : Bool) (hl : h.length = 8) : (startV h t last).length = 16 := by
  unfold startV; cases last <;> simp [hl, eightV]
/-- the first i words of what becomes of the eight. -/
def foldTo (h v : List Wd) : Nat → List Wd
  | 0 => h
  | i + 1 => (foldTo h v i).set i (gt h i ^^^ (gt v i ^^^ gt v (i + 8)))
theorem foldTo_len (h v : List Wd) (i : Nat) : (foldTo h v i).length = h.length := by
  induction i with
  | zero => rfl
  | succ i ih => simp [foldTo, ih]
theorem foldTo_at (h v : List Wd) (i j : Nat) (hij : i ≤ j) (hi : i ≤ h.length) : gt (foldTo h v i) j = gt h j := by
  induction i with
  | zero => rfl
  | succ i ih => rw [foldTo, gt_set _ _ _ _ (by rw [foldTo_len]; omega), if_neg (by omega), ih (by omega) (by omega)]
/-- a block is taken in. -/
def compress (h : List Wd) (b : List UInt8) (t : Nat) (last : Bool) : List Wd := foldTo h (roundsS (wordsTo b 16) (startV h t last) 10) 8
/-- bytes, filled up with noughts to a block. -/
def pad64 (b : List UInt8) : List UInt8 := b ++ List.replicate (64 - b.length) 0
/-- the eight words behind q blocks. -/
def hashTo (h0 : List Wd) (p : List UInt8) : Nat → List Wd
  | 0 => h0
  | q + 1 => compress (hashTo h0 p q) ((p.drop (64 * q)).take 64) (64 * (q + 1)) false
/-- how many blocks are taken in before the last one. -/
def full (n : Nat) : Nat := (n - 1) / 64
/-- the eight words of bytes. -/
def blake (h0 : List Wd) (p : List UInt8) : List Wd := compress (hashTo h0 p (full p.length)) (pad64 (p.drop (64 * full p.length))) p.length true
/-- eight words as bytes, the first m. -/
def outD (h : List Wd) : Nat → List UInt8
  | 0 => List.replicate 32 0
  | m + 1 => (outD h m).set m (byteOf (gt h (m / 4)) (m % 4))
theorem outD_len (h : List Wd) (m : Nat) : (outD h m).length = 32 := by
  induction m with
  | zero => rfl
  | succ m ih => simp [outD, ih]
def h0U : List Wd := eightV.set 0 (gt eightV 0 ^^^ 16842784#32)
def h0K : List Wd := eightV.set 0 ((gt eightV 0 ^^^ 16842784#32) ^^^ 8192#32)
/-- the digest of bytes, and that under a key. -/
def sumS (s : List UInt8) : List UInt8 := outD (blake h0U s) 32
def keyedS (k s : List UInt8) : List UInt8 := outD (blake h0K (k ++ List.replicate 32 0 ++ s)) 32
theorem keyedS_len (k s : List UInt8) : (keyedS k s).length = 32 := outD_len _ _
theorem hashTo_append (h0 : List Wd) (p s : List UInt8) (q : Nat) (hq : 64 * q ≤ p.length) : hashTo h0 (p ++ s) q = hashTo h0 p q := by
  induction q with
  | zero => rfl
  | succ q ih =>
    rw [hashTo, hashTo, ih (by omega)]
    congr 1
    rw [List.drop_append_of_le_length (by omega), List.take_append_of_le_length (by rw [List.length_drop]; omega)]
end Go.Proofs.YtconhhhggckcbaaDoor
/- Plain mathematics of rows of texts (layer 1) and of boxes (layer 4); no program in sight. -/
namespace Go.Proofs.YtconhhhggckcbaaDoor
open Go.RowKit

/-- a number as a length in bytes. -/
def lenB (n : Nat) : List UInt8 := if _h : n < 128 then [UInt8.ofNat n] else UInt8.ofNat (n % 128 + 128) :: lenB (n / 128)
  termination_by n
  decreasing_by omega
theorem lenB_lt (n : Nat) (h : n < 128) : lenB n = [UInt8.ofNat n] := by rw [lenB, dif_pos h]
theorem lenB_ge (n : Nat) (h : ¬ n < 128) : lenB n = UInt8.ofNat (n % 128 + 128) :: lenB (n / 128) := by rw [lenB, dif_neg h]
theorem lenB_len (n : Nat) : (lenB n).length ≤ n + 1 := by
  induction n using Nat.strongRecOn with
  | _ n ih =>
    by_cases h : n < 128
    · rw [lenB_lt n h]; simp
    · rw [lenB_ge n h, List.length_cons]
      have := ih (n / 128) (by omega)
      omega
/-- a row of texts as bytes. -/
def rowS (l : List (List UInt8)) : List UInt8 := l.flatMap fun s => lenB s.length ++ s
theorem rowS_len (l : List (List UInt8)) : (rowS l).length ≤ 2 * l.flatten.length + l.length := by
  unfold rowS
  induction l with
  | nil => simp
  | cons s l ih =>
    rw [List.flatMap_cons, List.length_append, List.length_append, List.flatten_cons, List.length_append, List.length_cons]
    have := lenB_len s.length
    omega
theorem rowS_snoc (l : List (List UInt8)) (i : Nat) (h : i < l.length) : rowS (l.take (i + 1)) = rowS (l.take i) ++ (lenB (l.getD i []).length ++ l.getD i []) := by
  unfold rowS
  rw [List.take_succ_eq_append_getElem h, List.flatMap_append]
  simp [h]
def cipherT : List UInt8 := [99, 105, 112, 104, 101, 114]
def tagT : List UInt8 := [116, 97, 103]
/-- a tag. -/
def tagS (k head ahead : List UInt8) : List UInt8 := keyedS (keyedS k tagT) (rowS [head, ahead])
theorem tagS_len (k head ahead : List UInt8) : (tagS k head ahead).length = 32 := keyedS_len _ _
/-- what stands ahead of a box's tag. -/
def aheadS (k nonce data : List UInt8) : List UInt8 := nonce ++ xorS (keyedS k cipherT) nonce 1 data
theorem aheadS_len (k nonce data : List UInt8) (hn : nonce.length = 12) : (aheadS k nonce data).length = data.length + 12 := by unfold aheadS; rw [List.length_append, xorS_len, hn]; omega
/-- a box. -/
def sealS (k nonce head data : List UInt8) : List UInt8 := aheadS k nonce data ++ tagS k head (aheadS k nonce data)
theorem sealS_len (k nonce head data : List UInt8) (hn : nonce.length = 12) : (sealS k nonce head data).length = data.length + 44 := by unfold sealS; rw [List.length_append, aheadS_len k nonce data hn, tagS_len]
/-- the first twelve bytes. -/
def nonceS (s : List UInt8) : List UInt8 := s.take 12 ++ List.replicate (12 - s.length) 0
theorem nonceS_len (s : List UInt8) : (nonceS s).length = 12 := by unfold nonceS; rw [List.length_append, List.length_take, List.length_replicate]; omega
end Go.Proofs.YtconhhhggckcbaaDoor
/- Plain mathematics of rows of texts that are read back (layer 1); no program in sight. -/
namespace Go.Proofs.YtconhhhggckcbaaDoor
open Go.RowKit

/-- the length that bytes begin with (k bytes of it stood ahead): the number, and the bytes behind it; or an error's number. -/
def lenP : Nat → List UInt8 → Except Int (Nat × List UInt8)
  | _, [] => .error 4
  | k, c :: r => if c.toNat < 128 then (if c.toNat = 0 ∧ 0 < k then .error 3 else .ok (c.toNat, r))
      else if k = 3 then .error 3 else match lenP (k + 1) r with
        | .ok (n, x) => .ok (c.toNat % 128 + 128 * n, x)
        | .error e => .error e
theorem lenP_row (n : Nat) : ∀ (k : Nat) (x : List UInt8), k ≤ 3 → n < 128 ^ (4 - k) → (0 < k → 0 < n) → lenP k (lenB n ++ x) = .ok (n, x) := by
  induction n using Nat.strongRecOn with
  | _ n ih =>
    intro k x hk hn h0
    by_cases h : n < 128
    · rw [lenB_lt n h]
      have e : (UInt8.ofNat n).toNat = n := by simp; omega
      simp only [List.cons_append, List.nil_append, lenP, e]
      rw [if_pos h, if_neg (by omega)]
    · rw [lenB_ge n h]
      have e : (UInt8.ofNat (n % 128 + 128)).toNat = n % 128 + 128 := by simp; omega
      have hk3 : k ≠ 3 := by rintro rfl; simp at hn; omega
      have h4 : 128 ^ (4 - k) = 128 ^ (4 - (k + 1)) * 128 := by
        rw [← Nat.pow_succ]; congr 1; omega
      have hd : n / 128 < 128 ^ (4 - (k + 1)) := by rw [Nat.div_lt_iff_lt_mul (by decide)]; omega
      simp only [List.cons_append, lenP, e]
      rw [if_neg (by omega), if_neg hk3, ih (n / 128) (by omega) (k + 1) x (by omega) hd (by omega)]
      simp only [Except.ok.injEq, Prod.mk.injEq, and_true]
      omega
theorem lenP_back : ∀ (b : List UInt8) (k n : Nat) (x : List UInt8), k ≤ 3 → lenP k b = .ok (n, x) → b = lenB n ++ x ∧ n < 128 ^ (4 - k) ∧ (0 < k → 0 < n)
  | [], _, _, _, _, h => by simp [lenP] at h
  | c :: r, k, n, x, hk, h => by
    have hc := c.toNat_lt
    have h1 : 128 ^ (4 - 3) ≤ 128 ^ (4 - k) := Nat.pow_le_pow_right (by decide) (by omega)
    unfold lenP at h
    by_cases h8 : c.toNat < 128
    · rw [if_pos h8] at h
      by_cases h0 : c.toNat = 0 ∧ 0 < k
      · rw [if_pos h0] at h; cases h
      · rw [if_neg h0] at h
        injection h with h; injection h with ha hb
        subst ha hb
        refine ⟨?_, by omega, by omega⟩
        rw [lenB_lt _ h8]; simp
    · rw [if_neg h8] at h
      by_cases hk3 : k = 3
      · rw [if_pos hk3] at h; cases h
      · rw [if_neg hk3] at h
        cases hl : lenP (k + 1) r with
        | error e => rw [hl] at h; cases h
        | ok p =>
          obtain ⟨m, y⟩ := p
          rw [hl] at h
          injection h with h; injection h with ha hb
          obtain ⟨h2, h3, h4⟩ := lenP_back r (k + 1) m y (by omega) hl
          subst ha hb
          have hm := h4 (by omega)
          have e4 : 128 ^ (4 - k) = 128 ^ (4 - (k + 1)) * 128 := by rw [← Nat.pow_succ]; congr 1; omega
          refine ⟨?_, by omega, by omega⟩
          rw [lenB_ge _ (by omega), show (c.toNat % 128 + 128 * m) / 128 = m by omega, List.cons_append, ← h2]
          congr 1
          apply UInt8.toNat_inj.1
          simp; omega
theorem lenP_len {b : List UInt8} {k n : Nat} {x : List UInt8} (hk : k ≤ 3) (h : lenP k b = .ok (n, x)) : x.length < b.length := by
  rw [(lenP_back b k n x hk h).1, List.length_append]
  have : 0 < (lenB n).length := by
    by_cases h : n < 128
    · rw [lenB_lt n h]; simp
    · rw [lenB_ge n h]; simp
  omega
/-- the texts of bytes, or an error's number. -/
def textsF : Nat → List UInt8 → Except Int (List (List UInt8))
  | 0, _ => .ok []
  | f + 1, b => if b = [] then .ok [] else match lenP 0 b with
    | .error e => .error e
    | .ok (n, x) => if x.length < n then .error 4 else match textsF f (x.drop n) with
      | .error e => .error e
      | .ok l => .ok (x.take n :: l)
theorem textsF_fuel : ∀ (f g : Nat) (b : List UInt8), b.length ≤ f → b.length ≤ g → textsF f b = textsF g b
  | 0, g, b, hf, _ => by
    have : b = [] := List.eq_nil_of_length_eq_zero (by omega)
    subst this
    cases g <;> simp [textsF]
  | f + 1, 0, b, _, hg => by
    have : b = [] := List.eq_nil_of_length_eq_zero (by omega)
    subst this
    simp [textsF]
  | f + 1, g + 1, b, hf, hg => by
    unfold textsF
    by_cases hb : b = []
    · rw [if_pos hb, if_pos hb]
    · rw [if_neg hb, if_neg hb]
      cases hl : lenP 0 b with
      | error e => rfl
      | ok p =>
        obtain ⟨n, x⟩ := p
        have := lenP_len (by omega) hl
        dsimp only
        rw [textsF_fuel f g (x.drop n) (by rw [List.length_drop]; omega) (by rw [List.length_drop]; omega)]
def textsS (b : List UInt8) : Except Int (List (List UInt8)) := textsF b.length b
theorem textsS_nil : textsS [] = .ok [] := rfl
/-- one text more. -/
theorem textsS_step {b : List UInt8} (hb : b ≠ []) : textsS b = match lenP 0 b with
    | .error e => .error e
    | .ok (n, x) => if x.length < n then .error 4 else match textsS (x.drop n) with
      | .error e => .error e
      | .ok l => .ok (x.take n :: l) := by
  unfold textsS
  cases b with
  | nil => exact absurd rfl hb
  | cons c r =>
    rw [List.length_cons, textsF, if_neg hb]
    cases hl : lenP 0 (c :: r) with
    | error e => rfl
    | ok p =>
      obtain ⟨n, x⟩ := p
      have := lenP_len (by omega) hl
      rw [List.length_cons] at this
      dsimp only
      rw [textsF_fuel r.length (x.drop n).length (x.drop n) (by rw [List.length_drop]; omega) (Nat.le_refl _)]
theorem rowS_cons (s : List UInt8) (l : List (List UInt8)) : rowS (s :: l) = lenB s.length ++ (s ++ rowS l) := by unfold rowS; rw [List.flatMap_cons, List.append_assoc]
theorem lenB_ne (n : Nat) : lenB n ≠ [] := by
  by_cases h : n < 128
  · rw [lenB_lt n h]; simp
  · rw [lenB_ge n h]; simp
theorem textsS_row : ∀ l : List (List UInt8), (∀ s ∈ l, s.length < 2 ^ 28) → textsS (rowS l) = .ok l
  | [], _ => rfl
  | s :: l, h => by
    have hs := h s (by simp)
    rw [rowS_cons, textsS_step (by simp [lenB_ne]), lenP_row s.length 0 _ (by omega) (by simpa using hs) (by omega)]
    dsimp only
    rw [if_neg (by rw [List.length_append]; omega), List.drop_left, List.take_left, textsS_row l (fun x hx => h x (by simp [hx]))]
theorem textsS_back : ∀ (f : Nat) (b : List UInt8) (l : List (List UInt8)), b.length ≤ f → textsS b = .ok l → rowS l = b ∧ ∀ s ∈ l, s.length < 2 ^ 28
  | 0, b, l, hf, h => by
    have : b = [] := List.eq_nil_of_length_eq_zero (by omega)
    subst this
    rw [textsS_nil] at h
    injection h with h
    subst h
    exact ⟨rfl, by simp⟩
  | f + 1, b, l, hf, h => by
    by_cases hb : b = []
    · subst hb
      rw [textsS_nil] at h
      injection h with h
      subst h
      exact ⟨rfl, by simp⟩
    · rw [textsS_step hb] at h
      cases hl : lenP 0 b with
      | error e => rw [hl] at h; cases h
      | ok p =>
        obtain ⟨n, x⟩ := p
        rw [hl] at h
        dsimp only at h
        by_cases hn : x.length < n
        · rw [if_pos hn] at h; cases h
        · rw [if_neg hn] at h
          have hlen := lenP_len (by omega) hl
          obtain ⟨h1, h2, _⟩ := lenP_back b 0 n x (by omega) hl
          cases ht : textsS (x.drop n) with
          | error e => rw [ht] at h; cases h
          | ok l' =>
            rw [ht] at h
            injection h with h
            subst h
            obtain ⟨h3, h4⟩ := textsS_back f (x.drop n) l' (by rw [List.length_drop]; omega) ht
            have hx : (x.take n).length = n := by rw [List.length_take]; omega
            refine ⟨?_, ?_⟩
            · rw [rowS_cons, hx, h3, List.take_append_drop, ← h1]
            · intro s hs
              rcases List.mem_cons.1 hs with rfl | hs
              · rw [hx]; simpa using h2
              · exact h4 s hs
end Go.Proofs.YtconhhhggckcbaaDoor
/- Plain: two boxes under one key and one nonce differ, behind the nonce, as their texts do. -/
namespace Go.Proofs.YtconhhhggckcbaaDoor
open Go.RowKit

end Go.Proofs.YtconhhhggckcbaaDoor
/- The walks of ChaCha20's inner parts: a rotation, a quarter round in a closure. -/
namespace Go.Proofs.YtconhhhggckcbaaDoor
open Go.RowKit

set_option maxHeartbeats 400000 in
theorem rot_any (x : Wd) (k : Nat) (hk : k < 32) (hk0 : 0 < k) (w : World) :
    Calls Tryd.prog 107 #[.int .u32 (nm x), .int .i64 k] w fun e w' => e = .returned (.int .u32 (nm (rl x k))) ∧ w' = w := by
  have e1 : bits BinOp.and IntKind.u64 (k : Int) 31 = (k : Int) := by
    obtain ⟨k, rfl⟩ : ∃ f : Fin 32, f.val = k := ⟨⟨k, hk⟩, rfl⟩
    revert k; decide
  have H := Lib.hid (nm_rl x k hk)
  go_enter Tryd.func107, Tryd.ntmps107
  go_wp2
  go_ret
  exact ⟨ret_int H.out, rfl⟩
end Go.Proofs.YtconhhhggckcbaaDoor
/- The walk of the library's rotation by any constant whose lowest five bits are k. -/
namespace Go.Proofs.YtconhhhggckcbaaDoor
open Go.RowKit

set_option maxHeartbeats 400000 in
theorem rotz_any (x : Wd) (z : Int) (k : Nat) (hk : k < 32) (hk0 : 0 < k) (e1 : bits BinOp.and IntKind.u64 (IntKind.u64.wrap z) 31 = (k : Int)) (w : World) :
    Calls Tryd.prog 107 #[.int .u32 (nm x), .int .i64 z] w fun e w' => e = .returned (.int .u32 (nm (rl x k))) ∧ w' = w := by
  have H := Lib.hid (nm_rl x k hk)
  go_enter Tryd.func107, Tryd.ntmps107
  go_wp2
  go_ret
  exact ⟨ret_int H.out, rfl⟩
end Go.Proofs.YtconhhhggckcbaaDoor
/- four bytes as a word -/
namespace Go.Proofs.YtconhhhggckcbaaDoor
open Go.RowKit

set_option maxRecDepth 100000 in
set_option maxHeartbeats 1000000 in
theorem word_any (g off len cap : Nat) (b0 b1 b2 b3 : UInt8) (w : World) (hlen : 4 ≤ len)
    (c0 : w.cell? ⟨g, off, none⟩ = some (.int .u8 (b0.toNat : Int))) (c1 : w.cell? ⟨g, off + 1, none⟩ = some (.int .u8 (b1.toNat : Int)))
    (c2 : w.cell? ⟨g, off + 2, none⟩ = some (.int .u8 (b2.toNat : Int))) (c3 : w.cell? ⟨g, off + 3, none⟩ = some (.int .u8 (b3.toNat : Int))) :
    Calls Tryd.prog 117 #[.slice (some ⟨g, off, none⟩) len cap] w fun e w' =>
      e = .returned (.int .u32 (nm (wd b0 b1 b2 b3))) ∧ w' = w.drew := by
  have l0 : 0 < len := by omega
  have l1 : (1 : Int) < (len : Int) := by omega
  have l2 : (2 : Int) < (len : Int) := by omega
  have l3 : (3 : Int) < (len : Int) := by omega
  go_enter Tryd.func117, Tryd.ntmps117
  go_wp2
  refine wp_region_still_lit (by kernel_rfl) (by kernel_rfl) ?_
  change wpStill _ _ w.drew _ _ _
  repeat still_step
  refine wpStill_nil ?_
  go_wp2
  go_ret
  exact ⟨ret_int (word_eq b0 b1 b2 b3), rfl⟩
end Go.Proofs.YtconhhhggckcbaaDoor
/- Rows of bytes that a call makes and appends to: where they lie, and the text that they are. -/
namespace Go.Proofs.YtconhhhggckcbaaDoor
open Go.RowKit

theorem own_lt {w : World} {g base : Nat} {e : TypeId} {size n : Nat} {v : Value} {xs : List Value} (h : w.ownsRow base e size v n xs) (hg : g < base) : v.ownBlock ≠ some g := by
  rcases h.2 with ⟨rfl, _⟩ | ⟨g', cap, cur, rfl, hb, _⟩
  · simp [Value.ownBlock]
  · intro he
    have e1 : g' = g := by simpa [Value.ownBlock] using he
    omega
theorem own_base {w : World} {base g : Nat} {e : TypeId} {size n : Nat} {v : Value} {xs : List Value} (h : w.ownsRow base e size v n xs) (hg : v.ownBlock = some g) : base ≤ g := by
  rcases Nat.lt_or_ge g base with hl | hl
  · exact absurd hg (own_lt h hl)
  · exact hl
/-- 'string(b)' of bytes in memory. -/
theorem run_strOf {w : World} {g off cap n : Nat} {l : List UInt8} (hn : l.length = n) (hc : ∀ j, j < l.length → w.cell? ⟨g, off + j, none⟩ = some (.int .u8 ((bt l j).toNat : Int))) :
    (convert 52 9 (.slice (some ⟨g, off, none⟩) n cap)).run Tryd.prog w = .ok (.string ⟨l.toArray⟩) w := by
  subst hn
  refine run_convert_bytes_back w _ _ 5 ⟨g, off, none⟩ cap l Tryd.underlying52 Tryd.underlying5 Tryd.underlying9 (fun j hj => ?_)
  rw [addr_add, hc j hj]; simp [bt, hj]
theorem run_strBlk {w : World} {g cap n : Nat} {t : TypeId} {l : List UInt8} (hn : l.length = n) (hB : Blk w g t (cells8 l)) :
    (convert 52 9 (.slice (some ⟨g, 0, none⟩) n cap)).run Tryd.prog w = .ok (.string ⟨l.toArray⟩) w :=
  run_strOf hn (fun j hj => by rw [Nat.zero_add, hB.cell]; exact cells8_get l j hj)
end Go.Proofs.YtconhhhggckcbaaDoor
/- What one operation comes to, told by its operands: laws for walks over frames of which single slots are known. No program in sight. -/
namespace Go.Proofs.YtconhhhggckcbaaDoor
open Go.RowKit

section
variable {P : Program} {a : Act} {o : Oper} {W : World} {t t2 : TypeId} {x y z : Operand} {k k2 : IntKind} {p q r : Int}

theorem guard_int (op : BinOp) : (eqGuard op t x y (.int k p) (.int k2 q)).run P W = .ok () W := by
  cases op <;> simp [eqGuard]
theorem guard_str (op : BinOp) (s s2 : ByteArray) : (eqGuard op t x y (.string s) (.string s2)).run P W = .ok () W := by
  cases op <;> simp [eqGuard]
theorem guard_bool (op : BinOp) (s s2 : Bool) : (eqGuard op t x y (.bool s) (.bool s2)).run P W = .ok () W := by
  cases op <;> simp [eqGuard]
theorem run_bin {op : BinOp} {u v c : Value} (ho : o.op = .binOp op t x y t2) (hx : a.eval x = u) (hy : a.eval y = v)
    (hg : (eqGuard op t x y u v).run P W = .ok () W) (hr : (binOp op t u v).run P W = .ok c W) : (execOp a.eval o).run P W = .ok (.value c) W := by
  unfold execOp
  simp only [ho, hx, hy, Sem.run_bind, hg, hr, Result.andThen_ok, Sem.run_pure]
theorem run_add (ho : o.op = .binOp .add t x y t2) (hx : a.eval x = .int k p) (hy : a.eval y = .int k q) (h : k.wrap (p + q) = r) : (execOp a.eval o).run P W = .ok (.value (.int k r)) W :=
  run_bin ho hx hy (guard_int _) (by simp [binOp, h, go_sem])
theorem run_sub (ho : o.op = .binOp .sub t x y t2) (hx : a.eval x = .int k p) (hy : a.eval y = .int k q) (h : k.wrap (p - q) = r) : (execOp a.eval o).run P W = .ok (.value (.int k r)) W :=
  run_bin ho hx hy (guard_int _) (by simp [binOp, h, go_sem])
theorem run_mul (ho : o.op = .binOp .mul t x y t2) (hx : a.eval x = .int k p) (hy : a.eval y = .int k q) (h : k.wrap (p * q) = r) : (execOp a.eval o).run P W = .ok (.value (.int k r)) W :=
  run_bin ho hx hy (guard_int _) (by simp [binOp, h, go_sem])
theorem run_quo (ho : o.op = .binOp .quo t x y t2) (hx : a.eval x = .int k p) (hy : a.eval y = .int k q) (h0 : q ≠ 0) (h : k.wrap (p.tdiv q) = r) : (execOp a.eval o).run P W = .ok (.value (.int k r)) W :=
  run_bin ho hx hy (guard_int _) (by simp [binOp, h, h0, go_sem])
theorem run_rem (ho : o.op = .binOp .rem t x y t2) (hx : a.eval x = .int k p) (hy : a.eval y = .int k q) (h0 : q ≠ 0) (h : p.tmod q = r) : (execOp a.eval o).run P W = .ok (.value (.int k r)) W :=
  run_bin ho hx hy (guard_int _) (by simp [binOp, h, h0, go_sem])
theorem run_lss {b : Bool} (ho : o.op = .binOp .lss t x y t2) (hx : a.eval x = .int k p) (hy : a.eval y = .int k q) (h : decide (p < q) = b) : (execOp a.eval o).run P W = .ok (.value (.bool b)) W :=
  run_bin ho hx hy (guard_int _) (by simp [binOp, h, go_sem])
theorem run_gtr {b : Bool} (ho : o.op = .binOp .gtr t x y t2) (hx : a.eval x = .int k p) (hy : a.eval y = .int k q) (h : decide (q < p) = b) : (execOp a.eval o).run P W = .ok (.value (.bool b)) W :=
  run_bin ho hx hy (guard_int _) (by simp [binOp, h, go_sem])
theorem run_geq {b : Bool} (ho : o.op = .binOp .geq t x y t2) (hx : a.eval x = .int k p) (hy : a.eval y = .int k q) (h : decide (q ≤ p) = b) : (execOp a.eval o).run P W = .ok (.value (.bool b)) W :=
  run_bin ho hx hy (guard_int _) (by simp [binOp, h, go_sem])
theorem run_eqi {b : Bool} (ho : o.op = .binOp .eql t x y t2) (hx : a.eval x = .int k p) (hy : a.eval y = .int k q) (h : (p == q) = b) : (execOp a.eval o).run P W = .ok (.value (.bool b)) W :=
  run_bin ho hx hy (guard_int _) (by simp [binOp, h, go_sem])
theorem run_nei {b : Bool} (ho : o.op = .binOp .neq t x y t2) (hx : a.eval x = .int k p) (hy : a.eval y = .int k q) (h : (p != q) = b) : (execOp a.eval o).run P W = .ok (.value (.bool b)) W :=
  run_bin ho hx hy (guard_int _) (by simp [binOp, h, go_sem])
theorem ba_toList (s : List UInt8) : (⟨s.toArray⟩ : ByteArray).toList = s := by rw [ByteArray.toList_eq]
theorem run_eqs {b : Bool} {s s2 : List UInt8} (ho : o.op = .binOp .eql t x y t2) (hx : a.eval x = .string ⟨s.toArray⟩) (hy : a.eval y = .string ⟨s2.toArray⟩) (h : (s == s2) = b) : (execOp a.eval o).run P W = .ok (.value (.bool b)) W := by
  refine run_bin ho hx hy (guard_str _ _ _) ?_
  simp only [binOp, Op.stringOp, ba_toList, h, Sem.run_pure]
theorem run_nes {b : Bool} {s s2 : List UInt8} (ho : o.op = .binOp .neq t x y t2) (hx : a.eval x = .string ⟨s.toArray⟩) (hy : a.eval y = .string ⟨s2.toArray⟩) (h : (!(s == s2)) = b) : (execOp a.eval o).run P W = .ok (.value (.bool b)) W := by
  refine run_bin ho hx hy (guard_str _ _ _) ?_
  simp only [binOp, Op.stringOp, ba_toList, h, Sem.run_pure]
theorem run_cat {s s2 : List UInt8} (ho : o.op = .binOp .add t x y t2) (hx : a.eval x = .string ⟨s.toArray⟩) (hy : a.eval y = .string ⟨s2.toArray⟩) (h : s.length + s2.length < 2 ^ 62) : (execOp a.eval o).run P W = .ok (.value (.string ⟨(s ++ s2).toArray⟩)) W := by
  refine run_bin ho hx hy (guard_str _ _ _) ?_
  have h2 : ¬ 9223372036854775807 < s.length + s2.length := by omega
  simp [binOp, str_size, str_app, h2, go_sem]
theorem run_pick {b : Bool} {u v : Value} (ho : o.op = .pick x y z) (hx : a.eval x = .bool b) (hy : a.eval y = u) (hz : a.eval z = v) : (execOp a.eval o).run P W = .ok (.value (if b then u else v)) W := by
  unfold execOp
  simp only [ho, hx, hy, hz]
  cases b <;> simp [go_sem]
theorem run_len {ts : Array TypeId} {s : List UInt8} (ho : o.op = .call { callee := .builtin .len, args := #[x], argTypes := ts }) (hx : a.eval x = .string ⟨s.toArray⟩) (hts : ts = #[t]) (hu : P.underlying t = some .string) : (execOp a.eval o).run P W = .ok (.value (.int .i64 (s.length : Int))) W := by
  subst hts
  have e : (Builtin.len_ #[t] o.type #[.string ⟨s.toArray⟩]).run P W = .ok (.int .i64 (s.length : Int)) W := by simp [hu, go_sem, str_size]
  unfold execOp
  simp only [ho]
  simp [resolve, invoke, builtin, hx, e]
theorem run_cvI (ho : o.op = .convert t t2 x) (hx : a.eval x = .int k p) (hu : P.underlying t = some (.int k)) (hu2 : P.underlying t2 = some (.int k2)) (h : k2.wrap p = r) : (execOp a.eval o).run P W = .ok (.value (.int k2 r)) W := by
  have e : (convert t t2 (.int k p)).run P W = .ok (.int k2 r) W := by simp [hu, hu2, h, go_sem]
  unfold execOp
  simp only [ho, hx, Sem.run_bind, e, Result.andThen_ok, Sem.run_pure]
theorem run_cv {u c : Value} (ho : o.op = .convert t t2 x) (hx : a.eval x = u) (hr : (convert t t2 u).run P W = .ok c W) : (execOp a.eval o).run P W = .ok (.value c) W := by
  unfold execOp
  simp only [ho, hx, Sem.run_bind, hr, Result.andThen_ok, Sem.run_pure]
/-- 's[:n]', 's[m:]', 's[m:n]'. -/
theorem run_sTo {s : List UInt8} {n : Nat} (ho : o.op = .slice t x none (some y) none) (hx : a.eval x = .string ⟨s.toArray⟩) (hy : a.eval y = .int k p) (hu : P.underlying t = some .string) (hp : p = (n : Int)) (hn : n ≤ s.length) : (execOp a.eval o).run P W = .ok (.value (.string ⟨(s.take n).toArray⟩)) W := by
  subst hp
  have e : (⟨s.toArray⟩ : ByteArray).extract 0 n = ⟨(s.take n).toArray⟩ := by rw [str_mid]; simp
  unfold execOp
  simp only [ho, hx, hy, Option.map]
  simp [hu, go_sem, hn, e]
theorem run_sFrom {s : List UInt8} {m : Nat} (ho : o.op = .slice t x (some y) none none) (hx : a.eval x = .string ⟨s.toArray⟩) (hy : a.eval y = .int k p) (hu : P.underlying t = some .string) (hp : p = (m : Int)) (hn : m ≤ s.length) : (execOp a.eval o).run P W = .ok (.value (.string ⟨(s.drop m).toArray⟩)) W := by
  subst hp
  have e : (⟨s.toArray⟩ : ByteArray).extract m s.length = ⟨(s.drop m).toArray⟩ := str_drop s m
  unfold execOp
  simp only [ho, hx, hy, Option.map]
  simp [hu, go_sem, hn, e]
theorem run_sMid {s : List UInt8} {m n : Nat} (ho : o.op = .slice t x (some y) (some z) none) (hx : a.eval x = .string ⟨s.toArray⟩) (hy : a.eval y = .int k p) (hz : a.eval z = .int k2 q) (hu : P.underlying t = some .string) (hp : p = (m : Int)) (hq : q = (n : Int)) (hmn : m ≤ n) (hn : n ≤ s.length) : (execOp a.eval o).run P W = .ok (.value (.string ⟨((s.drop m).take (n - m)).toArray⟩)) W := by
  subst hp hq
  have e : (⟨s.toArray⟩ : ByteArray).extract m n = ⟨((s.drop m).take (n - m)).toArray⟩ := str_mid s m n
  unfold execOp
  simp only [ho, hx, hy, hz, Option.map]
  simp [hu, go_sem, hmn, hn, e]
/-- 's[i]'. -/
theorem run_sAt {s : List UInt8} {n : Nat} (ho : o.op = .index t x y) (hx : a.eval x = .string ⟨s.toArray⟩) (hy : a.eval y = .int k p) (hu : P.underlying t = some .string) (hp : p = (n : Int)) (hn : n < s.length) : (execOp a.eval o).run P W = .ok (.value (.int .u8 ((bt s n).toNat : Int))) W := by
  subst hp
  have e : ∀ h, (⟨s.toArray⟩ : ByteArray)[n]'h = bt s n := fun h => str_byte s n h
  unfold execOp
  simp only [ho, hx, hy]
  simp [hu, go_sem, hn, e]
theorem run_ext {vs : Array Value} {n : Nat} {c : Value} (ho : o.op = .extract x n) (hx : a.eval x = .tuple vs) (hc : vs[n]? = some c) : (execOp a.eval o).run P W = .ok (.value c) W := by
  unfold execOp
  simp only [ho, hx]
  simp [go_sem, hc]
end
end Go.Proofs.YtconhhhggckcbaaDoor
/- Slices of texts in memory. -/
namespace Go.Proofs.YtconhhhggckcbaaDoor
open Go.RowKit

/-- a text. -/
def tx (l : List UInt8) : Value := .string ⟨l.toArray⟩
/-- a slice of texts, as it reads in a world. -/
def Strs (w : World) (v : Value) (l : List (List UInt8)) : Prop :=
  ((∃ a c, v = .slice a 0 c) ∧ l = []) ∨ ∃ b o c : Nat, v = .slice (some ⟨b, o, none⟩) l.length c ∧ b < w.heap.size ∧ ∀ i, i < l.length → w.cell? ⟨b, o + i, none⟩ = some (tx (l.getD i []))
theorem Strs.keep {w w' : World} {v : Value} {l : List (List UInt8)} (h : Strs w v l) (hs : w.heap.size ≤ w'.heap.size) (hk : ∀ b, b < w.heap.size → w'.heap[b]? = w.heap[b]?) : Strs w' v l := by
  rcases h with h | ⟨b, o, c, h1, h2, h3⟩
  · exact .inl h
  · refine .inr ⟨b, o, c, h1, by omega, fun i hi => ?_⟩
    rw [← h3 i hi]
    unfold World.cell?
    simp only [hk b h2]
theorem Strs.below {w w' : World} {v : Value} {l : List (List UInt8)} (h : Strs w v l) (hb : Below w.heap.size w w') : Strs w' v l := h.keep hb.size (fun b hl => hb.block b hl)
theorem Strs.grown {w0 w w' : World} {g : Nat} {v : Value} {l : List (List UInt8)} (h : Strs w0 v l) (h0 : Below w0.heap.size w0 w) (hb : w.grownBy w' (some g)) (hg : w0.heap.size ≤ g) : Strs w' v l :=
  h.keep (Nat.le_trans h0.size hb.size) (fun b hl => (hb.block b (Nat.lt_of_lt_of_le hl h0.size) (by simp; omega)).trans (h0.block b hl))
theorem Strs.len {w : World} {v : Value} {l : List (List UInt8)} (h : Strs w v l) : ∃ a c, v = .slice a l.length c := by
  rcases h with ⟨⟨a, c, rfl⟩, rfl⟩ | ⟨b, o, c, h1, _, _⟩
  · exact ⟨_, _, rfl⟩
  · exact ⟨_, _, h1⟩
/-- the parts, one behind the other, up to the i-th. -/
def joinTo (l : List (List UInt8)) (i : Nat) : List UInt8 := (l.take i).flatten
theorem joinTo_succ (l : List (List UInt8)) (i : Nat) (h : i < l.length) : joinTo l i ++ l.getD i [] = joinTo l (i + 1) := by
  unfold joinTo
  rw [List.take_succ_eq_append_getElem h, List.flatten_append]
  simp [h]
theorem joinTo_le (l : List (List UInt8)) (i : Nat) : (joinTo l i).length ≤ l.flatten.length := by
  have : l.flatten = joinTo l i ++ (l.drop i).flatten := by unfold joinTo; rw [← List.flatten_append, List.take_append_drop]
  rw [this, List.length_append]; omega
theorem joinTo_all (l : List (List UInt8)) : joinTo l l.length = l.flatten := by unfold joinTo; rw [List.take_length]
theorem Strs.new (w : World) (l : List (List UInt8)) (t : TypeId) (c : Nat) (cs : Array Value) (h : cs = (l.map tx).toArray) : Strs (w.alloc (.cells cs t)) (.slice (some ⟨w.heap.size, 0, none⟩) l.length c) l := by
  subst h
  refine .inr ⟨w.heap.size, 0, c, rfl, by simp, fun i hi => ?_⟩
  rw [(Blk.new w t (l.map tx).toArray).cell]
  simp [hi]
end Go.Proofs.YtconhhhggckcbaaDoor
/- Drawn regions that only make memory, operation by operation: what each leaves is a value, or a slice of texts. -/
namespace Go.Proofs.YtconhhhggckcbaaDoor
open Go.RowKit

/-- what is known of a value; it stays known while memory grows. -/
structure Kd where
  p : Value → World → Prop
  st : ∀ v W W', Below W.heap.size W W' → p v W → p v W'
def kval (c : Value) : Kd := ⟨fun v _ => v = c, fun _ _ _ _ h => h⟩
def kstrs (l : List (List UInt8)) : Kd := ⟨fun v W => Strs W v l, fun _ _ _ hb h => h.below hb⟩
def kany : Kd := ⟨fun _ _ => True, fun _ _ _ _ _ => trivial⟩
theorem getK {KL l : List Kd} (h : KL = l) (i : Nat) : KL.getD i kany = l.getD i kany := by rw [h]
def kT (KL : List Kd) (i : Nat) : Value → World → Prop := (KL.getD i kany).p

section
variable {P : Program} {l : List Oper}
abbrev grows (_ : Nat) (W W' : World) : Prop := Below W.heap.size W W'
/-- each operation, in the text's order. -/
def AskAll (P : Program) (l : List Oper) (a0 : Act) (w : World) (KL : List Kd) : Nat → List Oper → Prop
  | _, [] => True
  | i, o :: rest => Asks P l a0 (Below w.heap.size w) (kT KL) grows i o ∧ AskAll P l a0 w KL (i + 1) rest
theorem AskAll.at {a0 : Act} {w : World} {KL : List Kd} : ∀ {r : List Oper} {k : Nat}, AskAll P l a0 w KL k r → ∀ i o, r[i]? = some o → Asks P l a0 (Below w.heap.size w) (kT KL) grows (k + i) o
  | [], _, _, i, o, h => by simp at h
  | x :: r, k, h, 0, o, ho => by
    simp only [List.getElem?_cons_zero, Option.some.injEq] at ho
    subst ho
    exact h.1
  | x :: r, k, h, i + 1, o, ho => by
    have := AskAll.at h.2 i o (by simpa using ho)
    rwa [show k + 1 + i = k + (i + 1) by omega] at this

theorem wp_region_kd {id : Nat} {Q : Exit → Act → World → Prop} {a0 : Act} {w : World} (n : Nat) (hm : P.follows .mixedOrders = true) (hB : looseB l n = true) (hd : (l.all fun o => o.dst.isSome) = true) (hn : a0.tmps.size = n) (KL : List Kd)
    (hop : AskAll P l a0 w KL 0 l) (hend : ∀ a W, Below w.heap.size w W → Known l a0 (kT KL) (fun _ => true) a W → Q .normal a W) : (Code.region id l.toArray true).wp P Q a0 w := by
  refine wp_region_loose n hm hB hn (Below w.heap.size w) (kT KL) grows (Below.refl _ _).drew (fun _ W W' h1 h2 => h1.trans (h2.mono h1.size)) (fun _ j v W W' _ _ hR hT => (KL.getD j kany).st v W W' hR hT) (fun i o ho hn => ?_) (fun i o ho => ?_) hend
  · have := List.all_eq_true.1 hd o (List.mem_of_getElem? ho)
    rw [hn] at this; cases this
  · have := AskAll.at hop i o ho
    rwa [Nat.zero_add] at this

section
variable {a0 : Act} {w : World} {KL : List Kd} {i : Nat} {o : Oper}
/-- the facts that an operation may use. -/
abbrev Had (l : List Oper) (a0 a : Act) : Prop := ∀ s v, noDst l s = true → a0.tmps[s]? = some v → a.tmps[s]? = some v
abbrev Dep (l : List Oper) (KL : List Kd) (i : Nat) (a : Act) (W : World) : Prop := ∀ j, Region.waitsFor .any l.toArray i j = true → ∀ oj s, l[j]? = some oj → oj.dst = some s → ∃ v, a.tmps[s]? = some v ∧ kT KL j v W
theorem asks_mk (h : ∀ (a : Act) (W : World), Below w.heap.size w W → Had l a0 a → Dep l KL i a W → Region.wanted o (yielded l.toArray a.tmps) = true ∧ GivesT P (grows i W) (kT KL i) ((execOp a.eval o).run P W)) : Asks P l a0 (Below w.heap.size w) (kT KL) grows i o :=
  fun a W hS h1 h2 _ => .inl (h a W hS h1 h2)
theorem eval_tmp {a : Act} {s : Nat} {v : Value} (h : a.tmps[s]? = some v) : a.eval (.tmp s) = v := by simp [Act.eval, h]
theorem wanted_yes {a : Act} (hg : o.guard = none) : Region.wanted o (yielded l.toArray a.tmps) = true := by simp [Region.wanted, hg]
theorem asksY (hg : o.guard = none) (h : ∀ (a : Act) (W : World), Below w.heap.size w W → Had l a0 a → Dep l KL i a W → GivesT P (grows i W) (kT KL i) ((execOp a.eval o).run P W)) : Asks P l a0 (Below w.heap.size w) (kT KL) grows i o := asks_mk fun a W hS hh hd => ⟨wanted_yes hg, h a W hS hh hd⟩
variable {W : World} {a : Act}
def depB (l : List Oper) (i j s : Nat) : Bool := Region.waitsFor .any l.toArray i j && (match l[j]? with | some oj => oj.dst == some s | none => false)
theorem Dep.get {j s : Nat} (h : Dep l KL i a W) (hb : depB l i j s = true) : ∃ v, a.tmps[s]? = some v ∧ kT KL j v W := by
  simp only [depB, Bool.and_eq_true] at hb
  obtain ⟨h1, h2⟩ := hb
  cases hj : l[j]? with
  | none => rw [hj] at h2; cases h2
  | some oj =>
    rw [hj] at h2
    exact h j h1 oj s hj (by simpa using h2)
theorem Dep.val {j s : Nat} {c : Value} (h : Dep l KL i a W) (hb : depB l i j s = true) (hk : KL.getD j kany = kval c) : a.tmps[s]? = some c := by
  obtain ⟨v, h1, h2⟩ := h.get hb
  unfold kT at h2; rw [hk] at h2
  rw [h1]; exact congrArg some h2
theorem Dep.vl (h : Dep l KL i a W) (j s : Nat) {c : Value} (hb : depB l i j s = true) (hk : KL.getD j kany = kval c) : a.tmps[s]? = some c := h.val hb hk
theorem Dep.strs {j s : Nat} {L : List (List UInt8)} (h : Dep l KL i a W) (hb : depB l i j s = true) (hk : KL.getD j kany = kstrs L) : ∃ v, a.tmps[s]? = some v ∧ Strs W v L := by
  obtain ⟨v, h1, h2⟩ := h.get hb
  unfold kT at h2; rw [hk] at h2
  exact ⟨v, h1, h2⟩
def guardB (l : List Oper) (o : Oper) (j s : Nat) (want : Bool) : Bool := o.guard == some (j, want) && (match l[j]? with | some oj => oj.dst == some s | none => false)
theorem Known.val {s : Nat} {c : Value} (h : Known l a0 (kT KL) (fun _ => true) a W) (hb : (match l[i]? with | some oj => oj.dst == some s | none => false) = true) (hk : KL.getD i kany = kval c) : a.tmps[s]? = some c := by
  cases hj : l[i]? with
  | none => rw [hj] at hb; cases hb
  | some oj =>
    rw [hj] at hb
    obtain ⟨v, h1, h2⟩ := h.new i oj s hj rfl (by simpa using hb)
    unfold kT at h2; rw [hk] at h2
    rw [h1]; exact congrArg some h2
theorem Known.vl (h : Known l a0 (kT KL) (fun _ => true) a W) (i s : Nat) {c : Value} (hb : (match l[i]? with | some oj => oj.dst == some s | none => false) = true) (hk : KL.getD i kany = kval c) : a.tmps[s]? = some c := h.val hb hk
theorem giv_val {c : Value} {x : Value} (h : (execOp a.eval o).run P W = .ok (.value x) W) (hk : KL.getD i kany = kval c) (hx : x = c) : GivesT P (grows i W) (kT KL i) ((execOp a.eval o).run P W) := by
  rw [h]
  refine ⟨Below.refl _ _, ?_⟩
  unfold kT; rw [hk]; exact hx
theorem giv_move {c : Value} {x : Operand} (ho : o.op = .move x) (hx : a.eval x = c) (hk : KL.getD i kany = kval c) : GivesT P (grows i W) (kT KL i) ((execOp a.eval o).run P W) :=
  giv_val (x := c) (by simp [execOp, ho, hx]) hk rfl
theorem giv_assign {c : Value} {x : Operand} (ho : o.op = .assign x) (hx : a.eval x = c) (hk : KL.getD i kany = kval c) : GivesT P (grows i W) (kT KL i) ((execOp a.eval o).run P W) :=
  giv_val (x := c) (by simp [execOp, ho, hx]) hk rfl
theorem giv_loadB (hS : Below w.heap.size w W) (ty : TypeId) (x : Operand) (ho : o.op = .load ty x) (g : Nat) (hx : a.eval x = .pointer (some ⟨g, 0, none⟩)) {t : TypeId} {cs : Array Value} (hB : Blk w g t cs)
    {d : TypeDesc} (hu : P.underlying ty = some d) (hd : (match d with | .struct _ | .array _ _ => true | _ => false) = true) {m : Nat} (hi : (P.info? ty).map (·.size) = some m) (hm : cs.size = m) (hk : KL.getD i kany = kval (.agg cs)) :
    GivesT P (grows i W) (kT KL i) ((execOp a.eval o).run P W) := by
  refine giv_val (x := .agg cs) ?_ hk rfl
  unfold execOp
  simp only [ho, hx, Instr.loadAt, Instr.sureAddr, Sem.run_bind, Sem.run_pure, Result.andThen_ok, run_loadVar_row W g t ty cs (0, 0) d (hB.below hS hB.lt) hu hd (by rw [hm]; exact hi)]
theorem giv_call {f : FuncId} {args : Array Value} {c : Value} (hrun : (execOp a.eval o).run P W = .ok (.enter f args) W) (hc : Calls P f args W fun e w' => e = .returned c ∧ Below W.heap.size W w') (hk : KL.getD i kany = kval c) :
    GivesT P (grows i W) (kT KL i) ((execOp a.eval o).run P W) := by
  rw [hrun]
  refine hc.mono fun e w' h => ⟨c, h.1, h.2, ?_⟩
  unfold kT; rw [hk]; rfl
end
end
/-- '[]string{..}' as a call's last arguments. -/
theorem giv_strs {P : Program} {KL : List Kd} {i : Nat} {o : Oper} {W : World} {a : Act} (L : List (List UInt8)) (t : TypeId) (hrun : (execOp a.eval o).run P W = .ok (.value (.slice (some ⟨W.heap.size, 0, none⟩) L.length L.length)) (W.alloc (.cells (L.map tx).toArray t)))
    (hk : KL.getD i kany = kstrs L) : GivesT P (grows i W) (kT KL i) ((execOp a.eval o).run P W) := by
  rw [hrun]
  refine ⟨(Below.refl _ _).alloc (Nat.le_refl _) _, ?_⟩
  unfold kT; rw [hk]
  exact Strs.new W L t L.length _ rfl
end Go.Proofs.YtconhhhggckcbaaDoor
/- The frame behind a drawn region, written out. -/
namespace Go.Proofs.YtconhhhggckcbaaDoor
open Go.RowKit

/-- each operation's value is laid, in the text's order. -/
def putAll (a : Act) : List Oper → List Value → Act
  | o :: os, v :: vs => putAll (a.put o.dst v) os vs
  | _, _ => a
/-- the slots hold the values. -/
def AllAt (a : Act) : List Oper → List Value → Prop
  | o :: os, v :: vs => (match o.dst with | some s => a.tmps[s]? = some v | none => True) ∧ AllAt a os vs
  | [], [] => True
  | _, _ => False
theorem putAll_eq {a : Act} : ∀ (r : List Oper) (vs : List Value) (b : Act), b.tmps.size = a.tmps.size → (∀ s, (∀ o ∈ r, o.dst ≠ some s) → b.tmps[s]? = a.tmps[s]?) → AllAt a r vs → b.defers = a.defers → putAll b r vs = a
  | [], [], b, hs, hb, _, hd => by
    obtain ⟨bt, bd⟩ := b
    obtain ⟨at_, ad⟩ := a
    simp only [putAll]
    simp only at hd hb
    subst hd
    congr 1
    apply Array.ext_getElem?
    intro i
    exact hb i (fun o ho => by cases ho)
  | [], _ :: _, _, _, _, h, _ => h.elim
  | _ :: _, [], _, _, _, h, _ => h.elim
  | o :: os, v :: vs, b, hs, hb, hA, hd => by
    simp only [putAll]
    refine putAll_eq os vs _ ?_ ?_ hA.2 ?_
    · cases ho : o.dst <;> simp [Act.put, hs]
    · intro s hno
      have hA1 := hA.1
      cases ho : o.dst with
      | none =>
        simp only [Act.put]
        exact hb s (fun o' ho' => by
          rcases List.mem_cons.1 ho' with rfl | h
          · rw [ho]; exact fun e => by cases e
          · exact hno o' h)
      | some d =>
        rw [ho] at hA1
        simp only at hA1
        by_cases e : d = s
        · subst e
          have hlt : d < a.tmps.size := by
            rcases Nat.lt_or_ge d a.tmps.size with h | h
            · exact h
            · rw [Array.getElem?_eq_none h] at hA1; cases hA1
          simp only [Act.put, Array.getElem?_setIfInBounds]
          rw [if_pos trivial, if_pos (by rw [hs]; exact hlt)]
          exact hA1.symm
        · simp only [Act.put, Array.getElem?_setIfInBounds]
          rw [if_neg e]
          exact hb s (fun o' ho' => by
            rcases List.mem_cons.1 ho' with rfl | h
            · rw [ho]; exact fun e' => e (Option.some.inj e')
            · exact hno o' h)
    · cases ho : o.dst <;> simp [Act.put, hd]
theorem Known.frame {l : List Oper} {a0 a : Act} {T : Nat → Value → World → Prop} {W : World} (h : Known l a0 T (fun _ => true) a W) (vs : List Value) (hA : AllAt a l vs) : putAll a0 l vs = a :=
  putAll_eq l vs a0 h.size.symm (fun s hs => (h.old s (fun _ o ho _ => hs o (List.mem_of_getElem? ho))).symm) hA h.defers.symm
theorem Known.strs {l : List Oper} {a0 a : Act} {KL : List Kd} {W : World} {i s : Nat} {L : List (List UInt8)} (h : Known l a0 (kT KL) (fun _ => true) a W) (hb : (match l[i]? with | some oj => oj.dst == some s | none => false) = true) (hk : KL.getD i kany = kstrs L) :
    ∃ v, a.tmps[s]? = some v ∧ Strs W v L := by
  cases hj : l[i]? with
  | none => rw [hj] at hb; cases hb
  | some oj =>
    rw [hj] at hb
    obtain ⟨v, h1, h2⟩ := h.new i oj s hj rfl (by simpa using hb)
    unfold kT at h2; rw [hk] at h2
    exact ⟨v, h1, h2⟩
end Go.Proofs.YtconhhhggckcbaaDoor
/- Drawn regions that make memory and write whole result cells (rows rs of the call's own), operation by operation. -/
namespace Go.Proofs.YtconhhhggckcbaaDoor
open Go.RowKit

/-- all old blocks but the rows rs are as they were; the rows hold m cells of type t. -/
structure Alm (w : World) (rs : List (Nat × TypeId × Nat)) (W : World) : Prop where
  os : W.os = w.os
  tape : W.tape = w.tape
  output : W.output = w.output
  size : w.heap.size ≤ W.heap.size
  old : ∀ b, b < w.heap.size → (∀ x ∈ rs, x.1 ≠ b) → W.heap[b]? = w.heap[b]?
  row : ∀ x ∈ rs, x.1 < w.heap.size ∧ ∃ cs, Blk W x.1 x.2.1 cs ∧ cs.size = x.2.2
theorem Alm.below {w W W' : World} {rs : List (Nat × TypeId × Nat)} (h : Alm w rs W) (hb : Below W.heap.size W W') : Alm w rs W' :=
  ⟨hb.os.trans h.os, hb.tape.trans h.tape, hb.output.trans h.output, Nat.le_trans h.size hb.size, fun b h1 h2 => (hb.block b (Nat.lt_of_lt_of_le h1 h.size)).trans (h.old b h1 h2), fun x hx => by
    obtain ⟨h1, cs, h2, h3⟩ := h.row x hx
    exact ⟨h1, cs, h2.below hb h2.lt, h3⟩⟩
theorem Alm.put {w W : World} {rs : List (Nat × TypeId × Nat)} (h : Alm w rs W) {r m : Nat} {t : TypeId} (hr : (r, t, m) ∈ rs) (hu : ∀ x ∈ rs, x.1 = r → x = (r, t, m)) (cs : Array Value) (hc : cs.size = m) : Alm w rs (W.setRow r cs) :=
  ⟨h.os, h.tape, h.output, by rw [setRow_size]; exact h.size, fun b h1 h2 => (setRow_other W r b cs (fun e => h2 _ hr e.symm)).trans (h.old b h1 h2), fun x hx => by
    obtain ⟨h1, cs', h2, h3⟩ := h.row x hx
    by_cases e : x.1 = r
    · have := hu x hx e
      subst this
      exact ⟨h1, cs, h2.row cs, hc⟩
    · exact ⟨h1, cs', h2.rowFar e cs, h3⟩⟩
theorem Alm.blk {w W : World} {rs : List (Nat × TypeId × Nat)} (h : Alm w rs W) {g : Nat} {t : TypeId} {cs : Array Value} (hB : Blk w g t cs) (hg : (rs.all fun x => x.1 != g) = true) : Blk W g t cs :=
  (h.old g hB.lt (fun x hx => by have := List.all_eq_true.1 hg x hx; simpa using this)).trans hB

/-- what is known of a value (row = none), or of a result cell (row = some r); it stays known while memory grows and other rows are written. -/
structure Kr (base : Nat) where
  p : Value → World → Prop
  row : Option Nat
  st : ∀ v W W', Below W.heap.size W W' → p v W → p v W'
  sr : ∀ v W r cs, r < base → row ≠ some r → p v W → p v (W.setRow r cs)
def krval {base : Nat} (c : Value) : Kr base := ⟨fun v _ => v = c, none, fun _ _ _ _ h => h, fun _ _ _ _ _ _ h => h⟩
/-- a slice of texts that lies in new memory. -/
def StrsN (base : Nat) (W : World) (v : Value) (l : List (List UInt8)) : Prop := Strs W v l ∧ ∀ a n c, v = .slice (some a) n c → base ≤ a.block
def krstrs {base : Nat} (l : List (List UInt8)) : Kr base := ⟨fun v W => StrsN base W v l, none, fun _ _ _ hb h => ⟨h.1.below hb, h.2⟩, fun v W r cs hr _ h => by
  refine ⟨?_, h.2⟩
  rcases h.1 with h1 | ⟨b, o, c, h1, h2, h3⟩
  · exact .inl h1
  · have := h.2 _ _ _ h1
    refine .inr ⟨b, o, c, h1, by rw [setRow_size]; exact h2, fun i hi => ?_⟩
    rw [← h3 i hi]
    unfold World.cell?
    simp only [setRow_other W r b cs (by simp only at this; omega)]⟩
def krblk {base : Nat} (r : Nat) (t : TypeId) (cs : Array Value) : Kr base := ⟨fun _ W => Blk W r t cs, some r, fun _ _ _ hb h => h.below hb h.lt, fun _ _ r' _ _ hne h => h.rowFar (fun e => hne (by rw [e])) _⟩
def krany {base : Nat} : Kr base := ⟨fun _ _ => True, none, fun _ _ _ _ _ => trivial, fun _ _ _ _ _ _ _ => trivial⟩
def rT {base : Nat} (KL : List (Kr base)) (i : Nat) : Value → World → Prop := (KL.getD i krany).p
/-- how an operation turns the world. -/
def rR {base : Nat} (KL : List (Kr base)) (rs : List (Nat × TypeId × Nat)) (i : Nat) (W W' : World) : Prop :=
  match (KL.getD i krany).row with
  | none => Below W.heap.size W W'
  | some r => ∃ t m cs, (r, t, m) ∈ rs ∧ cs.size = m ∧ W' = W.setRow r cs

section
variable {P : Program} {l : List Oper}
def AskAllR (P : Program) (l : List Oper) (a0 : Act) (w : World) (rs : List (Nat × TypeId × Nat)) (KL : List (Kr w.heap.size)) : Nat → List Oper → Prop
  | _, [] => True
  | i, o :: rest => Asks P l a0 (Alm w rs) (rT KL) (rR KL rs) i o ∧ AskAllR P l a0 w rs KL (i + 1) rest
theorem AskAllR.at {a0 : Act} {w : World} {rs : List (Nat × TypeId × Nat)} {KL : List (Kr w.heap.size)} : ∀ {r : List Oper} {k : Nat}, AskAllR P l a0 w rs KL k r → ∀ i o, r[i]? = some o → Asks P l a0 (Alm w rs) (rT KL) (rR KL rs) (k + i) o
  | [], _, _, i, o, h => by simp at h
  | x :: r, k, h, 0, o, ho => by
    simp only [List.getElem?_cons_zero, Option.some.injEq] at ho
    subst ho
    exact h.1
  | x :: r, k, h, i + 1, o, ho => by
    have := AskAllR.at h.2 i o (by simpa using ho)
    rwa [show k + 1 + i = k + (i + 1) by omega] at this
/-- no two operations write one row. -/
def rowsApart {base : Nat} (KL : List (Kr base)) : Prop := ∀ i j r, (KL.getD i krany).row = some r → (KL.getD j krany).row = some r → j = i

theorem wp_region_kr {id : Nat} {Q : Exit → Act → World → Prop} {a0 : Act} {w : World} (n : Nat) (rs : List (Nat × TypeId × Nat)) (hm : P.follows .mixedOrders = true) (hB : looseB l n = true) (hn : a0.tmps.size = n) (KL : List (Kr w.heap.size))
    (hrs : ∀ x ∈ rs, ∀ y ∈ rs, x.1 = y.1 → x = y) (hS : Alm w rs w) (hap : rowsApart KL) (hdn : ∀ i o, l[i]? = some o → o.dst = none → ∀ v W, rT KL i v W → rT KL i undef W)
    (hop : AskAllR P l a0 w rs KL 0 l) (hend : ∀ a W, Alm w rs W → Known l a0 (rT KL) (fun _ => true) a W → Q .normal a W) : (Code.region id l.toArray true).wp P Q a0 w := by
  refine wp_region_loose n hm hB hn (Alm w rs) (rT KL) (rR KL rs) (hS.below (Below.refl _ _).drew) (fun i W W' h1 h2 => ?_) (fun i j v W W' hne h1 h2 hT => ?_) hdn (fun i o ho => ?_) hend
  · unfold rR at h2
    split at h2
    · exact h1.below h2
    · obtain ⟨t, m, cs, hr, hc, rfl⟩ := h2
      exact h1.put hr (fun x hx e => hrs x hx _ hr e) cs hc
  · unfold rR at h2
    split at h2
    · exact (KL.getD j krany).st v W W' h2 hT
    · rename_i r hr
      obtain ⟨t, m, cs, hr', hc, rfl⟩ := h2
      exact (KL.getD j krany).sr v W r cs (h1.row _ hr').1 (fun e => hne (hap i j r hr e)) hT
  · have := AskAllR.at hop i o ho
    rwa [Nat.zero_add] at this

section
variable {a0 : Act} {w : World} {rs : List (Nat × TypeId × Nat)} {KL : List (Kr w.heap.size)} {i : Nat} {o : Oper} {W : World} {a : Act}
abbrev DepR {base : Nat} (l : List Oper) (KL : List (Kr base)) (i : Nat) (a : Act) (W : World) : Prop := ∀ j, Region.waitsFor .any l.toArray i j = true → ∀ oj s, l[j]? = some oj → oj.dst = some s → ∃ v, a.tmps[s]? = some v ∧ rT KL j v W
theorem asksr_mk (h : ∀ (a : Act) (W : World), Alm w rs W → Had l a0 a → DepR l KL i a W → Region.wanted o (yielded l.toArray a.tmps) = true ∧ GivesT P (rR KL rs i W) (rT KL i) ((execOp a.eval o).run P W)) : Asks P l a0 (Alm w rs) (rT KL) (rR KL rs) i o :=
  fun a W hS h1 h2 _ => .inl (h a W hS h1 h2)
theorem DepR.get {j s : Nat} (h : DepR l KL i a W) (hb : depB l i j s = true) : ∃ v, a.tmps[s]? = some v ∧ rT KL j v W := by
  simp only [depB, Bool.and_eq_true] at hb
  obtain ⟨h1, h2⟩ := hb
  cases hj : l[j]? with
  | none => rw [hj] at h2; cases h2
  | some oj =>
    rw [hj] at h2
    exact h j h1 oj s hj (by simpa using h2)
theorem DepR.val {j s : Nat} {c : Value} (h : DepR l KL i a W) (hb : depB l i j s = true) (hk : KL.getD j krany = krval c) : a.tmps[s]? = some c := by
  obtain ⟨v, h1, h2⟩ := h.get hb
  unfold rT at h2; rw [hk] at h2
  rw [h1]; exact congrArg some h2
theorem DepR.strs {j s : Nat} {L : List (List UInt8)} (h : DepR l KL i a W) (hb : depB l i j s = true) (hk : KL.getD j krany = krstrs L) : ∃ v, a.tmps[s]? = some v ∧ Strs W v L := by
  obtain ⟨v, h1, h2⟩ := h.get hb
  unfold rT at h2; rw [hk] at h2
  exact ⟨v, h1, h2.1⟩
theorem Known.rblk {r : Nat} {t : TypeId} {cs : Array Value} (h : Known l a0 (rT KL) (fun _ => true) a W) (hb : (match l[i]? with | some oj => oj.dst == none | none => false) = true) (hk : KL.getD i krany = krblk r t cs) : Blk W r t cs := by
  cases hj : l[i]? with
  | none => rw [hj] at hb; cases hb
  | some oj =>
    rw [hj] at hb
    have h2 := h.mem i oj hj rfl (by simpa using hb)
    unfold rT at h2; rw [hk] at h2
    exact h2
theorem rR_none (hk : (KL.getD i krany).row = none) : rR KL rs i W = Below W.heap.size W := by
  funext W'; unfold rR; rw [hk]
theorem givr_val {c x : Value} (h : (execOp a.eval o).run P W = .ok (.value x) W) (hk : KL.getD i krany = krval c) (hx : x = c) : GivesT P (rR KL rs i W) (rT KL i) ((execOp a.eval o).run P W) := by
  rw [h, rR_none (by rw [hk]; rfl)]
  refine ⟨Below.refl _ _, ?_⟩
  unfold rT; rw [hk]; exact hx
theorem givr_loadB (hS : Alm w rs W) (ty : TypeId) (x : Operand) (ho : o.op = .load ty x) (g : Nat) (hx : a.eval x = .pointer (some ⟨g, 0, none⟩)) {t : TypeId} {cs : Array Value} (hB : Blk w g t cs) (hg : (rs.all fun x => x.1 != g) = true)
    {d : TypeDesc} (hu : P.underlying ty = some d) (hd : (match d with | .struct _ | .array _ _ => true | _ => false) = true) {m : Nat} (hi : (P.info? ty).map (·.size) = some m) (hm : cs.size = m) (hk : KL.getD i krany = krval (.agg cs)) :
    GivesT P (rR KL rs i W) (rT KL i) ((execOp a.eval o).run P W) := by
  refine givr_val (x := .agg cs) ?_ hk rfl
  unfold execOp
  simp only [ho, hx, Instr.loadAt, Instr.sureAddr, Sem.run_bind, Sem.run_pure, Result.andThen_ok, run_loadVar_row W g t ty cs (0, 0) d (hS.blk hB hg) hu hd (by rw [hm]; exact hi)]
theorem givr_call {f : FuncId} {args : Array Value} {c : Value} (hrun : (execOp a.eval o).run P W = .ok (.enter f args) W) (hc : Calls P f args W fun e w' => e = .returned c ∧ Below W.heap.size W w') (hk : KL.getD i krany = krval c) :
    GivesT P (rR KL rs i W) (rT KL i) ((execOp a.eval o).run P W) := by
  rw [hrun, rR_none (by rw [hk]; rfl)]
  refine hc.mono fun e w' h => ⟨c, h.1, h.2, ?_⟩
  unfold rT; rw [hk]; rfl
theorem givr_strs (hS : Alm w rs W) (L : List (List UInt8)) (t : TypeId) (hrun : (execOp a.eval o).run P W = .ok (.value (.slice (some ⟨W.heap.size, 0, none⟩) L.length L.length)) (W.alloc (.cells (L.map tx).toArray t)))
    (hk : KL.getD i krany = krstrs L) : GivesT P (rR KL rs i W) (rT KL i) ((execOp a.eval o).run P W) := by
  rw [hrun, rR_none (by rw [hk]; rfl)]
  refine ⟨(Below.refl _ _).alloc (Nat.le_refl _) _, ?_⟩
  unfold rT; rw [hk]
  refine ⟨Strs.new W L t L.length _ rfl, fun a n c e => ?_⟩
  injection e with e1 _ _
  injection e1 with e1
  rw [← e1]
  exact hS.size
theorem givr_store (hS : Alm w rs W) (ty : TypeId) (x y : Operand) (ho : o.op = .store ty x y) (r m : Nat) (t : TypeId) (cells : Array Value) (hx : a.eval x = .pointer (some ⟨r, 0, none⟩)) (hy : a.eval y = .agg cells) (hr : (r, t, m) ∈ rs)
    (hi : (P.info? ty).map (·.size) = some m) (hm : cells.size = m) (h1 : cells.all (·.oneCell') = true) (hk : KL.getD i krany = krblk r t cells) : GivesT P (rR KL rs i W) (rT KL i) ((execOp a.eval o).run P W) := by
  obtain ⟨_, old, hB, hsz⟩ := hS.row _ hr
  have hrun : (execOp a.eval o).run P W = .ok .skip (W.setRow r cells) := by
    unfold execOp
    simp only [ho, hx, hy]
    have := run_storeVar_row (P := P) W r t ty old cells hB (by rw [hm]; exact hi) (by simp only at hsz; omega) h1
    simp [Instr.storeAt, Instr.sureAddr, this]
  rw [hrun]
  refine ⟨?_, ?_⟩
  · unfold rR; rw [hk]; exact ⟨t, m, cells, hr, hm, rfl⟩
  · unfold rT; rw [hk]; exact hB.row _
end
end
end Go.Proofs.YtconhhhggckcbaaDoor
/- The law of Loose with a tail: the last operations wait for all the others, one for the other. No program in sight. -/
namespace Go.Proofs.YtconhhhggckcbaaDoor
open Go.RowKit

section
variable {P : Program} {l : List Oper}
def tailB (l : List Oper) (n0 : Nat) : Bool :=
  decide (n0 < l.length) && Region.sinkB .any l.toArray n0 && Region.chainB .any l.toArray n0 && Region.seqB .any l.toArray (l.length - n0) n0 (List.replicate n0 true ++ List.replicate (l.length - n0) false).toArray

theorem openN_lt {n : Nat} {listed : Array Bool} (ho : openN n listed ≠ 0) : ∃ i, i < n ∧ listed.getD i true = false := by
  unfold openN at ho
  have : ((List.range n).filter fun i => listed.getD i true == false) ≠ [] := fun e => ho (by rw [e]; rfl)
  obtain ⟨i, hi⟩ := List.exists_mem_of_ne_nil _ this
  rw [List.mem_filter, List.mem_range] at hi
  exact ⟨i, hi.1, by simpa using hi.2⟩
theorem openN_set' (n : Nat) (listed : Array Bool) (i : Nat) (hi : i < n) (_hs : n ≤ listed.size) (hu : listed.getD i true = false) : openN n listed = openN n (listed.setIfInBounds i true) + 1 := by
  unfold openN
  have key : ∀ m, m ≤ n → (((List.range m).filter fun k => listed.getD k true == false).length = ((List.range m).filter fun k => (listed.setIfInBounds i true).getD k true == false).length + if i < m then 1 else 0) := by
    intro m
    induction m with
    | zero => intro _; simp
    | succ m ih =>
      intro hmn
      rw [List.range_succ, List.filter_append, List.filter_append, List.length_append, List.length_append, ih (by omega)]
      by_cases hm : m = i
      · subst hm
        have e1 : (listed.setIfInBounds m true).getD m true = true := by simp
        rw [List.filter_cons, List.filter_cons, hu, e1]
        simp
      · have e1 : (listed.setIfInBounds i true).getD m true = listed.getD m true := by
          simp only [Array.getD_eq_getD_getElem?, Array.getElem?_setIfInBounds]
          rw [if_neg (fun h => hm h.symm)]
        have e2 : ([m].filter fun k => (listed.setIfInBounds i true).getD k true == false) = ([m].filter fun k => listed.getD k true == false) := by
          rw [List.filter_cons, List.filter_cons, e1]; rfl
        rw [e2]
        by_cases h1 : i < m
        · rw [if_pos h1, if_pos (by omega)]; omega
        · rw [if_neg h1, if_neg (by omega)]; omega
  rw [key n (Nat.le_refl _), if_pos hi]

theorem wp_region_looseTail {id : Nat} {Q : Exit → Act → World → Prop} {a0 : Act} {w : World} (n n0 : Nat) (hm : P.follows .mixedOrders = true) (hB : looseB l n = true) (hTB : tailB l n0 = true) (hn : a0.tmps.size = n)
    (S : World → Prop) (T : Nat → Value → World → Prop) (R : Nat → World → World → Prop) (hS : S w.drew) (hRS : ∀ i W W', S W → R i W W' → S W') (hRT : ∀ i j v W W', j ≠ i → S W → R i W W' → T j v W → T j v W')
    (hdn : ∀ i o, l[i]? = some o → o.dst = none → ∀ v W, T i v W → T i undef W) (hop : ∀ i o, i < n0 → l[i]? = some o → Asks P l a0 S T R i o)
    (hend : ∀ a W, S W → Known l a0 T (fun i => decide (i < n0)) a W → wpList P l.toArray Q (l.drop n0) a W) : (Code.region id l.toArray true).wp P Q a0 w := by
  simp only [tailB, Bool.and_eq_true, decide_eq_true_eq] at hTB
  obtain ⟨⟨⟨hlt, hsink⟩, hchain⟩, hseq⟩ := hTB
  refine wp_region_any hm ?_
  have main : ∀ (f : Nat) (listed : Array Bool) (a : Act) (W : World), HeadInv .any l.toArray n0 listed → openN n0 listed = f → S W → Known l a0 T (fun j => listed.getD j false) a W →
      wpAny P .any l.toArray Q (f + (l.length - n0)) listed a W := by
    intro f
    induction f with
    | zero =>
      intro listed a W inv hf hSW hK
      have hsz : listed.size = l.length := by simpa using inv.size
      have hall : ∀ j, j < n0 → listed.getD j false = true := by
        intro j hj
        have hjs : j < listed.size := by omega
        cases hu : listed.getD j true with
        | true =>
          simp only [Array.getD_eq_getD_getElem?, Array.getElem?_eq_getElem hjs, Option.getD_some] at hu ⊢
          exact hu
        | false =>
          have := openN_set' n0 listed j hj (by omega) hu
          omega
      have hlisted : listed = (List.replicate n0 true ++ List.replicate (l.length - n0) false).toArray := by
        apply Array.ext
        · simp; omega
        · intro i h1 h2
          by_cases hi : i < n0
          · have := hall i hi
            simp only [Array.getD_eq_getD_getElem?, Array.getElem?_eq_getElem h1, Option.getD_some] at this
            rw [this]
            simp [hi]
          · have := inv.tail i (by omega) (by simpa [hsz] using h1)
            simp only [Array.getD_eq_getD_getElem?, Array.getElem?_eq_getElem h1, Option.getD_some] at this
            rw [this]
            simp [List.getElem_append, hi]
      have hlen : (l.drop n0).length = l.length - n0 := by simp
      rw [Nat.zero_add, ← hlen]
      refine wpAny_of_seq (md := .any) (l.drop n0) n0 listed a W (fun j => by simp [List.getElem?_drop]) (by rw [hlen, hlisted]; exact hseq) (hend a W hSW ?_)
      have hiff : ∀ j, j < l.length → (listed.getD j false = true ↔ j < n0) := by
        intro j hj
        constructor
        · intro h
          rcases Nat.lt_or_ge j n0 with h' | h'
          · exact h'
          · have := getD_both (inv.tail j h' (by simpa using hj))
            rw [this] at h; cases h
        · exact hall j
      exact ⟨hK.size, hK.defers, fun s hs => hK.old s (fun i o hi hl => hs i o hi (by have := (hiff i (List.getElem?_eq_some_iff.1 hi).1).1 hl; simpa using this)),
        fun i o s hi hl hs => hK.new i o s hi ((hiff i (List.getElem?_eq_some_iff.1 hi).1).2 (by simpa using hl)) hs, fun i o hi hl hs => hK.mem i o hi ((hiff i (List.getElem?_eq_some_iff.1 hi).1).2 (by simpa using hl)) hs⟩
    | succ f ih =>
      intro listed a W inv hf hSW hK
      have hsz : listed.size = l.length := by simpa using inv.size
      rw [show f + 1 + (l.length - n0) = (f + (l.length - n0)) + 1 by omega]
      obtain ⟨i1, hi1, hu1⟩ := openN_lt (n := n0) (listed := listed) (by omega)
      have hopen : openN l.length listed ≠ 0 := by
        have := openN_set' l.length listed i1 (by omega) (by omega) hu1
        omega
      refine ⟨fun h => absurd h (ready_of_open hB hsz hopen), fun i hi => ?_⟩
      have hin : i < n0 := by
        rcases Nat.lt_or_ge i n0 with h | h
        · exact h
        · exact absurd hi (tail_waits hsink hchain (by simpa using hlt) inv _ i1 rfl hi1 hu1 i h)
      obtain ⟨hu, o, ho, hwait⟩ := mem_ready.1 hi
      have hio : l[i]? = some o := by simpa using ho
      have hil := (List.getElem?_eq_some_iff.1 hio).1
      have hstep : ∀ v W', R i W W' ∨ W' = W → T i v W' → wpAny P .any l.toArray Q (f + (l.length - n0)) (listed.setIfInBounds i true) (a.put o.dst v) W' := by
        intro v W' hR hTv
        have hS' : S W' := by
          rcases hR with hR | rfl
          · exact hRS i W W' hSW hR
          · exact hSW
        refine ih _ _ _ (inv.set hi hin) (by have := openN_set' n0 listed i hin (by omega) hu; omega) hS' ?_
        refine hK.put hB hn hio hsz hu (fun j u hne hTj => ?_) hTv (fun hd => hdn i o hio hd v W' hTv)
        rcases hR with hR | rfl
        · exact hRT i j u W W' hne hSW hR hTj
        · exact hTj
      have hlist : ∀ j, Region.waitsFor .any l.toArray i j = true → listed.getD j false = true := by
        intro j hj
        obtain ⟨o', ho', e, he, hb, hon⟩ := Region.waitsFor_spec hj
        have e1 : o' = o := Option.some.inj (ho'.symm.trans ho)
        subst e1
        rw [← hon]; exact hwait e he hb
      have hask := hop i o hin hio a W hSW (fun s v hs hv => by
          rw [hK.old s (fun j oj hj _ hd => by
            have := List.all_eq_true.1 hs oj (List.mem_of_getElem? hj)
            rw [hd] at this; simp at this)]
          exact hv)
        (fun j hj oj s hoj hs => hK.new j oj s hoj (hlist j hj) hs) (fun j hj oj hoj hs => hK.mem j oj hoj (hlist j hj) hs)
      unfold wpOp
      simp only [ho]
      rcases hask with ⟨hw, hg⟩ | ⟨hw, hT⟩
      · rw [if_pos hw]
        left
        unfold Oper.wp
        generalize (execOp a.eval o).run P W = r at hg
        cases r with
        | ok x w' =>
          cases x <;> simp only [GivesT] at hg
          case value u => exact hstep _ _ (.inl hg.1) hg.2
          case skip => exact hstep _ _ (.inl hg.1) hg.2
          case enter f' args =>
            show Calls P f' args w' _
            refine hg.mono ?_
            rintro e w'' ⟨v, rfl, h1, h2⟩
            exact hstep _ _ (.inl h1) h2
        | halt x w' => simp only [GivesT] at hg
      · rw [if_neg (by rw [hw]; decide)]
        exact hstep _ _ (.inr rfl) hT
  have h0 : openN n0 (Array.replicate l.toArray.size false) = n0 := by
    unfold openN
    have : ((List.range n0).filter fun i => (Array.replicate l.toArray.size false).getD i true == false) = List.range n0 := by
      apply List.filter_eq_self.2
      intro i hi
      rw [List.mem_range] at hi
      have : i < l.length := by omega
      simp [this]
    rw [this]; simp
  have e : l.toArray.size = n0 + (l.length - n0) := by simp; omega
  have := main n0 (Array.replicate l.toArray.size false) a0 w.drew (headInv0 n0) h0 hS ⟨rfl, rfl, fun s _ => rfl, fun i o s hi hl => (by rw [getD_replicate_false] at hl; cases hl), fun i o hi hl => (by rw [getD_replicate_false] at hl; cases hl)⟩
  rw [e] at this ⊢
  exact this

/-- each operation of the head, in the text's order. -/
theorem wp_region_kdTail {id : Nat} {Q : Exit → Act → World → Prop} {a0 : Act} {w : World} (n n0 : Nat) (hm : P.follows .mixedOrders = true) (hB : looseB l n = true) (hTB : tailB l n0 = true) (hd : ((l.take n0).all fun o => o.dst.isSome) = true) (hn : a0.tmps.size = n) (KL : List Kd) (hkl : KL.length ≤ n0)
    (hop : AskAll P l a0 w KL 0 (l.take n0)) (hend : ∀ a W, Below w.heap.size w W → Known l a0 (kT KL) (fun i => decide (i < n0)) a W → wpList P l.toArray Q (l.drop n0) a W) : (Code.region id l.toArray true).wp P Q a0 w := by
  refine wp_region_looseTail n n0 hm hB hTB hn (Below w.heap.size w) (kT KL) grows (Below.refl _ _).drew (fun _ W W' h1 h2 => h1.trans (h2.mono h1.size)) (fun _ j v W W' _ _ hR hT => (KL.getD j kany).st v W W' hR hT) (fun i o ho hnone => ?_) (fun i o hi ho => ?_) hend
  · intro v W hT
    by_cases hi : i < n0
    · have := List.all_eq_true.1 hd o (List.mem_of_getElem? (i := i) (by rw [List.getElem?_take_of_lt hi]; exact ho))
      rw [hnone] at this; cases this
    · unfold kT
      have : KL.getD i kany = kany := by simp [List.getElem?_eq_none (show KL.length ≤ i by omega)]
      rw [this]; trivial
  · have := AskAll.at hop i o (by rw [List.getElem?_take_of_lt hi]; exact ho)
    rwa [Nat.zero_add] at this
theorem Known.hval {n0 i s : Nat} {a0 a : Act} {KL : List Kd} {W : World} {c : Value} (h : Known l a0 (kT KL) (fun i => decide (i < n0)) a W) (hi : decide (i < n0) = true) (hb : (match l[i]? with | some oj => oj.dst == some s | none => false) = true) (hk : KL.getD i kany = kval c) : a.tmps[s]? = some c := by
  cases hj : l[i]? with
  | none => rw [hj] at hb; cases hb
  | some oj =>
    rw [hj] at hb
    obtain ⟨v, h1, h2⟩ := h.new i oj s hj hi (by simpa using hb)
    unfold kT at h2; rw [hk] at h2
    rw [h1]; exact congrArg some h2
theorem Known.hvl {n0 : Nat} {a0 a : Act} {KL : List Kd} {W : World} {c : Value} (h : Known l a0 (kT KL) (fun i => decide (i < n0)) a W) (i s : Nat) (hi : decide (i < n0) = true) (hb : (match l[i]? with | some oj => oj.dst == some s | none => false) = true) (hk : KL.getD i kany = kval c) : a.tmps[s]? = some c := h.hval hi hb hk
theorem Known.hget {n0 i s : Nat} {a0 a : Act} {KL : List Kd} {W : World} (h : Known l a0 (kT KL) (fun i => decide (i < n0)) a W) (hi : decide (i < n0) = true) (hb : (match l[i]? with | some oj => oj.dst == some s | none => false) = true) : ∃ v, a.tmps[s]? = some v ∧ (KL.getD i kany).p v W := by
  cases hj : l[i]? with
  | none => rw [hj] at hb; cases hb
  | some oj =>
    rw [hj] at hb
    exact h.new i oj s hj hi (by simpa using hb)
theorem Known.hframe {n0 : Nat} {a0 a : Act} {T : Nat → Value → World → Prop} {W : World} (h : Known l a0 T (fun i => decide (i < n0)) a W) (vs : List Value) (hA : AllAt a (l.take n0) vs) : putAll a0 (l.take n0) vs = a :=
  putAll_eq (l.take n0) vs a0 h.size.symm (fun s hs => (h.old s (fun i o ho hi => hs o (List.mem_of_getElem? (i := i) (by rw [List.getElem?_take_of_lt (by simpa using hi)]; exact ho)))).symm) hA h.defers.symm
end
/-- a new block of m cells of type t, not ahead of B. -/
def kptr (B : Nat) (t : TypeId) (cs : Array Value) : Kd := ⟨fun v W => ∃ g, B ≤ g ∧ v = .pointer (some ⟨g, 0, none⟩) ∧ Blk W g t cs, fun _ _ _ hb ⟨g, h0, h1, h2⟩ => ⟨g, h0, h1, h2.below hb h2.lt⟩⟩
theorem giv_alloc {P : Program} {KL : List Kd} {i B : Nat} {o : Oper} {W : World} {a : Act} (hB : B ≤ W.heap.size) (t : TypeId) (cs : Array Value) (hrun : (execOp a.eval o).run P W = .ok (.value (.pointer (some ⟨W.heap.size, 0, none⟩))) (W.alloc (.cells cs t)))
    (hk : KL.getD i kany = kptr B t cs) : GivesT P (grows i W) (kT KL i) ((execOp a.eval o).run P W) := by
  rw [hrun]
  refine ⟨(Below.refl _ _).alloc (Nat.le_refl _) _, ?_⟩
  unfold kT; rw [hk]
  exact ⟨W.heap.size, hB, rfl, Blk.new _ _ _⟩
end Go.Proofs.YtconhhhggckcbaaDoor
/- Walks over frames of which single slots are known, and over memory of which the call's own blocks are known: one law a step, no simp. No program in sight. -/
namespace Go.Proofs.YtconhhhggckcbaaDoor
open Go.RowKit

/-- the value that a list of slots has for one: the first one counts. -/
def lk : List (Nat × Value) → Nat → Option Value
  | [], _ => none
  | p :: r, x => cond (Nat.beq p.1 x) (some p.2) (lk r x)
/-- a frame of n slots, of which some are known. -/
structure FrD (D : List Deferred) (a : Act) (n : Nat) (L : List (Nat × Value)) : Prop where
  size : a.tmps.size = n
  defers : a.defers = D
  has : ∀ s v, lk L s = some v → a.tmps[s]? = some v
/-- with no deferred call. -/
abbrev Fr (a : Act) (n : Nat) (L : List (Nat × Value)) : Prop := FrD [] a n L
variable {D : List Deferred}
section
variable {P : Program} {a : Act} {o : Oper} {w w0 : World} {n s : Nat} {L L2 : List (Nat × Value)} {v : Value}
theorem FrD.at (h : FrD D a n L) (s : Nat) {v : Value} (e : lk L s = some v) : a.tmps[s]? = some v := h.has s v e
theorem FrD.ev (h : FrD D a n L) (s : Nat) {v : Value} (e : lk L s = some v) : a.eval (.tmp s) = v := eval_tmp (h.has s v e)
theorem FrD.put (h : FrD D a n L) (hs : s < n) : FrD D (a.put (some s) v) n ((s, v) :: L) := by
  refine ⟨by simp [Act.put, h.size], by simp [Act.put, h.defers], fun x u hx => ?_⟩
  unfold lk at hx
  simp only [Act.put, Array.getElem?_setIfInBounds]
  cases hb : Nat.beq s x with
  | true =>
    have e : s = x := Nat.eq_of_beq_eq_true hb
    subst e
    simp only [hb, cond_true] at hx
    rw [if_pos rfl, if_pos (by rw [h.size]; exact hs)]
    exact hx
  | false =>
    have e : s ≠ x := Nat.ne_of_beq_eq_false hb
    simp only [hb, cond_false] at hx
    rw [if_neg e]
    exact h.has x u hx
def subs (L : List (Nat × Value)) : List (Nat × Value) → Prop
  | [] => True
  | p :: r => lk L p.1 = some p.2 ∧ subs L r
theorem subs_lk : ∀ {L2 : List (Nat × Value)}, subs L L2 → ∀ s v, lk L2 s = some v → lk L s = some v
  | [], _, s, v, h => by simp [lk] at h
  | p :: r, hs, s, v, h => by
    unfold lk at h
    cases hb : Nat.beq p.1 s with
    | true =>
      simp only [hb, cond_true, Option.some.injEq] at h
      rw [← Nat.eq_of_beq_eq_true hb, ← h]
      exact hs.1
    | false =>
      simp only [hb, cond_false] at h
      exact subs_lk hs.2 s v h
theorem FrD.sub (h : FrD D a n L) (hs : subs L L2) : FrD D a n L2 := ⟨h.size, h.defers, fun s v e => h.has s v (subs_lk hs s v e)⟩

/-- the arguments in the first slots. -/
def numbered : List Value → Nat → List (Nat × Value)
  | [], _ => []
  | v :: r, i => (i, v) :: numbered r (i + 1)
theorem lk_numbered : ∀ (vs : List Value) (i s : Nat) (v : Value), lk (numbered vs i) s = some v → i ≤ s ∧ vs[s - i]? = some v
  | [], _, _, _, h => by simp [numbered, lk] at h
  | u :: r, i, s, v, h => by
    unfold numbered lk at h
    cases hb : Nat.beq i s with
    | true =>
      have e : i = s := Nat.eq_of_beq_eq_true hb
      subst e
      simp only [hb, cond_true, Option.some.injEq] at h
      subst h
      simp
    | false =>
      have e : i ≠ s := Nat.ne_of_beq_eq_false hb
      simp only [hb, cond_false] at h
      obtain ⟨h1, h2⟩ := lk_numbered r (i + 1) s v h
      refine ⟨by omega, ?_⟩
      rw [show s - i = (s - (i + 1)) + 1 by omega]
      simpa using h2
theorem walk_enter {f : FuncId} {fn : Func} {c : Code} {vs : List Value} {R : Ending → World → Prop} (hf : P.funcs[f]? = some fn) (hb : fn.body = some c) (hn : fn.ntmps = n) (hv : Nat.ble vs.length n = true)
    (h : ∀ a, Fr a n (numbered vs 0) → c.wp P (bodyPost P fn R) a w) : Calls P f vs.toArray w R := by
  refine calls_of_wp hf hb (h _ ⟨?_, rfl, fun s v e => ?_⟩)
  · have := Nat.le_of_ble_eq_true hv; subst hn; simp; omega
  · obtain ⟨_, h2⟩ := lk_numbered vs 0 s v e
    have hs := (List.getElem?_eq_some_iff.1 h2).1
    simp only [Nat.sub_zero] at h2 hs
    rw [Array.getElem?_append, if_pos (by simpa using hs)]
    simpa using h2

/-- a block that is known whole. -/
def isB (t : TypeId) (cs : Array Value) : Obj → Prop := fun ob => ob = .cells cs t (0, 0)
/-- the call's own blocks, each with what is known of it; nothing elder has changed. -/
structure Mem (w0 : World) (M : List (Nat × (Obj → Prop))) (w : World) : Prop where
  below : Below w0.heap.size w0 w
  has : ∀ x ∈ M, w0.heap.size ≤ x.1 ∧ ∃ ob, w.heap[x.1]? = some ob ∧ x.2 ob
  nd : M.Pairwise fun x y => x.1 ≠ y.1
variable {M : List (Nat × (Obj → Prop))}
theorem Mem.new (w0 : World) : Mem w0 [] w0 := ⟨Below.refl _ _, by simp, .nil⟩
theorem Mem.ob (h : Mem w0 M w) (i : Nat) {g : Nat} {S : Obj → Prop} (e : M[i]? = some (g, S)) : ∃ ob, w.heap[g]? = some ob ∧ S ob := (h.has _ (List.mem_of_getElem? e)).2
theorem Mem.at (h : Mem w0 M w) (i : Nat) {g : Nat} {t : TypeId} {cs : Array Value} (e : M[i]? = some (g, isB t cs)) : Blk w g t cs := by
  obtain ⟨ob, h1, h2⟩ := h.ob i e
  unfold isB at h2
  subst h2
  exact h1
theorem Mem.ge (h : Mem w0 M w) (i : Nat) {g : Nat} {S : Obj → Prop} (e : M[i]? = some (g, S)) : w0.heap.size ≤ g := (h.has _ (List.mem_of_getElem? e)).1
theorem lt_of_ob {w : World} {g : Nat} {ob : Obj} (h : w.heap[g]? = some ob) : g < w.heap.size := (Array.getElem?_eq_some_iff.1 h).1
theorem Mem.lt (h : Mem w0 M w) {x : Nat × (Obj → Prop)} (hx : x ∈ M) : x.1 < w.heap.size := by obtain ⟨_, ob, h1, _⟩ := h.has x hx; exact lt_of_ob h1
theorem Mem.grow {w2 : World} (h : Mem w0 M w) (hb : Below w.heap.size w w2) : Mem w0 M w2 :=
  ⟨h.below.trans (hb.mono h.below.size), fun x hx => ⟨(h.has x hx).1, by obtain ⟨_, ob, h1, h2⟩ := h.has x hx; exact ⟨ob, (hb.block _ (lt_of_ob h1)).trans h1, h2⟩⟩, h.nd⟩
theorem Mem.addS {w2 : World} {g : Nat} {S : Obj → Prop} (h : Mem w0 M w) (hb : Below w.heap.size w w2) (hg : w.heap.size ≤ g) (hB : ∃ ob, w2.heap[g]? = some ob ∧ S ob) : Mem w0 ((g, S) :: M) w2 := by
  refine ⟨(h.grow hb).below, fun x hx => ?_, List.Pairwise.cons (fun y hy => ?_) h.nd⟩
  · rcases List.mem_cons.1 hx with rfl | hx
    · exact ⟨Nat.le_trans h.below.size hg, hB⟩
    · exact (h.grow hb).has x hx
  · have := h.lt hy
    simp only
    omega
theorem Mem.add {w2 : World} {g : Nat} {t : TypeId} {cs : Array Value} (h : Mem w0 M w) (hb : Below w.heap.size w w2) (hg : w.heap.size ≤ g) (hB : Blk w2 g t cs) : Mem w0 ((g, isB t cs) :: M) w2 := h.addS hb hg ⟨_, hB, rfl⟩
theorem Mem.alloc (h : Mem w0 M w) (cs : Array Value) (t : TypeId) : Mem w0 ((w.heap.size, isB t cs) :: M) (w.alloc (.cells cs t)) :=
  h.add ((Below.refl _ _).alloc (Nat.le_refl _) _) (Nat.le_refl _) (Blk.new _ _ _)
theorem Mem.drew (h : Mem w0 M w) : Mem w0 M w.drew := h.grow (Below.refl _ _).drew
theorem Mem.sub {M2 : List (Nat × (Obj → Prop))} (h : Mem w0 M w) (hs : M2.Sublist M) : Mem w0 M2 w := ⟨h.below, fun x hx => h.has x (hs.subset hx), h.nd.sublist hs⟩
theorem setAt_ne {M : List (Nat × (Obj → Prop))} (nd : M.Pairwise fun x y => x.1 ≠ y.1) {i j : Nat} {x y : Nat × (Obj → Prop)} (hi : M[i]? = some x) (hj : M[j]? = some y) (hne : i ≠ j) : x.1 ≠ y.1 := by
  obtain ⟨h1, rfl⟩ := List.getElem?_eq_some_iff.1 hi
  obtain ⟨h2, rfl⟩ := List.getElem?_eq_some_iff.1 hj
  rcases Nat.lt_or_ge i j with h | h
  · exact List.pairwise_iff_getElem.1 nd i j h1 h2 h
  · exact fun e => List.pairwise_iff_getElem.1 nd j i h2 h1 (by omega) e.symm
/-- one of the blocks has changed, and memory may have grown. -/
theorem Mem.upd {w2 : World} (h : Mem w0 M w) (i : Nat) {g : Nat} {S : Obj → Prop} (e : M[i]? = some (g, S)) (hg : w.grownBy w2 (some g)) {S2 : Obj → Prop} (hS : ∃ ob, w2.heap[g]? = some ob ∧ S2 ob) : Mem w0 (M.set i (g, S2)) w2 := by
  refine ⟨⟨hg.os.trans h.below.os, hg.tape.trans h.below.tape, hg.output.trans h.below.output, Nat.le_trans h.below.size hg.size, fun k hk => (hg.block k (Nat.lt_of_lt_of_le hk h.below.size) (fun e2 => by have := h.ge i e; injection e2 with e2; omega)).trans (h.below.block k hk)⟩, fun x hx => ?_, ?_⟩
  · obtain ⟨j, hj⟩ := List.mem_iff_getElem?.1 hx
    rw [List.getElem?_set] at hj
    have hil := (List.getElem?_eq_some_iff.1 e).1
    by_cases hij : i = j
    · rw [if_pos hij, if_pos hil] at hj
      injection hj with hj
      subst hj
      exact ⟨h.ge i e, hS⟩
    · rw [if_neg hij] at hj
      obtain ⟨h1, ob, h2, h3⟩ := h.has x (List.mem_of_getElem? hj)
      exact ⟨h1, ob, (hg.block _ (lt_of_ob h2) (fun e2 => setAt_ne h.nd e hj hij (Option.some.inj e2).symm)).trans h2, h3⟩
  · rw [List.pairwise_iff_getElem]
    have nd := List.pairwise_iff_getElem.1 h.nd
    have hil := (List.getElem?_eq_some_iff.1 e)
    have hfst : ∀ k (hk : k < (M.set i (g, S2)).length), ((M.set i (g, S2))[k]).1 = (M[k]'(by simpa using hk)).1 := by
      intro k hk
      rw [List.getElem_set]
      split
      · rename_i hik; subst hik; rw [hil.2]
      · rfl
    intro p q hp hq hpq
    rw [hfst p hp, hfst q hq]
    exact nd p q (by simpa using hp) (by simpa using hq) hpq
theorem grown_setRow (w : World) (g : Nat) (cs : Array Value) : w.grownBy (w.setRow g cs) (some g) := by
  refine ⟨rfl, rfl, rfl, by simp [World.setRow], fun k _ hne => ?_⟩
  have : g ≠ k := fun e => hne (by rw [e])
  simp [World.setRow, Array.getElem?_modify, this]
theorem Mem.row (h : Mem w0 M w) (i : Nat) {g : Nat} {t : TypeId} {cs : Array Value} (e : M[i]? = some (g, isB t cs)) (cs2 : Array Value) : Mem w0 (M.set i (g, isB t cs2)) (w.setRow g cs2) :=
  h.upd i e (grown_setRow w g cs2) ⟨_, (h.at i e).row cs2, rfl⟩
/-- a row that the call owns and appends to, apart from the blocks. -/
structure OwnR (w0 : World) (M : List (Nat × (Obj → Prop))) (w : World) (e : TypeId) (size : Nat) (v : Value) (n : Nat) (xs : List Value) : Prop where
  owns : w.ownsRow w0.heap.size e size v n xs
  far : ∀ x ∈ M, v.ownBlock ≠ some x.1
variable {e : TypeId} {size m : Nat} {xs : List Value}
theorem own_lt_size {base : Nat} {g : Nat} (h : w.ownsRow base e size v m xs) (hg : v.ownBlock = some g) : g < w.heap.size := by
  rcases h.2 with ⟨rfl, _⟩ | ⟨g2, cap, cur, rfl, _, hh, _⟩
  · simp [Value.ownBlock] at hg
  · have : g2 = g := by simpa [Value.ownBlock] using hg
    subst this
    exact lt_of_ob hh
theorem OwnR.grow {w2 : World} (h : OwnR w0 M w e size v m xs) (hb : Below w.heap.size w w2) : OwnR w0 M w2 e size v m xs := by
  refine ⟨⟨h.owns.1, ?_⟩, h.far⟩
  rcases h.owns.2 with h1 | ⟨g, cap, cur, h1, h2, hh, h3⟩
  · exact .inl h1
  · exact .inr ⟨g, cap, cur, h1, h2, (hb.block g (lt_of_ob hh)).trans hh, h3⟩
theorem OwnR.nil (w0 w : World) (M : List (Nat × (Obj → Prop))) (e : TypeId) (size : Nat) : OwnR w0 M w e size (.slice none 0 0) 0 [] := ⟨⟨by simp, .inl ⟨rfl, rfl⟩⟩, fun _ _ => by simp [Value.ownBlock]⟩
/-- the row was appended to: the blocks are as they were. -/
theorem OwnR.mem {w2 : World} (h : OwnR w0 M w e size v m xs) (hM : Mem w0 M w) (hg : w.grownBy w2 v.ownBlock) : Mem w0 M w2 := by
  have hge : ∀ k, v.ownBlock = some k → w0.heap.size ≤ k := fun k hk => own_base h.owns hk
  refine ⟨⟨hg.os.trans hM.below.os, hg.tape.trans hM.below.tape, hg.output.trans hM.below.output, Nat.le_trans hM.below.size hg.size, fun k hk => (hg.block k (Nat.lt_of_lt_of_le hk hM.below.size) (fun e2 => by have := hge k e2.symm; omega)).trans (hM.below.block k hk)⟩, fun x hx => ?_, hM.nd⟩
  obtain ⟨h1, ob, h2, h3⟩ := hM.has x hx
  exact ⟨h1, ob, (hg.block _ (lt_of_ob h2) (fun e2 => h.far x hx e2.symm)).trans h2, h3⟩
theorem OwnR.next {w2 : World} {v2 : Value} {m2 : Nat} {xs2 : List Value} (h : OwnR w0 M w e size v m xs) (hM : Mem w0 M w) (h2 : w2.ownsRow w0.heap.size e size v2 m2 xs2) (hb : v2.ownBlock = v.ownBlock ∨ ∃ g, v2.ownBlock = some g ∧ w.heap.size ≤ g) : OwnR w0 M w2 e size v2 m2 xs2 := by
  refine ⟨h2, fun x hx => ?_⟩
  rcases hb with hb | ⟨g, hb, hg⟩
  · rw [hb]; exact h.far x hx
  · rw [hb]
    intro e2
    have := hM.lt hx
    injection e2 with e2
    omega
theorem OwnR.add {w2 : World} {g : Nat} {S : Obj → Prop} (h : OwnR w0 M w e size v m xs) (hb : Below w.heap.size w w2) (hg : w.heap.size ≤ g) : OwnR w0 ((g, S) :: M) w2 e size v m xs := by
  refine ⟨(h.grow hb).owns, fun x hx => ?_⟩
  rcases List.mem_cons.1 hx with rfl | hx
  · intro e2
    have := own_lt_size h.owns e2
    simp only at this
    omega
  · exact h.far x hx
theorem OwnR.upd {w2 : World} (h : OwnR w0 M w e size v m xs) (i : Nat) {g : Nat} {S S2 : Obj → Prop} (hi : M[i]? = some (g, S)) (hg : w.grownBy w2 (some g)) : OwnR w0 (M.set i (g, S2)) w2 e size v m xs := by
  have hne : v.ownBlock ≠ some g := h.far _ (List.mem_of_getElem? hi)
  refine ⟨⟨h.owns.1, ?_⟩, fun x hx => ?_⟩
  · rcases h.owns.2 with h1 | ⟨g2, cap, cur, rfl, h2, hh, h3⟩
    · exact .inl h1
    · exact .inr ⟨g2, cap, cur, rfl, h2, (hg.block g2 (lt_of_ob hh) (by simpa [Value.ownBlock] using hne)).trans hh, h3⟩
  · obtain ⟨j, hj⟩ := List.mem_iff_getElem?.1 hx
    rw [List.getElem?_set] at hj
    split at hj
    · split at hj
      · injection hj with hj; subst hj; exact hne
      · cases hj
    · exact h.far x (List.mem_of_getElem? hj)
end

section
variable {P : Program} {a : Act} {o : Oper} {w w0 : World} {n s : Nat} {L : List (Nat × Value)} {v : Value} {ops : Array Oper} {rest : List Oper} {Q : Exit → Act → World → Prop} {M : List (Nat × (Obj → Prop))}
theorem wantedS (hg : o.guard = none) : Region.wanted o (yielded ops a.tmps) = true := by simp [Region.wanted, hg]
theorem wantedG {j sj : Nat} {want b : Bool} {oj : Oper} (hF : FrD D a n L) (hg : o.guard = some (j, want)) (hj : ops[j]? = some oj) (hs : oj.dst = some sj) (he : lk L sj = some (.bool b)) (hb : (b == want) = true) : Region.wanted o (yielded ops a.tmps) = true := by
  simp [Region.wanted, hg, yielded, hj, hs, hF.at sj he, hb]
theorem unwantedG {j sj : Nat} {want b : Bool} {oj : Oper} (hF : FrD D a n L) (hg : o.guard = some (j, want)) (hj : ops[j]? = some oj) (hs : oj.dst = some sj) (he : lk L sj = some (.bool b)) (hb : (b == want) = false) : Region.wanted o (yielded ops a.tmps) = false := by
  simp [Region.wanted, hg, yielded, hj, hs, hF.at sj he, hb]
/-- an operation that leaves a value. -/
theorem sq {w2 : World} (hF : FrD D a n L) (hw : Region.wanted o (yielded ops a.tmps) = true) (hrun : (execOp a.eval o).run P w = .ok (.value v) w2) (hd : o.dst = some s) (hs : s < n)
    (h : ∀ a2, FrD D a2 n ((s, v) :: L) → wpList P ops Q rest a2 w2) : wpList P ops Q (o :: rest) a w := by
  unfold wpList
  rw [if_pos hw]
  left
  unfold Oper.wp
  rw [hrun, Oper.upon_value, hd]
  exact h _ (hF.put hs)
/-- one that leaves none. -/
theorem sqN {w2 : World} (hF : FrD D a n L) (hw : Region.wanted o (yielded ops a.tmps) = true) (hrun : (execOp a.eval o).run P w = .ok .skip w2) (hd : o.dst = none)
    (h : ∀ a2, FrD D a2 n L → wpList P ops Q rest a2 w2) : wpList P ops Q (o :: rest) a w := by
  unfold wpList
  rw [if_pos hw]
  left
  unfold Oper.wp
  rw [hrun, Oper.upon_skip, hd]
  exact h _ hF
/-- one that is passed over. -/
theorem sqSkip (hF : FrD D a n L) (hw : Region.wanted o (yielded ops a.tmps) = false) (hd : o.dst = some s) (hs : s < n) (h : ∀ a2, FrD D a2 n ((s, undef) :: L) → wpList P ops Q rest a2 w) : wpList P ops Q (o :: rest) a w := by
  unfold wpList
  rw [if_neg (by rw [hw]; decide), hd]
  exact h _ (hF.put hs)
/-- the same, with less to say. -/
theorem sr {w2 : World} (hF : FrD D a n L) (hrun : (execOp a.eval o).run P w = .ok (.value v) w2) (hg : o.guard = none) (hd : o.dst = some s) (hs : Nat.blt s n = true) (h : ∀ a2, FrD D a2 n ((s, v) :: L) → wpList P ops Q rest a2 w2) : wpList P ops Q (o :: rest) a w :=
  sq hF (wantedS hg) hrun hd (Nat.le_of_ble_eq_true hs) h
theorem mvS {j : Nat} (hF : FrD D a n L) (ho : o.op = .move (.tmp j)) (he : lk L j = some v) (hg : o.guard = none) (hd : o.dst = some s) (hs : Nat.blt s n = true) (h : ∀ a2, FrD D a2 n ((s, v) :: L) → wpList P ops Q rest a2 w) : wpList P ops Q (o :: rest) a w :=
  sr hF (by simp [execOp, ho, hF.ev j he]) hg hd hs h
theorem asS {j : Nat} (hF : FrD D a n L) (ho : o.op = .assign (.tmp j)) (he : lk L j = some v) (hg : o.guard = none) (hd : o.dst = some s) (hs : Nat.blt s n = true) (h : ∀ a2, FrD D a2 n ((s, v) :: L) → wpList P ops Q rest a2 w) : wpList P ops Q (o :: rest) a w :=
  sr hF (by simp [execOp, ho, hF.ev j he]) hg hd hs h
theorem wsl {id : Nat} {l : List Oper} {c : Code} (h : wpList P l.toArray (Exit.then (c.wp P Q) Q) l a w) : (Code.seq (Code.region id l.toArray false) c).wp P Q a w := wp_seq (wp_region_lit h)
/-- a call: what is known of its value and of the world behind it. -/
theorem sqT {f : FuncId} {args : Array Value} {T : Value → World → Prop} (hF : FrD D a n L) (hw : Region.wanted o (yielded ops a.tmps) = true) (hrun : (execOp a.eval o).run P w = .ok (.enter f args) w) (hd : o.dst = some s) (hs : s < n)
    (hc : Calls P f args w fun e w2 => ∃ v, e = .returned v ∧ T v w2) (h : ∀ v a2 w2, T v w2 → FrD D a2 n ((s, v) :: L) → wpList P ops Q rest a2 w2) : wpList P ops Q (o :: rest) a w := by
  unfold wpList
  rw [if_pos hw]
  left
  unfold Oper.wp
  rw [hrun, Oper.upon_enter]
  refine hc.mono ?_
  rintro e w2 ⟨v, rfl, hT⟩
  show wpList _ _ _ _ _ _
  rw [hd]
  exact h v _ w2 hT (hF.put hs)
theorem sqC {f : FuncId} {args : Array Value} (hF : FrD D a n L) (hM : Mem w0 M w) (hw : Region.wanted o (yielded ops a.tmps) = true) (hrun : (execOp a.eval o).run P w = .ok (.enter f args) w) (hd : o.dst = some s) (hs : s < n)
    (hc : Calls P f args w fun e w2 => e = .returned v ∧ Below w.heap.size w w2) (h : ∀ a2 w2, Below w.heap.size w w2 → FrD D a2 n ((s, v) :: L) → Mem w0 M w2 → wpList P ops Q rest a2 w2) : wpList P ops Q (o :: rest) a w :=
  sqT (T := fun u w2 => u = v ∧ Below w.heap.size w w2) hF hw hrun hd hs (hc.mono fun _ _ ⟨h1, h2⟩ => ⟨v, h1, rfl, h2⟩) fun u a2 w2 hT hF2 => by
    obtain ⟨rfl, hb⟩ := hT
    exact h a2 w2 hb hF2 (hM.grow hb)
theorem run_call {f : FuncId} {fn : Func} {xs : Array Operand} {ts : Array TypeId} {args : Array Value} (ho : o.op = .call { callee := .value (.func f), args := xs, argTypes := ts }) (hf : P.funcs[f]? = some fn) (hn : (fn.name == "runtime.NumGoroutine") = false) (hb : fn.body.isNone = false) (hx : xs.map a.eval = args) :
    (execOp a.eval o).run P w = .ok (.enter f args) w := by
  subst hx
  have e : (callFunc f (xs.map a.eval)).run P w = .ok (.enter f (xs.map a.eval)) w := by
    have h1 : fn.name ≠ "runtime.NumGoroutine" := by simpa using hn
    have h2 : fn.body ≠ none := by intro e; rw [e] at hb; cases hb
    simp [callFunc, hf, h1, h2]
  unfold execOp
  simp only [ho]
  simp only [resolve, Act.eval, Deferred.ofValue, Sem.run_bind, Sem.run_pure, Result.andThen_ok, invoke, Array.append_empty, Array.empty_append]
  exact e
theorem mapE0 : (#[] : Array Operand).map a.eval = #[] := by simp
theorem mapE1 {x : Operand} {u : Value} (h : a.eval x = u) : #[x].map a.eval = #[u] := by simp [h]
theorem mapE2 {x x2 : Operand} {u u2 : Value} (h : a.eval x = u) (h2 : a.eval x2 = u2) : #[x, x2].map a.eval = #[u, u2] := by simp [h, h2]
theorem mapE3 {x x2 x3 : Operand} {u u2 u3 : Value} (h : a.eval x = u) (h2 : a.eval x2 = u2) (h3 : a.eval x3 = u3) : #[x, x2, x3].map a.eval = #[u, u2, u3] := by simp [h, h2, h3]
theorem mapE4 {x x2 x3 x4 : Operand} {u u2 u3 u4 : Value} (h : a.eval x = u) (h2 : a.eval x2 = u2) (h3 : a.eval x3 = u3) (h4 : a.eval x4 = u4) : #[x, x2, x3, x4].map a.eval = #[u, u2, u3, u4] := by simp [h, h2, h3, h4]
theorem run_mv {x : Operand} (ho : o.op = .move x) (hx : a.eval x = v) : (execOp a.eval o).run P w = .ok (.value v) w := by simp [execOp, ho, hx]
theorem run_as {x : Operand} (ho : o.op = .assign x) (hx : a.eval x = v) : (execOp a.eval o).run P w = .ok (.value v) w := by simp [execOp, ho, hx]
theorem run_ldB {x : Operand} {ty t : TypeId} {g : Nat} {cs : Array Value} {d : TypeDesc} {m : Nat} (ho : o.op = .load ty x) (hx : a.eval x = .pointer (some ⟨g, 0, none⟩)) (hB : Blk w g t cs) (hu : P.underlying ty = some d)
    (hd : (match d with | .struct _ | .array _ _ => true | _ => false) = true) (hi : (P.info? ty).map (·.size) = some m) (hm : cs.size = m) : (execOp a.eval o).run P w = .ok (.value (.agg cs)) w := by
  unfold execOp
  simp only [ho, hx, Instr.loadAt, Instr.sureAddr, Sem.run_bind, Sem.run_pure, Result.andThen_ok, run_loadVar_row w g t ty cs (0, 0) d hB hu hd (by rw [hm]; exact hi)]
/-- a whole block stored. -/
theorem sqStore {x y : Operand} {ty t : TypeId} {i g m : Nat} {cs old : Array Value} (hF : FrD D a n L) (hM : Mem w0 M w) (hgd : o.guard = none) (ho : o.op = .store ty x y) (hd : o.dst = none) (hx : a.eval x = .pointer (some ⟨g, 0, none⟩)) (hy : a.eval y = .agg cs)
    (e : M[i]? = some (g, isB t old)) (hi : (P.info? ty).map (·.size) = some m) (hm : cs.size = m) (hold : old.size = m) (h1 : cs.all (·.oneCell') = true)
    (h : ∀ a2 w2, FrD D a2 n L → Mem w0 (M.set i (g, isB t cs)) w2 → wpList P ops Q rest a2 w2) : wpList P ops Q (o :: rest) a w :=
  wpList_storeB hgd ty x y ho g cs hx hy (hM.at i e) hi hm hold h1 (by rw [hd]; exact h _ _ hF (hM.row i e cs))
/-- a new block. -/
theorem sqNew {t : TypeId} {cs : Array Value} (hF : FrD D a n L) (hM : Mem w0 M w) (hw : Region.wanted o (yielded ops a.tmps) = true) (hrun : (execOp a.eval o).run P w = .ok (.value (.pointer (some ⟨w.heap.size, 0, none⟩))) (w.alloc (.cells cs t))) (hd : o.dst = some s) (hs : s < n)
    (h : ∀ g a2 w2, w.heap.size ≤ g → Below w.heap.size w w2 → FrD D a2 n ((s, .pointer (some ⟨g, 0, none⟩)) :: L) → Mem w0 ((g, isB t cs) :: M) w2 → wpList P ops Q rest a2 w2) : wpList P ops Q (o :: rest) a w :=
  sq hF hw hrun hd hs fun a2 hF2 => h w.heap.size a2 _ (Nat.le_refl _) ((Below.refl _ _).alloc (Nat.le_refl _) _) hF2 (hM.alloc cs t)
/-- a new slice of texts. -/
theorem sqStrs {t : TypeId} (l : List (List UInt8)) (hF : FrD D a n L) (hM : Mem w0 M w) (hw : Region.wanted o (yielded ops a.tmps) = true) (hrun : (execOp a.eval o).run P w = .ok (.value (.slice (some ⟨w.heap.size, 0, none⟩) l.length l.length)) (w.alloc (.cells (l.map tx).toArray t))) (hd : o.dst = some s) (hs : s < n)
    (h : ∀ v a2 w2, Strs w2 v l → Below w.heap.size w w2 → FrD D a2 n ((s, v) :: L) → Mem w0 M w2 → wpList P ops Q rest a2 w2) : wpList P ops Q (o :: rest) a w :=
  sq hF hw hrun hd hs fun a2 hF2 => h _ a2 _ (Strs.new w l t l.length _ rfl) ((Below.refl _ _).alloc (Nat.le_refl _) _) hF2 (hM.grow ((Below.refl _ _).alloc (Nat.le_refl _) _))
/-- the end of a list, and of what stands ahead. -/
theorem sqEnd (h : Q .normal a w) : wpList P ops Q [] a w := h
theorem nx {next : Act → World → Prop} (h : next a w) : Exit.then next Q .normal a w := h
theorem sn {next : Act → World → Prop} (h : next a w) : wpList P ops (Exit.then next Q) [] a w := h
theorem cfs {c : Operand} {x : Code} {next : Act → World → Prop} (hc : a.eval c = .bool false) (h : next a w) : (Code.cond c x .skip).wp P (Exit.then next Q) a w := wp_cond_false hc (wp_skip h)
theorem cts {c : Operand} {y : Code} {next : Act → World → Prop} (hc : a.eval c = .bool true) (h : next a w) : (Code.cond c .skip y).wp P (Exit.then next Q) a w := wp_cond_true hc (wp_skip h)
theorem nxRet {next : Act → World → Prop} (h : Q .ret a w) : Exit.then next Q .ret a w := h
theorem nxExit {next : Act → World → Prop} {i : Nat} (h : Q (.exit i) a w) : Exit.then next Q (.exit i) a w := h
theorem bkRet {i : Nat} (h : Q .ret a w) : Exit.inBlock i Q .ret a w := h
theorem bkEnd {i : Nat} (h : Q .normal a w) : Exit.inBlock i Q .normal a w := h
theorem bkHere {i : Nat} (h : Q .normal a w) : Exit.inBlock i Q (.exit i) a w := by show (if i = i then _ else _); rw [if_pos rfl]; exact h
theorem bkFar {i j : Nat} (hij : j ≠ i) (h : Q (.exit j) a w) : Exit.inBlock i Q (.exit j) a w := by show (if j = i then _ else _); rw [if_neg hij]; exact h
theorem wkLoop {c : Code} (I : Nat → Act → World → Prop) (m : Nat) (h0 : I m a w) (round : ∀ m a w, I m a w → c.wp P (Exit.then (fun a2 w2 => ∃ m2, m2 < m ∧ I m2 a2 w2) Q) a w) : (Code.loop c).wp P Q a w := by
  intro b k cs
  have key : ∀ n a w, I n a w → ∃ e a2 w2, Q e a2 w2 ∧ Arrives P (lone (b.at a (.code c :: .inLoop c :: k)) cs w) b k cs e a2 w2 := by
    intro n
    induction n using Nat.strongRecOn with
    | _ n ih =>
      intro a w hI
      obtain ⟨e, a1, w1, hq, harr⟩ := round n a w hI b (.inLoop c :: k) cs
      cases e with
      | normal =>
        obtain ⟨m2, hlt, hI1⟩ := hq
        obtain ⟨e2, a2, w2, hq2, harr2⟩ := ih m2 hlt a1 w1 hI1
        exact ⟨e2, a2, w2, hq2, .of_steps (Steps.trans harr (.one step_inLoop)) harr2⟩
      | exit id => exact ⟨_, a1, w1, hq, .pass (x := .inLoop c) rfl (fun _ _ => .inl (by simp)) harr⟩
      | goto l => exact ⟨_, a1, w1, hq, .pass (x := .inLoop c) rfl (fun _ _ => .inl (by simp)) harr⟩
      | ret => exact ⟨_, a1, w1, hq, .pass (x := .inLoop c) rfl (fun _ _ => .inl (by simp)) harr⟩
      | panic ch => exact ⟨_, a1, w1, hq, .pass (x := .inLoop c) rfl (fun _ _ => .inl (by simp)) harr⟩
      | outgrown => exact ⟨_, a1, w1, hq, .pass (x := .inLoop c) rfl (fun _ _ => .inl (by simp)) harr⟩
  obtain ⟨e, a2, w2, hq, harr⟩ := key m a w h0
  exact ⟨e, a2, w2, hq, .of_steps (.one step_loop) harr⟩
/-- what is handed back. -/
theorem ret1 {fn : Func} {R : Ending → World → Prop} (hF : Fr a n L) (hr : fn.results = #[.tmp s]) (hl : lk L s = some v) (h : R (.returned v) w) : bodyPost P fn R .ret a w :=
  bodyPost_ret (results_tmp hr a.tmps P w) hF.defers (by rw [Array.getD_eq_getD_getElem?, hF.at s hl]; exact h)
theorem ret2 {fn : Func} {R : Ending → World → Prop} {s2 : Nat} {v2 : Value} (hF : Fr a n L) (hr : fn.results = #[.tmp s, .tmp s2]) (hl : lk L s = some v) (hl2 : lk L s2 = some v2) (h : R (.returned (.tuple #[v, v2])) w) : bodyPost P fn R .ret a w :=
  bodyPost_ret (results_tmp2 hr a.tmps P w) hF.defers (by rw [Array.getD_eq_getD_getElem?, hF.at s hl, Array.getD_eq_getD_getElem?, hF.at s2 hl2]; exact h)
theorem retB {fn : Func} {R : Ending → World → Prop} {ty t : TypeId} {g m : Nat} {cs : Array Value} {d : TypeDesc} (hF : Fr a n L) (hr : fn.results = #[.cell s ty]) (hl : lk L s = some (.pointer (some ⟨g, 0, none⟩))) (hB : Blk w g t cs) (hu : P.underlying ty = some d)
    (hd : (match d with | .struct _ | .array _ _ => true | _ => false) = true) (hi : (P.info? ty).map (·.size) = some m) (hm : cs.size = m) (h : R (.returned (.agg cs)) w) : bodyPost P fn R .ret a w :=
  bodyPost_ret (results_B hr a.tmps (by rw [Array.getD_eq_getD_getElem?, hF.at s hl]; rfl) hB hu hd hi hm) hF.defers h
end
/-- the frame behind a drawn region. -/
def dsts : List Oper → List Value → List (Nat × Value)
  | o :: os, v :: vs => match o.dst with | some s => (s, v) :: dsts os vs | none => dsts os vs
  | _, _ => []
theorem lk_dsts {a : Act} : ∀ (r : List Oper) (vs : List Value), AllAt a r vs → ∀ s v, lk (dsts r vs) s = some v → a.tmps[s]? = some v
  | [], [], _, s, v, h => by simp [dsts, lk] at h
  | [], _ :: _, h, _, _, _ => h.elim
  | _ :: _, [], h, _, _, _ => h.elim
  | o :: os, u :: vs, hA, s, v, h => by
    unfold dsts at h
    have h1 := hA.1
    cases ho : o.dst with
    | none => rw [ho] at h; exact lk_dsts os vs hA.2 s v h
    | some d =>
      rw [ho] at h h1
      simp only at h h1
      unfold lk at h
      cases hb : Nat.beq d s with
      | true =>
        simp only [hb, cond_true, Option.some.injEq] at h
        rw [← Nat.eq_of_beq_eq_true hb, ← h]; exact h1
      | false =>
        simp only [hb, cond_false] at h
        exact lk_dsts os vs hA.2 s v h
theorem lk_app : ∀ (A B : List (Nat × Value)) (s : Nat) (v : Value), lk (A ++ B) s = some v → lk A s = some v ∨ ((∀ u, (s, u) ∉ A) ∧ lk B s = some v)
  | [], B, s, v, h => .inr ⟨by simp, h⟩
  | p :: A, B, s, v, h => by
    rw [List.cons_append] at h
    unfold lk at h
    rw [show lk (p :: A) s = cond (Nat.beq p.1 s) (some p.2) (lk A s) from rfl]
    cases hb : Nat.beq p.1 s with
    | true => rw [hb] at h; exact .inl h
    | false =>
      rw [hb] at h
      simp only [cond_false] at h ⊢
      rcases lk_app A B s v h with h | ⟨h1, h2⟩
      · exact .inl h
      · refine .inr ⟨fun u hu => ?_, h2⟩
        rcases List.mem_cons.1 hu with e | hu
        · have := Nat.ne_of_beq_eq_false hb
          exact this (by rw [← e])
        · exact h1 u hu
theorem mem_dsts {a : Act} : ∀ (r : List Oper) (vs : List Value), AllAt a r vs → ∀ o ∈ r, ∀ s, o.dst = some s → ∃ u, (s, u) ∈ dsts r vs
  | [], [], _, o, ho, _, _ => by cases ho
  | [], _ :: _, h, _, _, _, _ => h.elim
  | _ :: _, [], h, _, _, _, _ => h.elim
  | x :: os, u :: vs, hA, o, ho, s, hs => by
    unfold dsts
    rcases List.mem_cons.1 ho with rfl | ho
    · rw [hs]; exact ⟨u, List.mem_cons_self ..⟩
    · obtain ⟨u', hu'⟩ := mem_dsts os vs hA.2 o ho s hs
      cases hx : x.dst with
      | none => exact ⟨u', hu'⟩
      | some d => exact ⟨u', List.mem_cons_of_mem _ hu'⟩
theorem Known.fr {l : List Oper} {a0 a : Act} {T : Nat → Value → World → Prop} {W : World} {n : Nat} {L : List (Nat × Value)} (h : Known l a0 T (fun _ => true) a W) (hF : FrD D a0 n L) (vs : List Value) (hA : AllAt a l vs) : FrD D a n (dsts l vs ++ L) := by
  refine ⟨h.size.trans hF.size, h.defers.trans hF.defers, fun s v e => ?_⟩
  rcases lk_app _ _ s v e with e | ⟨h1, h2⟩
  · exact lk_dsts l vs hA s v e
  · rw [h.old s (fun i o ho _ hd => ?_)]
    · exact hF.has s v h2
    · obtain ⟨u, hu⟩ := mem_dsts l vs hA o (List.mem_of_getElem? ho) s hd
      exact h1 u hu
theorem Known.hfr {l : List Oper} {n0 : Nat} {a0 a : Act} {T : Nat → Value → World → Prop} {W : World} {n : Nat} {L : List (Nat × Value)} (h : Known l a0 T (fun i => decide (i < n0)) a W) (hF : FrD D a0 n L) (vs : List Value) (hA : AllAt a (l.take n0) vs) : FrD D a n (dsts (l.take n0) vs ++ L) := by
  refine ⟨h.size.trans hF.size, h.defers.trans hF.defers, fun s v e => ?_⟩
  rcases lk_app _ _ s v e with e | ⟨h1, h2⟩
  · exact lk_dsts _ vs hA s v e
  · rw [h.old s (fun i o ho hi hd => ?_)]
    · exact hF.has s v h2
    · obtain ⟨u, hu⟩ := mem_dsts (l.take n0) vs hA o (List.mem_of_getElem? (i := i) (by rw [List.getElem?_take_of_lt (by simpa using hi)]; exact ho)) s hd
      exact h1 u hu
end Go.Proofs.YtconhhhggckcbaaDoor
/- Operations that make memory, told by their operands. Printed by gen_walk2.py. -/
namespace Go.Proofs.YtconhhhggckcbaaDoor
open Go.RowKit
variable {D : List Deferred}

/-- a new slice of bytes. -/
def kbytes (t : TypeId) (l : List UInt8) : Kd := ⟨fun v W => ∃ g c, v = .slice (some ⟨g, 0, none⟩) l.length c ∧ Blk W g t (cells8 l), fun _ _ _ hb ⟨g, c, h1, h2⟩ => ⟨g, c, h1, h2.below hb h2.lt⟩⟩
theorem giv_bytes {P : Program} {KL : List Kd} {i : Nat} {o : Oper} {W : World} {a : Act} (L : List UInt8) (t : TypeId) (hrun : (execOp a.eval o).run P W = .ok (.value (.slice (some ⟨W.heap.size, 0, none⟩) L.length L.length)) (W.alloc (.cells (cells8 L) t)))
    (hk : KL.getD i kany = kbytes t L) : GivesT P (grows i W) (kT KL i) ((execOp a.eval o).run P W) := by
  rw [hrun]
  refine ⟨(Below.refl _ _).alloc (Nat.le_refl _) _, ?_⟩
  unfold kT; rw [hk]
  exact ⟨W.heap.size, L.length, rfl, Blk.new _ _ _⟩
theorem Dep.bytes {l : List Oper} {KL : List Kd} {i : Nat} {a : Act} {W : World} {j s : Nat} {t : TypeId} {L : List UInt8} (h : Dep l KL i a W) (hb : depB l i j s = true) (hk : KL.getD j kany = kbytes t L) : ∃ g c, a.tmps[s]? = some (.slice (some ⟨g, 0, none⟩) L.length c) ∧ Blk W g t (cells8 L) := by
  obtain ⟨v, h1, h2⟩ := h.get hb
  unfold kT at h2; rw [hk] at h2
  obtain ⟨g, c, rfl, h3⟩ := h2
  exact ⟨g, c, h1, h3⟩
theorem giv_run {P : Program} {KL : List Kd} {i : Nat} {o : Oper} {W : World} {a : Act} {c : Value} (h : (execOp a.eval o).run P W = .ok (.value c) W) (hk : KL.getD i kany = kval c) : GivesT P (grows i W) (kT KL i) ((execOp a.eval o).run P W) := giv_val h hk rfl
theorem Known.get {l : List Oper} {a0 a : Act} {KL : List Kd} {W : World} {i s : Nat} (h : Known l a0 (kT KL) (fun _ => true) a W) (hb : (match l[i]? with | some oj => oj.dst == some s | none => false) = true) : ∃ v, a.tmps[s]? = some v ∧ (KL.getD i kany).p v W := by
  cases hj : l[i]? with
  | none => rw [hj] at hb; cases hb
  | some oj =>
    rw [hj] at hb
    exact h.new i oj s hj rfl (by simpa using hb)
theorem szOf {l : List UInt8} {n : Nat} (h : l.length = n) : (cells8 l).size = n := by rw [cells8_size]; exact h
section
variable {P : Program} {a : Act} {o : Oper} {w : World} {x y z : Operand} {t ty : TypeId}
theorem run_box {cs : Array Value} (ho : o.op = .box ty x) (hx : a.eval x = .agg cs) : (execOp a.eval o).run P w = .ok (.value (.pointer (some ⟨w.heap.size, 0, none⟩))) (w.alloc (.cells cs ty)) := by
  unfold execOp
  simp only [ho, hx]
  simp [go_sem]
theorem run_alloc {cs : Array Value} (ho : o.op = .alloc ty) (hz : (zeroValue ty).run P w = .ok (.agg cs) w) : (execOp a.eval o).run P w = .ok (.value (.pointer (some ⟨w.heap.size, 0, none⟩))) (w.alloc (.cells cs ty)) := by
  unfold execOp
  simp only [ho]
  simp [Instr.alloc, hz, go_sem]
theorem run_slA {c : Value} {g : Nat} (ho : o.op = .slice ty x none none none) (hx : a.eval x = .pointer (some ⟨g, 0, none⟩)) (hr : (Instr.sliceAt ty (.pointer (some ⟨g, 0, none⟩)) none none none).run P w = .ok c w) : (execOp a.eval o).run P w = .ok (.value c) w := by
  unfold execOp
  simp only [ho, hx, Option.map, Sem.run_bind, hr, Result.andThen_ok, Sem.run_pure]
theorem run_lenSl {ts : Array TypeId} {p : Option Addr} {n c : Nat} {e : TypeId} (ho : o.op = .call { callee := .builtin .len, args := #[x], argTypes := ts }) (hx : a.eval x = .slice p n c) (hts : ts = #[t]) (hu : P.underlying t = some (.slice e)) : (execOp a.eval o).run P w = .ok (.value (.int .i64 (n : Int))) w := by
  subst hts
  have e : (Builtin.len_ #[t] o.type #[.slice p n c]).run P w = .ok (.int .i64 (n : Int)) w := by simp [hu, go_sem]
  unfold execOp
  simp only [ho]
  simp [resolve, invoke, builtin, hx, e]
theorem run_lenStrs {ts : Array TypeId} {v : Value} {l : List (List UInt8)} {e : TypeId} {W : World} (ho : o.op = .call { callee := .builtin .len, args := #[x], argTypes := ts }) (hx : a.eval x = v) (hs : Strs W v l) (hts : ts = #[t]) (hu : P.underlying t = some (.slice e)) : (execOp a.eval o).run P w = .ok (.value (.int .i64 (l.length : Int))) w := by
  obtain ⟨p, c, rfl⟩ := hs.len
  exact run_lenSl ho hx hts hu
end
section
variable {a : Act} {o : Oper} {w : World}
theorem run_bytes1 {x0 : Operand} {b0 : UInt8} (ho : o.op = .buildSlice 52 1 #[(0, x0)]) (h0 : a.eval x0 = .int .u8 (b0.toNat : Int)) :
    (execOp a.eval o).run Tryd.prog w = .ok (.value (.slice (some ⟨w.heap.size, 0, none⟩) [b0].length [b0].length)) (w.alloc (.cells (cells8 [b0]) 5)) := by
  unfold execOp
  simp only [ho, List.map_toArray, List.map_cons, List.map_nil, h0]
  go_simp
  rfl
theorem run_bytes3 {x0 x1 x2 : Operand} {b0 b1 b2 : UInt8} (ho : o.op = .buildSlice 52 3 #[(0, x0), (1, x1), (2, x2)]) (h0 : a.eval x0 = .int .u8 (b0.toNat : Int)) (h1 : a.eval x1 = .int .u8 (b1.toNat : Int)) (h2 : a.eval x2 = .int .u8 (b2.toNat : Int)) :
    (execOp a.eval o).run Tryd.prog w = .ok (.value (.slice (some ⟨w.heap.size, 0, none⟩) [b0, b1, b2].length [b0, b1, b2].length)) (w.alloc (.cells (cells8 [b0, b1, b2]) 5)) := by
  unfold execOp
  simp only [ho, List.map_toArray, List.map_cons, List.map_nil, h0, h1, h2]
  go_simp
  rfl
end
theorem sqBytes {P : Program} {a : Act} {o : Oper} {w w0 : World} {n s : Nat} {L : List (Nat × Value)} {ops : Array Oper} {rest : List Oper} {Q : Exit → Act → World → Prop} {M : List (Nat × (Obj → Prop))} {t : TypeId} (l : List UInt8) (hF : FrD D a n L) (hM : Mem w0 M w) (hw : Region.wanted o (yielded ops a.tmps) = true)
    (hrun : (execOp a.eval o).run P w = .ok (.value (.slice (some ⟨w.heap.size, 0, none⟩) l.length l.length)) (w.alloc (.cells (cells8 l) t))) (hd : o.dst = some s) (hs : s < n)
    (h : ∀ g a2 w2, w.heap.size ≤ g → Below w.heap.size w w2 → FrD D a2 n ((s, .slice (some ⟨g, 0, none⟩) l.length l.length) :: L) → Mem w0 ((g, isB t (cells8 l)) :: M) w2 → wpList P ops Q rest a2 w2) : wpList P ops Q (o :: rest) a w :=
  sq hF hw hrun hd hs fun a2 hF2 => h w.heap.size a2 _ (Nat.le_refl _) ((Below.refl _ _).alloc (Nat.le_refl _) _) hF2 (hM.alloc (cells8 l) t)
/-- a text of a slice of texts. -/
theorem run_atStrs {P : Program} {a : Act} {o : Oper} {w : World} {x y : Operand} {t e : TypeId} {k : IntKind} {p : Int} {v : Value} {l : List (List UInt8)} {i : Nat} (ho : o.op = .indexAddr t x y) (hx : a.eval x = v) (hy : a.eval y = .int k p) (hp : p = (i : Int)) (hs : Strs w v l) (hi : i < l.length) (hu : P.underlying t = some (.slice e)) (hz : (sizeOf e).run P w = .ok 1 w) :
    ∃ q, (execOp a.eval o).run P w = .ok (.value (.pointer (some q))) w ∧ w.cell? q = some (tx (l.getD i [])) := by
  subst hp
  rcases hs with ⟨_, h2⟩ | ⟨b, off, c, h1, h2, h3⟩
  · subst h2; simp at hi
  · subst h1
    refine ⟨⟨b, off + i, none⟩, ?_, h3 i hi⟩
    have he : P.elem t = e := by simp [Program.elem, hu]
    have ht : P.underlying t = some (.slice (P.elem t)) := by rw [he]; exact hu
    unfold execOp
    simp only [ho, hx, hy]
    have hz' : (sizeOf (P.elem t)).run P w = .ok 1 w := by rw [he]; exact hz
    have hr := run_indexAt_slice (P := P) w t ⟨b, off, none⟩ l.length c k (i : Int) ht
    rw [Sem.run_bind, hr, hz']
    simp [hi, Addr.add]
theorem run_ldC {P : Program} {a : Act} {o : Oper} {w : World} {x : Operand} {t : TypeId} {q : Addr} {v : Value} (ho : o.op = .load t x) (hx : a.eval x = .pointer (some q)) (hc : w.cell? q = some v) (hag : (isAgg t).run P w = .ok false w) : (execOp a.eval o).run P w = .ok (.value v) w := by
  unfold execOp
  simp only [ho, hx]
  simp [go_sem, hag, hc]
end Go.Proofs.YtconhhhggckcbaaDoor
/- New slices of texts. Printed by gen_walk2.py. -/
namespace Go.Proofs.YtconhhhggckcbaaDoor
open Go.RowKit

section
variable {a : Act} {o : Oper} {w : World}
theorem run_strs1 {x0 : Operand} {s0 : List UInt8} (ho : o.op = .buildSlice 91 1 #[(0, x0)]) (h0 : a.eval x0 = .string ⟨s0.toArray⟩) :
    (execOp a.eval o).run Tryd.prog w = .ok (.value (.slice (some ⟨w.heap.size, 0, none⟩) [s0].length [s0].length)) (w.alloc (.cells ([s0].map tx).toArray 9)) := by
  unfold execOp
  simp only [ho, List.map_toArray, List.map_cons, List.map_nil, h0]
  go_simp
  rfl
theorem run_strs2 {x0 x1 : Operand} {s0 s1 : List UInt8} (ho : o.op = .buildSlice 91 2 #[(0, x0), (1, x1)]) (h0 : a.eval x0 = .string ⟨s0.toArray⟩) (h1 : a.eval x1 = .string ⟨s1.toArray⟩) :
    (execOp a.eval o).run Tryd.prog w = .ok (.value (.slice (some ⟨w.heap.size, 0, none⟩) [s0, s1].length [s0, s1].length)) (w.alloc (.cells ([s0, s1].map tx).toArray 9)) := by
  unfold execOp
  simp only [ho, List.map_toArray, List.map_cons, List.map_nil, h0, h1]
  go_simp
  rfl
end
end Go.Proofs.YtconhhhggckcbaaDoor
