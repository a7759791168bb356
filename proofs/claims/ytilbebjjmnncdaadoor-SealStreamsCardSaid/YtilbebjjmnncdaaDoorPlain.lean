/- Plain mathematics of ChaCha20: words of 32 bits, a half step, a quarter round, a block, a stream; no program in sight. -/
import Derived.WalkKit
import Derived.Laws.OwnMore
import Derived.Deep.Draws
import Derived.Laws.Rows
import Derived.Laws.Tables
import Derived.Deep.WholeRow
namespace Go.Proofs.YtilbebjjmnncdaaDoor
open Go.RowKit

abbrev Wd := BitVec 32
/-- a word as the walk's integer (kept closed). -/
def nm (x : Wd) : Int := (x.toNat : Int)
theorem nm_nonneg (x : Wd) : 0 ≤ nm x := by unfold nm; omega
theorem nm_lt (x : Wd) : nm x < 4294967296 := by have := x.isLt; unfold nm; omega
theorem nm_inj {x y : Wd} (h : nm x = nm y) : x = y := by
  unfold nm at h; exact BitVec.eq_of_toNat_eq (by omega)
def cw (x : Wd) : Value := .int .u32 (nm x)
def cq (x : Wd) : Value := .int .u64 (nm x)

theorem wrap_u32 (n : Int) : IntKind.u32.wrap n = n % 4294967296 := by
  simp [IntKind.wrap, IntKind.bits, IntKind.signed]
theorem wrap_u64 (n : Int) : IntKind.u64.wrap n = n % 18446744073709551616 := by
  simp [IntKind.wrap, IntKind.bits, IntKind.signed]
theorem wrap_u8 (n : Int) : IntKind.u8.wrap n = n % 256 := by
  simp [IntKind.wrap, IntKind.bits, IntKind.signed]

theorem nm_add (x y : Wd) : IntKind.u32.wrap (nm x + nm y) = nm (x + y) := by
  rw [wrap_u32]; unfold nm; rw [BitVec.toNat_add]; omega
theorem nm_add' (x y : Wd) : (nm x + nm y) % 4294967296 = nm (x + y) := by
  rw [← nm_add, wrap_u32]
theorem nm_self (x : Wd) : IntKind.u32.wrap (nm x) = nm x := by
  rw [wrap_u32]; have := nm_nonneg x; have := nm_lt x; omega
theorem ofInt_nm (x : Wd) : BitVec.ofInt 32 (nm x) = x := by
  unfold nm; apply BitVec.eq_of_toNat_eq; rw [BitVec.toNat_ofInt]; have := x.isLt; omega
theorem nm_xor (x y : Wd) : bits .xor .u32 (nm x) (nm y) = nm (x ^^^ y) := by
  have h : bits .xor .u32 (nm x) (nm y) = IntKind.u32.wrap (((BitVec.ofInt 32 (nm x)) ^^^ (BitVec.ofInt 32 (nm y))).toNat) := rfl
  rw [h, ofInt_nm, ofInt_nm]; exact nm_self _
theorem nm_or (x y : Wd) : bits .or .u32 (nm x) (nm y) = nm (x ||| y) := by
  have h : bits .or .u32 (nm x) (nm y) = IntKind.u32.wrap (((BitVec.ofInt 32 (nm x)) ||| (BitVec.ofInt 32 (nm y))).toNat) := rfl
  rw [h, ofInt_nm, ofInt_nm]; exact nm_self _

/-- a word turned left. -/
def rl (x : Wd) (k : Nat) : Wd := x.rotateLeft k

theorem or_add (a b i : Nat) (h : b < 2 ^ i) : (a * 2 ^ i) ||| b = a * 2 ^ i + b := by
  rw [Nat.mul_comm]; exact (Nat.two_pow_add_eq_or_of_lt h a).symm

theorem rl_toNat (x : Wd) (k : Nat) (hk : k < 32) : (rl x k).toNat = (x.toNat * 2 ^ k) % 4294967296 + x.toNat / 2 ^ (32 - k) := by
  unfold rl
  rw [BitVec.toNat_rotateLeft, Nat.mod_eq_of_lt hk, Nat.shiftLeft_eq, Nat.shiftRight_eq_div_pow]
  have hx := x.isLt
  have e32 : (2 : Nat) ^ 32 = 2 ^ k * 2 ^ (32 - k) := by rw [← Nat.pow_add]; congr 1; omega
  have hlow : x.toNat / 2 ^ (32 - k) < 2 ^ k := by
    rw [Nat.div_lt_iff_lt_mul (Nat.two_pow_pos _)]; omega
  have hm : (x.toNat * 2 ^ k) % 2 ^ 32 = (x.toNat % 2 ^ (32 - k)) * 2 ^ k := by
    rw [e32, Nat.mul_comm (2 ^ k) (2 ^ (32 - k)), Nat.mul_mod_mul_right]
  rw [hm, or_add _ _ _ hlow]

/-- what the library's rotation computes. -/
theorem nm_rl (x : Wd) (k : Nat) (hk : k < 32) : bits .or .u32 (nm x * 2 ^ k % 4294967296) (nm x / 2 ^ (32 - k)) = nm (rl x k) := by
  have h1 : nm x * 2 ^ k % 4294967296 = nm (x <<< k) := by
    unfold nm; rw [BitVec.toNat_shiftLeft, Nat.shiftLeft_eq]
    rw [Int.natCast_emod, Int.natCast_mul, Int.natCast_pow]; rfl
  have h2 : nm x / 2 ^ (32 - k) = nm (x >>> (32 - k)) := by
    unfold nm; rw [BitVec.toNat_ushiftRight, Nat.shiftRight_eq_div_pow, Int.natCast_ediv, Int.natCast_pow]; rfl
  rw [h1, h2, nm_or]; congr 1
  unfold rl; rw [BitVec.rotateLeft_def, Nat.mod_eq_of_lt hk]

/-- the reference's turning. -/
theorem nm_turn (x : Wd) (k : Nat) (hk : k < 32) : (nm x * 2 ^ k) % 4294967296 + (nm x * 2 ^ k) / 4294967296 = nm (rl x k) := by
  unfold nm
  rw [rl_toNat x k hk]
  have e32 : (4294967296 : Nat) = 2 ^ (32 - k) * 2 ^ k := by rw [← Nat.pow_add]; rw [show 32 - k + k = 32 by omega]
  have hd : (x.toNat * 2 ^ k) / 4294967296 = x.toNat / 2 ^ (32 - k) := by
    rw [e32, Nat.mul_div_mul_right _ _ (Nat.two_pow_pos _)]
  rw [← hd, Int.natCast_add, Int.natCast_emod, Int.natCast_ediv, Int.natCast_mul, Int.natCast_pow]; rfl

theorem bits_or_nat (a b : Nat) (ha : a < 4294967296) (hb : b < 4294967296) : bits .or .u32 (a : Int) (b : Int) = ((a ||| b : Nat) : Int) := by
  have h1 : (a : Int) = nm (BitVec.ofNat 32 a) := by unfold nm; rw [BitVec.toNat_ofNat]; omega
  have h2 : (b : Int) = nm (BitVec.ofNat 32 b) := by unfold nm; rw [BitVec.toNat_ofNat]; omega
  rw [h1, h2, nm_or]; unfold nm
  rw [BitVec.toNat_or, BitVec.toNat_ofNat, BitVec.toNat_ofNat, Nat.mod_eq_of_lt (by omega), Nat.mod_eq_of_lt (by omega)]
/-- four bytes as a word, the lowest first. -/
def wd (b0 b1 b2 b3 : UInt8) : Wd := BitVec.ofNat 32 (b0.toNat + 256 * b1.toNat + 65536 * b2.toNat + 16777216 * b3.toNat)
theorem nm_wd (b0 b1 b2 b3 : UInt8) : nm (wd b0 b1 b2 b3) = (b0.toNat : Int) + 256 * b1.toNat + 65536 * b2.toNat + 16777216 * b3.toNat := by
  have := b0.toNat_lt; have := b1.toNat_lt; have := b2.toNat_lt; have := b3.toNat_lt
  unfold nm wd; rw [BitVec.toNat_ofNat]; omega
theorem or_add' (a b i : Nat) (h : b < 2 ^ i) : b ||| (a * 2 ^ i) = b + a * 2 ^ i := by
  rw [Nat.or_comm, or_add a b i h, Nat.add_comm]
theorem word_eq (b0 b1 b2 b3 : UInt8) : bits .or .u32 (bits .or .u32 (bits .or .u32 (IntKind.u32.wrap b0.toNat) (IntKind.u32.wrap (IntKind.u32.wrap b1.toNat * 256))) (IntKind.u32.wrap (IntKind.u32.wrap b2.toNat * 65536)))
    (IntKind.u32.wrap (IntKind.u32.wrap b3.toNat * 16777216)) = nm (wd b0 b1 b2 b3) := by
  have h0 := b0.toNat_lt; have h1 := b1.toNat_lt; have h2 := b2.toNat_lt; have h3 := b3.toNat_lt
  rw [nm_wd]
  have e0 : IntKind.u32.wrap b0.toNat = ((b0.toNat : Nat) : Int) := by rw [wrap_u32]; omega
  have e1 : IntKind.u32.wrap (IntKind.u32.wrap b1.toNat * 256) = ((b1.toNat * 2 ^ 8 : Nat) : Int) := by rw [wrap_u32, wrap_u32]; omega
  have e2 : IntKind.u32.wrap (IntKind.u32.wrap b2.toNat * 65536) = ((b2.toNat * 2 ^ 16 : Nat) : Int) := by rw [wrap_u32, wrap_u32]; omega
  have e3 : IntKind.u32.wrap (IntKind.u32.wrap b3.toNat * 16777216) = ((b3.toNat * 2 ^ 24 : Nat) : Int) := by rw [wrap_u32, wrap_u32]; omega
  rw [e0, e1, e2, e3, bits_or_nat _ _ (by omega) (by omega), or_add' _ _ _ (by omega), bits_or_nat _ _ (by omega) (by omega), or_add' _ _ _ (by omega), bits_or_nat _ _ (by omega) (by omega), or_add' _ _ _ (by omega)]
  omega

theorem ret_int {k : IntKind} {a b : Int} (h : a = b) : Ending.returned (.int k a) = .returned (.int k b) := by rw [h]

/-- the i-th word of a list. -/
def gt (v : List Wd) (i : Nat) : Wd := v.getD i 0
/-- a half step on four of sixteen words. -/
def hf (v : List Wd) (a b d k : Nat) : List Wd :=
  (v.set a (gt v a + gt v b)).set d (rl (gt (v.set a (gt v a + gt v b)) d ^^^ gt (v.set a (gt v a + gt v b)) a) k)
/-- a quarter round. -/
def qr (v : List Wd) (a b c d : Nat) : List Wd := hf (hf (hf (hf v a b d 16) c d b 12) a b d 8) c d b 7
theorem hf_len (v : List Wd) (a b d k : Nat) : (hf v a b d k).length = v.length := by simp [hf]
theorem qr_len (v : List Wd) (a b c d : Nat) : (qr v a b c d).length = v.length := by simp [qr, hf_len]

/-- the cells of sixteen words. -/
def cells (v : List Wd) : Array Value := (v.map cw).toArray
def cells64 (v : List Wd) : Array Value := (v.map cq).toArray
theorem cells_size (v : List Wd) : (cells v).size = v.length := by simp [cells]
theorem cells64_size (v : List Wd) : (cells64 v).size = v.length := by simp [cells64]
theorem cells_get (v : List Wd) (i : Nat) (h : i < v.length) : (cells v)[i]? = some (.int .u32 (nm (gt v i))) := by
  simp [cells, gt, cw, h]
theorem cells64_get (v : List Wd) (i : Nat) (h : i < v.length) : (cells64 v)[i]? = some (.int .u64 (nm (gt v i))) := by
  simp [cells64, gt, cq, h]
theorem cells_set (v : List Wd) (i : Nat) (x : Wd) : (cells v).setIfInBounds i (.int .u32 (nm x)) = cells (v.set i x) := by
  simp [cells, cw, List.map_set]
theorem cells64_set (v : List Wd) (i : Nat) (x : Wd) : (cells64 v).setIfInBounds i (.int .u64 (nm x)) = cells64 (v.set i x) := by
  simp [cells64, cq, List.map_set]
theorem gt_set (v : List Wd) (i j : Nat) (x : Wd) (h : i < v.length) : gt (v.set i x) j = if i = j then x else gt v j := by
  unfold gt; simp only [List.getD_eq_getElem?_getD, List.getElem?_set]; split <;> simp_all

/-- the cells of bytes. -/
def cb (b : UInt8) : Value := .int .u8 (b.toNat : Int)
def cells8 (l : List UInt8) : Array Value := (l.map cb).toArray
def bt (l : List UInt8) (i : Nat) : UInt8 := l.getD i 0
theorem cells8_size (l : List UInt8) : (cells8 l).size = l.length := by simp [cells8]
theorem cells8_get (l : List UInt8) (i : Nat) (h : i < l.length) : (cells8 l)[i]? = some (.int .u8 ((bt l i).toNat : Int)) := by
  simp [cells8, bt, cb, h]
theorem cells8_set (l : List UInt8) (i : Nat) (x : UInt8) : (cells8 l).setIfInBounds i (.int .u8 (x.toNat : Int)) = cells8 (l.set i x) := by
  simp [cells8, cb, List.map_set]
/-- the word at a place of bytes. -/
def wdAt (l : List UInt8) (j : Nat) : Wd := wd (bt l j) (bt l (j + 1)) (bt l (j + 2)) (bt l (j + 3))
def base16 : List Wd := [1634760805#32, 857760878#32, 2036477234#32, 1797285236#32, 0, 0, 0, 0, 0, 0, 0, 0, 0, 0, 0, 0]
/-- the words of bytes, from a place on, so many. -/
def putWs (l : List UInt8) (at_ : Nat) (v : List Wd) : Nat → List Wd
  | 0 => v
  | i + 1 => (putWs l at_ v i).set (at_ + i) (wdAt l (4 * i))
theorem putWs_len (l : List UInt8) (p : Nat) (v : List Wd) (i : Nat) : (putWs l p v i).length = v.length := by
  induction i with
  | zero => rfl
  | succ i ih => simp [putWs, ih]
/-- the sixteen words that a block begins with. -/
def fst16 (k nonce : List UInt8) (n : Wd) : List Wd := putWs nonce 13 ((putWs k 4 base16 8).set 12 n) 3
theorem fst16_len (k nonce : List UInt8) (n : Wd) : (fst16 k nonce n).length = 16 := by simp [fst16, putWs_len, base16]

/-- block g is just the cells cs of type t, none frozen. -/
def Blk (w : World) (g : Nat) (t : TypeId) (cs : Array Value) : Prop := w.heap[g]? = some (.cells cs t (0, 0))

section
variable {w w' : World} {g : Nat} {t : TypeId} {cs : Array Value}
theorem Blk.lt (h : Blk w g t cs) : g < w.heap.size := by
  rcases Nat.lt_or_ge g w.heap.size with hlt | hge
  · exact hlt
  · unfold Blk at h; rw [Array.getElem?_eq_none hge] at h; cases h
theorem Blk.cell (h : Blk w g t cs) (i : Nat) : w.cell? ⟨g, i, none⟩ = cs[i]? := cell_of_row w g i cs t (0, 0) h
theorem Blk.frozen (h : Blk w g t cs) (i : Nat) : w.frozen? ⟨g, i, none⟩ = false := by
  unfold Blk at h
  simp [World.frozen?, h]
theorem Blk.new (w : World) (t : TypeId) (cs : Array Value) : Blk (w.alloc (.cells cs t)) w.heap.size t cs := heap_alloc_new w _
theorem Blk.drew (h : Blk w g t cs) : Blk w.drew g t cs := h
theorem Blk.drewN (h : Blk w g t cs) (n : Nat) : Blk (w.drewN n) g t cs := h
theorem Blk.alloc (h : Blk w g t cs) (o : Obj) : Blk (w.alloc o) g t cs := (Below.heap_alloc w o g h.lt).trans h
theorem Blk.set_ (h : Blk w g t cs) (i : Nat) (u : Value) : Blk (w.setCell ⟨g, i, none⟩ u) g t (cs.setIfInBounds i u) := by
  unfold Blk at h ⊢
  simp [World.setCell, Array.getElem?_modify, h]
theorem Blk.far (h : Blk w g t cs) {p : Addr} (hp : g ≠ p.block) (u : Value) : Blk (w.setCell p u) g t cs := (Below.heap_setCell w p u g hp).trans h
theorem Blk.below {B : Nat} (h : Blk w g t cs) (hb : Below B w w') (hg : g < B) : Blk w' g t cs := (hb.block g hg).trans h
theorem Blk.grown {row : Option Nat} (h : Blk w g t cs) (hb : w.grownBy w' row) (hg : some g ≠ row) : Blk w' g t cs := (hb.block g h.lt hg).trans h
end

theorem grown_refl (w : World) (r : Option Nat) : w.grownBy w r := ⟨rfl, rfl, rfl, Nat.le_refl _, fun _ _ _ => rfl⟩
theorem grown_trans {a b c : World} {r : Option Nat} (h : a.grownBy b r) (k : b.grownBy c r) : a.grownBy c r :=
  ⟨k.os.trans h.os, k.tape.trans h.tape, k.output.trans h.output, Nat.le_trans h.size k.size, fun i hi hr => (k.block i (Nat.lt_of_lt_of_le hi h.size) hr).trans (h.block i hi hr)⟩
theorem grown_drew {a b : World} {r : Option Nat} (h : a.grownBy b r) : a.grownBy b.drew r := ⟨h.os, h.tape, h.output, h.size, h.block⟩
theorem grown_set {a b : World} {g : Nat} (h : a.grownBy b (some g)) (i : Nat) (v : Value) : a.grownBy (b.setCell ⟨g, i, none⟩ v) (some g) :=
  ⟨h.os, h.tape, h.output, by rw [World.size_setCell]; exact h.size, fun k hk hr => (Below.heap_setCell b ⟨g, i, none⟩ v k (fun e => hr (by rw [e]))).trans (h.block k hk hr)⟩

section
variable {P : Program} {w w' : World} {g : Nat} {t : TypeId} {cs cs' : Array Value}
theorem Blk.newAt (w : World) (t : TypeId) (cs : Array Value) {g : Nat} (hg : w.heap.size = g) : Blk (w.alloc (.cells cs t)) g t cs := by subst hg; exact Blk.new w t cs
theorem Blk.row (h : Blk w g t cs) (cs' : Array Value) : Blk (w.setRow g cs') g t cs' := setRow_heap w g cs cs' t (0, 0) h
theorem Blk.rowFar (h : Blk w g t cs) {g' : Nat} (hg : g ≠ g') (cs' : Array Value) : Blk (w.setRow g' cs') g t cs := (setRow_other w g' g cs' hg).trans h
theorem below_row {B : Nat} {w0 : World} (hb : Below B w0 w) (hBg : B ≤ g) (cs : Array Value) : Below B w0 (w.setRow g cs) :=
  ⟨hb.os, hb.tape, hb.output, by rw [setRow_size]; exact hb.size, fun k hk => (setRow_other w g k cs (by omega)).trans (hb.block k hk)⟩
theorem below_grown {B : Nat} {w0 : World} (hb : Below B w0 w) (hg : w.grownBy w' (some g)) (hBg : B ≤ g) (hB : B ≤ w.heap.size) : Below B w0 w' :=
  ⟨hg.os.trans hb.os, hg.tape.trans hb.tape, hg.output.trans hb.output, Nat.le_trans hb.size hg.size, fun k hk => (hg.block k (by omega) (fun e => by injection e; omega)).trans (hb.block k hk)⟩
theorem wpList_loadB {ops : Array Oper} {rest : List Oper} {o : Oper} {a : Act} {Q : Exit → Act → World → Prop} (hgd : o.guard = none) (ty : TypeId) (x : Operand) (ho : o.op = .load ty x)
    (g : Nat) (hx : a.eval x = .pointer (some ⟨g, 0, none⟩)) {t : TypeId} {cs : Array Value} (hg : Blk w g t cs) {d : TypeDesc} (hu : P.underlying ty = some d)
    (hd : (match d with | .struct _ | .array _ _ => true | _ => false) = true) {m : Nat} (hi : (P.info? ty).map (·.size) = some m) (hm : cs.size = m)
    (h : wpList P ops Q rest (a.put o.dst (.agg cs)) w) : wpList P ops Q (o :: rest) a w :=
  wpList_load_row hgd ty x ho g hx t cs (0, 0) d hg hu hd (by rw [hm]; exact hi) h
theorem wpList_storeB {ops : Array Oper} {rest : List Oper} {o : Oper} {a : Act} {Q : Exit → Act → World → Prop} (hgd : o.guard = none) (ty : TypeId) (x y : Operand) (ho : o.op = .store ty x y)
    (g : Nat) (cells : Array Value) (hx : a.eval x = .pointer (some ⟨g, 0, none⟩)) (hy : a.eval y = .agg cells)
    {t : TypeId} {old : Array Value} (hg : Blk w g t old) {m : Nat} (hi : (P.info? ty).map (·.size) = some m) (hm : cells.size = m) (hold : old.size = m) (h1 : cells.all (·.oneCell') = true)
    (h : wpList P ops Q rest (a.put o.dst undef) (w.setRow g cells)) : wpList P ops Q (o :: rest) a w :=
  wpList_store_row hgd ty x y ho g cells hx hy t old hg (by rw [hm]; exact hi) (by omega) h1 h
theorem wpList_storeNew {ops : Array Oper} {rest : List Oper} {o : Oper} {a : Act} {Q : Exit → Act → World → Prop} (hgd : o.guard = none) (ty : TypeId) (x y : Operand) (ho : o.op = .store ty x y)
    (w0 : World) (g : Nat) (hg : w0.heap.size = g) {c : Array Value} {t : TypeId} (hW : w = w0.alloc (.cells c t)) (cells : Array Value) (hx : a.eval x = .pointer (some ⟨g, 0, none⟩)) (hy : a.eval y = .agg cells)
    {m : Nat} (hi : (P.info? ty).map (·.size) = some m) (hm : cells.size = m) (hold : c.size = m) (h1 : cells.all (·.oneCell') = true)
    (h : wpList P ops Q rest (a.put o.dst undef) (w0.alloc (.cells cells t))) : wpList P ops Q (o :: rest) a w := by
  subst hg hW
  exact wpList_storeB hgd ty x y ho w0.heap.size cells hx hy (Blk.new w0 t c) hi hm hold h1 (by rw [World.setRow_alloc_new]; exact h)
theorem wpList_loadNew {ops : Array Oper} {rest : List Oper} {o : Oper} {a : Act} {Q : Exit → Act → World → Prop} (hgd : o.guard = none) (ty : TypeId) (x : Operand) (ho : o.op = .load ty x)
    (w0 : World) (g : Nat) (hg : w0.heap.size = g) {cs : Array Value} {t : TypeId} (hW : w = w0.alloc (.cells cs t)) (hx : a.eval x = .pointer (some ⟨g, 0, none⟩)) {d : TypeDesc} (hu : P.underlying ty = some d)
    (hd : (match d with | .struct _ | .array _ _ => true | _ => false) = true) {m : Nat} (hi : (P.info? ty).map (·.size) = some m) (hm : cs.size = m)
    (h : wpList P ops Q rest (a.put o.dst (.agg cs)) (w0.alloc (.cells cs t))) : wpList P ops Q (o :: rest) a w := by
  subst hg hW
  exact wpList_loadB hgd ty x ho w0.heap.size hx (Blk.new w0 t cs) hu hd hi hm h
theorem results_B {fn : Func} {p : Tmp} {ty : TypeId} (h : fn.results = #[.cell p ty]) (tmps : Array Value) {g : Nat}
    (hp : tmps.getD p undef = .pointer (some ⟨g, 0, none⟩)) {t : TypeId} {cs : Array Value} (hg : Blk w g t cs) {d : TypeDesc}
    (hu : P.underlying ty = some d) (hd : (match d with | .struct _ | .array _ _ => true | _ => false) = true) {m : Nat} (hi : (P.info? ty).map (·.size) = some m) (hm : cs.size = m) :
    (results fn tmps).run P w = .ok (.agg cs) w := results_cell_row h tmps w g t cs (0, 0) d hp hg hu hd (by rw [hm]; exact hi)
end
theorem cells_one (v : List Wd) : (cells v).all (·.oneCell') = true := by
  rw [Array.all_eq_true_iff_forall_mem]; intro x hx; simp [cells, cw] at hx; obtain ⟨y, _, rfl⟩ := hx; rfl
theorem cells64_one (v : List Wd) : (cells64 v).all (·.oneCell') = true := by
  rw [Array.all_eq_true_iff_forall_mem]; intro x hx; simp [cells64, cq] at hx; obtain ⟨y, _, rfl⟩ := hx; rfl
theorem cells8_one (v : List UInt8) : (cells8 v).all (·.oneCell') = true := by
  rw [Array.all_eq_true_iff_forall_mem]; intro x hx; simp [cells8, cb] at hx; obtain ⟨y, _, rfl⟩ := hx; rfl

section
variable {P : Program} {t e : TypeId} {n : Nat}
theorem arrLen_of (hu : P.underlying t = some (.array n e)) : P.arrayLen t = n ∧ P.elem t = e := by simp [Program.arrayLen, Program.elem, hu]
theorem addr_add (g off i : Nat) : (⟨g, off, none⟩ : Addr).add i = ⟨g, off + i, none⟩ := by
  unfold Addr.add; split
  · subst_vars; rfl
  · rfl
/-- 'a[l:]' of an array in memory. -/
theorem run_sliceArr_l (hu : P.underlying t = some (.array n e)) (hs : ∀ w, (sizeOf e).run P w = .ok 1 w) (g off : Nat) (l : Int) (h0 : 0 ≤ l) (hl : l < n) (W : World) :
    (Instr.sliceAt t (.pointer (some ⟨g, off, none⟩)) (some (.int .i64 l)) none none).run P W = .ok (.slice (some ⟨g, off + l.toNat, none⟩) (n - l.toNat) (n - l.toNat)) W := by
  obtain ⟨h1, h2⟩ := arrLen_of hu
  have ht : P.underlying t = some (.array (P.arrayLen t) (P.elem t)) := by rw [h1, h2]; exact hu
  rw [run_sliceAt_array_l W t ⟨g, off, none⟩ ht .i64 l h0 (by rw [h1]; omega), h1, h2, hs W]
  simp only [Result.andThen, slicedAt]
  rw [if_neg (by omega), Nat.mul_one, addr_add]
/-- 'a[:h]'. -/
theorem run_sliceArr_h (hu : P.underlying t = some (.array n e)) (hs : ∀ w, (sizeOf e).run P w = .ok 1 w) (g off : Nat) (h : Int) (h0 : 0 ≤ h) (hh : h ≤ n) (hn : 0 < n) (W : World) :
    (Instr.sliceAt t (.pointer (some ⟨g, off, none⟩)) none (some (.int .i64 h)) none).run P W = .ok (.slice (some ⟨g, off, none⟩) h.toNat n) W := by
  obtain ⟨h1, h2⟩ := arrLen_of hu
  have ht : P.underlying t = some (.array (P.arrayLen t) (P.elem t)) := by rw [h1, h2]; exact hu
  rw [run_sliceAt_array_h W t ⟨g, off, none⟩ ht .i64 h h0 (by rw [h1]; omega), h1, h2, hs W]
  simp only [Result.andThen, slicedAt]
  rw [if_neg (by omega), Nat.zero_mul, addr_add, Nat.sub_zero, Nat.sub_zero, Nat.add_zero]
/-- 'a[:]'. -/
theorem run_sliceArr_all (hu : P.underlying t = some (.array n e)) (hs : ∀ w, (sizeOf e).run P w = .ok 1 w) (g off : Nat) (hn : 0 < n) (W : World) :
    (Instr.sliceAt t (.pointer (some ⟨g, off, none⟩)) none none none).run P W = .ok (.slice (some ⟨g, off, none⟩) n n) W := by
  obtain ⟨h1, h2⟩ := arrLen_of hu
  have ht : P.underlying t = some (.array (P.arrayLen t) (P.elem t)) := by rw [h1, h2]; exact hu
  rw [run_sliceAt_array_all W t ⟨g, off, none⟩ ht, h1, h2, hs W]
  simp only [Result.andThen, slicedAt]
  rw [if_neg (by omega), Nat.zero_mul, addr_add, Nat.sub_zero, Nat.add_zero]
end

/-- 'a[i]' of an array that is a value, each element one cell. -/
theorem run_indexAgg {P : Program} {t e : TypeId} {n : Nat} {d : TypeDesc} (hu : P.underlying t = some (.array n e)) (he : P.underlying e = some d) (hd : (match d with | .struct _ | .array _ _ => false | _ => true) = true)
    (hs : ∀ w, (sizeOf e).run P w = .ok 1 w) (cs : Array Value) (i : Nat) (hi : i < n) (v : Value) (hv : cs[i]? = some v) (k : IntKind) (W : World) :
    (Instr.index t (.agg cs) (.int k (i : Int))).run P W = .ok v W := by
  have h0 : (0 : Int) ≤ i ∧ (i : Int) < n := by omega
  have ha : (isAgg e).run P W = .ok false W := by
    unfold isAgg
    rw [Sem.run_bind, run_underlying he W]
    cases d <;> simp_all
  simp [Instr.index, asIntOf, run_underlying hu, h0, hs, part, ha, hv]
  exact fun h => absurd h (by omega)

/-- a double round. -/
def dbl (v : List Wd) : List Wd :=
  qr (qr (qr (qr (qr (qr (qr (qr v 0 4 8 12) 1 5 9 13) 2 6 10 14) 3 7 11 15) 0 5 10 15) 1 6 11 12) 2 7 8 13) 3 4 9 14
def rnds (v : List Wd) : Nat → List Wd
  | 0 => v
  | i + 1 => dbl (rnds v i)
theorem dbl_len (v : List Wd) : (dbl v).length = v.length := by simp [dbl, qr_len]
theorem rnds_len (v : List Wd) (i : Nat) : (rnds v i).length = v.length := by
  induction i with
  | zero => rfl
  | succ i ih => simp [rnds, dbl_len, ih]
/-- a byte of a word. -/
def byteOf (x : Wd) (j : Nat) : UInt8 := UInt8.ofNat (x.toNat / 2 ^ (8 * j))
theorem byteOf_eq (x : Wd) (j : Nat) : IntKind.u8.wrap (nm x / 2 ^ (8 * j)) = ((byteOf x j).toNat : Int) := by
  rw [wrap_u8]; unfold nm byteOf
  rw [UInt8.toNat_ofNat', Int.natCast_emod, Int.natCast_ediv, Int.natCast_pow]; rfl
theorem byteOf_eq' (x : Wd) (j : Nat) : nm x / 2 ^ (8 * j) % 256 = ((byteOf x j).toNat : Int) := by rw [← byteOf_eq, wrap_u8]
/-- the bytes of the sums of words, up to the m-th. -/
def outs (v was : List Wd) : Nat → List UInt8
  | 0 => List.replicate 64 0
  | m + 1 => (outs v was m).set m (byteOf (gt v (m / 4) + gt was (m / 4)) (m % 4))
theorem outs_len (v was : List Wd) (m : Nat) : (outs v was m).length = 64 := by
  induction m with
  | zero => simp [outs]
  | succ m ih => simp [outs, ih]
/-- a block of the stream. -/
def chacha (k nonce : List UInt8) (n : Wd) : List UInt8 := outs (rnds (fst16 k nonce n) 10) (fst16 k nonce n) 64
theorem chacha_len (k nonce : List UInt8) (n : Wd) : (chacha k nonce n).length = 64 := outs_len _ _ _

end Go.Proofs.YtilbebjjmnncdaaDoor
