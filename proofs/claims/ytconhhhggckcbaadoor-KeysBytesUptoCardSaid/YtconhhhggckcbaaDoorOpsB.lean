/- Laws and walks that many claims share: Ops2, Byt, RowW, TailW, StructW, Ops3. -/
import Derived.Laws.BitsAllLaws
import Derived.Laws.Bits128
import Derived.Test.YtconhhhggckcbaaDoorBaseB
import Derived.Lib.ConvBytes
import Derived.Laws.Tables
import Derived.Laws.MakeOwn
import Derived.Lib.AppendStr
import Derived.Deep.OwnRows
/- More operations, told by their operands; results of three values; where ways meet again. No program in sight. -/
namespace Go.Proofs.YtconhhhggckcbaaDoor
open Go.RowKit
variable {D : List Deferred}

section
variable {P : Program} {a : Act} {o : Oper} {w w0 : World} {t t2 : TypeId} {x y z : Operand} {k k2 : IntKind} {p q r : Int} {n s : Nat} {L : List (Nat × Value)} {v : Value} {Q : Exit → Act → World → Prop}
theorem run_and (ho : o.op = .binOp .and t x y t2) (hx : a.eval x = .int k p) (hy : a.eval y = .int k q) (h : bits .and k p q = r) : (execOp a.eval o).run P w = .ok (.value (.int k r)) w :=
  run_bin ho hx hy (guard_int _) (by simp [binOp, h, go_sem])
theorem run_or (ho : o.op = .binOp .or t x y t2) (hx : a.eval x = .int k p) (hy : a.eval y = .int k q) (h : bits .or k p q = r) : (execOp a.eval o).run P w = .ok (.value (.int k r)) w :=
  run_bin ho hx hy (guard_int _) (by simp [binOp, h, go_sem])
theorem run_shl (ho : o.op = .binOp .shl t x y t2) (hx : a.eval x = .int k p) (hy : a.eval y = .int k2 q) (h0 : 0 ≤ q) (h1 : q ≤ k.bits) (h : k.wrap (p * 2 ^ q.toNat) = r) : (execOp a.eval o).run P w = .ok (.value (.int k r)) w :=
  run_bin ho hx hy (guard_int _) (by rw [binOp_shl, shift_shl k k2 p q h0 h1, h]; rfl)
theorem run_shr (ho : o.op = .binOp .shr t x y t2) (hx : a.eval x = .int k p) (hy : a.eval y = .int k2 q) (h0 : 0 ≤ q) (h1 : q ≤ k.bits) (h : p / 2 ^ q.toNat = r) : (execOp a.eval o).run P w = .ok (.value (.int k r)) w :=
  run_bin ho hx hy (guard_int _) (by rw [binOp_shr, shift_shr k k2 p q h0 h1, h]; rfl)
theorem run_not {b : Bool} (ho : o.op = .unOp .not t x) (hx : a.eval x = .bool b) : (execOp a.eval o).run P w = .ok (.value (.bool (!b))) w := by
  unfold execOp
  simp only [ho, hx]
  simp [go_sem]
theorem run_sFromE {l l2 : List UInt8} {m : Nat} (hr : l.drop m = l2) (ho : o.op = .slice t x (some y) none none) (hx : a.eval x = .string ⟨l.toArray⟩) (hy : a.eval y = .int k p) (hu : P.underlying t = some .string) (hp : p = (m : Int)) (hn : m ≤ l.length) : (execOp a.eval o).run P w = .ok (.value (.string ⟨l2.toArray⟩)) w := by
  subst hr; exact run_sFrom ho hx hy hu hp hn
theorem run_sMidE {l l2 : List UInt8} {m m2 : Nat} (hr : (l.drop m).take (m2 - m) = l2) (ho : o.op = .slice t x (some y) (some z) none) (hx : a.eval x = .string ⟨l.toArray⟩) (hy : a.eval y = .int k p) (hz : a.eval z = .int k2 q) (hu : P.underlying t = some .string) (hp : p = (m : Int)) (hq : q = (m2 : Int)) (hmn : m ≤ m2) (hn : m2 ≤ l.length) : (execOp a.eval o).run P w = .ok (.value (.string ⟨l2.toArray⟩)) w := by
  subst hr; exact run_sMid ho hx hy hz hu hp hq hmn hn
/-- 'T{}' of a slice's type. -/
theorem run_none {e : TypeId} {m : Nat} (ho : o.op = .buildSlice t 0 #[]) (hu : P.underlying t = some (.slice e)) (hz : (sizeOf e).run P w = .ok m w) : (execOp a.eval o).run P w = .ok (.value (.slice (some ⟨w.heap.size, 0, none⟩) 0 0)) (w.alloc (.cells #[] e)) := by
  unfold execOp
  simp only [ho]
  simp [Instr.buildSlice, run_underlying hu, hz, Instr.fill, go_sem]
theorem results_tmp3 {fn : Func} {t u v : Tmp} (h : fn.results = #[.tmp t, .tmp u, .tmp v]) (tmps : Array Value) (P : Program) (w : World) :
    (results fn tmps).run P w = .ok (.tuple #[tmps.getD t undef, tmps.getD u undef, tmps.getD v undef]) w := by
  simp [results, h]
theorem ret3 {fn : Func} {R : Ending → World → Prop} {s2 s3 : Nat} {v2 v3 : Value} (hF : Fr a n L) (hr : fn.results = #[.tmp s, .tmp s2, .tmp s3]) (hl : lk L s = some v) (hl2 : lk L s2 = some v2) (hl3 : lk L s3 = some v3) (h : R (.returned (.tuple #[v, v2, v3])) w) : bodyPost P fn R .ret a w :=
  bodyPost_ret (results_tmp3 hr a.tmps P w) hF.defers (by rw [Array.getD_eq_getD_getElem?, hF.at s hl, Array.getD_eq_getD_getElem?, hF.at s2 hl2, Array.getD_eq_getD_getElem?, hF.at s3 hl3]; exact h)
end
end Go.Proofs.YtconhhhggckcbaaDoor
/- Bytes that a call makes out of a text ('[]byte(s)'): read, cut, changed byte by byte. -/
namespace Go.Proofs.YtconhhhggckcbaaDoor
open Go.RowKit
variable {D : List Deferred}

/-- a block whose first cells are bytes that may be written. -/
def isY (l : List UInt8) : Obj → Prop := fun ob => ∃ cur lo hi, ob = .cells cur 5 (lo, hi) ∧ l.length ≤ cur.size ∧ (∀ i, i < l.length → cur[i]? = some (.int .u8 ((bt l i).toNat : Int))) ∧ ∀ i, i < l.length → ¬ (lo ≤ i ∧ i < hi)
section
variable {P : Program} {a : Act} {o : Oper} {w w0 : World} {n s : Nat} {L : List (Nat × Value)} {v : Value} {ops : Array Oper} {rest : List Oper} {Q : Exit → Act → World → Prop} {M : List (Nat × (Obj → Prop))} {l : List UInt8} {g i : Nat} {x y z : Operand} {k k2 : IntKind} {p q : Int}
theorem isY_cell (h : ∃ ob, w.heap[g]? = some ob ∧ isY l ob) (hi : i < l.length) : w.cell? ⟨g, i, none⟩ = some (.int .u8 ((bt l i).toNat : Int)) := by
  obtain ⟨ob, h1, cur, lo, hi2, rfl, h3, h4, h5⟩ := h
  simp only [World.cell?, h1]
  simpa using h4 i hi
theorem grown_setCell (w : World) (g i : Nat) (v : Value) : w.grownBy (w.setCell ⟨g, i, none⟩ v) (some g) := by
  refine ⟨rfl, rfl, rfl, by simp [World.setCell], fun k _ hne => ?_⟩
  have : g ≠ k := fun e => hne (by rw [e])
  simp [World.setCell, Array.getElem?_modify, this]
/-- 'string(b[:j])'. -/
theorem run_strY {c j : Nat} (h : ∃ ob, w.heap[g]? = some ob ∧ isY l ob) (hj : j ≤ l.length) : (convert 52 9 (.slice (some ⟨g, 0, none⟩) j c)).run Tryd.prog w = .ok (.string ⟨(l.take j).toArray⟩) w := by
  have hl : (l.take j).length = j := by rw [List.length_take]; omega
  refine run_strOf hl fun q hq => ?_
  rw [hl] at hq
  rw [Nat.zero_add, isY_cell h (by omega)]
  simp [bt, hq]
theorem run_xor8 {b c : UInt8} {t t2 : TypeId} (ho : o.op = .binOp .xor t x y t2) (hx : a.eval x = .int .u8 (b.toNat : Int)) (hy : a.eval y = .int .u8 (c.toNat : Int)) : (execOp a.eval o).run P w = .ok (.value (.int .u8 ((b ^^^ c).toNat : Int))) w := by
  refine run_bin ho hx hy (guard_int _) ?_
  have e := u8_xor_nat b.toNat c.toNat b.toNat_lt c.toNat_lt
  rw [UInt8.toNat_xor]
  simp [binOp, go_sem, e]
end
end Go.Proofs.YtconhhhggckcbaaDoor
/- Rows that a call owns: appended to, read; slices of elements of some cells each. No program in sight. -/
namespace Go.Proofs.YtconhhhggckcbaaDoor
open Go.RowKit
variable {D : List Deferred}

/-- a slice of n elements of m cells each, as it reads in a world. -/
def Sl (w : World) (v : Value) (m n : Nat) (cs : List Value) : Prop :=
  cs.length = n * m ∧ (((∃ a c, v = .slice a 0 c) ∧ n = 0) ∨ ∃ b o c : Nat, v = .slice (some ⟨b, o, none⟩) n c ∧ b < w.heap.size ∧ ∀ j u, cs[j]? = some u → w.cell? ⟨b, o + j, none⟩ = some u)
section
variable {w w2 : World} {v : Value} {m n : Nat} {cs : List Value}
theorem Sl.keep (h : Sl w v m n cs) (hs : w.heap.size ≤ w2.heap.size) (hk : ∀ b, b < w.heap.size → w2.heap[b]? = w.heap[b]?) : Sl w2 v m n cs := by
  refine ⟨h.1, ?_⟩
  rcases h.2 with h | ⟨b, o, c, h1, h2, h3⟩
  · exact .inl h
  · refine .inr ⟨b, o, c, h1, by omega, fun j u hj => ?_⟩
    rw [← h3 j u hj]
    unfold World.cell?
    simp only [hk b h2]
theorem Sl.below (h : Sl w v m n cs) (hb : Below w.heap.size w w2) : Sl w2 v m n cs := h.keep hb.size (fun b hl => hb.block b hl)
theorem Sl.len (h : Sl w v m n cs) : ∃ a c, v = .slice a n c := by
  rcases h.2 with ⟨⟨a, c, rfl⟩, rfl⟩ | ⟨b, o, c, h1, _, _⟩
  · exact ⟨_, _, rfl⟩
  · exact ⟨_, _, h1⟩
theorem Sl.strs {l : List (List UInt8)} (h : Sl w v 1 l.length (l.map tx)) : Strs w v l := by
  rcases h.2 with ⟨h1, h2⟩ | ⟨b, o, c, h1, h2, h3⟩
  · exact .inl ⟨h1, List.eq_nil_of_length_eq_zero h2⟩
  · exact .inr ⟨b, o, c, h1, h2, fun i hi => h3 i _ (by simp [hi])⟩
theorem Sl.own {w0 : World} {M : List (Nat × (Obj → Prop))} {e : TypeId} (h : OwnR w0 M w e m v n cs) : Sl w v m n cs := by
  refine ⟨h.owns.1, ?_⟩
  rcases h.owns.2 with ⟨rfl, h2⟩ | ⟨g, cap, cur, rfl, _, hh, h1, h2, h3, h4⟩
  · exact .inl ⟨⟨_, _, rfl⟩, h2⟩
  · refine .inr ⟨g, 0, cap, rfl, lt_of_ob hh, fun j u hj => ?_⟩
    rw [Nat.zero_add, cell_of_row w g j cur e (0, 0) hh]
    have hl : j < n * m := by have := (List.getElem?_eq_some_iff.1 hj).1; rw [h.owns.1] at this; exact this
    have e1 : cur[j]? = (cur.toList.take (n * m))[j]? := by rw [List.getElem?_take_of_lt hl]; simp
    rw [e1, h4]; exact hj
end
section
variable {P : Program} {w : World}
/-- where a row lies behind an append: where it lay, or in a new block. -/
theorem append_block {base : Nat} {t ty e : TypeId} {i : TypeInfo} {z : Value} {size bytes : Nat} (ht : P.underlying t = some (.slice e)) (hi : P.info? e = some i) (hz : i.zero = some z)
    (hsize : i.size = size) (hby : i.bytes = bytes) {v : Value} {n : Nat} {xs : List Value} (hown : w.ownsRow base e size v n xs)
    {a : Addr} {m c : Nat} {news : List Value} (hl : news.length = m * size) (hnews : ∀ j u, news[j]? = some u → w.cell? (a.add j) = some u) (h1 : ∀ u ∈ news, u.oneCell' = true)
    (h63 : n + m ≤ maxLen) (hbytes : (n + m) * bytes ≤ 140737488355328) {v2 : Value} {w2 : World} (hr : (Builtin.append_ #[t, t] ty #[v, .slice (some a) m c]).run P w = .ok v2 w2) (hnil : v2 = .slice none 0 0 ↔ v = .slice none 0 0 ∧ m = 0) :
    v2.ownBlock = v.ownBlock ∨ ∃ g, v2.ownBlock = some g ∧ w.heap.size ≤ g := by
  subst hsize hby
  have hsmall : n + m ≤ 9223372036854775807 := by simp only [maxLen] at h63; omega
  rcases hown.2 with ⟨rfl, rfl⟩ | ⟨g, cap, cur, rfl, hbg, hg, hnc, hcm, hcs, htake⟩
  · by_cases hm : m = 0
    · rw [hnil.2 ⟨rfl, hm⟩]; exact .inl rfl
    · have hr2 := run_append_nil (P := P) w t ty e i z ht hi hz a m c news hl hnews (by omega) (by omega) (by have hb := hbytes; simp only [Nat.zero_add] at hb; omega)
      rw [hr2] at hr
      injection hr with hv _
      subst hv
      exact .inr ⟨_, rfl, Nat.le_refl _⟩
  · by_cases hroom : n + m ≤ cap
    · have hfit : n * i.size + news.length ≤ cur.size := by rw [hl, hcs, ← Nat.add_mul]; exact Nat.mul_le_mul_right _ hroom
      have hr2 := run_append_room (P := P) w t ty e i ht hi g n cap cur hg a m c news hl hnews h1 hroom hfit
      rw [hr2] at hr
      injection hr with hv _
      subst hv
      exact .inl rfl
    · have holds : ∀ j u, xs[j]? = some u → w.cell? ((⟨g, 0, none⟩ : Addr).add j) = some u := hown.cells (g := g) rfl
      have hr2 := run_append_grow (P := P) w t ty e i z ht hi hz ⟨g, 0, none⟩ n cap xs hown.1 holds a m c news hl hnews (by omega) (by omega) (growslice_fits (by omega) hbytes)
      rw [hr2] at hr
      injection hr with hv _
      subst hv
      exact .inr ⟨_, rfl, Nat.le_refl _⟩
variable {a : Act} {o : Oper} {w0 : World} {n s : Nat} {L : List (Nat × Value)} {v : Value} {ops : Array Oper} {rest : List Oper} {Q : Exit → Act → World → Prop} {M : List (Nat × (Obj → Prop))} {x y : Operand}
/-- what the table says of an element's type. -/
structure ElT (P : Program) (t e : TypeId) (size bytes : Nat) : Prop where
  un : P.underlying t = some (.slice e)
  inf : ∃ i z, P.info? e = some i ∧ i.zero = some z ∧ i.size = size ∧ i.bytes = bytes ∧ z.cells.size = size
  pos : 0 < size
theorem sqAppend {t e : TypeId} {size bytes n0 m c : Nat} {xs news : List Value} {ad : Addr} (E : ElT P t e size bytes) (hF : FrD D a n L) (hM : Mem w0 M w) (hO : OwnR w0 M w e size v n0 xs) (hgd : o.guard = none)
    (ho : o.op = .call { callee := .builtin .append, args := #[x, y], argTypes := #[t, t] }) (hx : a.eval x = v) (hy : a.eval y = .slice (some ad) m c) (hl : news.length = m * size) (hnews : ∀ j u, news[j]? = some u → w.cell? (ad.add j) = some u) (h1 : ∀ u ∈ news, u.oneCell' = true)
    (h63 : n0 + m ≤ maxLen) (hbytes : (n0 + m) * bytes ≤ 140737488355328) (hd : o.dst = some s) (hs : s < n)
    (h : ∀ v2 a2 w2, OwnR w0 M w2 e size v2 (n0 + m) (xs ++ news) → Mem w0 M w2 → (v2 = .slice none 0 0 ↔ v = .slice none 0 0 ∧ m = 0) → FrD D a2 n ((s, v2) :: L) → wpList P ops Q rest a2 w2) : wpList P ops Q (o :: rest) a w := by
  obtain ⟨i, z, hi, hz, hsz, hby, hzs⟩ := E.inf
  obtain ⟨v2, w2, hr, h2, h3, h4⟩ := run_append_own (P := P) w w0.heap.size t o.type e i z size bytes E.un hi hz hsz hby hzs E.pos v n0 xs hO.owns ad m c news hl hnews h1 h63 hbytes hM.below.size
  have hblk := append_block (P := P) E.un hi hz hsz hby hO.owns hl hnews h1 h63 hbytes hr h4
  refine sq hF (wantedS hgd) (v := v2) (w2 := w2) ?_ hd hs fun a2 hF2 => h v2 a2 w2 (hO.next hM h2 hblk) (hO.mem hM h3) h4 hF2
  unfold execOp
  simp only [ho, resolve, invoke, builtin, Sem.run_bind, Sem.run_pure, Result.andThen_ok, List.map_toArray, List.map_cons, List.map_nil, hx, hy, hr]
/-- a new row. -/
theorem sqRow {t : TypeId} {cs : Array Value} {m : Nat} (hF : FrD D a n L) (hM : Mem w0 M w) (hw : Region.wanted o (yielded ops a.tmps) = true) (hrun : (execOp a.eval o).run P w = .ok (.value (.slice (some ⟨w.heap.size, 0, none⟩) m m)) (w.alloc (.cells cs t))) (hd : o.dst = some s) (hs : s < n)
    (h : ∀ g a2 w2, w.heap.size ≤ g → Below w.heap.size w w2 → FrD D a2 n ((s, .slice (some ⟨g, 0, none⟩) m m) :: L) → Mem w0 ((g, isB t cs) :: M) w2 → wpList P ops Q rest a2 w2) : wpList P ops Q (o :: rest) a w :=
  sq hF hw hrun hd hs fun a2 hF2 => h w.heap.size a2 _ (Nat.le_refl _) ((Below.refl _ _).alloc (Nat.le_refl _) _) hF2 (hM.alloc cs t)
/-- a new row without elements, which the call will append to. -/
theorem sqOwn0 {e : TypeId} {size : Nat} (hF : FrD D a n L) (hM : Mem w0 M w) (hw : Region.wanted o (yielded ops a.tmps) = true) (hrun : (execOp a.eval o).run P w = .ok (.value (.slice (some ⟨w.heap.size, 0, none⟩) 0 0)) (w.alloc (.cells #[] e))) (hd : o.dst = some s) (hs : s < n)
    (h : ∀ v a2 w2, OwnR w0 M w2 e size v 0 [] → Below w.heap.size w w2 → Mem w0 M w2 → FrD D a2 n ((s, v) :: L) → wpList P ops Q rest a2 w2) : wpList P ops Q (o :: rest) a w := by
  have hb : Below w.heap.size w (w.alloc (.cells #[] e)) := (Below.refl _ _).alloc (Nat.le_refl _) _
  refine sq hF hw hrun hd hs fun a2 hF2 => h _ a2 _ ⟨⟨by simp, .inr ⟨w.heap.size, 0, #[], rfl, hM.below.size, heap_alloc_new w _, Nat.le_refl _, by unfold maxLen; omega, by simp, by simp⟩⟩, fun x hx => ?_⟩ hb (hM.grow hb) hF2
  have := hM.lt hx
  intro e2
  simp only [Value.ownBlock, Option.some.injEq] at e2
  omega
/-- a whole block stored; what else has changed. -/
theorem sqStoreG {x y : Operand} {ty t : TypeId} {i g m : Nat} {cs old : Array Value} (hF : FrD D a n L) (hM : Mem w0 M w) (hgd : o.guard = none) (ho : o.op = .store ty x y) (hd : o.dst = none) (hx : a.eval x = .pointer (some ⟨g, 0, none⟩)) (hy : a.eval y = .agg cs)
    (e : M[i]? = some (g, isB t old)) (hi : (P.info? ty).map (·.size) = some m) (hm : cs.size = m) (hold : old.size = m) (h1 : cs.all (·.oneCell') = true)
    (h : ∀ a2 w2, w.grownBy w2 (some g) → FrD D a2 n L → Mem w0 (M.set i (g, isB t cs)) w2 → wpList P ops Q rest a2 w2) : wpList P ops Q (o :: rest) a w :=
  wpList_storeB hgd ty x y ho g cs hx hy (hM.at i e) hi hm hold h1 (by rw [hd]; exact h _ _ (grown_setRow w g cs) hF (hM.row i e cs))
theorem blkNews {w : World} {g : Nat} {t : TypeId} {news : List Value} (h : Blk w g t news.toArray) : ∀ j u, news[j]? = some u → w.cell? ((⟨g, 0, none⟩ : Addr).add j) = some u := by
  intro j u hj
  rw [addr_add, Nat.zero_add, h.cell]
  simpa using hj
theorem all_one {l : List Value} (h : (l.all fun u => u.oneCell') = true) : ∀ u ∈ l, u.oneCell' = true := fun u hu => List.all_eq_true.1 h u hu
theorem OwnR.sub {w0 w : World} {M M2 : List (Nat × (Obj → Prop))} {e : TypeId} {size m : Nat} {v : Value} {xs : List Value} (h : OwnR w0 M w e size v m xs) (hs : M2.Sublist M) : OwnR w0 M2 w e size v m xs := ⟨h.owns, fun x hx => h.far x (hs.subset hx)⟩
end
end Go.Proofs.YtconhhhggckcbaaDoor
/- The law of a drawn region with a tail, where the tail may write slots that the head reads. No program in sight. -/
namespace Go.Proofs.YtconhhhggckcbaaDoor
open Go.RowKit

section
variable {P : Program} {l : List Oper}
/-- what an operation of the head is asked for. -/
def AsksH (P : Program) (l : List Oper) (n0 : Nat) (a0 : Act) (S : World → Prop) (T : Nat → Value → World → Prop) (R : Nat → World → World → Prop) (i : Nat) (o : Oper) : Prop :=
  ∀ (a : Act) (W : World), S W → (∀ s v, noDst (l.take n0) s = true → a0.tmps[s]? = some v → a.tmps[s]? = some v) → (∀ j, Region.waitsFor .any l.toArray i j = true → ∀ oj s, l[j]? = some oj → oj.dst = some s → ∃ v, a.tmps[s]? = some v ∧ T j v W) →
    (∀ j, Region.waitsFor .any l.toArray i j = true → ∀ oj, l[j]? = some oj → oj.dst = none → T j undef W) →
    (Region.wanted o (yielded l.toArray a.tmps) = true ∧ GivesT P (R i W) (T i) ((execOp a.eval o).run P W)) ∨ (Region.wanted o (yielded l.toArray a.tmps) = false ∧ T i undef W)
def AskAllH (P : Program) (l : List Oper) (n0 : Nat) (a0 : Act) (w : World) (KL : List Kd) : Nat → List Oper → Prop
  | _, [] => True
  | i, o :: rest => AsksH P l n0 a0 (Below w.heap.size w) (kT KL) grows i o ∧ AskAllH P l n0 a0 w KL (i + 1) rest
theorem AskAllH.at {n0 : Nat} {a0 : Act} {w : World} {KL : List Kd} : ∀ {r : List Oper} {k : Nat}, AskAllH P l n0 a0 w KL k r → ∀ i o, r[i]? = some o → AsksH P l n0 a0 (Below w.heap.size w) (kT KL) grows (k + i) o
  | [], _, _, i, o, h => by simp at h
  | x :: r, k, h, 0, o, ho => by
    simp only [List.getElem?_cons_zero, Option.some.injEq] at ho
    subst ho
    exact h.1
  | x :: r, k, h, i + 1, o, ho => by
    have := AskAllH.at h.2 i o (by simpa using ho)
    rwa [show k + 1 + i = k + (i + 1) by omega] at this
section
variable {a0 : Act} {w : World} {KL : List Kd} {i n0 : Nat} {o : Oper}
theorem asksH_mk (h : ∀ (a : Act) (W : World), Below w.heap.size w W → Had (l.take n0) a0 a → Dep l KL i a W → Region.wanted o (yielded l.toArray a.tmps) = true ∧ GivesT P (grows i W) (kT KL i) ((execOp a.eval o).run P W)) : AsksH P l n0 a0 (Below w.heap.size w) (kT KL) grows i o :=
  fun a W hS h1 h2 _ => .inl (h a W hS h1 h2)
theorem asksHY (hg : o.guard = none) (h : ∀ (a : Act) (W : World), Below w.heap.size w W → Had (l.take n0) a0 a → Dep l KL i a W → GivesT P (grows i W) (kT KL i) ((execOp a.eval o).run P W)) : AsksH P l n0 a0 (Below w.heap.size w) (kT KL) grows i o := asksH_mk fun a W hS hh hd => ⟨wanted_yes hg, h a W hS hh hd⟩
end
theorem wp_region_looseTail2 {id : Nat} {Q : Exit → Act → World → Prop} {a0 : Act} {w : World} (n n0 : Nat) (hm : P.follows .mixedOrders = true) (hB : looseB l n = true) (hTB : tailB l n0 = true) (hn : a0.tmps.size = n)
    (S : World → Prop) (T : Nat → Value → World → Prop) (R : Nat → World → World → Prop) (hS : S w.drew) (hRS : ∀ i W W', S W → R i W W' → S W') (hRT : ∀ i j v W W', j ≠ i → S W → R i W W' → T j v W → T j v W')
    (hdn : ∀ i o, l[i]? = some o → o.dst = none → ∀ v W, T i v W → T i undef W) (hop : ∀ i o, i < n0 → l[i]? = some o → AsksH P l n0 a0 S T R i o)
    (hend : ∀ a W, S W → Known l a0 T (fun i => decide (i < n0)) a W → wpList P l.toArray Q (l.drop n0) a W) : (Code.region id l.toArray true).wp P Q a0 w := by
  simp only [tailB, Bool.and_eq_true, decide_eq_true_eq] at hTB
  obtain ⟨⟨⟨hlt, hsink⟩, hchain⟩, hseq⟩ := hTB
  refine wp_region_any hm ?_
  have main : ∀ (f : Nat) (listed : Array Bool) (a : Act) (W : World), HeadInv .any l.toArray n0 listed → openN n0 listed = f → S W → Known l a0 T (fun j => listed.getD j false) a W →
      wpAny P .any l.toArray Q (f + (l.length - n0)) listed a W := by
    intro f
    induction f with
    | zero =>
      intro listed a W inv hf hSW hK
      have hsz : listed.size = l.length := by simpa using inv.size
      have hall : ∀ j, j < n0 → listed.getD j false = true := by
        intro j hj
        have hjs : j < listed.size := by omega
        cases hu : listed.getD j true with
        | true =>
          simp only [Array.getD_eq_getD_getElem?, Array.getElem?_eq_getElem hjs, Option.getD_some] at hu ⊢
          exact hu
        | false =>
          have := openN_set' n0 listed j hj (by omega) hu
          omega
      have hlisted : listed = (List.replicate n0 true ++ List.replicate (l.length - n0) false).toArray := by
        apply Array.ext
        · simp; omega
        · intro i h1 h2
          by_cases hi : i < n0
          · have := hall i hi
            simp only [Array.getD_eq_getD_getElem?, Array.getElem?_eq_getElem h1, Option.getD_some] at this
            rw [this]
            simp [hi]
          · have := inv.tail i (by omega) (by simpa [hsz] using h1)
            simp only [Array.getD_eq_getD_getElem?, Array.getElem?_eq_getElem h1, Option.getD_some] at this
            rw [this]
            simp [List.getElem_append, hi]
      have hlen : (l.drop n0).length = l.length - n0 := by simp
      rw [Nat.zero_add, ← hlen]
      refine wpAny_of_seq (md := .any) (l.drop n0) n0 listed a W (fun j => by simp [List.getElem?_drop]) (by rw [hlen, hlisted]; exact hseq) (hend a W hSW ?_)
      have hiff : ∀ j, j < l.length → (listed.getD j false = true ↔ j < n0) := by
        intro j hj
        constructor
        · intro h
          rcases Nat.lt_or_ge j n0 with h' | h'
          · exact h'
          · have := getD_both (inv.tail j h' (by simpa using hj))
            rw [this] at h; cases h
        · exact hall j
      exact ⟨hK.size, hK.defers, fun s hs => hK.old s (fun i o hi hl => hs i o hi (by have := (hiff i (List.getElem?_eq_some_iff.1 hi).1).1 hl; simpa using this)),
        fun i o s hi hl hs => hK.new i o s hi ((hiff i (List.getElem?_eq_some_iff.1 hi).1).2 (by simpa using hl)) hs, fun i o hi hl hs => hK.mem i o hi ((hiff i (List.getElem?_eq_some_iff.1 hi).1).2 (by simpa using hl)) hs⟩
    | succ f ih =>
      intro listed a W inv hf hSW hK
      have hsz : listed.size = l.length := by simpa using inv.size
      rw [show f + 1 + (l.length - n0) = (f + (l.length - n0)) + 1 by omega]
      obtain ⟨i1, hi1, hu1⟩ := openN_lt (n := n0) (listed := listed) (by omega)
      have hopen : openN l.length listed ≠ 0 := by
        have := openN_set' l.length listed i1 (by omega) (by omega) hu1
        omega
      refine ⟨fun h => absurd h (ready_of_open hB hsz hopen), fun i hi => ?_⟩
      have hin : i < n0 := by
        rcases Nat.lt_or_ge i n0 with h | h
        · exact h
        · exact absurd hi (tail_waits hsink hchain (by simpa using hlt) inv _ i1 rfl hi1 hu1 i h)
      obtain ⟨hu, o, ho, hwait⟩ := mem_ready.1 hi
      have hio : l[i]? = some o := by simpa using ho
      have hil := (List.getElem?_eq_some_iff.1 hio).1
      have hstep : ∀ v W', R i W W' ∨ W' = W → T i v W' → wpAny P .any l.toArray Q (f + (l.length - n0)) (listed.setIfInBounds i true) (a.put o.dst v) W' := by
        intro v W' hR hTv
        have hS' : S W' := by
          rcases hR with hR | rfl
          · exact hRS i W W' hSW hR
          · exact hSW
        refine ih _ _ _ (inv.set hi hin) (by have := openN_set' n0 listed i hin (by omega) hu; omega) hS' ?_
        refine hK.put hB hn hio hsz hu (fun j u hne hTj => ?_) hTv (fun hd => hdn i o hio hd v W' hTv)
        rcases hR with hR | rfl
        · exact hRT i j u W W' hne hSW hR hTj
        · exact hTj
      have hlist : ∀ j, Region.waitsFor .any l.toArray i j = true → listed.getD j false = true := by
        intro j hj
        obtain ⟨o', ho', e, he, hb, hon⟩ := Region.waitsFor_spec hj
        have e1 : o' = o := Option.some.inj (ho'.symm.trans ho)
        subst e1
        rw [← hon]; exact hwait e he hb
      have hask := hop i o hin hio a W hSW (fun s v hs hv => by
          rw [hK.old s (fun j oj hj hl hd => by
            have hjn : j < n0 := by
              rcases Nat.lt_or_ge j n0 with h' | h'
              · exact h'
              · have := getD_both (inv.tail j h' (by simpa using (List.getElem?_eq_some_iff.1 hj).1))
                rw [this] at hl; cases hl
            have := List.all_eq_true.1 hs oj (List.mem_of_getElem? (i := j) (by rw [List.getElem?_take_of_lt hjn]; exact hj))
            rw [hd] at this; simp at this)]
          exact hv)
        (fun j hj oj s hoj hs => hK.new j oj s hoj (hlist j hj) hs) (fun j hj oj hoj hs => hK.mem j oj hoj (hlist j hj) hs)
      unfold wpOp
      simp only [ho]
      rcases hask with ⟨hw, hg⟩ | ⟨hw, hT⟩
      · rw [if_pos hw]
        left
        unfold Oper.wp
        generalize (execOp a.eval o).run P W = r at hg
        cases r with
        | ok x w' =>
          cases x <;> simp only [GivesT] at hg
          case value u => exact hstep _ _ (.inl hg.1) hg.2
          case skip => exact hstep _ _ (.inl hg.1) hg.2
          case enter f' args =>
            show Calls P f' args w' _
            refine hg.mono ?_
            rintro e w'' ⟨v, rfl, h1, h2⟩
            exact hstep _ _ (.inl h1) h2
        | halt x w' => simp only [GivesT] at hg
      · rw [if_neg (by rw [hw]; decide)]
        exact hstep _ _ (.inr rfl) hT
  have h0 : openN n0 (Array.replicate l.toArray.size false) = n0 := by
    unfold openN
    have : ((List.range n0).filter fun i => (Array.replicate l.toArray.size false).getD i true == false) = List.range n0 := by
      apply List.filter_eq_self.2
      intro i hi
      rw [List.mem_range] at hi
      have : i < l.length := by omega
      simp [this]
    rw [this]; simp
  have e : l.toArray.size = n0 + (l.length - n0) := by simp; omega
  have := main n0 (Array.replicate l.toArray.size false) a0 w.drew (headInv0 n0) h0 hS ⟨rfl, rfl, fun s _ => rfl, fun i o s hi hl => (by rw [getD_replicate_false] at hl; cases hl), fun i o hi hl => (by rw [getD_replicate_false] at hl; cases hl)⟩
  rw [e] at this ⊢
  exact this

/-- each operation of the head, in the text's order. -/
theorem wp_region_kdTail2 {id : Nat} {Q : Exit → Act → World → Prop} {a0 : Act} {w : World} (n n0 : Nat) (hm : P.follows .mixedOrders = true) (hB : looseB l n = true) (hTB : tailB l n0 = true) (hd : ((l.take n0).all fun o => o.dst.isSome) = true) (hn : a0.tmps.size = n) (KL : List Kd) (hkl : KL.length ≤ n0)
    (hop : AskAllH P l n0 a0 w KL 0 (l.take n0)) (hend : ∀ a W, Below w.heap.size w W → Known l a0 (kT KL) (fun i => decide (i < n0)) a W → wpList P l.toArray Q (l.drop n0) a W) : (Code.region id l.toArray true).wp P Q a0 w := by
  refine wp_region_looseTail2 n n0 hm hB hTB hn (Below w.heap.size w) (kT KL) grows (Below.refl _ _).drew (fun _ W W' h1 h2 => h1.trans (h2.mono h1.size)) (fun _ j v W W' _ _ hR hT => (KL.getD j kany).st v W W' hR hT) (fun i o ho hnone => ?_) (fun i o hi ho => ?_) hend
  · intro v W hT
    by_cases hi : i < n0
    · have := List.all_eq_true.1 hd o (List.mem_of_getElem? (i := i) (by rw [List.getElem?_take_of_lt hi]; exact ho))
      rw [hnone] at this; cases this
    · unfold kT
      have : KL.getD i kany = kany := by simp [List.getElem?_eq_none (show KL.length ≤ i by omega)]
      rw [this]; trivial
  · have := AskAllH.at hop i o (by rw [List.getElem?_take_of_lt hi]; exact ho)
    rwa [Nat.zero_add] at this
end
end Go.Proofs.YtconhhhggckcbaaDoor
/- Structs in memory: whole, by their fields, as elements of slices. No program in sight. -/
namespace Go.Proofs.YtconhhhggckcbaaDoor
open Go.RowKit
variable {D : List Deferred}

section
variable {P : Program} {a : Act} {o : Oper} {w w0 : World} {n s : Nat} {L : List (Nat × Value)} {v : Value} {x y z : Operand} {g : Nat} {t ty : TypeId}
theorem run_ldS {cs : List Value} {b off : Nat} (ho : o.op = .load ty x) (hx : a.eval x = .pointer (some ⟨b, off, none⟩)) (hag : (isAgg ty).run P w = .ok true w) (hz : (sizeOf ty).run P w = .ok cs.length w) (hc : ∀ j u, cs[j]? = some u → w.cell? ⟨b, off + j, none⟩ = some u) :
    (execOp a.eval o).run P w = .ok (.value (.agg cs.toArray)) w := by
  have hl := run_loadCells_list (P := P) w ⟨b, off, none⟩ cs (fun j u hj => by rw [addr_add]; exact hc j u hj)
  unfold execOp
  simp only [ho, hx, Instr.loadAt, Instr.sureAddr, Sem.run_bind, Sem.run_pure, Result.andThen_ok, loadVar, hag, hz, if_true, hl]
/-- a field's address, and what lies there. -/
theorem run_fldG {fs : Array Field} {i m : Nat} {fd : Field} {ad : Addr} (ho : o.op = .fieldAddr t x i) (hx : a.eval x = .pointer (some ad)) (hu : P.underlying t = some (.struct fs)) (hi : fs[i]? = some fd) (hb : fd.offset = s) (hz : (sizeOf fd.type).run P w = .ok m w) (hm : m ≠ 0) : (execOp a.eval o).run P w = .ok (.value (.pointer (some (ad.add s)))) w := by
  unfold execOp
  simp only [ho, hx]
  simp [Instr.fieldAt, run_underlying hu, hi, fieldPlace, Instr.sureAddr, hb, hz, hm]
theorem run_fldA {fs : Array Field} {i m : Nat} {fd : Field} (ho : o.op = .fieldAddr t x i) (hx : a.eval x = .pointer (some ⟨g, 0, none⟩)) (hu : P.underlying t = some (.struct fs)) (hi : fs[i]? = some fd) (hb : fd.offset = s) (hz : (sizeOf fd.type).run P w = .ok m w) (hm : m ≠ 0) : (execOp a.eval o).run P w = .ok (.value (.pointer (some ⟨g, s, none⟩))) w := by
  have h := run_fldG (a := a) ho hx hu hi hb hz hm
  rwa [addr_add, Nat.zero_add] at h
theorem run_ldF {cs : Array Value} {i : Nat} {u : Value} (ho : o.op = .load ty x) (hx : a.eval x = .pointer (some ⟨g, i, none⟩)) (hB : Blk w g t cs) (hc : cs[i]? = some u) (hag : (isAgg ty).run P w = .ok false w) : (execOp a.eval o).run P w = .ok (.value u) w :=
  run_ldC ho hx (by rw [hB.cell]; exact hc) hag
theorem run_blt {parts : Array (Nat × Operand)} {vs : Array (Nat × Value)} {cs : Array Value} (ho : o.op = .build t parts) (hp : (parts.map fun (i, x) => (i, a.eval x)) = vs) (hb : P.built t vs.toList = some cs) : (execOp a.eval o).run P w = .ok (.value (.agg cs)) w := by
  have := run_build (P := P) w t vs cs hb
  unfold execOp
  simp only [ho, hp, Sem.run_bind, this, Result.andThen_ok, Sem.run_pure]
theorem retBT {fn : Func} {R : Ending → World → Prop} {s2 m : Nat} {v2 : Value} {cs : Array Value} {d : TypeDesc} (hF : Fr a n L) (hr : fn.results = #[.cell s ty, .tmp s2]) (hl : lk L s = some (.pointer (some ⟨g, 0, none⟩))) (hB : Blk w g t cs) (hu : P.underlying ty = some d)
    (hd : (match d with | .struct _ | .array _ _ => true | _ => false) = true) (hi : (P.info? ty).map (·.size) = some m) (hm : cs.size = m) (hl2 : lk L s2 = some v2) (h : R (.returned (.tuple #[.agg cs, v2])) w) : bodyPost P fn R .ret a w := by
  have e1 : a.tmps[s]?.getD undef = .pointer (some ⟨g, 0, none⟩) := by rw [hF.at s hl]; rfl
  have e2 : a.tmps[s2]?.getD undef = v2 := by rw [hF.at s2 hl2]; rfl
  refine bodyPost_ret (v := .tuple #[.agg cs, v2]) ?_ hF.defers h
  simp [results, hr, e1, e2, asAddr, run_loadVar_row w g t ty cs (0, 0) d hB hu hd (by rw [hm]; exact hi)]
/-- the address of a cell of a slice. -/
def slPtr : Value → Nat → Value
  | .slice (some ad) _ _, q => .pointer (some (ad.add q))
  | _, _ => undef
theorem slPtr_of {m cnt : Nat} {cs : List Value} (h : Sl w v m cnt cs) (hc : 0 < cnt) : ∃ b off c, v = .slice (some ⟨b, off, none⟩) cnt c ∧ ∀ q, slPtr v q = .pointer (some ⟨b, off + q, none⟩) ∧ ∀ u, cs[q]? = some u → w.cell? ⟨b, off + q, none⟩ = some u := by
  rcases h.2 with ⟨_, h2⟩ | ⟨b, off, c, h1, h2, h3⟩
  · omega
  · subst h1
    exact ⟨b, off, c, rfl, fun q => ⟨by simp only [slPtr, addr_add], fun u hu => h3 q u hu⟩⟩
theorem run_atP {e : TypeId} {k : IntKind} {p : Int} {m cnt i : Nat} {cs : List Value} (ho : o.op = .indexAddr t x y) (hx : a.eval x = v) (hy : a.eval y = .int k p) (hp : p = (i : Int)) (hs : Sl w v m cnt cs) (hi : i < cnt) (hu : P.underlying t = some (.slice e)) (hz : (sizeOf e).run P w = .ok m w) : (execOp a.eval o).run P w = .ok (.value (slPtr v (i * m))) w := by
  obtain ⟨b, off, c, rfl, hq⟩ := slPtr_of hs (by omega)
  subst hp
  have he : P.elem t = e := by simp [Program.elem, hu]
  have ht : P.underlying t = some (.slice (P.elem t)) := by rw [he]; exact hu
  have hz2 : (sizeOf (P.elem t)).run P w = .ok m w := by rw [he]; exact hz
  have hr := run_indexAt_slice (P := P) w t ⟨b, off, none⟩ cnt c k (i : Int) ht
  unfold execOp
  simp only [ho, hx, hy]
  rw [Sem.run_bind, hr, hz2, if_pos (by omega)]
  simp [slPtr]
theorem run_fldP {fs : Array Field} {i m m2 cnt q : Nat} {fd : Field} {cs : List Value} (ho : o.op = .fieldAddr t x i) (hx : a.eval x = slPtr v q) (hs : Sl w v m cnt cs) (hc : 0 < cnt) (hu : P.underlying t = some (.struct fs)) (hi : fs[i]? = some fd) (hb : fd.offset = s) (hz : (sizeOf fd.type).run P w = .ok m2 w) (hm : m2 ≠ 0) : (execOp a.eval o).run P w = .ok (.value (slPtr v (q + s))) w := by
  obtain ⟨b, off, c, rfl, hq⟩ := slPtr_of hs hc
  have h := run_fldG (a := a) ho hx hu hi hb hz hm
  rw [h]
  simp only [slPtr, addr_add]
  rw [Nat.add_assoc]
theorem run_ldP {m cnt q : Nat} {cs : List Value} {u : Value} (ho : o.op = .load ty x) (hx : a.eval x = slPtr v q) (hs : Sl w v m cnt cs) (hu : cs[q]? = some u) (hag : (isAgg ty).run P w = .ok false w) : (execOp a.eval o).run P w = .ok (.value u) w := by
  have hc : 0 < cnt := by
    have := (List.getElem?_eq_some_iff.1 hu).1
    rw [hs.1] at this
    exact Nat.pos_of_ne_zero fun e => by subst e; simp at this
  obtain ⟨b, off, c, rfl, hq⟩ := slPtr_of hs hc
  rw [(hq q).1] at hx
  exact run_ldC ho hx ((hq q).2 u hu) hag
theorem run_ldPS {m cnt q : Nat} {cs ys : List Value} (ho : o.op = .load ty x) (hx : a.eval x = slPtr v q) (hs : Sl w v m cnt cs) (hc : 0 < cnt) (hy : ∀ j u, ys[j]? = some u → cs[q + j]? = some u) (hag : (isAgg ty).run P w = .ok true w) (hz : (sizeOf ty).run P w = .ok ys.length w) : (execOp a.eval o).run P w = .ok (.value (.agg ys.toArray)) w := by
  obtain ⟨b, off, c, rfl, hq⟩ := slPtr_of hs hc
  rw [(hq q).1] at hx
  exact run_ldS ho hx hag hz fun j u hj => by rw [Nat.add_assoc]; exact (hq (q + j)).2 u (hy j u hj)
/-- elements of m cells each. -/
theorem flat_at {α : Type} {f : α → List Value} {m : Nat} (hf : ∀ x, (f x).length = m) : ∀ {l : List α} {i : Nat} {x : α} (_ : l[i]? = some x) (j : Nat) {u : Value} (_ : (f x)[j]? = some u), (l.flatMap f)[i * m + j]? = some u
  | [], i, x, hx, _, _, _ => by simp at hx
  | y :: l, 0, x, hx, j, u, hu => by
    simp only [List.getElem?_cons_zero, Option.some.injEq] at hx
    subst hx
    have hj : j < (f y).length := (List.getElem?_eq_some_iff.1 hu).1
    rw [List.flatMap_cons, Nat.zero_mul, Nat.zero_add, List.getElem?_append_left hj]
    exact hu
  | y :: l, i + 1, x, hx, j, u, hu => by
    rw [List.getElem?_cons_succ] at hx
    have := flat_at hf hx j hu
    rw [List.flatMap_cons, List.getElem?_append_right (by rw [hf, Nat.add_mul]; omega), hf, show (i + 1) * m + j - m = i * m + j by rw [Nat.add_mul]; omega]
    exact this
theorem map_at {l : List (List UInt8)} {i : Nat} {x : List UInt8} (hx : l[i]? = some x) : (l.map tx)[i * 1]? = some (tx x) := by rw [Nat.mul_one]; simp [hx]
theorem run_lenS {ts : Array TypeId} {m cnt : Nat} {cs : List Value} {e : TypeId} {W : World} (ho : o.op = .call { callee := .builtin .len, args := #[x], argTypes := ts }) (hx : a.eval x = v) (hs : Sl W v m cnt cs) (hts : ts = #[t]) (hu : P.underlying t = some (.slice e)) : (execOp a.eval o).run P w = .ok (.value (.int .i64 (cnt : Int))) w := by
  obtain ⟨p, c, rfl⟩ := hs.len
  exact run_lenSl ho hx hts hu
theorem bltE1 {i : Nat} {u : Value} (h : a.eval x = u) : (#[(i, x)].map fun ((i, x) : Nat × Operand) => (i, a.eval x)) = #[(i, u)] := by simp [h]
theorem bltE2 {i j : Nat} {u v : Value} (h : a.eval x = u) (h2 : a.eval y = v) : (#[(i, x), (j, y)].map fun ((i, x) : Nat × Operand) => (i, a.eval x)) = #[(i, u), (j, v)] := by simp [h, h2]
theorem bltE3 {i j k : Nat} {u v r : Value} (h : a.eval x = u) (h2 : a.eval y = v) (h3 : a.eval z = r) : (#[(i, x), (j, y), (k, z)].map fun ((i, x) : Nat × Operand) => (i, a.eval x)) = #[(i, u), (j, v), (k, r)] := by simp [h, h2, h3]
theorem OwnR.ofCall {w1 w2 : World} {M : List (Nat × (Obj → Prop))} {e : TypeId} {size m : Nat} {xs : List Value} (hM : Mem w0 M w1) (h : w2.ownsRow w1.heap.size e size v m xs) : OwnR w0 M w2 e size v m xs := by
  refine ⟨⟨h.1, ?_⟩, fun x hx => ?_⟩
  · rcases h.2 with h1 | ⟨g, cap, cur, h1, h2, h3⟩
    · exact .inl h1
    · exact .inr ⟨g, cap, cur, h1, Nat.le_trans hM.below.size h2, h3⟩
  · intro e2
    have h1 := own_base h e2
    have h2 := hM.lt hx
    omega
theorem arr_one {l : List Value} (h : (l.all fun u => u.oneCell') = true) : (l.toArray.all fun u => u.oneCell') = true := by simpa using h
/-- a new row with elements, which the call will append to. -/
theorem sqOwnN {rest : List Oper} {ops : Array Oper} {Q : Exit → Act → World → Prop} {M : List (Nat × (Obj → Prop))} {e : TypeId} {size m : Nat} {cs : List Value} (hF : FrD D a n L) (hM : Mem w0 M w) (hw : Region.wanted o (yielded ops a.tmps) = true) (hrun : (execOp a.eval o).run P w = .ok (.value (.slice (some ⟨w.heap.size, 0, none⟩) m m)) (w.alloc (.cells cs.toArray e))) (hl : cs.length = m * size) (hm : m ≤ maxLen) (hd : o.dst = some s) (hs : s < n)
    (h : ∀ v a2 w2, OwnR w0 M w2 e size v m cs → Below w.heap.size w w2 → Mem w0 M w2 → FrD D a2 n ((s, v) :: L) → wpList P ops Q rest a2 w2) : wpList P ops Q (o :: rest) a w := by
  have hb : Below w.heap.size w (w.alloc (.cells cs.toArray e)) := (Below.refl _ _).alloc (Nat.le_refl _) _
  refine sq hF hw hrun hd hs fun a2 hF2 => h _ a2 _ ⟨⟨hl, .inr ⟨w.heap.size, m, cs.toArray, rfl, hM.below.size, heap_alloc_new w _, Nat.le_refl _, hm, by simpa using hl, by simp [← hl]⟩⟩, fun x hx => ?_⟩ hb (hM.grow hb) hF2
  have := hM.lt hx
  intro e2
  simp only [Value.ownBlock, Option.some.injEq] at e2
  omega
/-- a row that is read, and no more appended to, among the blocks. -/
def isRow (e : TypeId) (size n : Nat) (xs : List Value) : Obj → Prop := fun ob => ∃ cur, ob = .cells cur e (0, 0) ∧ cur.toList.take (n * size) = xs ∧ xs.length = n * size
theorem OwnR.toMem {M : List (Nat × (Obj → Prop))} {e : TypeId} {size m : Nat} {xs : List Value} (h : OwnR w0 M w e size v m xs) (hM : Mem w0 M w) (hm : 0 < m) : ∃ g c, v = .slice (some ⟨g, 0, none⟩) m c ∧ Mem w0 ((g, isRow e size m xs) :: M) w := by
  rcases h.owns.2 with ⟨_, h2⟩ | ⟨g, cap, cur, rfl, h1, hh, h2, h3, h4, h5⟩
  · omega
  · refine ⟨g, cap, rfl, hM.below, fun x hx => ?_, List.Pairwise.cons (fun y hy e2 => ?_) hM.nd⟩
    · rcases List.mem_cons.1 hx with rfl | hx
      · exact ⟨h1, _, hh, cur, rfl, h5, h.owns.1⟩
      · exact hM.has x hx
    · have := h.far y hy
      simp only [Value.ownBlock] at this
      exact this (by rw [← e2])
theorem OwnR.ofCallMem {w1 w2 : World} {M : List (Nat × (Obj → Prop))} {e : TypeId} {size m : Nat} {xs : List Value} (hM : Mem w0 M w1) (hb : Below w1.heap.size w1 w2) (h : w2.ownsRow w1.heap.size e size v m xs) (hm : 0 < m) : ∃ g c, v = .slice (some ⟨g, 0, none⟩) m c ∧ m ≤ c ∧ w1.heap.size ≤ g ∧ Mem w0 ((g, isRow e size m xs) :: M) w2 := by
  rcases h.2 with ⟨_, h2⟩ | ⟨g, cap, cur, rfl, h1, hh, h2, h3, h4, h5⟩
  · omega
  · exact ⟨g, cap, rfl, h2, h1, hM.addS hb h1 ⟨_, hh, cur, rfl, h5, h.1⟩⟩
/-- the front of a row. -/
theorem slFront {α : Type} {f : α → List Value} {g c size : Nat} {e : TypeId} {l : List α} (hf : ∀ x, (f x).length = size) (h : ∃ ob, w.heap[g]? = some ob ∧ isRow e size l.length (l.flatMap f) ob) {j : Nat} (hj : j ≤ l.length) : Sl w (.slice (some ⟨g, 0, none⟩) j c) size (l.take j).length ((l.take j).flatMap f) := by
  obtain ⟨ob, h1, cur, rfl, h2, h3⟩ := h
  have hl : (l.take j).length = j := by rw [List.length_take]; omega
  have hfl : ∀ r : List α, (r.flatMap f).length = r.length * size := by
    intro r
    induction r with
    | nil => simp
    | cons y r ih => rw [List.flatMap_cons, List.length_append, ih, hf, List.length_cons, Nat.add_mul]; omega
  refine ⟨hfl _, .inr ⟨g, 0, c, by rw [hl], lt_of_ob h1, fun q u hq => ?_⟩⟩
  rw [Nat.zero_add, cell_of_row w g q cur e (0, 0) h1]
  have hq1 : q < (l.take j).length * size := by have := (List.getElem?_eq_some_iff.1 hq).1; rw [hfl] at this; exact this
  have hq2 : (l.take j).length * size ≤ l.length * size := Nat.mul_le_mul_right _ (by omega)
  have hq3 : (l.flatMap f)[q]? = some u := by
    rw [← List.take_append_drop j l, List.flatMap_append, List.getElem?_append_left (by rw [hfl]; exact hq1)]
    exact hq
  have e1 : cur[q]? = (cur.toList.take (l.length * size))[q]? := by rw [List.getElem?_take_of_lt (by omega)]; simp
  rw [e1, h2]; exact hq3
theorem run_toS {P : Program} {a : Act} {o : Oper} {x y : Operand} {t e : TypeId} {k : IntKind} {p : Int} {g m c j z : Nat} (ho : o.op = .slice t x none (some y) none) (hx : a.eval x = .slice (some ⟨g, 0, none⟩) m c) (hy : a.eval y = .int k p) (hp : p = (j : Int)) (hj : j ≤ c) (hu : P.underlying t = some (.slice e)) (hz : (sizeOf e).run P w = .ok z w) : (execOp a.eval o).run P w = .ok (.value (.slice (some ⟨g, 0, none⟩) j c)) w := by
  subst hp
  have he : P.elem t = e := by simp [Program.elem, hu]
  have ht : P.underlying t = some (.slice (P.elem t)) := by rw [he]; exact hu
  have hz2 : (sizeOf (P.elem t)).run P w = .ok z w := by rw [he]; exact hz
  have hr := run_slice_h (P := P) w t (some ⟨g, 0, none⟩) m c ht k (j : Int) (by omega) (by omega)
  have hs : (Instr.sliceAt t (.slice (some ⟨g, 0, none⟩) m c) none (some (.int k (j : Int))) none).run P w = .ok (.slice (some ⟨g, 0, none⟩) j c) w := by
    rw [run_sliceAt_slice w t _ _ _ _ ht, hr, hz2]
    simp [sliced, Addr.add]
  unfold execOp
  simp only [ho, hx, hy, Option.map, Sem.run_bind, hs, Result.andThen_ok, Sem.run_pure]
theorem slOfRow {g c m size : Nat} {e : TypeId} {xs : List Value} (h : ∃ ob, w.heap[g]? = some ob ∧ isRow e size m xs ob) : Sl w (.slice (some ⟨g, 0, none⟩) m c) size m xs := by
  obtain ⟨ob, h1, cur, rfl, h2, h3⟩ := h
  refine ⟨h3, .inr ⟨g, 0, c, rfl, lt_of_ob h1, fun j u hj => ?_⟩⟩
  rw [Nat.zero_add, cell_of_row w g j cur e (0, 0) h1]
  have hl : j < m * size := by have := (List.getElem?_eq_some_iff.1 hj).1; omega
  have e1 : cur[j]? = (cur.toList.take (m * size))[j]? := by rw [List.getElem?_take_of_lt hl]; simp
  rw [e1, h2]; exact hj
/-- a row in a new block, ahead of an append. -/
def krow (B : Nat) (t : TypeId) (cs : Array Value) (m : Nat) : Kd := ⟨fun v W => ∃ g, B ≤ g ∧ v = .slice (some ⟨g, 0, none⟩) m m ∧ Blk W g t cs, fun _ _ _ hb ⟨g, h0, h1, h2⟩ => ⟨g, h0, h1, h2.below hb h2.lt⟩⟩
theorem giv_row {P : Program} {KL : List Kd} {i B : Nat} {o : Oper} {W : World} {a : Act} (hB : B ≤ W.heap.size) (t : TypeId) (cs : Array Value) (m : Nat) (hrun : (execOp a.eval o).run P W = .ok (.value (.slice (some ⟨W.heap.size, 0, none⟩) m m)) (W.alloc (.cells cs t)))
    (hk : KL.getD i kany = krow B t cs m) : GivesT P (grows i W) (kT KL i) ((execOp a.eval o).run P W) := by
  rw [hrun]
  refine ⟨(Below.refl _ _).alloc (Nat.le_refl _) _, ?_⟩
  unfold kT; rw [hk]
  exact ⟨W.heap.size, hB, rfl, Blk.new _ _ _⟩
/-- 'make([]T, 0, c)'. -/
theorem sqMake {rest : List Oper} {ops : Array Oper} {Q : Exit → Act → World → Prop} {M : List (Nat × (Obj → Prop))} {e : TypeId} {size bytes c : Nat} {kl kc : IntKind} {p : Int} (E : ElT P t e size bytes) (hF : FrD D a n L) (hM : Mem w0 M w) (hgd : o.guard = none) (ho : o.op = .makeSlice t x y) (hx : a.eval x = .int kl 0) (hy : a.eval y = .int kc p) (hp : p = (c : Int)) (hb1 : bytes * c ≤ 281474976710656) (hb2 : c ≤ maxLen) (hd : o.dst = some s) (hs : s < n)
    (h : ∀ v a2 w2, OwnR w0 M w2 e size v 0 [] → Below w.heap.size w w2 → Mem w0 M w2 → FrD D a2 n ((s, v) :: L) → wpList P ops Q rest a2 w2) : wpList P ops Q (o :: rest) a w := by
  obtain ⟨i, z, hi, hz, hsz, hby, hzs⟩ := E.inf
  subst hp hby
  obtain ⟨w2, hr, h1, h2⟩ := run_make_own (P := P) w w0.heap.size t e i z size E.un hi hz hsz kl kc c hb1 hb2 hM.below.size
  have hb : Below w.heap.size w w2 := ⟨h2.os, h2.tape, h2.output, h2.size, fun b hb => h2.block b hb (by simp)⟩
  refine sq hF (wantedS hgd) (v := .slice (some ⟨w.heap.size, 0, none⟩) 0 c) (w2 := w2) ?_ hd hs fun a2 hF2 => h _ a2 w2 ⟨h1, fun x hx => ?_⟩ hb (hM.grow hb) hF2
  · unfold execOp
    simp only [ho, hx, hy, Sem.run_bind, hr, Result.andThen_ok, Sem.run_pure]
  · have := hM.lt hx
    intro e2
    simp only [Value.ownBlock, Option.some.injEq] at e2
    omega
end
end Go.Proofs.YtconhhhggckcbaaDoor
/- More operations: texts behind an own row of bytes, rows of numbers, least and greatest, pointers that aren't nil, arrays out of slices, closures. -/
namespace Go.Proofs.YtconhhhggckcbaaDoor
open Go.RowKit
variable {D : List Deferred}

theorem elU8 : ElT Tryd.prog 52 5 1 1 := by
  obtain ⟨i, h1, h2, h3, h4⟩ := info_parts (show (Tryd.prog.info? 5).map (fun i => (i.zero, i.size, i.bytes)) = some (some (.int .u8 0), 1, 1) by kernel_rfl)
  exact ⟨Tryd.underlying52, ⟨i, _, h1, h2, h3, h4, rfl⟩, by decide⟩
theorem map_atB {l : List UInt8} {i : Nat} {x : UInt8} (h : l[i]? = some x) : (l.map cb)[i * 1]? = some (cb x) := by rw [Nat.mul_one, List.getElem?_map, h]; rfl
section
variable {P : Program} {w : World}
end
section
variable {a : Act} {o : Oper} {w w0 : World} {n s : Nat} {L : List (Nat × Value)} {v : Value} {ops : Array Oper} {rest : List Oper} {Q : Exit → Act → World → Prop} {M : List (Nat × (Obj → Prop))} {x y z : Operand} {g m i : Nat}
theorem run_min2 {p q r : Int} {k k2 : IntKind} {ts : Array TypeId} (ho : o.op = .call { callee := .builtin .min, args := #[x, y], argTypes := ts }) (hx : a.eval x = .int k p) (hy : a.eval y = .int k2 q) (hr : (if q < p then q else p) = r) : (execOp a.eval o).run Tryd.prog w = .ok (.value (.int k r)) w := by
  subst hr
  unfold execOp
  simp only [ho, resolve, invoke, builtin, Sem.run_bind, Sem.run_pure, Result.andThen_ok, List.map_toArray, List.map_cons, List.map_nil, hx, hy]
  simp [Builtin.min_, Builtin.min2]
theorem run_arrAt {ty e : TypeId} {m cnt c : Nat} {q : Addr} (ho : o.op = .sliceToArrayPointer ty x) (hx : a.eval x = .slice (some q) cnt c) (hu : Tryd.prog.underlying ty = some (.array m e)) (hm : m ≤ cnt) : (execOp a.eval o).run Tryd.prog w = .ok (.value (.pointer (some q))) w := by
  unfold execOp
  simp only [ho, hx]
  simp [Instr.arrayAt, run_underlying hu, Nat.not_lt.2 hm]
/-- a block of one number. -/
theorem run_ld1 {t ty : TypeId} {u : Value} (ho : o.op = .load ty x) (hx : a.eval x = .pointer (some ⟨g, 0, none⟩)) (hB : Blk w g t #[u]) (hag : (isAgg ty).run Tryd.prog w = .ok false w) : (execOp a.eval o).run Tryd.prog w = .ok (.value u) w :=
  run_ldC ho hx (by rw [hB.cell]; rfl) hag
theorem ret0 {P : Program} {fn : Func} {R : Ending → World → Prop} (hF : Fr a n L) (hr : fn.results = #[]) (h : R (.returned (.tuple #[])) w) : bodyPost P fn R .ret a w :=
  bodyPost_ret (results_none hr _ _ _) hF.defers h
theorem end0 {P : Program} {fn : Func} {R : Ending → World → Prop} (hF : Fr a n L) (hr : fn.results = #[]) (h : R (.returned (.tuple #[])) w) : bodyPost P fn R .normal a w :=
  bodyPost_end (results_none hr _ _ _) hF.defers h
end
end Go.Proofs.YtconhhhggckcbaaDoor
