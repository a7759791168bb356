/- More operations: texts behind an own row of bytes, rows of numbers, least and greatest, pointers that aren't nil, arrays out of slices, closures. -/
import Derived.Lib.AppendStr
import Derived.Deep.OwnRows
import Derived.Test.YtpobmaklgnioeaaDoorMapW
import Derived.Test.YtpobmaklgnioeaaDoorByt
namespace Go.Proofs.YtpobmaklgnioeaaDoor
open Go.RowKit

theorem elU8 : ElT Tryd.prog 37 5 1 1 := by
  obtain ⟨i, h1, h2, h3, h4⟩ := info_parts (show (Tryd.prog.info? 5).map (fun i => (i.zero, i.size, i.bytes)) = some (some (.int .u8 0), 1, 1) by kernel_rfl)
  exact ⟨Tryd.underlying37, ⟨i, _, h1, h2, h3, h4, rfl⟩, by decide⟩
theorem map_atB {l : List UInt8} {i : Nat} {x : UInt8} (h : l[i]? = some x) : (l.map cb)[i * 1]? = some (cb x) := by rw [Nat.mul_one, List.getElem?_map, h]; rfl
theorem strCells_map (l : List UInt8) : Lib.strCells ⟨l.toArray⟩ = l.map cb := by
  unfold Lib.strCells
  simp [cb]
section
variable {P : Program} {w : World}
theorem append_blockS {base : Nat} {t u ty e : TypeId} {i : TypeInfo} (ht : P.underlying t = some (.slice e)) (hu : P.underlying u = some .string) (hi : P.info? e = some i) (hz : i.zero = some (.int .u8 0))
    (hsize : i.size = 1) (hby : i.bytes = 1) {v : Value} {n : Nat} {xs : List Value} (hown : w.ownsRow base e 1 v n xs) {s : ByteArray}
    (h63 : n + s.size ≤ maxLen) (hbytes : n + s.size ≤ 140737488355328) {v2 : Value} {w2 : World} (hr : (Builtin.append_ #[t, u] ty #[v, .string s]).run P w = .ok v2 w2) (hnil : v2 = .slice none 0 0 ↔ v = .slice none 0 0 ∧ s.size = 0) :
    v2.ownBlock = v.ownBlock ∨ ∃ g, v2.ownBlock = some g ∧ w.heap.size ≤ g := by
  have hsmall : n + s.size ≤ 9223372036854775807 := by simp only [maxLen] at h63; omega
  rcases hown.2 with ⟨rfl, rfl⟩ | ⟨g, cap, cur, rfl, hbg, hg, hnc, hcm, hcs, htake⟩
  · by_cases hm : s.size = 0
    · rw [hnil.2 ⟨rfl, hm⟩]; exact .inl rfl
    · have hr2 := run_append_nil_string (P := P) w t u ty e i (.int .u8 0) ht hu hi hz s (by omega) (by omega) (by rw [hby]; omega)
      rw [hr2] at hr
      injection hr with hv _
      subst hv
      exact .inr ⟨_, rfl, Nat.le_refl _⟩
  · by_cases hroom : n + s.size ≤ cap
    · have hr2 := Lib.run_append_room_string (P := P) w t u ty e i ht hu hi hsize g n cap cur hg s hroom (by rw [hcs]; omega)
      rw [hr2] at hr
      injection hr with hv _
      subst hv
      exact .inl rfl
    · have holds : ∀ j u, xs[j]? = some u → w.cell? ((⟨g, 0, none⟩ : Addr).add j) = some u := hown.cells (g := g) rfl
      have hr2 := Lib.run_append_grow_string (P := P) w t u ty e i (.int .u8 0) ht hu hi hz ⟨g, 0, none⟩ n cap xs (by rw [hsize]; exact hown.1) holds s (by omega) (by omega) (growslice_fits (by omega) (by rw [hby]; omega))
      rw [hr2] at hr
      injection hr with hv _
      subst hv
      exact .inr ⟨_, rfl, Nat.le_refl _⟩
end
section
variable {a : Act} {o : Oper} {w w0 : World} {n s : Nat} {L : List (Nat × Value)} {v : Value} {ops : Array Oper} {rest : List Oper} {Q : Exit → Act → World → Prop} {M : List (Nat × (Obj → Prop))} {x y z : Operand} {g m i : Nat}
/-- 'append(out, text...)'. -/
theorem sqAppendS {l b : List UInt8} (hF : Fr a n L) (hM : Mem w0 M w) (hO : OwnR w0 M w 5 1 v b.length (b.map cb)) (hgd : o.guard = none) (ho : o.op = .call { callee := .builtin .append, args := #[x, y], argTypes := #[37, 9] }) (hx : a.eval x = v) (hy : a.eval y = .string ⟨l.toArray⟩)
    (hlen : b.length + l.length ≤ 140737488355328) (hd : o.dst = some s) (hs : s < n)
    (h : ∀ v2 a2 w2, OwnR w0 M w2 5 1 v2 (b ++ l).length ((b ++ l).map cb) → Mem w0 M w2 → Fr a2 n ((s, v2) :: L) → wpList Tryd.prog ops Q rest a2 w2) : wpList Tryd.prog ops Q (o :: rest) a w := by
  obtain ⟨i, h1, h2, h3, h4⟩ := info_parts (show (Tryd.prog.info? 5).map (fun i => (i.zero, i.size, i.bytes)) = some (some (.int .u8 0), 1, 1) by kernel_rfl)
  have hb : b.length + (⟨l.toArray⟩ : ByteArray).size ≤ 140737488355328 := by rw [str_size]; exact hlen
  have h63 : b.length + (⟨l.toArray⟩ : ByteArray).size ≤ maxLen := by unfold maxLen; omega
  obtain ⟨v2, w2, hr, r1, r2, r3⟩ := Lib.run_append_own_string (P := Tryd.prog) w w0.heap.size 37 9 o.type 5 i Tryd.underlying37 Tryd.underlying9 h1 h2 h3 h4 v b.length (b.map cb) hO.owns ⟨l.toArray⟩ h63 hb hM.below.size
  have hblk := append_blockS (P := Tryd.prog) Tryd.underlying37 Tryd.underlying9 h1 h2 h3 h4 hO.owns h63 hb hr r3
  rw [strCells_map, ← List.map_append, str_size, ← List.length_append] at r1
  refine sq hF (wantedS hgd) (v := v2) (w2 := w2) ?_ hd hs fun a2 hF2 => h v2 a2 w2 (hO.next hM r1 hblk) (hO.mem hM r2) hF2
  unfold execOp
  simp only [ho, resolve, invoke, builtin, Sem.run_bind, Sem.run_pure, Result.andThen_ok, List.map_toArray, List.map_cons, List.map_nil, hx, hy, hr]
/-- 'append(out, bytes..)'. -/
theorem sqAppendB {l b : List UInt8} {q c : Nat} (hF : Fr a n L) (hM : Mem w0 M w) (hO : OwnR w0 M w 5 1 v b.length (b.map cb)) (hgd : o.guard = none) (ho : o.op = .call { callee := .builtin .append, args := #[x, y], argTypes := #[37, 37] }) (hx : a.eval x = v) (hy : a.eval y = .slice (some ⟨g, 0, none⟩) q c) (hq : q = l.length) (hB : Blk w g 5 (cells8 l))
    (hlen : b.length + l.length ≤ 140737488355328) (hd : o.dst = some s) (hs : s < n)
    (h : ∀ v2 a2 w2, OwnR w0 M w2 5 1 v2 (b ++ l).length ((b ++ l).map cb) → Mem w0 M w2 → Fr a2 n ((s, v2) :: L) → wpList Tryd.prog ops Q rest a2 w2) : wpList Tryd.prog ops Q (o :: rest) a w := by
  subst hq
  refine sqAppend (news := l.map cb) elU8 hF hM hO hgd ho hx hy (by simp) (blkNews (t := 5) hB) (fun u hu => ?_) (by unfold maxLen; omega) (by omega) hd hs fun v2 a2 w2 h1 h2 _ h4 => h v2 a2 w2 (by rw [List.length_append, List.map_append]; exact h1) h2 h4
  obtain ⟨c, _, rfl⟩ := List.mem_map.1 hu
  rfl
theorem run_strO {l : List UInt8} (hO : OwnR w0 M w 5 1 v l.length (l.map cb)) (ho : o.op = .convert 37 9 x) (hx : a.eval x = v) : (execOp a.eval o).run Tryd.prog w = .ok (.value (.string ⟨l.toArray⟩)) w :=
  run_cv ho hx (run_strOwn hO.owns)
theorem run_min2 {p q r : Int} {k k2 : IntKind} {ts : Array TypeId} (ho : o.op = .call { callee := .builtin .min, args := #[x, y], argTypes := ts }) (hx : a.eval x = .int k p) (hy : a.eval y = .int k2 q) (hr : (if q < p then q else p) = r) : (execOp a.eval o).run Tryd.prog w = .ok (.value (.int k r)) w := by
  subst hr
  unfold execOp
  simp only [ho, resolve, invoke, builtin, Sem.run_bind, Sem.run_pure, Result.andThen_ok, List.map_toArray, List.map_cons, List.map_nil, hx, hy]
  simp [Builtin.min_, Builtin.min2]
theorem run_max2 {p q r : Int} {k k2 : IntKind} {ts : Array TypeId} (ho : o.op = .call { callee := .builtin .max, args := #[x, y], argTypes := ts }) (hx : a.eval x = .int k p) (hy : a.eval y = .int k2 q) (hr : (if p < q then q else p) = r) : (execOp a.eval o).run Tryd.prog w = .ok (.value (.int k r)) w := by
  subst hr
  unfold execOp
  simp only [ho, resolve, invoke, builtin, Sem.run_bind, Sem.run_pure, Result.andThen_ok, List.map_toArray, List.map_cons, List.map_nil, hx, hy]
  simp [Builtin.max_, Builtin.max2]
theorem run_nilp {q : Addr} (ho : o.op = .nilCheck x) (hx : a.eval x = .pointer (some q)) : (execOp a.eval o).run Tryd.prog w = .ok (.value (.pointer (some q))) w := by
  unfold execOp
  simp only [ho, hx, Sem.run_pure]
theorem run_arrAt {ty e : TypeId} {m cnt c : Nat} {q : Addr} (ho : o.op = .sliceToArrayPointer ty x) (hx : a.eval x = .slice (some q) cnt c) (hu : Tryd.prog.underlying ty = some (.array m e)) (hm : m ≤ cnt) : (execOp a.eval o).run Tryd.prog w = .ok (.value (.pointer (some q))) w := by
  unfold execOp
  simp only [ho, hx]
  simp [Instr.arrayAt, run_underlying hu, Nat.not_lt.2 hm]
/-- four bytes out of a row. -/
theorem run_ld4 {l : List UInt8} (ho : o.op = .load 112 x) (hx : a.eval x = .pointer (some ⟨g, 0, none⟩)) (h : ∃ ob, w.heap[g]? = some ob ∧ isY l ob) (hl : l.length = 4) : (execOp a.eval o).run Tryd.prog w = .ok (.value (.agg (cells8 l))) w := by
  refine run_ldS (cs := l.map cb) ho hx (by kernel_rfl) (by rw [List.length_map, hl]; kernel_rfl) fun j u hj => ?_
  have hlt : j < l.length := by have := (List.getElem?_eq_some_iff.1 hj).1; simpa using this
  rw [Nat.zero_add, isY_cell h hlt]
  rw [List.getElem?_map, List.getElem?_eq_getElem hlt] at hj
  simp only [Option.map_some, Option.some.injEq] at hj
  rw [← hj]
  simp [cb, bt, hlt]
/-- rows of numbers. -/
def cellsI (zs : List Int) : Array Value := (zs.map fun z => Value.int .i64 z).toArray
theorem made_ints (m : Nat) : madeCells #[Value.int .i64 0] m = cellsI (List.replicate m 0) := by
  unfold madeCells cellsI
  apply Array.ext'
  simp [List.map_replicate]
  apply List.ext_getElem
  · simp
  · intro j h1 h2
    simp [Nat.mod_one]
theorem sqMakeI {k k2 : IntKind} {p p2 : Int} (hF : Fr a n L) (hM : Mem w0 M w) (hgd : o.guard = none) (ho : o.op = .makeSlice 78 x y) (hx : a.eval x = .int k p) (hy : a.eval y = .int k2 p2) (hp : p = (m : Int)) (hp2 : p2 = (m : Int)) (hm : m ≤ 35184372088832) (hd : o.dst = some s) (hs : s < n)
    (h : ∀ g a2 w2, w.heap.size ≤ g → Below w.heap.size w w2 → Fr a2 n ((s, .slice (some ⟨g, 0, none⟩) m m) :: L) → Mem w0 ((g, isB 3 (cellsI (List.replicate m 0))) :: M) w2 → wpList Tryd.prog ops Q rest a2 w2) : wpList Tryd.prog ops Q (o :: rest) a w := by
  subst hp hp2
  have hr := run_make_row' (P := Tryd.prog) 78 3 (.int .i64 0) 8 Tryd.underlying78 (by kernel_rfl) rfl k k2 m (by omega) (by omega) w
  rw [made_ints] at hr
  refine sqRow (cs := cellsI (List.replicate m 0)) (t := 3) hF hM (wantedS hgd) ?_ hd hs h
  unfold execOp
  simp only [ho, hx, hy, Sem.run_bind, hr, Result.andThen_ok, Sem.run_pure]
theorem run_idxI {k : IntKind} {p : Int} {cnt c : Nat} (ho : o.op = .indexAddr 78 x y) (hx : a.eval x = .slice (some ⟨g, 0, none⟩) cnt c) (hy : a.eval y = .int k p) (hp : p = (i : Int)) (hi : i < cnt) : (execOp a.eval o).run Tryd.prog w = .ok (.value (.pointer (some ⟨g, i, none⟩))) w := by
  subst hp
  have he : Tryd.prog.elem 78 = 3 := by simp [Program.elem, Tryd.underlying78]
  have ht : Tryd.prog.underlying 78 = some (.slice (Tryd.prog.elem 78)) := by rw [he]; exact Tryd.underlying78
  have hz : (sizeOf (Tryd.prog.elem 78)).run Tryd.prog w = .ok 1 w := by rw [he]; kernel_rfl
  have hr := run_indexAt_slice (P := Tryd.prog) w 78 ⟨g, 0, none⟩ cnt c k (i : Int) ht
  unfold execOp
  simp only [ho, hx, hy]
  rw [Sem.run_bind, hr, hz, if_pos (by omega)]
  simp [Addr.add]
  intro h; exact h.symm
theorem run_ldI {zs : List Int} {t : TypeId} {u : Int} (ho : o.op = .load 3 x) (hx : a.eval x = .pointer (some ⟨g, i, none⟩)) (hB : Blk w g t (cellsI zs)) (hi : zs[i]? = some u) : (execOp a.eval o).run Tryd.prog w = .ok (.value (.int .i64 u)) w := by
  refine run_ldC ho hx ?_ (by kernel_rfl)
  rw [hB.cell]
  simp [cellsI, hi]
theorem sqSetI {j : Nat} {zs : List Int} {u : Int} {t : TypeId} (hF : Fr a n L) (hM : Mem w0 M w) (hgd : o.guard = none) (ho : o.op = .store 3 x y) (hd : o.dst = none) (hx : a.eval x = .pointer (some ⟨g, i, none⟩)) (hy : a.eval y = .int .i64 u)
    (e : M[j]? = some (g, isB t (cellsI zs))) (hi : i < zs.length) (h : ∀ a2 w2, w.grownBy w2 (some g) → Fr a2 n L → Mem w0 (M.set j (g, isB t (cellsI (zs.set i u)))) w2 → wpList Tryd.prog ops Q rest a2 w2) : wpList Tryd.prog ops Q (o :: rest) a w := by
  have hB := hM.at j e
  have hc : w.cell? ⟨g, i, none⟩ = some (.int .i64 zs[i]) := by
    rw [hB.cell]
    simp [cellsI, hi]
  have hf := hB.frozen i
  refine sqN hF (wantedS hgd) (w2 := w.setCell ⟨g, i, none⟩ (.int .i64 u)) ?_ hd fun a2 hF2 => h a2 _ (grown_setCell w g i _) hF2 (hM.upd j e (grown_setCell w g i _) ⟨_, ?_, rfl⟩)
  · unfold execOp
    simp only [ho, hx, hy]
    simp [go_sem, hc, hf]
  · unfold Blk at hB
    have hlt : g < w.heap.size := (Array.getElem?_eq_some_iff.1 hB).1
    simp [World.setCell, Array.getElem?_modify, hB, cellsI, List.map_set]
/-- a block of one number. -/
theorem run_ld1 {t ty : TypeId} {u : Value} (ho : o.op = .load ty x) (hx : a.eval x = .pointer (some ⟨g, 0, none⟩)) (hB : Blk w g t #[u]) (hag : (isAgg ty).run Tryd.prog w = .ok false w) : (execOp a.eval o).run Tryd.prog w = .ok (.value u) w :=
  run_ldC ho hx (by rw [hB.cell]; rfl) hag
theorem run_box1 {ty : TypeId} {q : Addr} (ho : o.op = .box ty x) (hx : a.eval x = .pointer (some q)) : (execOp a.eval o).run Tryd.prog w = .ok (.value (.pointer (some ⟨w.heap.size, 0, none⟩))) (w.alloc (.cells #[.pointer (some q)] ty)) := by
  unfold execOp
  simp only [ho, hx]
  simp [go_sem]
theorem run_alloc1 {ty : TypeId} {k : IntKind} (ho : o.op = .alloc ty) (hz : (zeroValue ty).run Tryd.prog w = .ok (.int k 0) w) : (execOp a.eval o).run Tryd.prog w = .ok (.value (.pointer (some ⟨w.heap.size, 0, none⟩))) (w.alloc (.cells #[.int k 0] ty)) := by
  unfold execOp
  simp only [ho]
  simp [Instr.alloc, hz, go_sem]
theorem sqSet1 {j : Nat} {u old : Int} {t : TypeId} (hF : Fr a n L) (hM : Mem w0 M w) (hgd : o.guard = none) (ho : o.op = .store 3 x y) (hd : o.dst = none) (hx : a.eval x = .pointer (some ⟨g, 0, none⟩)) (hy : a.eval y = .int .i64 u)
    (e : M[j]? = some (g, isB t #[.int .i64 old])) (h : ∀ a2 w2, w.grownBy w2 (some g) → Fr a2 n L → Mem w0 (M.set j (g, isB t #[.int .i64 u])) w2 → wpList Tryd.prog ops Q rest a2 w2) : wpList Tryd.prog ops Q (o :: rest) a w :=
  sqSetI (i := 0) (zs := [old]) hF hM hgd ho hd hx hy e (by simp) h
theorem ret0 {P : Program} {fn : Func} {R : Ending → World → Prop} (hF : Fr a n L) (hr : fn.results = #[]) (h : R (.returned (.tuple #[])) w) : bodyPost P fn R .ret a w :=
  bodyPost_ret (results_none hr _ _ _) hF.defers h
theorem end0 {P : Program} {fn : Func} {R : Ending → World → Prop} (hF : Fr a n L) (hr : fn.results = #[]) (h : R (.returned (.tuple #[])) w) : bodyPost P fn R .normal a w :=
  bodyPost_end (results_none hr _ _ _) hF.defers h
theorem eqvV {u v : Value} (h : u = v) {r : Result Next} (hr : r = .ok (.value u) w) : r = .ok (.value v) w := by rw [hr, h]
theorem run_mkFn {f : FuncId} {c1 c2 : Value} {y2 : Operand} (ho : o.op = .makeFunc (.func f) #[] #[x, y2]) (hx : a.eval x = c1) (hy : a.eval y2 = c2) : (execOp a.eval o).run Tryd.prog w = .ok (.value (.func (.func f) #[] #[c1, c2])) w := by
  unfold execOp
  simp only [ho, List.map_toArray, List.map_cons, List.map_nil, hx, hy]
  rfl
theorem run_callF {f : FuncId} {fn : Func} {xs : Array Operand} {ts : Array TypeId} {args cap : Array Value} (ho : o.op = .call { callee := .value x, args := xs, argTypes := ts }) (hx : a.eval x = .func (.func f) #[] cap) (hf : Tryd.prog.funcs[f]? = some fn) (hn : (fn.name == "runtime.NumGoroutine") = false) (hb : fn.body.isNone = false) (hxs : xs.map a.eval = args) {all : Array Value} (hall : args ++ cap = all) :
    (execOp a.eval o).run Tryd.prog w = .ok (.enter f all) w := by
  subst hxs hall
  have e : (callFunc f (xs.map a.eval ++ cap)).run Tryd.prog w = .ok (.enter f (xs.map a.eval ++ cap)) w := by
    have h1 : fn.name ≠ "runtime.NumGoroutine" := by simpa using hn
    have h2 : fn.body ≠ none := by intro e; rw [e] at hb; cases hb
    simp [callFunc, hf, h1, h2]
  unfold execOp
  simp only [ho, resolve, hx]
  simp [Deferred.ofValue, invoke, e]
end
end Go.Proofs.YtpobmaklgnioeaaDoor
