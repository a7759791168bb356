/- More operations: texts behind an own row of bytes, rows of numbers, least and greatest, pointers that aren't nil, arrays out of slices, closures. -/
import Derived.Lib.AppendStr
import Derived.Deep.OwnRows
import Derived.Test.YtdjjiblijbjobaaDoorStructW
import Derived.Test.YtdjjiblijbjobaaDoorByt
namespace Go.Proofs.YtdjjiblijbjobaaDoor
open Go.RowKit
variable {D : List Deferred}

theorem elU8 : ElT Tryd.prog 48 5 1 1 := by
  obtain ⟨i, h1, h2, h3, h4⟩ := info_parts (show (Tryd.prog.info? 5).map (fun i => (i.zero, i.size, i.bytes)) = some (some (.int .u8 0), 1, 1) by kernel_rfl)
  exact ⟨Tryd.underlying48, ⟨i, _, h1, h2, h3, h4, rfl⟩, by decide⟩
theorem map_atB {l : List UInt8} {i : Nat} {x : UInt8} (h : l[i]? = some x) : (l.map cb)[i * 1]? = some (cb x) := by rw [Nat.mul_one, List.getElem?_map, h]; rfl
theorem strCells_map (l : List UInt8) : Lib.strCells ⟨l.toArray⟩ = l.map cb := by
  unfold Lib.strCells
  simp [cb]
section
variable {P : Program} {w : World}
theorem append_blockS {base : Nat} {t u ty e : TypeId} {i : TypeInfo} (ht : P.underlying t = some (.slice e)) (hu : P.underlying u = some .string) (hi : P.info? e = some i) (hz : i.zero = some (.int .u8 0))
    (hsize : i.size = 1) (hby : i.bytes = 1) {v : Value} {n : Nat} {xs : List Value} (hown : w.ownsRow base e 1 v n xs) {s : ByteArray}
    (h63 : n + s.size ≤ maxLen) (hbytes : n + s.size ≤ 140737488355328) {v2 : Value} {w2 : World} (hr : (Builtin.append_ #[t, u] ty #[v, .string s]).run P w = .ok v2 w2) (hnil : v2 = .slice none 0 0 ↔ v = .slice none 0 0 ∧ s.size = 0) :
    v2.ownBlock = v.ownBlock ∨ ∃ g, v2.ownBlock = some g ∧ w.heap.size ≤ g := by
  have hsmall : n + s.size ≤ 9223372036854775807 := by simp only [maxLen] at h63; omega
  rcases hown.2 with ⟨rfl, rfl⟩ | ⟨g, cap, cur, rfl, hbg, hg, hnc, hcm, hcs, htake⟩
  · by_cases hm : s.size = 0
    · rw [hnil.2 ⟨rfl, hm⟩]; exact .inl rfl
    · have hr2 := run_append_nil_string (P := P) w t u ty e i (.int .u8 0) ht hu hi hz s (by omega) (by omega) (by rw [hby]; omega)
      rw [hr2] at hr
      injection hr with hv _
      subst hv
      exact .inr ⟨_, rfl, Nat.le_refl _⟩
  · by_cases hroom : n + s.size ≤ cap
    · have hr2 := Lib.run_append_room_string (P := P) w t u ty e i ht hu hi hsize g n cap cur hg s hroom (by rw [hcs]; omega)
      rw [hr2] at hr
      injection hr with hv _
      subst hv
      exact .inl rfl
    · have holds : ∀ j u, xs[j]? = some u → w.cell? ((⟨g, 0, none⟩ : Addr).add j) = some u := hown.cells (g := g) rfl
      have hr2 := Lib.run_append_grow_string (P := P) w t u ty e i (.int .u8 0) ht hu hi hz ⟨g, 0, none⟩ n cap xs (by rw [hsize]; exact hown.1) holds s (by omega) (by omega) (growslice_fits (by omega) (by rw [hby]; omega))
      rw [hr2] at hr
      injection hr with hv _
      subst hv
      exact .inr ⟨_, rfl, Nat.le_refl _⟩
end
section
variable {a : Act} {o : Oper} {w w0 : World} {n s : Nat} {L : List (Nat × Value)} {v : Value} {ops : Array Oper} {rest : List Oper} {Q : Exit → Act → World → Prop} {M : List (Nat × (Obj → Prop))} {x y z : Operand} {g m i : Nat}
/-- 'append(out, text...)'. -/
theorem sqAppendS {l b : List UInt8} (hF : FrD D a n L) (hM : Mem w0 M w) (hO : OwnR w0 M w 5 1 v b.length (b.map cb)) (hgd : o.guard = none) (ho : o.op = .call { callee := .builtin .append, args := #[x, y], argTypes := #[48, 9] }) (hx : a.eval x = v) (hy : a.eval y = .string ⟨l.toArray⟩)
    (hlen : b.length + l.length ≤ 140737488355328) (hd : o.dst = some s) (hs : s < n)
    (h : ∀ v2 a2 w2, OwnR w0 M w2 5 1 v2 (b ++ l).length ((b ++ l).map cb) → Mem w0 M w2 → FrD D a2 n ((s, v2) :: L) → wpList Tryd.prog ops Q rest a2 w2) : wpList Tryd.prog ops Q (o :: rest) a w := by
  obtain ⟨i, h1, h2, h3, h4⟩ := info_parts (show (Tryd.prog.info? 5).map (fun i => (i.zero, i.size, i.bytes)) = some (some (.int .u8 0), 1, 1) by kernel_rfl)
  have hb : b.length + (⟨l.toArray⟩ : ByteArray).size ≤ 140737488355328 := by rw [str_size]; exact hlen
  have h63 : b.length + (⟨l.toArray⟩ : ByteArray).size ≤ maxLen := by unfold maxLen; omega
  obtain ⟨v2, w2, hr, r1, r2, r3⟩ := Lib.run_append_own_string (P := Tryd.prog) w w0.heap.size 48 9 o.type 5 i Tryd.underlying48 Tryd.underlying9 h1 h2 h3 h4 v b.length (b.map cb) hO.owns ⟨l.toArray⟩ h63 hb hM.below.size
  have hblk := append_blockS (P := Tryd.prog) Tryd.underlying48 Tryd.underlying9 h1 h2 h3 h4 hO.owns h63 hb hr r3
  rw [strCells_map, ← List.map_append, str_size, ← List.length_append] at r1
  refine sq hF (wantedS hgd) (v := v2) (w2 := w2) ?_ hd hs fun a2 hF2 => h v2 a2 w2 (hO.next hM r1 hblk) (hO.mem hM r2) hF2
  unfold execOp
  simp only [ho, resolve, invoke, builtin, Sem.run_bind, Sem.run_pure, Result.andThen_ok, List.map_toArray, List.map_cons, List.map_nil, hx, hy, hr]
/-- 'append(out, bytes..)'. -/
theorem sqAppendB {l b : List UInt8} {q c : Nat} (hF : FrD D a n L) (hM : Mem w0 M w) (hO : OwnR w0 M w 5 1 v b.length (b.map cb)) (hgd : o.guard = none) (ho : o.op = .call { callee := .builtin .append, args := #[x, y], argTypes := #[48, 48] }) (hx : a.eval x = v) (hy : a.eval y = .slice (some ⟨g, 0, none⟩) q c) (hq : q = l.length) (hB : Blk w g 5 (cells8 l))
    (hlen : b.length + l.length ≤ 140737488355328) (hd : o.dst = some s) (hs : s < n)
    (h : ∀ v2 a2 w2, OwnR w0 M w2 5 1 v2 (b ++ l).length ((b ++ l).map cb) → Mem w0 M w2 → FrD D a2 n ((s, v2) :: L) → wpList Tryd.prog ops Q rest a2 w2) : wpList Tryd.prog ops Q (o :: rest) a w := by
  subst hq
  refine sqAppend (news := l.map cb) elU8 hF hM hO hgd ho hx hy (by simp) (blkNews (t := 5) hB) (fun u hu => ?_) (by unfold maxLen; omega) (by omega) hd hs fun v2 a2 w2 h1 h2 _ h4 => h v2 a2 w2 (by rw [List.length_append, List.map_append]; exact h1) h2 h4
  obtain ⟨c, _, rfl⟩ := List.mem_map.1 hu
  rfl
theorem run_strO {l : List UInt8} (hO : OwnR w0 M w 5 1 v l.length (l.map cb)) (ho : o.op = .convert 48 9 x) (hx : a.eval x = v) : (execOp a.eval o).run Tryd.prog w = .ok (.value (.string ⟨l.toArray⟩)) w :=
  run_cv ho hx (run_strOwn hO.owns)
theorem run_min2 {p q r : Int} {k k2 : IntKind} {ts : Array TypeId} (ho : o.op = .call { callee := .builtin .min, args := #[x, y], argTypes := ts }) (hx : a.eval x = .int k p) (hy : a.eval y = .int k2 q) (hr : (if q < p then q else p) = r) : (execOp a.eval o).run Tryd.prog w = .ok (.value (.int k r)) w := by
  subst hr
  unfold execOp
  simp only [ho, resolve, invoke, builtin, Sem.run_bind, Sem.run_pure, Result.andThen_ok, List.map_toArray, List.map_cons, List.map_nil, hx, hy]
  simp [Builtin.min_, Builtin.min2]
theorem run_max2 {p q r : Int} {k k2 : IntKind} {ts : Array TypeId} (ho : o.op = .call { callee := .builtin .max, args := #[x, y], argTypes := ts }) (hx : a.eval x = .int k p) (hy : a.eval y = .int k2 q) (hr : (if p < q then q else p) = r) : (execOp a.eval o).run Tryd.prog w = .ok (.value (.int k r)) w := by
  subst hr
  unfold execOp
  simp only [ho, resolve, invoke, builtin, Sem.run_bind, Sem.run_pure, Result.andThen_ok, List.map_toArray, List.map_cons, List.map_nil, hx, hy]
  simp [Builtin.max_, Builtin.max2]
theorem run_nilp {q : Addr} (ho : o.op = .nilCheck x) (hx : a.eval x = .pointer (some q)) : (execOp a.eval o).run Tryd.prog w = .ok (.value (.pointer (some q))) w := by
  unfold execOp
  simp only [ho, hx, Sem.run_pure]
theorem run_arrAt {ty e : TypeId} {m cnt c : Nat} {q : Addr} (ho : o.op = .sliceToArrayPointer ty x) (hx : a.eval x = .slice (some q) cnt c) (hu : Tryd.prog.underlying ty = some (.array m e)) (hm : m ≤ cnt) : (execOp a.eval o).run Tryd.prog w = .ok (.value (.pointer (some q))) w := by
  unfold execOp
  simp only [ho, hx]
  simp [Instr.arrayAt, run_underlying hu, Nat.not_lt.2 hm]
/-- a block of one number. -/
theorem run_ld1 {t ty : TypeId} {u : Value} (ho : o.op = .load ty x) (hx : a.eval x = .pointer (some ⟨g, 0, none⟩)) (hB : Blk w g t #[u]) (hag : (isAgg ty).run Tryd.prog w = .ok false w) : (execOp a.eval o).run Tryd.prog w = .ok (.value u) w :=
  run_ldC ho hx (by rw [hB.cell]; rfl) hag
theorem run_box1 {ty : TypeId} {q : Addr} (ho : o.op = .box ty x) (hx : a.eval x = .pointer (some q)) : (execOp a.eval o).run Tryd.prog w = .ok (.value (.pointer (some ⟨w.heap.size, 0, none⟩))) (w.alloc (.cells #[.pointer (some q)] ty)) := by
  unfold execOp
  simp only [ho, hx]
  simp [go_sem]
theorem run_alloc1 {ty : TypeId} {k : IntKind} (ho : o.op = .alloc ty) (hz : (zeroValue ty).run Tryd.prog w = .ok (.int k 0) w) : (execOp a.eval o).run Tryd.prog w = .ok (.value (.pointer (some ⟨w.heap.size, 0, none⟩))) (w.alloc (.cells #[.int k 0] ty)) := by
  unfold execOp
  simp only [ho]
  simp [Instr.alloc, hz, go_sem]
theorem ret0 {P : Program} {fn : Func} {R : Ending → World → Prop} (hF : Fr a n L) (hr : fn.results = #[]) (h : R (.returned (.tuple #[])) w) : bodyPost P fn R .ret a w :=
  bodyPost_ret (results_none hr _ _ _) hF.defers h
theorem end0 {P : Program} {fn : Func} {R : Ending → World → Prop} (hF : Fr a n L) (hr : fn.results = #[]) (h : R (.returned (.tuple #[])) w) : bodyPost P fn R .normal a w :=
  bodyPost_end (results_none hr _ _ _) hF.defers h
theorem eqvV {u v : Value} (h : u = v) {r : Result Next} (hr : r = .ok (.value u) w) : r = .ok (.value v) w := by rw [hr, h]
theorem run_mkFn {f : FuncId} {c1 c2 : Value} {y2 : Operand} (ho : o.op = .makeFunc (.func f) #[] #[x, y2]) (hx : a.eval x = c1) (hy : a.eval y2 = c2) : (execOp a.eval o).run Tryd.prog w = .ok (.value (.func (.func f) #[] #[c1, c2])) w := by
  unfold execOp
  simp only [ho, List.map_toArray, List.map_cons, List.map_nil, hx, hy]
  rfl
theorem run_callF {f : FuncId} {fn : Func} {xs : Array Operand} {ts : Array TypeId} {args cap : Array Value} (ho : o.op = .call { callee := .value x, args := xs, argTypes := ts }) (hx : a.eval x = .func (.func f) #[] cap) (hf : Tryd.prog.funcs[f]? = some fn) (hn : (fn.name == "runtime.NumGoroutine") = false) (hb : fn.body.isNone = false) (hxs : xs.map a.eval = args) {all : Array Value} (hall : args ++ cap = all) :
    (execOp a.eval o).run Tryd.prog w = .ok (.enter f all) w := by
  subst hxs hall
  have e : (callFunc f (xs.map a.eval ++ cap)).run Tryd.prog w = .ok (.enter f (xs.map a.eval ++ cap)) w := by
    have h1 : fn.name ≠ "runtime.NumGoroutine" := by simpa using hn
    have h2 : fn.body ≠ none := by intro e; rw [e] at hb; cases hb
    simp [callFunc, hf, h1, h2]
  unfold execOp
  simp only [ho, resolve, hx]
  simp [Deferred.ofValue, invoke, e]
end
end Go.Proofs.YtdjjiblijbjobaaDoor
